/-
  SearchReversed: for every input the law answers true, and leaves its arguments as they are. No condition.
  The functions that it reaches are read as typed code; each has a contract, shown once; the law follows from the contracts.
-/
import Derived.Test.YtobddjdmgebmgaaKSpRev
import Derived.Test.YtobddjdmgebmgaaKLn0
import Derived.Test.YtobddjdmgebmgaaKLn1
import Derived.Test.YtobddjdmgebmgaaKLn2
import Derived.Test.YtobddjdmgebmgaaRows
import Derived.WalkKit
import Derived.ProofKit
import Derived.JoinedOf
set_option linter.unusedVariables false
set_option linter.unusedSimpArgs false
set_option linter.unusedSectionVars false
namespace Go.Proofs.Ytobddjdmgebmgaa.searchReversed
open Go.VS Go.Proofs.Ytobddjdmgebmgaa

theorem qsp_At : Sp_At Try.prog := sp_At h_gen_At
theorem qsp_Mod : Sp_Mod Try.prog := sp_Mod h_gen_Mod
theorem qsp_Put : Sp_Put Try.prog := sp_Put h_ref04_Put
theorem qsp_Count : Sp_Count Try.prog := sp_Count h_gen_Count
theorem qsp_add : Sp_add Try.prog := sp_add h_automaton_builder_add
theorem qsp_bounded : Sp_bounded Try.prog := sp_bounded h_regex_bounded
theorem qsp_fits : Sp_fits Try.prog := sp_fits h_regex_fits qsp_bounded
theorem qsp_GCheck : Sp_GCheck Try.prog := sp_GCheck h_regex_Check qsp_fits
theorem qsp_gweight : Sp_gweight Try.prog := sp_gweight h_regex_weight
theorem qsp_GWeights : Sp_GWeights Try.prog := sp_GWeights h_regex_Weights qsp_gweight
theorem qsp_GWeight : Sp_GWeight Try.prog := sp_GWeight h_regex_Weight qsp_GCheck qsp_GWeights
theorem qsp_Build : Sp_Build Try.prog := sp_Build h_automaton_Build h_automaton_builder_build h_automaton_builder_choice h_automaton_builder_repeat qsp_add qsp_GWeight qsp_GWeights
theorem qsp_Index : Sp_Index Try.prog := sp_Index h_automaton_Check_1
theorem qsp_ACheck : Sp_ACheck Try.prog := sp_ACheck h_automaton_Check qsp_Index
theorem qsp_Start : Sp_Start Try.prog := sp_Start h_search_start
theorem qsp_Steps : Sp_Steps Try.prog := sp_Steps h_automaton_Steps
theorem qsp_Add : Sp_Add Try.prog := sp_Add h_search_machine_add qsp_Steps
theorem qsp_Accepted : Sp_Accepted Try.prog := sp_Accepted h_search_machine_accepted
theorem qsp_Read : Sp_Read Try.prog := sp_Read h_search_machine_read qsp_Add
theorem qsp_Whole : Sp_Whole Try.prog := sp_Whole h_search_Whole qsp_ACheck qsp_Start qsp_Add qsp_Accepted qsp_Read
theorem qsp_star : Sp_star Try.prog := sp_star h_law06_star qsp_Put
theorem qsp_Keep : Sp_Keep Try.prog := sp_Keep h_search_machine_keep
theorem qsp_find : Sp_find Try.prog := sp_find h_search_find qsp_Start qsp_Add qsp_Accepted qsp_Keep qsp_Read
theorem qsp_All : Sp_All Try.prog := sp_All h_search_All qsp_ACheck qsp_find
theorem qsp_Spans : Sp_Spans Try.prog := sp_Spans h_gen_Spans
theorem qsp_awake06 : Sp_awake06 Try.prog := sp_awake06 h_law06_awake qsp_star qsp_All qsp_Whole qsp_Spans

theorem own : ownKnob Try.prog.godebug = none := by kernel_rfl
theorem laidOut : laidOutB Try.prog = true := by kernel_rfl
theorem fitsArgs : argsFit Try.prog Try.f13.params.toList S_law06_SearchReversed.ps = true := by kernel_rfl
theorem readable : Try.f13.params.toList.all (fun t => Try.prog.readableRec t && decide (t < Try.prog.types.size)) = true := by kernel_rfl

set_option maxRecDepth 100000 in
theorem lifted (os : Os) (started : os.Started) (H : Type) (enc : TypeId × Value → H) :
    ReturnsInHanded {} Try.checked os 13 .any (Rows.searchReversedSpec.pre6 enc Try.prog Try.f13 Rows.searchReversedRow.domain false) (Rows.searchReversedSpec.post enc Try.prog Try.f13 false true false false) := by
  refine returnsInHanded_of_change_sized (C := Try.checked) own started (by kernel_rfl) Try.func13
    (ChangeSpec.witness6 (enc := enc) (C := Try.checked) false ⟨#[], #[.slice none 0 0, .int .i64 0], []⟩ 8 (by kernel_rfl) (by kernel_rfl) (by kernel_rfl) (by kernel_rfl)) ?_
  intro W base args ds gs before hval hW hc hsz hlast
  exact law_contract (P := Try.prog) (fun x gx => sp_SearchReversed h_law06_SearchReversed qsp_At qsp_Mod qsp_Put qsp_Count qsp_Build qsp_Whole qsp_awake06 x) Try.func13 rfl fitsArgs laidOut readable rfl Try.underlying4 rfl (fun ds hds => by
    match ds, hds with
    | [d1, d2], _ => rfl) W base args ds gs before hval hW hc hsz

theorem proved : Rows.SearchReversedSaid :=
  OpenClaim.holds_of_wide 13 Try.f13 rfl rfl rfl rfl rfl rfl rfl ⟨rfl, rfl, rfl, rfl, rfl⟩ rfl rfl rfl rfl rfl (by kernel_rfl) Try.func13 (by kernel_rfl)
    (of_decide_eq_true (by kernel_rfl)) (by unfold Func.isWrapper; first | (rw [if_pos (by decide +kernel)]; kernel_rfl) | (rw [if_neg (by decide +kernel)]; exact ⟨rfl, rfl⟩))
    (fun os started H enc henc => lifted os started H enc)
#print axioms proved
end Go.Proofs.Ytobddjdmgebmgaa.searchReversed
