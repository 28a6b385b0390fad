/-
 AutomatonBuilds: for every input the law answers true, and leaves its arguments as they are. No condition.
 The functions that it reaches are read as typed code; each has a contract, shown once; the law follows from the contracts.
-/
import Derived.Test.YtobddjdmgebmgaaKSpL05d
import Derived.Test.YtobddjdmgebmgaaKLn0
import Derived.Test.YtobddjdmgebmgaaKLn1
import Derived.Test.YtobddjdmgebmgaaKLn2
import Derived.Test.YtobddjdmgebmgaaRows
import Derived.WalkKit
import Derived.ProofKit
import Derived.JoinedOf
set_option linter.unusedVariables false
set_option linter.unusedSimpArgs false
namespace Go.Proofs.Ytobddjdmgebmgaa.automatonBuilds
open Go.VS Go.Proofs.Ytobddjdmgebmgaa

theorem qsp_At : Sp_At Try.prog := sp_At h_gen_At
theorem qsp_Mod : Sp_Mod Try.prog := sp_Mod h_gen_Mod
theorem qsp_Pattern : Sp_Pattern Try.prog := sp_Pattern h_gen_Pattern qsp_At qsp_Mod
theorem qsp_is : Sp_is Try.prog := sp_is h_ref04_reader_is
theorem qsp_fail : Sp_fail Try.prog := sp_fail h_ref04_reader_fail
theorem qsp_node : Sp_node Try.prog := sp_node h_ref04_reader_node
theorem qsp_letter : Sp_letter Try.prog := sp_letter h_ref04_letter
theorem qsp_digit04 : Sp_digit04 Try.prog := sp_digit04 h_ref04_digit
theorem qsp_Named : Sp_Named Try.prog := sp_Named h_ref04_Named qsp_letter qsp_digit04
theorem qsp_Put : Sp_Put Try.prog := sp_Put h_ref04_Put
theorem qsp_complement : Sp_complement Try.prog := sp_complement h_ref04_complement
theorem qsp_class : Sp_class Try.prog := sp_class h_ref04_reader_class qsp_is qsp_fail qsp_node qsp_Named qsp_Put qsp_complement
theorem qsp_RNumber : Sp_RNumber Try.prog := sp_RNumber h_ref01_Number
theorem qsp_bounds : Sp_bounds Try.prog := sp_bounds h_ref04_reader_bounds qsp_RNumber qsp_fail
theorem qsp_RParse : Sp_RParse Try.prog := sp_RParse h_ref04_Parse h_ref04_reader_pattern h_ref04_reader_alternative h_ref04_reader_piece h_ref04_reader_atom qsp_is qsp_fail qsp_node qsp_class qsp_complement qsp_Put qsp_bounds
theorem qsp_short05 : Sp_short05 Try.prog := sp_short05 h_law05_short
theorem qsp_NCheck : Sp_NCheck Try.prog := sp_NCheck h_ref04_Check
theorem qsp_capped : Sp_capped Try.prog := sp_capped h_ref04_capped
theorem qsp_RWeight : Sp_RWeight Try.prog := sp_RWeight h_ref04_Weight qsp_NCheck qsp_capped
theorem qsp_add : Sp_add Try.prog := sp_add h_automaton_builder_add
theorem qsp_bounded : Sp_bounded Try.prog := sp_bounded h_regex_bounded
theorem qsp_fits : Sp_fits Try.prog := sp_fits h_regex_fits qsp_bounded
theorem qsp_GCheck : Sp_GCheck Try.prog := sp_GCheck h_regex_Check qsp_fits
theorem qsp_gweight : Sp_gweight Try.prog := sp_gweight h_regex_weight
theorem qsp_GWeights : Sp_GWeights Try.prog := sp_GWeights h_regex_Weights qsp_gweight
theorem qsp_GWeight : Sp_GWeight Try.prog := sp_GWeight h_regex_Weight qsp_GCheck qsp_GWeights
theorem qsp_Build : Sp_Build Try.prog := sp_Build h_automaton_Build h_automaton_builder_build h_automaton_builder_choice h_automaton_builder_repeat qsp_add qsp_GWeight qsp_GWeights
theorem qsp_RCheck : Sp_RCheck Try.prog := sp_RCheck h_ref05_Check
theorem qsp_empty : Sp_empty Try.prog := sp_empty h_ref05_empty
theorem qsp_compose : Sp_compose Try.prog := sp_compose h_ref05_compose
theorem qsp_union : Sp_union Try.prog := sp_union h_ref05_union
theorem qsp_Has : Sp_Has Try.prog := sp_Has h_ref04_Has
theorem qsp_pairs : Sp_pairs Try.prog := sp_pairs h_ref05_pairs qsp_empty qsp_compose qsp_union qsp_Has
theorem qsp_Pairs : Sp_Pairs Try.prog := sp_Pairs h_ref05_Pairs qsp_pairs
theorem qsp_Close : Sp_Close Try.prog := sp_Close h_ref05_Close
theorem qsp_Ends : Sp_Ends Try.prog := sp_Ends h_ref05_Ends qsp_Close qsp_Has
theorem qsp_accepts : Sp_accepts Try.prog := sp_accepts h_law05_accepts qsp_Pairs qsp_Ends
theorem qsp_atomA : Sp_atomA Try.prog := sp_atomA h_ref04_reader_atom qsp_Put qsp_node
theorem qsp_pieceA : Sp_pieceA Try.prog := sp_pieceA h_ref04_reader_piece qsp_is qsp_atomA
theorem qsp_altA : Sp_altA Try.prog := sp_altA h_ref04_reader_alternative qsp_pieceA
theorem qsp_patA : Sp_patA Try.prog := sp_patA h_ref04_reader_pattern qsp_altA qsp_is
theorem qsp_ParseA : Sp_ParseA Try.prog := sp_ParseA h_ref04_Parse qsp_patA
theorem qsp_Index : Sp_Index Try.prog := sp_Index h_automaton_Check_1
theorem qsp_ACheck : Sp_ACheck Try.prog := sp_ACheck h_automaton_Check qsp_Index
theorem qsp_awake05 : Sp_awake05 Try.prog := sp_awake05 h_law05_awake qsp_ParseA qsp_Build qsp_RCheck qsp_Ends qsp_ACheck

theorem own : ownKnob Try.prog.godebug = none := by kernel_rfl
theorem noTabs : (tabList.all fun e => !(Try.prog.globalNamed e.1).isSome) = true := by kernel_rfl
theorem laidOut : laidOutB Try.prog = true := by kernel_rfl
theorem fitsArgs : argsFit Try.prog Try.f7.params.toList S_law05_AutomatonBuilds.ps = true := by kernel_rfl
theorem readable : Try.f7.params.toList.all (fun t => Try.prog.readableRec t && decide (t < Try.prog.types.size)) = true := by kernel_rfl

set_option maxRecDepth 100000 in
theorem lifted (os : Os) (started : os.Started) (H : Type) (enc : TypeId × Value → H) :
  ReturnsInHanded {} Try.checked os 7 .any (Rows.automatonBuildsSpec.pre6 enc Try.prog Try.f7 Rows.automatonBuildsRow.domain false) (Rows.automatonBuildsSpec.post enc Try.prog Try.f7 false true false false) := by
 refine returnsInHanded_of_change_sized (C := Try.checked) own started (by kernel_rfl) Try.func7
  (ChangeSpec.witness6 (enc := enc) (C := Try.checked) false ⟨#[], #[.slice none 0 0, .int .i64 0, .string ⟨#[]⟩, .bool false], []⟩ 8 (by kernel_rfl) (by kernel_rfl) (by kernel_rfl) (by kernel_rfl)) ?_
 intro W base args ds gs before hval hW hc hsz hlast
 exact law_contract (P := Try.prog) (fun x gx => sp_AutomatonBuilds h_law05_AutomatonBuilds qsp_Pattern qsp_RParse qsp_short05 qsp_RWeight qsp_At qsp_Mod qsp_Build qsp_RCheck qsp_accepts qsp_awake05 x) Try.func7 rfl fitsArgs laidOut readable rfl Try.underlying4 rfl (fun ds hds => by
  match ds, hds with
  | [d1, d2, d3, d4], _ => rfl) W (GoodW.none noTabs) base args ds gs before hval hW hc hsz

theorem proved : Rows.AutomatonBuildsSaid :=
 OpenClaim.holds_of_wide 7 Try.f7 rfl rfl rfl rfl rfl rfl rfl ⟨rfl, rfl, rfl, rfl, rfl⟩ rfl rfl rfl rfl rfl (by kernel_rfl) Try.func7 (by kernel_rfl)
  (of_decide_eq_true (by kernel_rfl)) (by unfold Func.isWrapper; first | (rw [if_pos (by decide +kernel)]; kernel_rfl) | (rw [if_neg (by decide +kernel)]; exact ⟨rfl, rfl⟩))
  (fun os started H enc henc => lifted os started H enc)
#print axioms proved
end Go.Proofs.Ytobddjdmgebmgaa.automatonBuilds
