/-
 ScanWords: for every input the law answers true, and leaves its arguments as they are. No condition but the tied tables.
 The functions that it reaches are read as typed code; each has a contract, shown once; the law follows from the contracts.
-/
import Derived.Test.YtbandpkgjepklaaDoorKSpWords
import Derived.Test.YtbandpkgjepklaaDoorKKShelf
import Derived.Test.YtbandpkgjepklaaDoorKKB
import Derived.Test.YtbandpkgjepklaaDoorKKQ
import Derived.Test.YtbandpkgjepklaaDoorKKP
import Derived.Test.YtbandpkgjepklaaDoorKLn0
import Derived.Test.YtbandpkgjepklaaDoorKLn1
import Derived.Test.YtbandpkgjepklaaDoorKLn2
import Derived.Test.YtbandpkgjepklaaDoorRows
import Derived.Test.YtbandpkgjepklaaDoorCards
import Derived.Test.YtbandpkgjepklaaDoorTie
import Derived.WalkKit
import Derived.ProofKit
import Derived.JoinedOf
import Derived.LaidMore
import Derived.Lay
import Derived.SevenTiedAt
import Derived.Stop.Joined
import Derived.Lib.LaidTab
set_option linter.unusedVariables false
set_option linter.unusedSimpArgs false
namespace Go.Proofs.YtbandpkgjepklaaDoor.scanWords
open Go.VS Go.Proofs.YtbandpkgjepklaaDoor

theorem qsp_digit : Sp_digit Tryd.prog := sp_digit h_scan_digit
theorem qsp_Number : Sp_Number Tryd.prog := sp_Number h_scan_Number qsp_digit
theorem qsp_escaped : Sp_escaped Tryd.prog := sp_escaped h_scan_escaped
theorem qSp_Quote : Sp_Quote Tryd.prog := Go.Proofs.Tryd.quote_fn qsp_escaped
theorem qsp_octal : Sp_octal Tryd.prog := sp_octal h_scan_reader_octal
theorem qsp_escape : Sp_escape Tryd.prog := sp_escape h_scan_reader_escape qsp_octal
theorem qsp_quoted : Sp_quoted Tryd.prog := sp_quoted h_scan_reader_quoted qsp_escape
theorem qsp_plain : Sp_plain Tryd.prog := sp_plain h_scan_plain
theorem qsp_word : Sp_word Tryd.prog := sp_word h_scan_reader_word qSp_Quote qsp_quoted qsp_plain
theorem qsp_Unquote : Sp_Unquote Tryd.prog := sp_Unquote h_scan_Unquote qsp_word
theorem qSp_Itoa : Sp_Itoa Tryd.prog := Go.Proofs.Tryd.itoa_fn 
theorem qsp_Format : Sp_Format Tryd.prog := sp_Format h_scan_Format qSp_Itoa
theorem qsp_FormatRange : Sp_FormatRange Tryd.prog := sp_FormatRange h_scan_FormatRange qsp_Format
theorem qsp_awake01 : Sp_awake01 Tryd.prog := sp_awake01 h_law01_awake qsp_Number qSp_Quote qsp_Unquote qsp_FormatRange
theorem qsp_Words : Sp_Words Tryd.prog := sp_Words h_scan_Words qsp_word
theorem qsp_RPlain : Sp_RPlain Tryd.prog := sp_RPlain h_ref01_Plain
theorem qsp_RQuote : Sp_RQuote Tryd.prog := sp_RQuote h_ref01_Quote qsp_RPlain
theorem qsp_Roctal : Sp_Roctal Tryd.prog := sp_Roctal h_ref01_octal
theorem qsp_RUnquote : Sp_RUnquote Tryd.prog := sp_RUnquote h_ref01_Unquote qsp_RQuote qsp_Roctal qsp_RPlain
theorem qsp_RWords : Sp_RWords Tryd.prog := sp_RWords h_ref01_Words qsp_RUnquote
theorem qsp_Strings : Sp_Strings Tryd.prog := sp_Strings h_gen_Strings

theorem own : ownKnob Tryd.prog.godebug = none := by kernel_rfl
theorem laidOut : laidOutB Tryd.prog = true := by kernel_rfl
theorem fitsArgs : argsFit Tryd.prog Tryd.f9.params.toList S_law01_ScanWords.ps = true := by kernel_rfl
theorem readable : Tryd.f9.params.toList.all (fun t => Tryd.prog.readableRec t && decide (t < Tryd.prog.types.size)) = true := by kernel_rfl
theorem laid_tail {P : Program} {x : String × DataW Unit} {r : List (String × DataW Unit)} {w : World} (h : laidMet P (x :: r) w) : laidMet P r w := by
 obtain ⟨ps, ⟨g, t, cs, fuel, p, q, h1, h2, h3, h4, h5, rfl⟩, hnd, hall⟩ := h
 exact ⟨q, h5, (List.nodup_append.1 hnd).2.1, fun b off hm => hall b off (List.mem_append_right _ hm)⟩
theorem tabs {W : World} (h : laidMetH Tryd.prog Rows.scanWordsRow.laid W) : GoodW Tryd.prog W := fun e he hs => by
 obtain rfl := List.mem_singleton.1 he
 rw [MakeChecks.laidMetH_plain _ _ _ (by kernel_rfl)] at h
 have hd : (Rows.laid_internal_strconv_uint64pow10 : DataW Unit) = Lib.tabData .u64 Lib.pow10Tab := by kernel_rfl
 have h' : laidMet Tryd.prog [("internal/strconv.uint64pow10", Lib.tabData .u64 Lib.pow10Tab)] W := by
  rw [← hd]
  exact (laid_tail (laid_tail h))
 exact Lib.tabIs_of_head (g := 0) (t := 78) (e := 71) (n := 20) (by kernel_rfl) (by kernel_rfl) Tryd.underlying78 Tryd.underlying71 (by kernel_rfl) (by kernel_rfl) h'

set_option maxRecDepth 100000 in
theorem lifted (os : Os) (started : os.Started) (H : Type) (enc : TypeId × Value → H) :
  ReturnsInHanded {} Tryd.checked os 9 .any (fun w args => (Rows.scanWordsSpec.pre enc Tryd.prog Tryd.f9 Rows.scanWordsRow.domain false w args ∧ laidMetH Tryd.prog Rows.scanWordsRow.laid w) ∧ sizedMet enc Tryd.prog Tryd.f9 (OpenSpec.ofChange Rows.scanWordsSpec) false w args)
   (Rows.scanWordsSpec.post enc Tryd.prog Tryd.f9 false true false false) := by
 refine returnsInHanded_of_change_and (C := Tryd.checked) (X := fun w _ => laidMetH Tryd.prog Rows.scanWordsRow.laid w) (fun _ _ _ hh h => h.of_heap hh) own started (by kernel_rfl) Tryd.func9
  (ChangeSpec.witness_shaped (enc := enc) (C := Tryd.checked) (os := os) (X := fun w _ => laidMetH Tryd.prog Rows.scanWordsRow.laid w) false (World.laidAll Tryd.prog os Rows.scanWordsRow.laid) #[.string ⟨#[]⟩, .slice none 0 0] 8 (World.laidAll_os _ _ _)
   (World.shaped_of_ZipB (by kernel_rfl) (by kernel_rfl)) (by kernel_rfl) (by kernel_rfl) (by kernel_rfl)
   (by rw [MakeChecks.laidMetH_plain _ _ _ (by kernel_rfl)]; exact laidMet_laidAll _ (by kernel_rfl) (by kernel_rfl))) ?_
 intro W base args ds gs before hval hW hc hsz hL _
 exact law_contract (P := Tryd.prog) (fun x gx => sp_ScanWords h_law01_ScanWords qsp_awake01 qsp_Words qsp_RWords qsp_RQuote qsp_Strings x) Tryd.func9 rfl fitsArgs laidOut readable rfl Tryd.underlying4 rfl (fun ds hds => by
  match ds, hds with
  | [d1, d2], _ => rfl) W (tabs hL) base args ds gs before hval hW hc hsz

theorem row_holds : Rows.ScanWordsSaid :=
 OpenClaim.holds_of_wide 9 Tryd.f9 rfl rfl rfl rfl rfl rfl rfl ⟨rfl, rfl, rfl, rfl, rfl⟩ rfl rfl rfl rfl rfl (by kernel_rfl) Tryd.func9 (by kernel_rfl)
  (of_decide_eq_true (by kernel_rfl)) (by unfold Func.isWrapper; first | (rw [if_pos (by decide +kernel)]; kernel_rfl) | (rw [if_neg (by decide +kernel)]; exact ⟨rfl, rfl⟩))
  (fun os started H enc henc => lifted os started H enc)

theorem proved : Rows.ScanWordsCardSaid :=
 Claim7.holds_tied_plain_at .later [] [.data, .data, .data] true (true, "cca72f4e30e29b9188d1c67edfc41fa77134dabbaa60ef044577a9a3b2315ab0") false
  row_holds (fun _ h => by cases h) (by kernel_rfl) (fun _ h => by cases h) scanWords_row_tie rfl ⟨rfl, rfl⟩ (by kernel_rfl) rfl
  (fun f fn hf hfn => by
   obtain rfl : f = 9 := Option.some.inj ((show Tryd.prog.funcNamed "mergelens/mergelenslaw01.ScanWords" = some 9 by kernel_rfl).symm.trans hf) |>.symm
   obtain rfl : fn = Tryd.f9 := (Option.some.inj (Tryd.func9.symm.trans hfn)).symm
   exact ⟨by kernel_rfl, fun j t ht => by
    rw [Tryd.params9] at ht
    have hm : t ∈ [9, 39] := by simpa using Array.mem_of_getElem? ht
    have hall : ([9, 39].all fun u => !Tryd.prog.wantsStandIn u) = true := by kernel_rfl
    exact (show Tryd.prog.wantsStandIn t = false by simpa using List.all_eq_true.1 hall t hm)⟩)
  (by kernel_rfl)
#print axioms proved
end Go.Proofs.YtbandpkgjepklaaDoor.scanWords
