/-
 ChangesPair: for every input the law answers true, and leaves its arguments as they are. No condition but the tied tables.
 The functions that it reaches are read as typed code; each has a contract, shown once; the law follows from the contracts.
-/
import Derived.Test.YtdnomijflodcgaaDoorKSpL26b
import Derived.Test.YtdnomijflodcgaaDoorKKShelf
import Derived.Test.YtdnomijflodcgaaDoorKKT
import Derived.Test.YtdnomijflodcgaaDoorKKW
import Derived.Test.YtdnomijflodcgaaDoorKKV
import Derived.Test.YtdnomijflodcgaaDoorKKM
import Derived.Test.YtdnomijflodcgaaDoorKKN
import Derived.Test.YtdnomijflodcgaaDoorKKX
import Derived.Test.YtdnomijflodcgaaDoorKKY
import Derived.Test.YtdnomijflodcgaaDoorKKZ
import Derived.Test.YtdnomijflodcgaaDoorKLn0
import Derived.Test.YtdnomijflodcgaaDoorKLn1
import Derived.Test.YtdnomijflodcgaaDoorKLn2
import Derived.Test.YtdnomijflodcgaaDoorRows
import Derived.Test.YtdnomijflodcgaaDoorCards
import Derived.Test.YtdnomijflodcgaaDoorTie
import Derived.WalkKit
import Derived.ProofKit
import Derived.JoinedOf
import Derived.LaidMore
import Derived.Lay
import Derived.SevenTiedAt
import Derived.Stop.Joined
import Derived.Lib.LaidTab
set_option linter.unusedVariables false
set_option linter.unusedSimpArgs false
namespace Go.Proofs.YtdnomijflodcgaaDoor.changesPair
open Go.VS Go.Proofs.YtdnomijflodcgaaDoor

theorem Ac9 : AcU (Pg.of Tryd.prog) := AeR Aew
theorem Ac4 : AcL (Pg.of Tryd.prog) := AeO Aed
theorem AdB : Ac0 (Pg.of Tryd.prog) := AeC Ad0 Ac4
theorem Ael : Adj (Pg.of Tryd.prog) := Aez AdZ Ac9 Ac4 AdB
theorem AdA : AcG (Pg.of Tryd.prog) := AeA AdS Ac9 Ael
theorem TM : KK (Pg.of Tryd.prog) := Vh P1
theorem Aen : Adl (Pg.of Tryd.prog) := AeD Ad1 Ac9 AdB TM
theorem Ad4 : Ac5 (Pg.of Tryd.prog) := Aep AdH Ac9 Ac4 Aen AdA
theorem Ad5 : Ac6 (Pg.of Tryd.prog) := Aeq AdG Ac9
theorem Aem : Adk (Pg.of Tryd.prog) := AeB AdT Ac9 Ac4 AdA Ad4 Ad5
theorem ZB : Ul (Pg.of Tryd.prog) := Aa4 CF NH
theorem ZD : Un (Pg.of Tryd.prog) := Aa6 Cs ZB
theorem TL : KJ (Pg.of Tryd.prog) := Vg PX ZD
theorem Yn : Q9 (Pg.of Tryd.prog) := ZZ Iv
theorem WK : N4 (Pg.of Tryd.prog) := Yz Hf Yn
theorem TN : KL (Pg.of Tryd.prog) := Vj PY WK
theorem U6 : Mv (Pg.of Tryd.prog) := W8 Ru
theorem ZC : Um (Pg.of Tryd.prog) := Aa5 CS PW
theorem ZE : Uo (Pg.of Tryd.prog) := Aa7 CB ZC
theorem P8 : E1 (Pg.of Tryd.prog) := Go.Proofs.Tryd.Rh (fun _ => False) 
theorem ZF : Up (Pg.of Tryd.prog) := Aa8 OQ P8
theorem ZH : Ur (Pg.of Tryd.prog) := Aba C9 ZF
theorem ZJ : Ut (Pg.of Tryd.prog) := Abc CQ ZH
theorem TJ : KO (Pg.of Tryd.prog) := Go.Proofs.Tryd.UW 
theorem TH : GC (Pg.of Tryd.prog) := Go.Proofs.Tryd.UG (fun _ => False) 
theorem RM : FU (Pg.of Tryd.prog) := Go.Proofs.Tryd.Ub (fun _ => False) 
theorem U5 : Mu (Pg.of Tryd.prog) := W7 Rx RM
theorem U4 : Mt (Pg.of Tryd.prog) := W6 Rw TH U5
theorem ZG : Uq (Pg.of Tryd.prog) := Aa9 OR U4
theorem ZI : Us (Pg.of Tryd.prog) := Abb Da ZG
theorem ZK : Uu (Pg.of Tryd.prog) := Abd CR ZI
theorem KE : Ej (Pg.of Tryd.prog) := RZ LK ZJ TJ ZK
theorem Pf : Hz (Pg.of Tryd.prog) := Qh LK KE
theorem RN : I9 (Pg.of Tryd.prog) := T6 SU TL TN U6 ZE Pf
theorem FZ : EM (Pg.of Tryd.prog) := Ve NG X9 RN
theorem Nv : Ik (Pg.of Tryd.prog) := Vi LH
theorem WO : N9 (Pg.of Tryd.prog) := YD SZ KE
theorem WJ : Oa (Pg.of Tryd.prog) := Go.Proofs.Tryd.Zc WO
theorem AaQ : Xl (Pg.of Tryd.prog) := AbQ Rt Nv WJ
theorem U2 : Mr (Pg.of Tryd.prog) := WZ I3 FZ AaQ
theorem WQ : Ja (Pg.of Tryd.prog) := YE SY
theorem WM : N7 (Pg.of Tryd.prog) := YB Js FZ Nv WQ
theorem Aeo : Adm (Pg.of Tryd.prog) := AeE Js FZ Nv
theorem TK : GD (Pg.of Tryd.prog) := Vf Rv
theorem TO : GG (Pg.of Tryd.prog) := Vk PZ U2 WM TK
theorem AaD (x : DP Acg.ps) (gx : (tyP Acg.ps).Good x) : Go.VS.Fn (Pg.of Tryd.prog) "mergelens/mergelenslaw26.ChangesPair" Acg x fun (d : Bool) _ => d = true := Adr AcT Aem Ac4 U2 WM Aeo TO x

theorem own : ownKnob Tryd.prog.godebug = none := by kernel_rfl
theorem laidOut : laidOutB Tryd.prog = true := by kernel_rfl
theorem XV : JS Tryd.prog Tryd.f3.params.toList Acg.ps = true := by kernel_rfl
theorem readable : Tryd.f3.params.toList.all (fun t => Tryd.prog.readableRec t && decide (t < Tryd.prog.types.size)) = true := by kernel_rfl
theorem Abm {P : Program} {x : String × DataW Unit} {r : List (String × DataW Unit)} {w : World} (h : laidMet P (x :: r) w) : laidMet P r w := by
 obtain ⟨ps, ⟨g, t, cs, fuel, p, q, h1, h2, h3, h4, h5, rfl⟩, hnd, hall⟩ := h
 exact ⟨q, h5, (List.nodup_append.1 hnd).2.1, fun b off hm => hall b off (List.mem_append_right _ hm)⟩
theorem tabs {W : World} (h : laidMetH Tryd.prog Rows.changesPairRow.laid W) (hsh : W.ShapedOpen Tryd.prog) : IX Tryd.prog W := ⟨fun e he _ => absurd he (by simp [R8]), fun g hg => by
 obtain rfl : g = 0 := Option.some.inj (hg.symm.trans (show Tryd.prog.globalNamed "internal/bytealg.MaxLen" = some 0 by kernel_rfl))
 exact Vb (t := 3) hsh (of_decide_eq_true (by kernel_rfl)) (by kernel_rfl) (by kernel_rfl) (by kernel_rfl) Tryd.underlying3⟩

set_option maxRecDepth 100000 in
theorem lifted (os : Os) (started : os.Started) (H : Type) (enc : TypeId × Value → H) :
  ReturnsInHanded {} Tryd.checked os 3 .any (fun w args => (Rows.changesPairSpec.pre enc Tryd.prog Tryd.f3 Rows.changesPairRow.domain false w args ∧ laidMetH Tryd.prog Rows.changesPairRow.laid w) ∧ sizedMet enc Tryd.prog Tryd.f3 (OpenSpec.ofChange Rows.changesPairSpec) false w args)
   (Rows.changesPairSpec.post enc Tryd.prog Tryd.f3 false true false false) := by
 refine Lc (C := Tryd.checked) (X := fun w _ => laidMetH Tryd.prog Rows.changesPairRow.laid w) (fun _ _ _ hh h => h.of_heap hh) own started (by kernel_rfl) Tryd.func3
  (ChangeSpec.witness_shaped (enc := enc) (C := Tryd.checked) (os := os) (X := fun w _ => laidMetH Tryd.prog Rows.changesPairRow.laid w) false (World.laidAll Tryd.prog os Rows.changesPairRow.laid) #[.slice none 0 0, .int .i64 0, .int .i64 0] 8 (World.laidAll_os _ _ _)
   (World.shaped_of_ZipB (by kernel_rfl) (by kernel_rfl)) (by kernel_rfl) (by kernel_rfl) (by kernel_rfl)
   (by rw [MakeChecks.laidMetH_plain _ _ _ (by kernel_rfl)]; exact laidMet_laidAll _ (by kernel_rfl) (by kernel_rfl))) ?_
 intro W base args ds gs before hsh hval hW hc hsz hL _
 exact RA (P := Tryd.prog) (fun x gx => AaD x gx) Tryd.func3 rfl XV laidOut readable rfl Tryd.underlying4 rfl (fun ds hds => by
  match ds, hds with
  | [d1, d2, d3], _ => rfl) W (tabs hL hsh) base args ds gs before hval hW hc hsz

theorem row_holds : Rows.ChangesPairSaid :=
 OpenClaim.holds_of_wide 3 Tryd.f3 rfl rfl rfl rfl rfl rfl rfl ⟨rfl, rfl, rfl, rfl, rfl⟩ rfl rfl rfl rfl rfl (by kernel_rfl) Tryd.func3 (by kernel_rfl)
  (of_decide_eq_true (by kernel_rfl)) (by unfold Func.isWrapper; first | (rw [if_pos (by decide +kernel)]; kernel_rfl) | (rw [if_neg (by decide +kernel)]; exact ⟨rfl, rfl⟩))
  (fun os started H enc henc => lifted os started H enc)

theorem proved : Rows.ChangesPairCardSaid :=
 Claim7.holds_tied_plain_at .later [] [.data, .pinned] true (true, "85fa2c3e3470a6391641d8911f1fc55f8c93480ac61ad99a4253402e6e492482") false
  row_holds (fun _ h => by cases h) (by kernel_rfl) (fun _ h => by cases h) changesPair_row_tie rfl ⟨rfl, rfl⟩ (by kernel_rfl) rfl
  (fun f fn hf hfn => by
   obtain rfl : f = 3 := Option.some.inj ((show Tryd.prog.funcNamed "mergelens/mergelenslaw26.ChangesPair" = some 3 by kernel_rfl).symm.trans hf) |>.symm
   obtain rfl : fn = Tryd.f3 := (Option.some.inj (Tryd.func3.symm.trans hfn)).symm
   exact ⟨by kernel_rfl, fun j t ht => by
    rw [Tryd.params3] at ht
    have hm : t ∈ [22, 3, 3] := by simpa using Array.mem_of_getElem? ht
    have hall : ([22, 3, 3].all fun u => !Tryd.prog.wantsStandIn u) = true := by kernel_rfl
    exact (show Tryd.prog.wantsStandIn t = false by simpa using List.all_eq_true.1 hall t hm)⟩)
  (by kernel_rfl)
#print axioms proved
end Go.Proofs.YtdnomijflodcgaaDoor.changesPair
