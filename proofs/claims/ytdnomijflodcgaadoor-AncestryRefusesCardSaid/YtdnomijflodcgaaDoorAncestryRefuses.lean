/-
 AncestryRefuses: for every input the law answers true, and leaves its arguments as they are. No condition but the tied tables.
 The functions that it reaches are read as typed code; each has a contract, shown once; the law follows from the contracts.
-/
import Derived.Test.YtdnomijflodcgaaDoorKSpQr
import Derived.Test.YtdnomijflodcgaaDoorKKShelf
import Derived.Test.YtdnomijflodcgaaDoorKKT
import Derived.Test.YtdnomijflodcgaaDoorKKW
import Derived.Test.YtdnomijflodcgaaDoorKKV
import Derived.Test.YtdnomijflodcgaaDoorKKM
import Derived.Test.YtdnomijflodcgaaDoorKKN
import Derived.Test.YtdnomijflodcgaaDoorKKY
import Derived.Test.YtdnomijflodcgaaDoorKKRW
import Derived.Test.YtdnomijflodcgaaDoorKKRI
import Derived.Test.YtdnomijflodcgaaDoorKKAN
import Derived.Test.YtdnomijflodcgaaDoorKKAO
import Derived.Test.YtdnomijflodcgaaDoorKKAP
import Derived.Test.YtdnomijflodcgaaDoorKKAQ
import Derived.Test.YtdnomijflodcgaaDoorKLn0
import Derived.Test.YtdnomijflodcgaaDoorKLn1
import Derived.Test.YtdnomijflodcgaaDoorKLn2
import Derived.Test.YtdnomijflodcgaaDoorRows
import Derived.Test.YtdnomijflodcgaaDoorCards
import Derived.Test.YtdnomijflodcgaaDoorTie
import Derived.WalkKit
import Derived.ProofKit
import Derived.JoinedOf
import Derived.LaidMore
import Derived.Lay
import Derived.SevenTiedAt
import Derived.Stop.Joined
import Derived.Lib.LaidTab
set_option linter.unusedVariables false
set_option linter.unusedSimpArgs false
namespace Go.Proofs.YtdnomijflodcgaaDoor.ancestryRefuses
open Go.VS Go.Proofs.YtdnomijflodcgaaDoor

theorem Ahf : Ahc (Pg.of Tryd.prog) := Ahg Ahe
theorem Agn : AeQ (Pg.of Tryd.prog) := AgG Afv
theorem Aia : Ahv (Pg.of Tryd.prog) := Aij Ah1
theorem Air : Ah2 (Pg.of Tryd.prog) := Aiv Aig
theorem UT : Ld (Pg.of Tryd.prog) := Wz QI
theorem Aib : AhG (Pg.of Tryd.prog) := Aik Aif UT
theorem Aic : Ahw (Pg.of Tryd.prog) := Ail AhX Aia Air Aib
theorem Ah4 : AhE (Pg.of Tryd.prog) := Aid AhX Aic
theorem Aii : AhP (Pg.of Tryd.prog) := Aim Aih Ahf Agn Ah4
theorem Abw : Vs (Pg.of Tryd.prog) := Ac4 CS Oq
theorem Aby : Vu (Pg.of Tryd.prog) := Ac6 CD Abw
theorem US : Lc (Pg.of Tryd.prog) := Wy QF Aby
theorem Z6 : RW (Pg.of Tryd.prog) := AbT IC
theorem Yu : ON (Pg.of Tryd.prog) := Aal Hn Z6
theorem UU : Lf (Pg.of Tryd.prog) := WC QG Yu
theorem Wn : M7 (Pg.of Tryd.prog) := YK Sr
theorem Abx : Vt (Pg.of Tryd.prog) := Ac5 C5 QE
theorem Abz : Vv (Pg.of Tryd.prog) := Ac7 CP Abx
theorem QL : Fb (Pg.of Tryd.prog) := Go.Proofs.Tryd.Sa (fun _ => False) 
theorem AbA : Vw (Pg.of Tryd.prog) := Ac9 Py QL
theorem AbC : Vy (Pg.of Tryd.prog) := Adb Di AbA
theorem AbE : VA (Pg.of Tryd.prog) := Ade C3 AbC
theorem UQ : Lg (Pg.of Tryd.prog) := Go.Proofs.Tryd.Wb 
theorem UP : GM (Pg.of Tryd.prog) := Go.Proofs.Tryd.VP (fun _ => False) 
theorem SN : F4 (Pg.of Tryd.prog) := Go.Proofs.Tryd.Ve (fun _ => False) 
theorem Wj : M5 (Pg.of Tryd.prog) := YI Sy SN
theorem Wi : M4 (Pg.of Tryd.prog) := YH Sx UP Wj
theorem AbB : Vx (Pg.of Tryd.prog) := Ada Pz Wi
theorem AbD : Vz (Pg.of Tryd.prog) := Adc Dj AbB
theorem AbF : VB (Pg.of Tryd.prog) := Adf C4 AbD
theorem K9 : Et (Pg.of Tryd.prog) := S8 Mj AbE UQ AbF
theorem PZ : HH (Pg.of Tryd.prog) := QP Mj K9
theorem SO : Jk (Pg.of Tryd.prog) := Va Uc US UU Wn Abz PZ
theorem Ae7 : AeC (Pg.of Tryd.prog) := AfX Afa ZQ SO
theorem AfS : Ae2 (Pg.of Tryd.prog) := AgO AeR
theorem Aiq : AhY (Pg.of Tryd.prog) := Ais AhS Ae7 AfS
theorem Aiu : Ah5 (Pg.of Tryd.prog) := Aiz Aie Ae7 AfS
theorem Afq : AeT (Pg.of Tryd.prog) := Go.Proofs.Tryd.Agp Ae7 AfS
theorem AgD : AfC (Pg.of Tryd.prog) := Go.Proofs.Tryd.AgS Ae7 AfS
theorem AfT : AeU (Pg.of Tryd.prog) := AgP Af7
theorem AfU : AeH (Pg.of Tryd.prog) := Agb Afu Afq AgD AfT
theorem AcB (x : DP Ahh.ps) (gx : (tyP Ahh.ps).Good x) : Go.VS.Fn (Pg.of Tryd.prog) "mergelens/mergelenslaw25.AncestryRefuses" Ahh x fun (d : Bool) _ => d = true := Ah0 AhO Aii Aiq Aiu Afq AgD AfU x gx

theorem own : ownKnob Tryd.prog.godebug = none := by kernel_rfl
theorem laidOut : laidOutB Tryd.prog = true := by kernel_rfl
theorem ZB : Kj Tryd.prog Tryd.f8.params.toList Ahh.ps = true := by kernel_rfl
theorem readable : Tryd.f8.params.toList.all (fun t => Tryd.prog.readableRec t && decide (t < Tryd.prog.types.size)) = true := by kernel_rfl
theorem Adn {P : Program} {x : String × DataW Unit} {r : List (String × DataW Unit)} {w : World} (h : laidMet P (x :: r) w) : laidMet P r w := by
 obtain ⟨ps, ⟨g, t, cs, fuel, p, q, h1, h2, h3, h4, h5, rfl⟩, hnd, hall⟩ := h
 exact ⟨q, h5, (List.nodup_append.1 hnd).2.1, fun b off hm => hall b off (List.mem_append_right _ hm)⟩
theorem tabs {W : World} (h : laidMetH Tryd.prog Rows.ancestryRefusesRow.laid W) (hsh : W.ShapedOpen Tryd.prog) : I7 Tryd.prog W := ⟨fun e he _ => absurd he (by simp [Tc]), fun g hg => by
 obtain rfl : g = 0 := Option.some.inj (hg.symm.trans (show Tryd.prog.globalNamed "internal/bytealg.MaxLen" = some 0 by kernel_rfl))
 exact Wt (t := 3) hsh (of_decide_eq_true (by kernel_rfl)) (by kernel_rfl) (by kernel_rfl) (by kernel_rfl) Tryd.underlying3⟩

set_option maxRecDepth 100000 in
theorem lifted (os : Os) (started : os.Started) (H : Type) (enc : TypeId × Value → H) :
  ReturnsInHanded {} Tryd.checked os 8 .any (fun w args => (Rows.ancestryRefusesSpec.pre enc Tryd.prog Tryd.f8 Rows.ancestryRefusesRow.domain false w args ∧ laidMetH Tryd.prog Rows.ancestryRefusesRow.laid w) ∧ sizedMet enc Tryd.prog Tryd.f8 (OpenSpec.ofChange Rows.ancestryRefusesSpec) false w args)
   (Rows.ancestryRefusesSpec.post enc Tryd.prog Tryd.f8 false true false false) := by
 refine Lu (C := Tryd.checked) (X := fun w _ => laidMetH Tryd.prog Rows.ancestryRefusesRow.laid w) (fun _ _ _ hh h => h.of_heap hh) own started (by kernel_rfl) Tryd.func8
  (ChangeSpec.witness_shaped (enc := enc) (C := Tryd.checked) (os := os) (X := fun w _ => laidMetH Tryd.prog Rows.ancestryRefusesRow.laid w) false (World.laidAll Tryd.prog os Rows.ancestryRefusesRow.laid) #[.slice none 0 0, .int .i64 0, .int .i64 0] 8 (World.laidAll_os _ _ _)
   (World.shaped_of_ZipB (by kernel_rfl) (by kernel_rfl)) (by kernel_rfl) (by kernel_rfl) (by kernel_rfl)
   (by rw [MakeChecks.laidMetH_plain _ _ _ (by kernel_rfl)]; exact laidMet_laidAll _ (by kernel_rfl) (by kernel_rfl))) ?_
 intro W base args ds gs before hsh hval hW hc hsz hL _
 exact SD (P := Tryd.prog) (fun x gx => AcB x gx) Tryd.func8 rfl ZB laidOut readable rfl Tryd.underlying4 rfl (fun ds hds => by
  match ds, hds with
  | [d1, d2, d3], _ => rfl) W (tabs hL hsh) base args ds gs before hval hW hc hsz

theorem row_holds : Rows.AncestryRefusesSaid :=
 OpenClaim.holds_of_wide 8 Tryd.f8 rfl rfl rfl rfl rfl rfl rfl ⟨rfl, rfl, rfl, rfl, rfl⟩ rfl rfl rfl rfl rfl (by kernel_rfl) Tryd.func8 (by kernel_rfl)
  (of_decide_eq_true (by kernel_rfl)) (by unfold Func.isWrapper; first | (rw [if_pos (by decide +kernel)]; kernel_rfl) | (rw [if_neg (by decide +kernel)]; exact ⟨rfl, rfl⟩))
  (fun os started H enc henc => lifted os started H enc)

theorem proved : Rows.AncestryRefusesCardSaid :=
 Claim7.holds_tied_plain_at .later [] [.data, .pinned] true (true, "85fa2c3e3470a6391641d8911f1fc55f8c93480ac61ad99a4253402e6e492482") false
  row_holds (fun _ h => by cases h) (by kernel_rfl) (fun _ h => by cases h) ancestryRefuses_row_tie rfl ⟨rfl, rfl⟩ (by kernel_rfl) rfl
  (fun f fn hf hfn => by
   obtain rfl : f = 8 := Option.some.inj ((show Tryd.prog.funcNamed "mergelens/mergelenslaw25.AncestryRefuses" = some 8 by kernel_rfl).symm.trans hf) |>.symm
   obtain rfl : fn = Tryd.f8 := (Option.some.inj (Tryd.func8.symm.trans hfn)).symm
   exact ⟨by kernel_rfl, fun j t ht => by
    rw [Tryd.params8] at ht
    have hm : t ∈ [23, 3, 3] := by simpa using Array.mem_of_getElem? ht
    have hall : ([23, 3, 3].all fun u => !Tryd.prog.wantsStandIn u) = true := by kernel_rfl
    exact (show Tryd.prog.wantsStandIn t = false by simpa using List.all_eq_true.1 hall t hm)⟩)
  (by kernel_rfl)
#print axioms proved
end Go.Proofs.YtdnomijflodcgaaDoor.ancestryRefuses
