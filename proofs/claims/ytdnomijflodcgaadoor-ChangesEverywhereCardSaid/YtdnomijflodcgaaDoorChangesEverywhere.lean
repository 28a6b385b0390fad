/-
 ChangesEverywhere: for every input the law answers true, and leaves its arguments as they are. No condition but the tied tables.
 The functions that it reaches are read as typed code; each has a contract, shown once; the law follows from the contracts.
-/
import Derived.Test.YtdnomijflodcgaaDoorKSm3
import Derived.Test.YtdnomijflodcgaaDoorKKShelf
import Derived.Test.YtdnomijflodcgaaDoorKKT
import Derived.Test.YtdnomijflodcgaaDoorKKW
import Derived.Test.YtdnomijflodcgaaDoorKKV
import Derived.Test.YtdnomijflodcgaaDoorKKM
import Derived.Test.YtdnomijflodcgaaDoorKKN
import Derived.Test.YtdnomijflodcgaaDoorKKX
import Derived.Test.YtdnomijflodcgaaDoorKKY
import Derived.Test.YtdnomijflodcgaaDoorKKZ
import Derived.Test.YtdnomijflodcgaaDoorKKDS
import Derived.Test.YtdnomijflodcgaaDoorKKE2
import Derived.Test.YtdnomijflodcgaaDoorKKEV
import Derived.Test.YtdnomijflodcgaaDoorKKRW
import Derived.Test.YtdnomijflodcgaaDoorKKEW
import Derived.Test.YtdnomijflodcgaaDoorKLn0
import Derived.Test.YtdnomijflodcgaaDoorKLn1
import Derived.Test.YtdnomijflodcgaaDoorKLn2
import Derived.Test.YtdnomijflodcgaaDoorRows
import Derived.Test.YtdnomijflodcgaaDoorCards
import Derived.Test.YtdnomijflodcgaaDoorTie
import Derived.WalkKit
import Derived.ProofKit
import Derived.JoinedOf
import Derived.LaidMore
import Derived.Lay
import Derived.SevenTiedAt
import Derived.Stop.Joined
import Derived.Lib.LaidTab
set_option linter.unusedVariables false
set_option linter.unusedSimpArgs false
namespace Go.Proofs.YtdnomijflodcgaaDoor.changesEverywhere
open Go.VS Go.Proofs.YtdnomijflodcgaaDoor

theorem Nz : KV (Pg.of Tryd.prog) := AdR ZR
theorem MK : Iu (Pg.of Tryd.prog) := Ac8 X8
theorem RC : LM (Pg.of Tryd.prog) := Aao V0 MK
theorem Yt : OM (Pg.of Tryd.prog) := Aak VZ Nz MK RC
theorem RB : HY (Pg.of Tryd.prog) := Aam Ud Nz Yt
theorem UT : Ld (Pg.of Tryd.prog) := Wz QI
theorem Yw : OQ (Pg.of Tryd.prog) := Aap V1 Nz RC UT
theorem Wh : M3 (Pg.of Tryd.prog) := YF Sv Nz MK Yw RB
theorem Wm : M6 (Pg.of Tryd.prog) := YJ Su Nz
theorem Yv : OP (Pg.of Tryd.prog) := Aan Ue Nz MK RB Wh Wm
theorem Abw : Vs (Pg.of Tryd.prog) := Ac4 CS Oq
theorem Aby : Vu (Pg.of Tryd.prog) := Ac6 CD Abw
theorem US : Lc (Pg.of Tryd.prog) := Wy QF Aby
theorem Z6 : RW (Pg.of Tryd.prog) := AbT IC
theorem Yu : ON (Pg.of Tryd.prog) := Aal Hn Z6
theorem UU : Lf (Pg.of Tryd.prog) := WC QG Yu
theorem Wn : M7 (Pg.of Tryd.prog) := YK Sr
theorem Abx : Vt (Pg.of Tryd.prog) := Ac5 C5 QE
theorem Abz : Vv (Pg.of Tryd.prog) := Ac7 CP Abx
theorem QL : Fb (Pg.of Tryd.prog) := Go.Proofs.Tryd.Sa (fun _ => False) 
theorem AbA : Vw (Pg.of Tryd.prog) := Ac9 Py QL
theorem AbC : Vy (Pg.of Tryd.prog) := Adb Di AbA
theorem AbE : VA (Pg.of Tryd.prog) := Ade C3 AbC
theorem UQ : Lg (Pg.of Tryd.prog) := Go.Proofs.Tryd.Wb 
theorem UP : GM (Pg.of Tryd.prog) := Go.Proofs.Tryd.VP (fun _ => False) 
theorem SN : F4 (Pg.of Tryd.prog) := Go.Proofs.Tryd.Ve (fun _ => False) 
theorem Wj : M5 (Pg.of Tryd.prog) := YI Sy SN
theorem Wi : M4 (Pg.of Tryd.prog) := YH Sx UP Wj
theorem AbB : Vx (Pg.of Tryd.prog) := Ada Pz Wi
theorem AbD : Vz (Pg.of Tryd.prog) := Adc Dj AbB
theorem AbF : VB (Pg.of Tryd.prog) := Adf C4 AbD
theorem K9 : Et (Pg.of Tryd.prog) := S8 Mj AbE UQ AbF
theorem PZ : HH (Pg.of Tryd.prog) := QP Mj K9
theorem SO : Jk (Pg.of Tryd.prog) := Va Uc US UU Wn Abz PZ
theorem JP : FF (Pg.of Tryd.prog) := Ww Oo ZQ SO
theorem N7 : Iv (Pg.of Tryd.prog) := WA Mi
theorem Yz : OS (Pg.of Tryd.prog) := Aas Ug K9
theorem Ys : OT (Pg.of Tryd.prog) := Go.Proofs.Tryd.Aa5 Yz
theorem Z7 : WU (Pg.of Tryd.prog) := AdS Sq N7 Ys
theorem PY : Ki (Pg.of Tryd.prog) := YG Om JP Z7
theorem Yr : OO (Pg.of Tryd.prog) := Go.Proofs.Tryd.Abb JP Z7
theorem Yy : Jl (Pg.of Tryd.prog) := Aar Sw
theorem YA : Jm (Pg.of Tryd.prog) := Aat Uf
theorem Yx : OR (Pg.of Tryd.prog) := Aaq Px JP N7 YA
theorem UR : GN (Pg.of Tryd.prog) := Wx Ss
theorem UW : GO (Pg.of Tryd.prog) := WD QH PY Yx UR
theorem AcB (x : DP AZ.ps) (gx : (tyP AZ.ps).Good x) : Go.VS.Fn (Pg.of Tryd.prog) "mergelens/mergelenslaw26.ChangesEverywhere" AZ x fun (d : Bool) _ => d = true := JV Hm Yv MK PY Yr Yy UW x

theorem own : ownKnob Tryd.prog.godebug = none := by kernel_rfl
theorem laidOut : laidOutB Tryd.prog = true := by kernel_rfl
theorem ZB : Kj Tryd.prog Tryd.f5.params.toList AZ.ps = true := by kernel_rfl
theorem readable : Tryd.f5.params.toList.all (fun t => Tryd.prog.readableRec t && decide (t < Tryd.prog.types.size)) = true := by kernel_rfl
theorem Adn {P : Program} {x : String × DataW Unit} {r : List (String × DataW Unit)} {w : World} (h : laidMet P (x :: r) w) : laidMet P r w := by
 obtain ⟨ps, ⟨g, t, cs, fuel, p, q, h1, h2, h3, h4, h5, rfl⟩, hnd, hall⟩ := h
 exact ⟨q, h5, (List.nodup_append.1 hnd).2.1, fun b off hm => hall b off (List.mem_append_right _ hm)⟩
theorem tabs {W : World} (h : laidMetH Tryd.prog Rows.changesEverywhereRow.laid W) (hsh : W.ShapedOpen Tryd.prog) : I7 Tryd.prog W := ⟨fun e he _ => absurd he (by simp [Tc]), fun g hg => by
 obtain rfl : g = 0 := Option.some.inj (hg.symm.trans (show Tryd.prog.globalNamed "internal/bytealg.MaxLen" = some 0 by kernel_rfl))
 exact Wt (t := 3) hsh (of_decide_eq_true (by kernel_rfl)) (by kernel_rfl) (by kernel_rfl) (by kernel_rfl) Tryd.underlying3⟩

set_option maxRecDepth 100000 in
theorem lifted (os : Os) (started : os.Started) (H : Type) (enc : TypeId × Value → H) :
  ReturnsInHanded {} Tryd.checked os 5 .any (fun w args => (Rows.changesEverywhereSpec.pre enc Tryd.prog Tryd.f5 Rows.changesEverywhereRow.domain false w args ∧ laidMetH Tryd.prog Rows.changesEverywhereRow.laid w) ∧ sizedMet enc Tryd.prog Tryd.f5 (OpenSpec.ofChange Rows.changesEverywhereSpec) false w args)
   (Rows.changesEverywhereSpec.post enc Tryd.prog Tryd.f5 false true false false) := by
 refine Lu (C := Tryd.checked) (X := fun w _ => laidMetH Tryd.prog Rows.changesEverywhereRow.laid w) (fun _ _ _ hh h => h.of_heap hh) own started (by kernel_rfl) Tryd.func5
  (ChangeSpec.witness_shaped (enc := enc) (C := Tryd.checked) (os := os) (X := fun w _ => laidMetH Tryd.prog Rows.changesEverywhereRow.laid w) false (World.laidAll Tryd.prog os Rows.changesEverywhereRow.laid) #[.slice none 0 0, .int .i64 0] 8 (World.laidAll_os _ _ _)
   (World.shaped_of_ZipB (by kernel_rfl) (by kernel_rfl)) (by kernel_rfl) (by kernel_rfl) (by kernel_rfl)
   (by rw [MakeChecks.laidMetH_plain _ _ _ (by kernel_rfl)]; exact laidMet_laidAll _ (by kernel_rfl) (by kernel_rfl))) ?_
 intro W base args ds gs before hsh hval hW hc hsz hL _
 exact SD (P := Tryd.prog) (fun x gx => AcB x gx) Tryd.func5 rfl ZB laidOut readable rfl Tryd.underlying4 rfl (fun ds hds => by
  match ds, hds with
  | [d1, d2], _ => rfl) W (tabs hL hsh) base args ds gs before hval hW hc hsz

theorem row_holds : Rows.ChangesEverywhereSaid :=
 OpenClaim.holds_of_wide 5 Tryd.f5 rfl rfl rfl rfl rfl rfl rfl ⟨rfl, rfl, rfl, rfl, rfl⟩ rfl rfl rfl rfl rfl (by kernel_rfl) Tryd.func5 (by kernel_rfl)
  (of_decide_eq_true (by kernel_rfl)) (by unfold Func.isWrapper; first | (rw [if_pos (by decide +kernel)]; kernel_rfl) | (rw [if_neg (by decide +kernel)]; exact ⟨rfl, rfl⟩))
  (fun os started H enc henc => lifted os started H enc)

theorem proved : Rows.ChangesEverywhereCardSaid :=
 Claim7.holds_tied_plain_at .later [] [.data, .pinned] true (true, "85fa2c3e3470a6391641d8911f1fc55f8c93480ac61ad99a4253402e6e492482") false
  row_holds (fun _ h => by cases h) (by kernel_rfl) (fun _ h => by cases h) changesEverywhere_row_tie rfl ⟨rfl, rfl⟩ (by kernel_rfl) rfl
  (fun f fn hf hfn => by
   obtain rfl : f = 5 := Option.some.inj ((show Tryd.prog.funcNamed "mergelens/mergelenslaw26.ChangesEverywhere" = some 5 by kernel_rfl).symm.trans hf) |>.symm
   obtain rfl : fn = Tryd.f5 := (Option.some.inj (Tryd.func5.symm.trans hfn)).symm
   exact ⟨by kernel_rfl, fun j t ht => by
    rw [Tryd.params5] at ht
    have hm : t ∈ [22, 3] := by simpa using Array.mem_of_getElem? ht
    have hall : ([22, 3].all fun u => !Tryd.prog.wantsStandIn u) = true := by kernel_rfl
    exact (show Tryd.prog.wantsStandIn t = false by simpa using List.all_eq_true.1 hall t hm)⟩)
  (by kernel_rfl)
#print axioms proved
end Go.Proofs.YtdnomijflodcgaaDoor.changesEverywhere
