/-
 StatFormats: for every input the law answers true, and leaves its arguments as they are. No condition but the tied tables.
 The functions that it reaches are read as typed code; each has a contract, shown once; the law follows from the contracts.
-/
import Derived.Test.YtcaandgkdmidkaaDoorKSpL27c
import Derived.Test.YtcaandgkdmidkaaDoorKKShelf
import Derived.Test.YtcaandgkdmidkaaDoorKKB
import Derived.Test.YtcaandgkdmidkaaDoorKKQ
import Derived.Test.YtcaandgkdmidkaaDoorKKP
import Derived.Test.YtcaandgkdmidkaaDoorKKG
import Derived.Test.YtcaandgkdmidkaaDoorKKF
import Derived.Test.YtcaandgkdmidkaaDoorKKA
import Derived.Test.YtcaandgkdmidkaaDoorKLn0
import Derived.Test.YtcaandgkdmidkaaDoorKLn1
import Derived.Test.YtcaandgkdmidkaaDoorKLn2
import Derived.Test.YtcaandgkdmidkaaDoorRows
import Derived.Test.YtcaandgkdmidkaaDoorCards
import Derived.Test.YtcaandgkdmidkaaDoorTie
import Derived.WalkKit
import Derived.ProofKit
import Derived.JoinedOf
import Derived.LaidMore
import Derived.Lay
import Derived.SevenTiedAt
import Derived.Stop.Joined
import Derived.Lib.LaidTab
set_option linter.unusedVariables false
set_option linter.unusedSimpArgs false
namespace Go.Proofs.YtcaandgkdmidkaaDoor.statFormats
open Go.VS Go.Proofs.YtcaandgkdmidkaaDoor

theorem Rb : Jc (Pg.of Tryd.prog) := Sl Pb
theorem UE : Ud (Pg.of Tryd.prog) := UG Uy
theorem Uz : Ub (Pg.of Tryd.prog) := UD Un Rb
theorem M9 : Cd (Pg.of Tryd.prog) := N5 JF
theorem Qt : LA (Pg.of Tryd.prog) := Rp LN
theorem OH : HY (Pg.of Tryd.prog) := Sm NO Qt
theorem Qr : Lz (Pg.of Tryd.prog) := Go.Proofs.Tryd.QY 
theorem NY : EY (Pg.of Tryd.prog) := Pw KC Qr
theorem JY : DZ (Pg.of Tryd.prog) := Px KD
theorem NZ : HZ (Pg.of Tryd.prog) := Py KE JY
theorem M7 : GM (Pg.of Tryd.prog) := Go.Proofs.Tryd.N2 M9 OH NY NZ
theorem VP : Vz (Pg.of Tryd.prog) := VY VA
theorem Pq : Jd (Pg.of Tryd.prog) := QD KA
theorem Qs : Hd (Pg.of Tryd.prog) := Ro ME Pq
theorem VE : Vi (Pg.of Tryd.prog) := VL Vt
theorem VF : U7 (Pg.of Tryd.prog) := VM Vu VE
theorem VC : U0 (Pg.of Tryd.prog) := VG Vp
theorem VK : U9 (Pg.of Tryd.prog) := VQ Vv
theorem VJ : Vl (Pg.of Tryd.prog) := Go.Proofs.Tryd.V1 
theorem Vw : UT (Pg.of Tryd.prog) := VB Vq VP Qs VF VC VK VJ
theorem OG : HX (Pg.of Tryd.prog) := Sk NN JY OH
theorem M8 : D5 (Pg.of Tryd.prog) := N4 Kz OG M7
theorem RS (x : DP UL.ps) (gx : (tyP UL.ps).Good x) : Go.VS.Fn (Pg.of Tryd.prog) "mergelens/mergelenslaw27.StatFormats" UL x fun (d : Bool) _ => d = true := Vr Vd Rb UE Uz M7 Vw M8 x

theorem own : ownKnob Tryd.prog.godebug = none := by kernel_rfl
theorem laidOut : laidOutB Tryd.prog = true := by kernel_rfl
theorem P9 : Gh Tryd.prog Tryd.f4.params.toList UL.ps = true := by kernel_rfl
theorem readable : Tryd.f4.params.toList.all (fun t => Tryd.prog.readableRec t && decide (t < Tryd.prog.types.size)) = true := by kernel_rfl
theorem K8 {P : Program} {x : String × DataW Unit} {r : List (String × DataW Unit)} {w : World} (h : laidMet P (x :: r) w) : laidMet P r w := by
 obtain ⟨ps, ⟨g, t, cs, fuel, p, q, h1, h2, h3, h4, h5, rfl⟩, hnd, hall⟩ := h
 exact ⟨q, h5, (List.nodup_append.1 hnd).2.1, fun b off hm => hall b off (List.mem_append_right _ hm)⟩
theorem tabs {W : World} (h : laidMetH Tryd.prog Rows.statFormatsRow.laid W) (hsh : W.ShapedOpen Tryd.prog) : Fz Tryd.prog W := ⟨fun e he hs => by
 obtain rfl := List.mem_singleton.1 he
 rw [MakeChecks.laidMetH_plain _ _ _ (by kernel_rfl)] at h
 have hd : (Rows.laid_internal_strconv_uint64pow10 : DataW Unit) = Lib.tabData .u64 Lib.pow10Tab := by kernel_rfl
 have h' : laidMet Tryd.prog [("internal/strconv.uint64pow10", Lib.tabData .u64 Lib.pow10Tab)] W := by
  rw [← hd]
  exact (K8 (K8 h))
 exact Lib.tabIs_of_head (g := 1) (t := 177) (e := 71) (n := 20) (by kernel_rfl) (by kernel_rfl) Tryd.underlying177 Tryd.underlying71 (by kernel_rfl) (by kernel_rfl) h', fun g hg => by
 obtain rfl : g = 0 := Option.some.inj (hg.symm.trans (show Tryd.prog.globalNamed "internal/bytealg.MaxLen" = some 0 by kernel_rfl))
 exact Tg (t := 3) hsh (of_decide_eq_true (by kernel_rfl)) (by kernel_rfl) (by kernel_rfl) (by kernel_rfl) Tryd.underlying3⟩

set_option maxRecDepth 100000 in
theorem lifted (os : Os) (started : os.Started) (H : Type) (enc : TypeId × Value → H) :
  ReturnsInHanded {} Tryd.checked os 4 .any (fun w args => (Rows.statFormatsSpec.pre enc Tryd.prog Tryd.f4 Rows.statFormatsRow.domain false w args ∧ laidMetH Tryd.prog Rows.statFormatsRow.laid w) ∧ sizedMet enc Tryd.prog Tryd.f4 (OpenSpec.ofChange Rows.statFormatsSpec) false w args)
   (Rows.statFormatsSpec.post enc Tryd.prog Tryd.f4 false true false false) := by
 refine Tf (C := Tryd.checked) (X := fun w _ => laidMetH Tryd.prog Rows.statFormatsRow.laid w) (fun _ _ _ hh h => h.of_heap hh) own started (by kernel_rfl) Tryd.func4
  (ChangeSpec.witness_shaped (enc := enc) (C := Tryd.checked) (os := os) (X := fun w _ => laidMetH Tryd.prog Rows.statFormatsRow.laid w) false (World.laidAll Tryd.prog os Rows.statFormatsRow.laid) #[.slice none 0 0, .int .i64 0, .slice none 0 0, .int .i64 0] 8 (World.laidAll_os _ _ _)
   (World.shaped_of_ZipB (by kernel_rfl) (by kernel_rfl)) (by kernel_rfl) (by kernel_rfl) (by kernel_rfl)
   (by rw [MakeChecks.laidMetH_plain _ _ _ (by kernel_rfl)]; exact laidMet_laidAll _ (by kernel_rfl) (by kernel_rfl))) ?_
 intro W base args ds gs before hsh hval hW hc hsz hL _
 exact LO (P := Tryd.prog) (fun x gx => RS x gx) Tryd.func4 rfl P9 laidOut readable rfl Tryd.underlying4 rfl (fun ds hds => by
  match ds, hds with
  | [d1, d2, d3, d4], _ => rfl) W (tabs hL hsh) base args ds gs before hval hW hc hsz

theorem row_holds : Rows.StatFormatsSaid :=
 OpenClaim.holds_of_wide 4 Tryd.f4 rfl rfl rfl rfl rfl rfl rfl ⟨rfl, rfl, rfl, rfl, rfl⟩ rfl rfl rfl rfl rfl (by kernel_rfl) Tryd.func4 (by kernel_rfl)
  (of_decide_eq_true (by kernel_rfl)) (by unfold Func.isWrapper; first | (rw [if_pos (by decide +kernel)]; kernel_rfl) | (rw [if_neg (by decide +kernel)]; exact ⟨rfl, rfl⟩))
  (fun os started H enc henc => lifted os started H enc)

theorem proved : Rows.StatFormatsCardSaid :=
 Claim7.holds_tied_plain_at .later [] [.data, .data, .data] true (true, "046a7c28b37248bc677a1cae939754ca7a6584f541cf5c2cff313d17c0b25c55") false
  row_holds (fun _ h => by cases h) (by kernel_rfl) (fun _ h => by cases h) statFormats_row_tie rfl ⟨rfl, rfl⟩ (by kernel_rfl) rfl
  (fun f fn hf hfn => by
   obtain rfl : f = 4 := Option.some.inj ((show Tryd.prog.funcNamed "mergelens/mergelenslaw27.StatFormats" = some 4 by kernel_rfl).symm.trans hf) |>.symm
   obtain rfl : fn = Tryd.f4 := (Option.some.inj (Tryd.func4.symm.trans hfn)).symm
   exact ⟨by kernel_rfl, fun j t ht => by
    rw [Tryd.params4] at ht
    have hm : t ∈ [28, 3, 29, 3] := by simpa using Array.mem_of_getElem? ht
    have hall : ([28, 3, 29, 3].all fun u => !Tryd.prog.wantsStandIn u) = true := by kernel_rfl
    exact (show Tryd.prog.wantsStandIn t = false by simpa using List.all_eq_true.1 hall t hm)⟩)
  (by kernel_rfl)
#print axioms proved
end Go.Proofs.YtcaandgkdmidkaaDoor.statFormats
