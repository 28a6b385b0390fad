/-
 CommandLimits: for every input the law answers true, and leaves its arguments as they are. No condition but the tied tables.
 The functions that it reaches are read as typed code; each has a contract, shown once; the law follows from the contracts.
-/
import Derived.Test.YtcaandgkdmidkaaDoorKSpScr
import Derived.Test.YtcaandgkdmidkaaDoorKKShelf
import Derived.Test.YtcaandgkdmidkaaDoorKKB
import Derived.Test.YtcaandgkdmidkaaDoorKKQ
import Derived.Test.YtcaandgkdmidkaaDoorKKP
import Derived.Test.YtcaandgkdmidkaaDoorKKA
import Derived.Test.YtcaandgkdmidkaaDoorKKC
import Derived.Test.YtcaandgkdmidkaaDoorKKD
import Derived.Test.YtcaandgkdmidkaaDoorKKT
import Derived.Test.YtcaandgkdmidkaaDoorKLn0
import Derived.Test.YtcaandgkdmidkaaDoorKLn1
import Derived.Test.YtcaandgkdmidkaaDoorKLn2
import Derived.Test.YtcaandgkdmidkaaDoorRows
import Derived.Test.YtcaandgkdmidkaaDoorCards
import Derived.Test.YtcaandgkdmidkaaDoorTie
import Derived.WalkKit
import Derived.ProofKit
import Derived.JoinedOf
import Derived.LaidMore
import Derived.Lay
import Derived.SevenTiedAt
import Derived.Stop.Joined
import Derived.Lib.LaidTab
set_option linter.unusedVariables false
set_option linter.unusedSimpArgs false
namespace Go.Proofs.YtcaandgkdmidkaaDoor.commandLimits
open Go.VS Go.Proofs.YtcaandgkdmidkaaDoor

theorem Abe : Zs (Pg.of Tryd.prog) := Go.Proofs.Tryd.Abt (fun _ => False) 
theorem Aa4 : Zj (Pg.of Tryd.prog) := Go.Proofs.Tryd.Abs (fun _ => False) 
theorem AbC : Aam (Pg.of Tryd.prog) := AbU Aa0 Aa4
theorem AbB : Aal (Pg.of Tryd.prog) := AbT AaZ Abe AbC
theorem Aar : Y2 (Pg.of Tryd.prog) := Go.Proofs.Tryd.AaV (fun _ => False) 
theorem AbD : ZE (Pg.of Tryd.prog) := AbV Aa1 AbB Aar
theorem Abw : ZF (Pg.of Tryd.prog) := Go.Proofs.Tryd.AbY (fun _ => False) 
theorem Abx : Aai (Pg.of Tryd.prog) := AbP Aav AbD Abw
theorem Lc : CX (Pg.of Tryd.prog) := RC Mp
theorem Tw : LK (Pg.of Tryd.prog) := Go.Proofs.Tryd.Vh Lc
theorem TE : LP (Pg.of Tryd.prog) := Vv Ij
theorem Rr : Ki (Pg.of Tryd.prog) := TW Hw TE
theorem Rt : Kj (Pg.of Tryd.prog) := TZ Hx Rr
theorem TF : LQ (Pg.of Tryd.prog) := Vw OK
theorem Vg : Ot (Pg.of Tryd.prog) := Wy IK Tw Rt TF
theorem Tz : LL (Pg.of Tryd.prog) := Vs OI Vg
theorem TD : LN (Pg.of Tryd.prog) := Vu Lq
theorem TA : LM (Pg.of Tryd.prog) := Vt OJ
theorem Ro : Gl (Pg.of Tryd.prog) := TQ Nn TA
theorem Tx : LO (Pg.of Tryd.prog) := Go.Proofs.Tryd.Wo Ro
theorem Rm : Gj (Pg.of Tryd.prog) := TO Lp Tz TD Tx
theorem AbA : ZD (Pg.of Tryd.prog) := AbS Aaq Abx Rm
theorem Qr : Fi (Pg.of Tryd.prog) := RB Ni Rm
theorem Xb (x : DP AcY.ps) (gx : (tyP AcY.ps).Good x) : Go.VS.Fn (Pg.of Tryd.prog) "mergelens/mergelenslaw32.CommandLimits" AcY x fun (d : Bool) _ => d = true := Ac4 Ac3 AbA Qr x

theorem own : ownKnob Tryd.prog.godebug = none := by kernel_rfl
theorem laidOut : laidOutB Tryd.prog = true := by kernel_rfl
theorem UM : HU Tryd.prog Tryd.f11.params.toList AcY.ps = true := by kernel_rfl
theorem readable : Tryd.f11.params.toList.all (fun t => Tryd.prog.readableRec t && decide (t < Tryd.prog.types.size)) = true := by kernel_rfl
theorem NU {P : Program} {x : String × DataW Unit} {r : List (String × DataW Unit)} {w : World} (h : laidMet P (x :: r) w) : laidMet P r w := by
 obtain ⟨ps, ⟨g, t, cs, fuel, p, q, h1, h2, h3, h4, h5, rfl⟩, hnd, hall⟩ := h
 exact ⟨q, h5, (List.nodup_append.1 hnd).2.1, fun b off hm => hall b off (List.mem_append_right _ hm)⟩
theorem tabs {W : World} (h : laidMetH Tryd.prog Rows.commandLimitsRow.laid W) (hsh : W.ShapedOpen Tryd.prog) : G3 Tryd.prog W := ⟨fun e he _ => absurd he (by simp [SB]), fun g hg => by
 obtain rfl : g = 0 := Option.some.inj (hg.symm.trans (show Tryd.prog.globalNamed "internal/bytealg.MaxLen" = some 0 by kernel_rfl))
 exact Ry (t := 3) hsh (of_decide_eq_true (by kernel_rfl)) (by kernel_rfl) (by kernel_rfl) (by kernel_rfl) Tryd.underlying3⟩

set_option maxRecDepth 100000 in
theorem lifted (os : Os) (started : os.Started) (H : Type) (enc : TypeId × Value → H) :
  ReturnsInHanded {} Tryd.checked os 11 .any (fun w args => (Rows.commandLimitsSpec.pre enc Tryd.prog Tryd.f11 Rows.commandLimitsRow.domain false w args ∧ laidMetH Tryd.prog Rows.commandLimitsRow.laid w) ∧ sizedMet enc Tryd.prog Tryd.f11 (OpenSpec.ofChange Rows.commandLimitsSpec) false w args)
   (Rows.commandLimitsSpec.post enc Tryd.prog Tryd.f11 false true false false) := by
 refine IY (C := Tryd.checked) (X := fun w _ => laidMetH Tryd.prog Rows.commandLimitsRow.laid w) (fun _ _ _ hh h => h.of_heap hh) own started (by kernel_rfl) Tryd.func11
  (ChangeSpec.witness_shaped (enc := enc) (C := Tryd.checked) (os := os) (X := fun w _ => laidMetH Tryd.prog Rows.commandLimitsRow.laid w) false (World.laidAll Tryd.prog os Rows.commandLimitsRow.laid) #[.bool false] 8 (World.laidAll_os _ _ _)
   (World.shaped_of_ZipB (by kernel_rfl) (by kernel_rfl)) (by kernel_rfl) (by kernel_rfl) (by kernel_rfl)
   (by rw [MakeChecks.laidMetH_plain _ _ _ (by kernel_rfl)]; exact laidMet_laidAll _ (by kernel_rfl) (by kernel_rfl))) ?_
 intro W base args ds gs before hsh hval hW hc hsz hL _
 exact OM (P := Tryd.prog) (fun x gx => Xb x gx) Tryd.func11 rfl UM laidOut readable rfl Tryd.underlying4 rfl (fun ds hds => by
  match ds, hds with
  | [d1], _ => rfl) W (tabs hL hsh) base args ds gs before hval hW hc hsz

theorem row_holds : Rows.CommandLimitsSaid :=
 OpenClaim.holds_of_wide 11 Tryd.f11 rfl rfl rfl rfl rfl rfl rfl ⟨rfl, rfl, rfl, rfl, rfl⟩ rfl rfl rfl rfl rfl (by kernel_rfl) Tryd.func11 (by kernel_rfl)
  (of_decide_eq_true (by kernel_rfl)) (by unfold Func.isWrapper; first | (rw [if_pos (by decide +kernel)]; kernel_rfl) | (rw [if_neg (by decide +kernel)]; exact ⟨rfl, rfl⟩))
  (fun os started H enc henc => lifted os started H enc)

theorem proved : Rows.CommandLimitsCardSaid :=
 Claim7.holds_tied_plain_at .later [] [.data, .pinned] true (true, "046a7c28b37248bc677a1cae939754ca7a6584f541cf5c2cff313d17c0b25c55") false
  row_holds (fun _ h => by cases h) (by kernel_rfl) (fun _ h => by cases h) commandLimits_row_tie rfl ⟨rfl, rfl⟩ (by kernel_rfl) rfl
  (fun f fn hf hfn => by
   obtain rfl : f = 11 := Option.some.inj ((show Tryd.prog.funcNamed "mergelens/mergelenslaw32.CommandLimits" = some 11 by kernel_rfl).symm.trans hf) |>.symm
   obtain rfl : fn = Tryd.f11 := (Option.some.inj (Tryd.func11.symm.trans hfn)).symm
   exact ⟨by kernel_rfl, fun j t ht => by
    rw [Tryd.params11] at ht
    have hm : t ∈ [4] := by simpa using Array.mem_of_getElem? ht
    have hall : ([4].all fun u => !Tryd.prog.wantsStandIn u) = true := by kernel_rfl
    exact (show Tryd.prog.wantsStandIn t = false by simpa using List.all_eq_true.1 hall t hm)⟩)
  (by kernel_rfl)
#print axioms proved
end Go.Proofs.YtcaandgkdmidkaaDoor.commandLimits
