/-
 TreeOrder: for every input the law answers true, and leaves its arguments as they are. No condition but the tied tables.
 The functions that it reaches are read as typed code; each has a contract, shown once; the law follows from the contracts.
-/
import Derived.Test.YtbpbcfiodckhjaaDoorKSpL21g
import Derived.Test.YtbpbcfiodckhjaaDoorKKShelf
import Derived.Test.YtbpbcfiodckhjaaDoorKKT
import Derived.Test.YtbpbcfiodckhjaaDoorKKW
import Derived.Test.YtbpbcfiodckhjaaDoorKKV
import Derived.Test.YtbpbcfiodckhjaaDoorKKM
import Derived.Test.YtbpbcfiodckhjaaDoorKKN
import Derived.Test.YtbpbcfiodckhjaaDoorKKX
import Derived.Test.YtbpbcfiodckhjaaDoorKKY
import Derived.Test.YtbpbcfiodckhjaaDoorKKZ
import Derived.Test.YtbpbcfiodckhjaaDoorKKU
import Derived.Test.YtbpbcfiodckhjaaDoorKKH
import Derived.Test.YtbpbcfiodckhjaaDoorKKHA
import Derived.Test.YtbpbcfiodckhjaaDoorKKHB
import Derived.Test.YtbpbcfiodckhjaaDoorKLn0
import Derived.Test.YtbpbcfiodckhjaaDoorKLn1
import Derived.Test.YtbpbcfiodckhjaaDoorKLn2
import Derived.Test.YtbpbcfiodckhjaaDoorRows
import Derived.Test.YtbpbcfiodckhjaaDoorCards
import Derived.Test.YtbpbcfiodckhjaaDoorTie
import Derived.WalkKit
import Derived.ProofKit
import Derived.JoinedOf
import Derived.LaidMore
import Derived.Lay
import Derived.SevenTiedAt
import Derived.Stop.Joined
import Derived.Lib.LaidTab
set_option linter.unusedVariables false
set_option linter.unusedSimpArgs false
namespace Go.Proofs.YtbpbcfiodckhjaaDoor.treeOrder
open Go.VS Go.Proofs.YtbpbcfiodckhjaaDoor

theorem VH : N6 (Pg.of Tryd.prog) := YP Vx
theorem Ty : Kx (Pg.of Tryd.prog) := Yc Ud
theorem Us : L6 (Pg.of Tryd.prog) := VT Sg Ty
theorem Uq : L5 (Pg.of Tryd.prog) := VQ Sf VH Ty Us
theorem Ur : Hs (Pg.of Tryd.prog) := VR Qw VH Uq
theorem IL : Dt (Pg.of Tryd.prog) := Go.Proofs.Tryd.Pc (fun _ => False) 
theorem WU : RG (Pg.of Tryd.prog) := Yd MM IL
theorem WW : RI (Pg.of Tryd.prog) := Yf Cq WU
theorem WY : RL (Pg.of Tryd.prog) := Yh Ca WW
theorem Q9 : IY (Pg.of Tryd.prog) := Go.Proofs.Tryd.Sr 
theorem Q8 : Fs (Pg.of Tryd.prog) := Go.Proofs.Tryd.RZ (fun _ => False) 
theorem PD : ER (Pg.of Tryd.prog) := Go.Proofs.Tryd.Ru (fun _ => False) 
theorem SA : KH (Pg.of Tryd.prog) := UD Ps PD
theorem Sz : KF (Pg.of Tryd.prog) := UC Pr Q8 SA
theorem WV : RH (Pg.of Tryd.prog) := Ye MN Sz
theorem WX : RJ (Pg.of Tryd.prog) := Yg Cr WV
theorem WZ : RM (Pg.of Tryd.prog) := Yi Cb WX
theorem IM : Du (Pg.of Tryd.prog) := sp_TreeCheck Pt WY Q9 WZ
theorem Uu : L7 (Pg.of Tryd.prog) := VV Qy IM
theorem Up : L8 (Pg.of Tryd.prog) := Go.Proofs.Tryd.Wt Uu
theorem AbJ : Aa7 (Pg.of Tryd.prog) := Go.Proofs.Tryd.Ab2 Uu IM
theorem AbK : AaT (Pg.of Tryd.prog) := AbZ Abx
theorem Uv : Hu (Pg.of Tryd.prog) := VW Qx
theorem Rf : Fu (Pg.of Tryd.prog) := SN NO Uv IM IL
theorem XQ (x : DP AcL.ps) (gx : (tyP AcL.ps).Good x) : Go.VS.Fn (Pg.of Tryd.prog) "mergelens/mergelenslaw21.TreeOrder" AcL x fun (d : Bool) _ => d = true := AcT AcQ Ur Up AbJ AbK Rf x

theorem own : ownKnob Tryd.prog.godebug = none := by kernel_rfl
theorem laidOut : laidOutB Tryd.prog = true := by kernel_rfl
theorem Vm : Ia Tryd.prog Tryd.f13.params.toList AcL.ps = true := by kernel_rfl
theorem readable : Tryd.f13.params.toList.all (fun t => Tryd.prog.readableRec t && decide (t < Tryd.prog.types.size)) = true := by kernel_rfl
theorem Yp {P : Program} {x : String × DataW Unit} {r : List (String × DataW Unit)} {w : World} (h : laidMet P (x :: r) w) : laidMet P r w := by
 obtain ⟨ps, ⟨g, t, cs, fuel, p, q, h1, h2, h3, h4, h5, rfl⟩, hnd, hall⟩ := h
 exact ⟨q, h5, (List.nodup_append.1 hnd).2.1, fun b off hm => hall b off (List.mem_append_right _ hm)⟩
theorem tabs {W : World} (h : laidMetH Tryd.prog Rows.treeOrderRow.laid W) (hsh : W.ShapedOpen Tryd.prog) : Hk Tryd.prog W := ⟨fun e he _ => absurd he (by simp [PR]), fun g hg => by
 obtain rfl : g = 0 := Option.some.inj (hg.symm.trans (show Tryd.prog.globalNamed "internal/bytealg.MaxLen" = some 0 by kernel_rfl))
 exact SF (t := 3) hsh (of_decide_eq_true (by kernel_rfl)) (by kernel_rfl) (by kernel_rfl) (by kernel_rfl) Tryd.underlying3⟩

set_option maxRecDepth 100000 in
theorem lifted (os : Os) (started : os.Started) (H : Type) (enc : TypeId × Value → H) :
  ReturnsInHanded {} Tryd.checked os 13 .any (fun w args => (Rows.treeOrderSpec.pre enc Tryd.prog Tryd.f13 Rows.treeOrderRow.domain false w args ∧ laidMetH Tryd.prog Rows.treeOrderRow.laid w) ∧ sizedMet enc Tryd.prog Tryd.f13 (OpenSpec.ofChange Rows.treeOrderSpec) false w args)
   (Rows.treeOrderSpec.post enc Tryd.prog Tryd.f13 false true false false) := by
 refine Jg (C := Tryd.checked) (X := fun w _ => laidMetH Tryd.prog Rows.treeOrderRow.laid w) (fun _ _ _ hh h => h.of_heap hh) own started (by kernel_rfl) Tryd.func13
  (ChangeSpec.witness_shaped (enc := enc) (C := Tryd.checked) (os := os) (X := fun w _ => laidMetH Tryd.prog Rows.treeOrderRow.laid w) false (World.laidAll Tryd.prog os Rows.treeOrderRow.laid) #[.slice none 0 0, .slice none 0 0] 8 (World.laidAll_os _ _ _)
   (World.shaped_of_ZipB (by kernel_rfl) (by kernel_rfl)) (by kernel_rfl) (by kernel_rfl) (by kernel_rfl)
   (by rw [MakeChecks.laidMetH_plain _ _ _ (by kernel_rfl)]; exact laidMet_laidAll _ (by kernel_rfl) (by kernel_rfl))) ?_
 intro W base args ds gs before hsh hval hW hc hsz hL _
 exact Pw (P := Tryd.prog) (fun x gx => XQ x gx) Tryd.func13 rfl Vm laidOut readable rfl Tryd.underlying4 rfl (fun ds hds => by
  match ds, hds with
  | [d1, d2], _ => rfl) W (tabs hL hsh) base args ds gs before hval hW hc hsz

theorem row_holds : Rows.TreeOrderSaid :=
 OpenClaim.holds_of_wide 13 Tryd.f13 rfl rfl rfl rfl rfl rfl rfl ⟨rfl, rfl, rfl, rfl, rfl⟩ rfl rfl rfl rfl rfl (by kernel_rfl) Tryd.func13 (by kernel_rfl)
  (of_decide_eq_true (by kernel_rfl)) (by unfold Func.isWrapper; first | (rw [if_pos (by decide +kernel)]; kernel_rfl) | (rw [if_neg (by decide +kernel)]; exact ⟨rfl, rfl⟩))
  (fun os started H enc henc => lifted os started H enc)

theorem proved : Rows.TreeOrderCardSaid :=
 Claim7.holds_tied_plain_at .later [] [.data, .pinned] true (true, "9dcd681145146b578581eb59497f56647863b7b2db9ad030c7559b09304ef957") false
  row_holds (fun _ h => by cases h) (by kernel_rfl) (fun _ h => by cases h) treeOrder_row_tie rfl ⟨rfl, rfl⟩ (by kernel_rfl) rfl
  (fun f fn hf hfn => by
   obtain rfl : f = 13 := Option.some.inj ((show Tryd.prog.funcNamed "mergelens/mergelenslaw21.TreeOrder" = some 13 by kernel_rfl).symm.trans hf) |>.symm
   obtain rfl : fn = Tryd.f13 := (Option.some.inj (Tryd.func13.symm.trans hfn)).symm
   exact ⟨by kernel_rfl, fun j t ht => by
    rw [Tryd.params13] at ht
    have hm : t ∈ [22, 53] := by simpa using Array.mem_of_getElem? ht
    have hall : ([22, 53].all fun u => !Tryd.prog.wantsStandIn u) = true := by kernel_rfl
    exact (show Tryd.prog.wantsStandIn t = false by simpa using List.all_eq_true.1 hall t hm)⟩)
  (by kernel_rfl)
#print axioms proved
end Go.Proofs.YtbpbcfiodckhjaaDoor.treeOrder
