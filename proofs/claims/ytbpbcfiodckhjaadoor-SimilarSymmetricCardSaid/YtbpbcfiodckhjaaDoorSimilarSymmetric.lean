/-
 SimilarSymmetric: for every input the law answers true, and leaves its arguments as they are. No condition but the tied tables.
 The functions that it reaches are read as typed code; each has a contract, shown once; the law follows from the contracts.
-/
import Derived.Test.YtbpbcfiodckhjaaDoorKSpL22d
import Derived.Test.YtbpbcfiodckhjaaDoorKKShelf
import Derived.Test.YtbpbcfiodckhjaaDoorKKT
import Derived.Test.YtbpbcfiodckhjaaDoorKKM
import Derived.Test.YtbpbcfiodckhjaaDoorKKO
import Derived.Test.YtbpbcfiodckhjaaDoorKLn0
import Derived.Test.YtbpbcfiodckhjaaDoorKLn1
import Derived.Test.YtbpbcfiodckhjaaDoorKLn2
import Derived.Test.YtbpbcfiodckhjaaDoorRows
import Derived.Test.YtbpbcfiodckhjaaDoorCards
import Derived.Test.YtbpbcfiodckhjaaDoorTie
import Derived.WalkKit
import Derived.ProofKit
import Derived.JoinedOf
import Derived.LaidMore
import Derived.Lay
import Derived.SevenTiedAt
import Derived.Stop.Joined
import Derived.Lib.LaidTab
set_option linter.unusedVariables false
set_option linter.unusedSimpArgs false
namespace Go.Proofs.YtbpbcfiodckhjaaDoor.similarSymmetric
open Go.VS Go.Proofs.YtbpbcfiodckhjaaDoor

theorem TY : Nk (Pg.of Tryd.prog) := UK RN
theorem P7 : IX (Pg.of Tryd.prog) := Uc QA
theorem Wr : V9 (Pg.of Tryd.prog) := WA Wi P7
theorem Yq : XV (Pg.of Tryd.prog) := Yw Yc TY P7 Wr
theorem Wg : VF (Pg.of Tryd.prog) := Wm VZ
theorem YR : YL (Pg.of Tryd.prog) := YV Yd TY Wr Wg
theorem Om : EO (Pg.of Tryd.prog) := Go.Proofs.Tryd.O8 (fun _ => False) 
theorem MY : Eg (Pg.of Tryd.prog) := Go.Proofs.Tryd.OI (fun _ => False) 
theorem Pu : IZ (Pg.of Tryd.prog) := QS MO MY
theorem Pt : IY (Pg.of Tryd.prog) := QR MN Om Pu
theorem XB : En (Pg.of Tryd.prog) := Go.Proofs.Tryd.Si (fun _ => False) 
theorem Yg : WU (Pg.of Tryd.prog) := Yo XY Pt XB
theorem XU : Xc (Pg.of Tryd.prog) := Go.Proofs.Tryd.Yt Yg
theorem X6 : W6 (Pg.of Tryd.prog) := Yh XP XU
theorem TL (x : DP YC.ps) (gx : (tyP YC.ps).Good x) : Go.VS.Fn (Pg.of Tryd.prog) "mergelens/mergelenslaw22.SimilarSymmetric" YC x fun (d : Bool) _ => d = true := YJ YH Yq YR XU X6 x

theorem own : ownKnob Tryd.prog.godebug = none := by kernel_rfl
theorem laidOut : laidOutB Tryd.prog = true := by kernel_rfl
theorem RA : G2 Tryd.prog Tryd.f4.params.toList YC.ps = true := by kernel_rfl
theorem readable : Tryd.f4.params.toList.all (fun t => Tryd.prog.readableRec t && decide (t < Tryd.prog.types.size)) = true := by kernel_rfl
theorem Uo {P : Program} {x : String × DataW Unit} {r : List (String × DataW Unit)} {w : World} (h : laidMet P (x :: r) w) : laidMet P r w := by
 obtain ⟨ps, ⟨g, t, cs, fuel, p, q, h1, h2, h3, h4, h5, rfl⟩, hnd, hall⟩ := h
 exact ⟨q, h5, (List.nodup_append.1 hnd).2.1, fun b off hm => hall b off (List.mem_append_right _ hm)⟩
theorem tabs {W : World} (h : laidMetH Tryd.prog Rows.similarSymmetricRow.laid W) (hsh : W.ShapedOpen Tryd.prog) : Gk Tryd.prog W := ⟨fun e he _ => absurd he (by simp [Nb]), fun g hg => by
 obtain rfl : g = 0 := Option.some.inj (hg.symm.trans (show Tryd.prog.globalNamed "internal/bytealg.MaxLen" = some 0 by kernel_rfl))
 exact Pz (t := 3) hsh (of_decide_eq_true (by kernel_rfl)) (by kernel_rfl) (by kernel_rfl) (by kernel_rfl) Tryd.underlying3⟩

set_option maxRecDepth 100000 in
theorem lifted (os : Os) (started : os.Started) (H : Type) (enc : TypeId × Value → H) :
  ReturnsInHanded {} Tryd.checked os 4 .any (fun w args => (Rows.similarSymmetricSpec.pre enc Tryd.prog Tryd.f4 Rows.similarSymmetricRow.domain false w args ∧ laidMetH Tryd.prog Rows.similarSymmetricRow.laid w) ∧ sizedMet enc Tryd.prog Tryd.f4 (OpenSpec.ofChange Rows.similarSymmetricSpec) false w args)
   (Rows.similarSymmetricSpec.post enc Tryd.prog Tryd.f4 false true false false) := by
 refine HG (C := Tryd.checked) (X := fun w _ => laidMetH Tryd.prog Rows.similarSymmetricRow.laid w) (fun _ _ _ hh h => h.of_heap hh) own started (by kernel_rfl) Tryd.func4
  (ChangeSpec.witness_shaped (enc := enc) (C := Tryd.checked) (os := os) (X := fun w _ => laidMetH Tryd.prog Rows.similarSymmetricRow.laid w) false (World.laidAll Tryd.prog os Rows.similarSymmetricRow.laid) #[.slice none 0 0, .string ⟨#[]⟩] 8 (World.laidAll_os _ _ _)
   (World.shaped_of_ZipB (by kernel_rfl) (by kernel_rfl)) (by kernel_rfl) (by kernel_rfl) (by kernel_rfl)
   (by rw [MakeChecks.laidMetH_plain _ _ _ (by kernel_rfl)]; exact laidMet_laidAll _ (by kernel_rfl) (by kernel_rfl))) ?_
 intro W base args ds gs before hsh hval hW hc hsz hL _
 exact MR (P := Tryd.prog) (fun x gx => TL x gx) Tryd.func4 rfl RA laidOut readable rfl Tryd.underlying4 rfl (fun ds hds => by
  match ds, hds with
  | [d1, d2], _ => rfl) W (tabs hL hsh) base args ds gs before hval hW hc hsz

theorem row_holds : Rows.SimilarSymmetricSaid :=
 OpenClaim.holds_of_wide 4 Tryd.f4 rfl rfl rfl rfl rfl rfl rfl ⟨rfl, rfl, rfl, rfl, rfl⟩ rfl rfl rfl rfl rfl (by kernel_rfl) Tryd.func4 (by kernel_rfl)
  (of_decide_eq_true (by kernel_rfl)) (by unfold Func.isWrapper; first | (rw [if_pos (by decide +kernel)]; kernel_rfl) | (rw [if_neg (by decide +kernel)]; exact ⟨rfl, rfl⟩))
  (fun os started H enc henc => lifted os started H enc)

theorem proved : Rows.SimilarSymmetricCardSaid :=
 Claim7.holds_tied_plain_at .later [] [.data, .pinned] true (true, "9dcd681145146b578581eb59497f56647863b7b2db9ad030c7559b09304ef957") false
  row_holds (fun _ h => by cases h) (by kernel_rfl) (fun _ h => by cases h) similarSymmetric_row_tie rfl ⟨rfl, rfl⟩ (by kernel_rfl) rfl
  (fun f fn hf hfn => by
   obtain rfl : f = 4 := Option.some.inj ((show Tryd.prog.funcNamed "mergelens/mergelenslaw22.SimilarSymmetric" = some 4 by kernel_rfl).symm.trans hf) |>.symm
   obtain rfl : fn = Tryd.f4 := (Option.some.inj (Tryd.func4.symm.trans hfn)).symm
   exact ⟨by kernel_rfl, fun j t ht => by
    rw [Tryd.params4] at ht
    have hm : t ∈ [22, 9] := by simpa using Array.mem_of_getElem? ht
    have hall : ([22, 9].all fun u => !Tryd.prog.wantsStandIn u) = true := by kernel_rfl
    exact (show Tryd.prog.wantsStandIn t = false by simpa using List.all_eq_true.1 hall t hm)⟩)
  (by kernel_rfl)
#print axioms proved
end Go.Proofs.YtbpbcfiodckhjaaDoor.similarSymmetric
