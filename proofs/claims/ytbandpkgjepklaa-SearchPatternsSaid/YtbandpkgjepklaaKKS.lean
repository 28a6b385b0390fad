/- What the library's IndexByte, CutPrefix and Cut give, as contracts. -/
import Derived.Test.YtbandpkgjepklaaKKShelf
import Derived.Test.YtbandpkgjepklaaKS0
import Derived.Test.YtbandpkgjepklaaFwD
import Derived.WalkSmall
set_option linter.unusedVariables false
set_option linter.unusedSimpArgs false
open Option.some renaming inj → Qa0
namespace Go.Proofs.Try
open Go.Shelf Go.RowKit Go.VS
theorem Rj : ∀ (l : Bs) (c : UInt8), 0 ≤ Lib.indexByte l c ↔ c ∈ l
 | [], c => by simp [Lib.indexByte]
 | b :: l, c => by
  have h := Rj l c; have hg := Lib.indexByte_ge l c; rw [Lib.indexByte]
  by_cases hb : b = c
  ·subst hb; simp
  ·rw [if_neg (by simpa using hb), List.mem_cons, ← h]; split
   ·rename_i h1
    have h1 : Lib.indexByte l c = -1 := by simpa using h1
    rw [h1]; simp [Ne.symm hb]
   ·rename_i h1
    have h1 : ¬ Lib.indexByte l c = -1 := by simpa using h1
    simp [Ne.symm hb]; omega
theorem VT (c : Int) (h0 : 0 ≤ c) (h1 : c ≤ 255) (b : UInt8) : b = c.toNat.toUInt8 ↔ ((b.toNat : Nat) : Int) = c := by
 have hb := b.toNat_lt; constructor
 ·rintro rfl; have : (c.toNat.toUInt8).toNat = c.toNat % 256 := rfl; rw [this]; omega
 ·rintro h; apply UInt8.toNat_inj.1; have : (c.toNat.toUInt8).toNat = c.toNat % 256 := rfl; rw [this]; omega
theorem SJ (w : World) (n : Nat) : Below w.heap.size w (w.drewN n) := ⟨rfl, rfl, rfl, Nat.le_refl _, fun _ _ => rfl⟩
theorem RY (kp : Value → Prop) : Jg ⟨prog, kp⟩ := by
 rintro ⟨s, c⟩ h0 h1; dsimp only at h0 h1
 refine Fn.N4 (S := Dt) rfl rfl (s, c) (Lib.indexByte s c.toNat.toUInt8) () ?_ fun f fn hf hn => ?_
 ·show Lib.indexByte s c.toNat.toUInt8 ≥ 0 ↔ _; rw [ge_iff_le, Rj]; constructor
  ·exact fun h => ⟨_, h, (VT c h0 h1 _).1 rfl⟩
  ·rintro ⟨b, hb, h⟩; rw [← (VT c h0 h1 b).2 h]; exact hb
 have hfi : f = 36 := O8 (P := ⟨prog, kp⟩) (by kernel_rfl) hf hn; subst hfi; have hfe := Qa0 (hf.symm.trans func36); subst hfe; refine ⟨by kernel_rfl, by kernel_rfl, fun w hw => ?_⟩
 exact (Try.strings_IndexByte ⟨s.toArray⟩ c w).mono fun e w' ⟨he, hw'⟩ => ⟨he, by rw [hw']; exact Below.refl _ _⟩
theorem RO (kp : Value → Prop) : Jf ⟨prog, kp⟩ := by
 rintro ⟨s, p⟩
 refine Fn.N4 (S := Ds) rfl rfl (s, p) (Lib.trimPrefix s p, Lib.hasPrefix s p) () rfl fun f fn hf hn => ?_
 have hfi : f = 102 := O8 (P := ⟨prog, kp⟩) (by kernel_rfl) hf hn; subst hfi; have hfe := Qa0 (hf.symm.trans func102); subst hfe; refine ⟨by kernel_rfl, by kernel_rfl, fun w hw => ?_⟩
 exact (Try.strings_CutPrefix ⟨s.toArray⟩ ⟨p.toArray⟩ w).mono fun e w' ⟨he, hw'⟩ => ⟨he, by rw [hw']; exact Below.refl _ _⟩
theorem Aar (kp : Value → Prop) : Uy ⟨prog, kp⟩ := by
 rintro ⟨s, p⟩ hs; dsimp only at hs
 refine Fn.N4 (S := Gp) rfl rfl (s, p) (Lib.cut s p) () rfl fun f fn hf hn => ?_
 have hfi : f = 103 := O8 (P := ⟨prog, kp⟩) (by kernel_rfl) hf hn; subst hfi; have hfe := Qa0 (hf.symm.trans func103); subst hfe; refine ⟨by kernel_rfl, by kernel_rfl, fun w hw => ?_⟩; obtain ⟨m, hm⟩ := hw.good.ml 0 (by kernel_rfl)
 exact (Try.strings_Cut ⟨s.toArray⟩ ⟨p.toArray⟩ m w (by simpa [ByteArray.size] using hs) hm).mono fun e w' ⟨he, n, hw'⟩ => ⟨he, by rw [hw']; exact SJ _ _⟩
end Go.Proofs.Try
