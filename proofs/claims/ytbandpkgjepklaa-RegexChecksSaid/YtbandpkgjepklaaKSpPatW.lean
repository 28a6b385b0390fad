/- Weights of what is read of a pattern. -/
import Derived.Test.YtbandpkgjepklaaKSpPars
import Derived.Test.YtbandpkgjepklaaKSpWt
set_option linter.unusedVariables false
set_option linter.unusedSimpArgs false
set_option linter.unusedSectionVars false
namespace Go.VS
variable {P : Pg}
section
variable {rec : Int → Nat → List Node → Eh} {s : Bs} {d : Int} {I : Nat → Prop} {c : Int}
end
structure Mild (s : Bs) : Prop where
 dig : ∀ p, p < s.length → 48 ≤ byt s p → byt s p ≤ 57 → byt s p ≤ 50 ∧ p + 1 < s.length ∧ ¬ (48 ≤ byt s (p + 1) ∧ byt s (p + 1) ≤ 57)
 grp : ∀ p, p < s.length → byt s p = 40 → ∃ q, q < p + 5 ∧ (p < q ∧ q < s.length ∧ byt s q = 41 ∧ ∀ i, i < q → p < i → (byt s i = 97 ∨ byt s i = 98 ∨ byt s i = 124))
theorem Mild.num {s : Bs} (h : Mild s) {a : Nat} {v : Int} {e : Nat} (hn : EW s a = some (v, e)) : v ≤ 2 := by
 unfold EW at hn
 split at hn
 ·rw [OP] at hn
  split at hn
  ·rename_i hd
   simp only [isD, Bool.and_eq_true, decide_eq_true_eq] at hd
   obtain ⟨h1, h2, h3⟩ := h.dig a hd.1 hd.2.1 hd.2.2
   rw [if_neg (by omega)] at hn
   split at hn
   ·cases hn
   obtain ⟨f, hf⟩ : ∃ f, s.length = f + 1 := ⟨s.length - 1, by omega⟩
   rw [hf, OP] at hn
   rw [if_neg, if_neg (by omega)] at hn
   ·simp only [Option.some.injEq, Prod.mk.injEq] at hn
    omega
   ·simp only [isD, Bool.and_eq_true, decide_eq_true_eq]
    rintro ⟨_, h4, h5⟩
    exact h3 ⟨h4, h5⟩
  ·rw [if_pos rfl] at hn; cases hn
 ·cases hn
theorem Mild.bounds {s : Bs} (h : Mild s) {a : Nat} {lo hi : Int} {e : Nat} (hb : B4 s a = some (lo, (hi, e))) : lo ≤ 2 ∧ hi ≤ 2 := by
 unfold B4 at hb
 split at hb
 ·cases hb
 rename_i lo' nx h1
 have k1 := h.num h1
 split at hb
 ·cases hb
 rename_i hi' e' h2
 split at hb
 ·cases hb
  refine ⟨k1, ?_⟩
  split at h2
  ·split at h2
   ·exact h.num h2
   ·cases h2; decide
  ·cases h2; exact k1
 ·cases hb
theorem YC {s : Bs} {l : List Node} (h : Dy s = (l, 0)) : Aad l ∧ KB l ∧ s.length ≤ 256 := by
 unfold Dy at h
 split at h
 ·cases h
 rename_i hs
 have hg := C7 s 51 0 0 [] (Nat.zero_le _)
 split at h
 ·rename_i e he
  rw [he] at hg
  cases h
  exact absurd rfl hg
 rename_i k b l1 he
 rw [he] at hg
 have hg : Grow s 0 [] 0 k b l1 := hg
 split at h
 ·cases h
 cases h
 have hlen := hg.len; have hmore := hg.more; have hhi := hg.hi
 simp only [List.length_nil] at hlen hmore
 refine ⟨⟨by omega, by omega, fun i hi => (hg.ok i (Nat.zero_le _) hi).1⟩, fun i => ?_, by omega⟩
 rcases Nat.lt_or_ge i l.length with h1 | h1
 ·have := (hg.ok i (Nat.zero_le _) h1).2
  omega
 ·have : l.getD i Ak = Ak := by simp [List.getD_eq_getElem?_getD, List.getElem?_eq_none h1]
  rw [this]
  simp [Ak]
end Go.VS
