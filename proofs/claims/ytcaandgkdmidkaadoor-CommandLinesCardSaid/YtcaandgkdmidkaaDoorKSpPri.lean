/- Quoted words are printable. -/
import Derived.Test.YtcaandgkdmidkaaDoorKSpScan
import Derived.Test.YtcaandgkdmidkaaDoorKSpNb
set_option linter.unusedVariables false
set_option linter.unusedSimpArgs false
namespace Go.VS
variable {P : Pg}
theorem Yd : ∀ n : Nat, n < 256 → (UInt8.ofNat (48 + n / 64)).toNat = 48 + n / 64 ∧ (UInt8.ofNat (48 + n / 8 % 8)).toNat = 48 + n / 8 % 8 ∧ (UInt8.ofNat (48 + n % 8)).toNat = 48 + n % 8 := by decide +kernel
theorem AcQ : ∀ n : Nat, n < 256 → ∀ b ∈ [(92 : UInt8), UInt8.ofNat (48 + n / 64), UInt8.ofNat (48 + n / 8 % 8), UInt8.ofNat (48 + n % 8)], 32 ≤ b.toNat ∧ b.toNat ≤ 126 := by
 intro n hn b hb
 obtain ⟨o1, o2, o3⟩ := Yd n hn
 simp only [List.mem_cons, List.not_mem_nil, or_false] at hb
 rcases hb with rfl | rfl | rfl | rfl
 ·decide
 ·rw [o1]; omega
 ·rw [o2]; omega
 ·rw [o3]; omega
theorem AcP (b : UInt8) : ∀ c ∈ BF b, 32 ≤ c.toNat ∧ c.toNat ≤ 126 := by
 unfold BF
 split
 ·rename_i h
  rcases h with rfl | rfl <;> decide
 split
 ·decide
 split
 ·decide
 split
 ·exact AcQ b.toNat (UInt8.toNat_lt b)
 ·intro c hc
  rw [List.mem_singleton.1 hc]
  omega
theorem AcK (s : Bs) : ∀ c ∈ Ar s, 32 ≤ c.toNat ∧ c.toNat ≤ 126 := by
 unfold Ar
 split
 ·rename_i h
  intro c hc
  simp only [Bool.and_eq_true, List.all_eq_true] at h
  have := h.2 c hc
  unfold CE C5 at this
  by_cases h1 : ((c.toNat : Nat) : Int) ≥ 33
  ·by_cases h2 : ((c.toNat : Nat) : Int) ≤ 126
   ·omega
   ·simp [h1, h2] at this
  ·simp [h1] at this
 ·intro c hc
  simp only [List.mem_cons, List.mem_append, List.mem_flatMap, List.not_mem_nil, or_false] at hc
  rcases hc with rfl | ⟨b, _, h⟩ | rfl
  ·decide
  ·exact AcP b c h
  ·decide
end Go.VS
