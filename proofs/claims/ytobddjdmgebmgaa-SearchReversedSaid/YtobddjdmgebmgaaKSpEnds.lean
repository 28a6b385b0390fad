/- Where paths of an automaton end; the document's table. -/
import Derived.Test.YtobddjdmgebmgaaKSpClose
set_option linter.unusedVariables false
set_option linter.unusedSimpArgs false
set_option linter.unusedSectionVars false
namespace Go.VS
variable {P : Program}

def rdR (A : List State) (c : UInt8) (i j : Nat) : Prop := (A.getD i zState).1 = 0 ∧ hasF (A.getD i zState).2.1 (c.toNat : Int) = true ∧ j = (A.getD i zState).2.2.1.toNat
/-- A path that began at offset i is in this state at offset j. -/
inductive On (a : Auto) (s : List UInt8) (i : Nat) : Nat → Nat → Prop
  | start : On a s i i a.2.toNat
  | eps {j p q : Nat} (h : On a s i j p) (e : epsR a.1 (j == 0) (j == s.length) p q) : On a s i j q
  | read {j p q : Nat} (h : On a s i j p) (hj : j < s.length) (r : rdR a.1 (s.getD j 0) p q) : On a s i (j + 1) q
def acc (a : Auto) (s : List UInt8) (i j : Nat) : Prop := ∃ q, On a s i j q ∧ (a.1.getD q zState).1 = 4

theorem Valid.okl {a : Auto} (v : Valid a) : OkL a.1 := v.ok
theorem rd_lt {A : List State} (h : OkL A) {c : UInt8} {i j : Nat} (hi : i < A.length) (r : rdR A c i j) : j < A.length := by
  obtain ⟨k, _, rfl⟩ := r
  obtain ⟨h1, h2, h3, h4⟩ := h i hi
  have := h3 (by omega); omega
section
variable {a : Auto} {s : List UInt8} {i : Nat}
theorem On.lt (v : Valid a) {j q : Nat} (h : On a s i j q) : q < a.1.length := by
  induction h with
  | start => have := v.s0; have := v.s1; omega
  | eps _ e ih => exact eps_lt v.okl ih e
  | read _ _ r ih => exact rd_lt v.okl ih r
theorem On.le {j q : Nat} (h : On a s i j q) : i ≤ j := by
  induction h with
  | start => exact Nat.le_refl _
  | eps _ _ ih => exact ih
  | read _ _ _ ih => omega
theorem On.le_len {j q : Nat} (hi : i ≤ s.length) (h : On a s i j q) : j ≤ s.length := by
  induction h with
  | start => exact hi
  | eps _ _ ih => exact ih
  | read _ hj _ _ => omega
theorem acc.le {j : Nat} (h : acc a s i j) : i ≤ j := by obtain ⟨q, h, _⟩ := h; exact h.le
theorem acc.le_len {j : Nat} (hi : i ≤ s.length) (h : acc a s i j) : j ≤ s.length := by obtain ⟨q, h, _⟩ := h; exact h.le_len hi
/-- Where a path is before it goes on without reading. -/
def Seed (a : Auto) (s : List UInt8) (i j q : Nat) : Prop := (j = i ∧ q = a.2.toNat) ∨ ∃ j' p, j = j' + 1 ∧ On a s i j' p ∧ j' < s.length ∧ rdR a.1 (s.getD j' 0) p q
theorem Seed.on {j q : Nat} (h : Seed a s i j q) : On a s i j q := by
  rcases h with ⟨rfl, rfl⟩ | ⟨j', p, rfl, h1, h2, h3⟩
  · exact .start
  · exact .read h1 h2 h3
theorem Seed.lt (v : Valid a) {j q : Nat} (h : Seed a s i j q) : q < a.1.length := h.on.lt v
theorem on_iff {j q : Nat} : On a s i j q ↔ ∃ p, Seed a s i j p ∧ Rch a.1 (j == 0) (j == s.length) p q := by
  constructor
  · intro h
    induction h with
    | start => exact ⟨_, .inl ⟨rfl, rfl⟩, .refl _⟩
    | eps _ e ih => obtain ⟨p, h1, h2⟩ := ih; exact ⟨p, h1, h2.tail e⟩
    | read h hj r _ => exact ⟨_, .inr ⟨_, _, rfl, h, hj, r⟩, .refl _⟩
  · rintro ⟨p, h1, h2⟩
    induction h2 with
    | refl => exact h1.on
    | tail _ e ih => exact ih.eps e
end

end Go.VS
