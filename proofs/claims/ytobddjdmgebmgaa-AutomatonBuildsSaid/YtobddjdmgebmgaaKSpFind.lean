/- The program's search. -/
import Derived.Test.YtobddjdmgebmgaaKSpRefs
set_option linter.unusedVariables false
set_option linter.unusedSimpArgs false
set_option linter.unusedSectionVars false
namespace Go.VS
variable {P : Program}
structure TI (a : Auto) (s : List UInt8) (lo hi at_ : Nat) (T : List (Int × Int)) : Prop where
 mem : ∀ q f : Int, (q, f) ∈ T ↔ 0 ≤ q ∧ (lo : Int) ≤ f ∧ f < (hi : Int) ∧ On a s f.toNat at_ q.toNat ∧ ∀ f' : Nat, lo ≤ f' → (f' : Int) < f → ¬ On a s f' at_ q.toNat
 sorted : T.Pairwise (fun t u => t.2 ≤ u.2)
 len : T.length ≤ a.1.length
section
variable {a : Auto} {s : List UInt8} {lo hi at_ : Nat} {T T' : List (Int × Int)} {seen seen' : List Bool}
theorem TI.range (h : TI a s lo hi at_ T) (v : Valid a) : ∀ t ∈ T, 0 ≤ t.1 ∧ t.1 < (a.1.length : Int) := by
 rintro ⟨q, f⟩ ht
 obtain ⟨h1, _, _, h2, _⟩ := (h.mem q f).1 ht
 have := h2.lt v
 exact ⟨h1, by dsimp only at h1 ⊢; omega⟩
end
end Go.VS
