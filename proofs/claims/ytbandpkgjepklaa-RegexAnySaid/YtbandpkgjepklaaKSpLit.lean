/- Literals: what a pattern of escaped bytes is read as. -/
import Derived.Test.YtbandpkgjepklaaKSpPrs
set_option linter.unusedVariables false
set_option linter.unusedSimpArgs false
namespace Go.VS
def AbH (c : Int) : Prop := c = 40 ∨ c = 41 ∨ c = 91 ∨ c = 123 ∨ c = 42 ∨ c = 43 ∨ c = 63 ∨ c = 124 ∨ c = 46 ∨ c = 94 ∨ c = 36 ∨ c = 92
instance (c : Int) : Decidable (AbH c) := by unfold AbH; infer_instance
def Acf (b : UInt8) : Bs := if AbH ((b.toNat : Nat) : Int) then [92, b] else [b]
def AbQ (s : Bs) : Bs := s.flatMap Acf
theorem AcE (b : UInt8) : 1 ≤ (Acf b).length ∧ (Acf b).length ≤ 2 := by
 unfold Acf
 split <;> simp
theorem Aci : ∀ s : Bs, s.length ≤ (AbQ s).length ∧ (AbQ s).length ≤ 2 * s.length
 | [] => by simp [AbQ]
 | b :: s => by
  have h1 := AcE b
  have h2 := Aci s
  unfold AbQ at h2 ⊢
  rw [List.flatMap_cons, List.length_append, List.length_cons]
  omega
def Ab1 (P : Pg) : Prop := ∀ s : Bs, s.length ≤ 17592186044416 → Fn P Y6 AbK s fun (d : Bs) _ => d = AbQ s
def specials : Bs := [40, 41, 91, 123, 42, 43, 63, 124, 46, 94, 36, 92]
theorem AcF (b : UInt8) : b ∈ specials ↔ AbH ((b.toNat : Nat) : Int) := by
 have key : ∀ k : UInt8, b = k ↔ ((b.toNat : Nat) : Int) = ((k.toNat : Nat) : Int) := fun k => ⟨fun h => by rw [h], fun h => UInt8.toNat_inj.1 (by omega)⟩
 simp only [specials, List.mem_cons, List.not_mem_nil, or_false, key]
 exact Iff.rfl
end Go.VS
