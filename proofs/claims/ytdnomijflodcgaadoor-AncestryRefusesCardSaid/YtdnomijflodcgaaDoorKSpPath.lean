/- Paths: names between separators. -/
import Derived.Test.YtdnomijflodcgaaDoorKSpNb
set_option linter.unusedVariables false
set_option linter.unusedSimpArgs false
namespace Go.VS
variable {P : Pg}
def spN (acc : Bs) : Bs → List Bs
 | [] => [acc]
 | b :: r => if b = 47 then acc :: spN [] r else spN (acc ++ [b]) r
def NW (n : Bs) : Bool := !(n == [] || n == [46] || n == [46, 46])
def EF (s : Bs) : Int := if s.length > 200 ∨ (0 : UInt8) ∈ s then 210 else if (spN [] s).all NW then 0 else 210
def Fb (P : Pg) : Prop := ∀ s : Bs, s.length ≤ 140737488351232 → Fn P AaM DJ s fun (d : Int) _ => d = EF s
theorem U9 : ∀ (l acc r : Bs), (∀ b ∈ l, b ≠ 47) → spN acc (l ++ 47 :: r) = (acc ++ l) :: spN [] r
 | [], acc, r, h => by rw [List.nil_append, spN, if_pos rfl]; simp
 | b :: l, acc, r, h => by
  rw [List.cons_append, spN, if_neg (h b (List.mem_cons_self ..)), U9 l _ r fun c hc => h c (List.mem_cons_of_mem _ hc)]
  simp
theorem Aaj : ∀ (l acc : Bs), (∀ b ∈ l, b ≠ 47) → spN acc l = [acc ++ l]
 | [], acc, h => by simp [spN]
 | b :: l, acc, h => by
  rw [spN, if_neg (h b (List.mem_cons_self ..)), Aaj l _ fun c hc => h c (List.mem_cons_of_mem _ hc)]
  simp
theorem Acb : ∀ s : Bs, (∀ b ∈ s, b ≠ 47) ∨ ∃ l r, s = l ++ 47 :: r ∧ ∀ b ∈ l, b ≠ 47
 | [] => .inl (by simp)
 | b :: s => by
  by_cases hb : b = 47
  ·subst hb; exact .inr ⟨[], s, rfl, by simp⟩
  ·rcases Acb s with h | ⟨l, r, rfl, h⟩
   ·refine .inl fun c hc => ?_
    rcases List.mem_cons.1 hc with rfl | hc
    ·exact hb
    ·exact h c hc
   ·refine .inr ⟨b :: l, r, rfl, fun c hc => ?_⟩
    rcases List.mem_cons.1 hc with rfl | hc
    ·exact hb
    ·exact h c hc
end Go.VS
