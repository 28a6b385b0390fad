/- The lines of a text. -/
import Derived.Test.YtcaandgkdmidkaaDoorKSpBase
import Derived.Test.YtcaandgkdmidkaaDoorKGf0
import Derived.Test.YtcaandgkdmidkaaDoorKSpNb
set_option linter.unusedVariables false
set_option linter.unusedSimpArgs false
namespace Go.VS
variable {P : Pg}
def lnN (acc : Bs) : Bs → List Bs
 | [] => []
 | b :: r => if b = 10 ∨ r = [] then (acc ++ [b]) :: lnN [] r else lnN (acc ++ [b]) r
def lnF (s : Bs) : List Bs := lnN [] s
theorem AcJ : ∀ (l acc r : Bs), (∀ b ∈ l, b ≠ 10) → lnN acc (l ++ (10 :: r)) = (acc ++ (l ++ [10])) :: lnN [] r
 | [], acc, r, h => by rw [List.nil_append, lnN, if_pos (Or.inl rfl)]; rfl
 | b :: l, acc, r, h => by
  rw [List.cons_append, lnN, if_neg (by rintro (h1 | h1); exact h b (List.mem_cons_self ..) h1; simp at h1), AcJ l _ r fun c hc => h c (List.mem_cons_of_mem _ hc)]
  simp
def AcS (l : Bs) : Prop := ∃ k : Bs, l = k ++ [10] ∧ ∀ b ∈ k, b ≠ 10
theorem AcV {l : Bs} (h : AcS l) (r : Bs) : lnF (l ++ r) = l :: lnF r := by
 obtain ⟨k, rfl, hk⟩ := h
 unfold lnF
 rw [List.append_assoc, List.singleton_append, AcJ k [] r hk]
 rfl
theorem AcI : ∀ (L : List Bs) (r : Bs), (∀ l ∈ L, AcS l) → lnF (L.flatten ++ r) = L ++ lnF r
 | [], r, h => rfl
 | l :: L, r, h => by
  rw [List.flatten_cons, List.append_assoc, AcV (h l (List.mem_cons_self ..)), AcI L r fun k hk => h k (List.mem_cons_of_mem _ hk)]
  rfl
theorem SC {s : Bs} {i : Nat} (h : i < s.length) : List.take (i + 1) s = List.take i s ++ [s.getD i 0] := by
 rw [List.take_add_one, List.getElem?_eq_getElem h, List.getD_eq_getElem?_getD, List.getElem?_eq_getElem h]
 rfl
end Go.VS
