/- Words joined by spaces are read back. -/
import Derived.Test.YtcaandgkdmidkaaDoorKSpQr
set_option linter.unusedVariables false
set_option linter.unusedSimpArgs false
namespace Go.VS
variable {P : Pg}
def jq : List Bs → Bs
 | [] => []
 | [a] => Ar a
 | a :: b :: l => Ar a ++ 32 :: jq (b :: l)
theorem Q9 (a : Bs) : jq [a] = Ar a := rfl
theorem Ra (a b : Bs) (l : List Bs) : jq (a :: b :: l) = Ar a ++ 32 :: jq (b :: l) := rfl
theorem KJ (s : Bs) : 0 < (Ar s).length := by
 unfold Ar
 split
 ·rename_i h
  cases s with
  | nil => cases h
  | cons => simp
 ·simp
theorem VE : ∀ (l : List Bs) (a p : Bs) (f : Nat) (out : List Bs), l.length < f → wdN (p ++ jq (a :: l)) f out ((p.length : Nat) : Int) = (out ++ a :: l, true)
 | [], a, p, f + 1, out, _ => by
  have hu := QI p a [] (.inl rfl)
  rw [List.append_nil] at hu
  rw [wdN, Q9, hu, if_neg (by simp), if_pos (by simp)]
 | b :: l, a, p, f + 1, out, h => by
  have hu := QI p a (32 :: jq (b :: l)) (.inr (by rw [B2]; rfl))
  rw [wdN, Ra, hu, if_neg (by simp)]
  dsimp only
  have hlen : (p ++ (Ar a ++ 32 :: jq (b :: l))).length = p.length + (Ar a).length + 1 + (jq (b :: l)).length := by
   simp only [List.length_append, List.length_cons]
   omega
  have hby : byt (p ++ (Ar a ++ 32 :: jq (b :: l))) (p.length + (Ar a).length) = 32 := by
   rw [Lx, show (Ar a).length = (Ar a).length + 0 from rfl, Lx, B2]
   rfl
  rw [if_neg (by omega), show ((p.length + (Ar a).length : Nat) : Int).toNat = p.length + (Ar a).length by omega, hby, if_neg (by simp)]
  have e : p ++ (Ar a ++ 32 :: jq (b :: l)) = (p ++ Ar a ++ [32]) ++ jq (b :: l) := by simp
  have e2 : ((p.length + (Ar a).length : Nat) : Int) + 1 = (((p ++ Ar a ++ [32]).length : Nat) : Int) := by
   simp
   omega
  rw [e, e2, VE l b _ f _ (by simp at h; omega)]
  simp
 | _, _, _, 0, _, h => absurd h (by omega)
theorem U3 : ∀ (l : List Bs), l.length ≤ (jq l).length
 | [] => by simp
 | [a] => by
  have := KJ a
  rw [Q9]
  simp
  omega
 | a :: b :: l => by
  have := U3 (b :: l)
  have := KJ a
  rw [Ra]
  simp only [List.length_append, List.length_cons] at this ⊢
  simp only [List.length_cons] at *
  omega
theorem Ej (l : List Bs) : Ei (jq l) = (l, true) := by
 unfold Ei
 cases l with
 | nil => rfl
 | cons a l =>
  have hn := U3 (a :: l)
  have hne : jq (a :: l) ≠ [] := fun h => by
   rw [h] at hn
   simp at hn
  rw [if_neg hne]
  have := VE l a [] ((jq (a :: l)).length + 1) [] (by simp at hn; omega)
  simpa using this
theorem SE (s : Bs) : ∀ (f : Nat) (out : List Bs) (i : Int), (wdN s f out i).1.length ≤ out.length + f
 | 0, _, _ => by simp [wdN]
 | f + 1, out, i => by
  rw [wdN]
  split
  ·simp
  split
  ·simp
  split
  ·simp
  ·have := SE s f (out ++ [(FL (s, i)).1]) ((FL (s, i)).2.1 + 1)
   simp only [List.length_append, List.length_cons, List.length_nil] at this
   omega
theorem Ub (s : Bs) : (Ei s).1.length ≤ s.length + 1 := by
 unfold Ei
 split
 ·simp
 ·have := SE s (s.length + 1) [] 0
  simpa using this
end Go.VS
