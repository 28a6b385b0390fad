/- Words joined by spaces are read back. -/
import Derived.Test.YtcaandgkdmidkaaKSpQr
set_option linter.unusedVariables false
set_option linter.unusedSimpArgs false
namespace Go.VS
variable {P : Pg}
def jq : List Bs → Bs
 | [] => []
 | [a] => Av a
 | a :: b :: l => Av a ++ 32 :: jq (b :: l)
theorem RR (a : Bs) : jq [a] = Av a := rfl
theorem RS (a b : Bs) (l : List Bs) : jq (a :: b :: l) = Av a ++ 32 :: jq (b :: l) := rfl
theorem Lb (s : Bs) : 0 < (Av s).length := by
 unfold Av
 split
 ·rename_i h
  cases s with
  | nil => cases h
  | cons => simp
 ·simp
theorem V7 : ∀ (l : List Bs) (a p : Bs) (f : Nat) (out : List Bs), l.length < f → wdN (p ++ jq (a :: l)) f out ((p.length : Nat) : Int) = (out ++ a :: l, true)
 | [], a, p, f + 1, out, _ => by
  have hu := Rn p a [] (.inl rfl)
  rw [List.append_nil] at hu
  rw [wdN, RR, hu, if_neg (by simp), if_pos (by simp)]
 | b :: l, a, p, f + 1, out, h => by
  have hu := Rn p a (32 :: jq (b :: l)) (.inr (by rw [B8]; rfl))
  rw [wdN, RS, hu, if_neg (by simp)]
  dsimp only
  have hlen : (p ++ (Av a ++ 32 :: jq (b :: l))).length = p.length + (Av a).length + 1 + (jq (b :: l)).length := by
   simp only [List.length_append, List.length_cons]
   omega
  have hby : byt (p ++ (Av a ++ 32 :: jq (b :: l))) (p.length + (Av a).length) = 32 := by
   rw [L0, show (Av a).length = (Av a).length + 0 from rfl, L0, B8]
   rfl
  rw [if_neg (by omega), show ((p.length + (Av a).length : Nat) : Int).toNat = p.length + (Av a).length by omega, hby, if_neg (by simp)]
  have e : p ++ (Av a ++ 32 :: jq (b :: l)) = (p ++ Av a ++ [32]) ++ jq (b :: l) := by simp
  have e2 : ((p.length + (Av a).length : Nat) : Int) + 1 = (((p ++ Av a ++ [32]).length : Nat) : Int) := by
   simp
   omega
  rw [e, e2, V7 l b _ f _ (by simp at h; omega)]
  simp
 | _, _, _, 0, _, h => absurd h (by omega)
theorem Vv : ∀ (l : List Bs), l.length ≤ (jq l).length
 | [] => by simp
 | [a] => by
  have := Lb a
  rw [RR]
  simp
  omega
 | a :: b :: l => by
  have := Vv (b :: l)
  have := Lb a
  rw [RS]
  simp only [List.length_append, List.length_cons] at this ⊢
  simp only [List.length_cons] at *
  omega
theorem DO (l : List Bs) : CQ (jq l) = (l, true) := by
 unfold CQ
 cases l with
 | nil => rfl
 | cons a l =>
  have hn := Vv (a :: l)
  have hne : jq (a :: l) ≠ [] := fun h => by
   rw [h] at hn
   simp at hn
  rw [if_neg hne]
  have := V7 l a [] ((jq (a :: l)).length + 1) [] (by simp at hn; omega)
  simpa using this
theorem Tn (s : Bs) : ∀ (f : Nat) (out : List Bs) (i : Int), (wdN s f out i).1.length ≤ out.length + f
 | 0, _, _ => by simp [wdN]
 | f + 1, out, i => by
  rw [wdN]
  split
  ·simp
  split
  ·simp
  split
  ·simp
  ·have := Tn s f (out ++ [(Dv (s, i)).1]) ((Dv (s, i)).2.1 + 1)
   simp only [List.length_append, List.length_cons, List.length_nil] at this
   omega
theorem O5 (s : Bs) : (CQ s).1.length ≤ s.length + 1 := by
 unfold CQ
 split
 ·simp
 ·have := Tn s (s.length + 1) [] 0
  simpa using this
end Go.VS
