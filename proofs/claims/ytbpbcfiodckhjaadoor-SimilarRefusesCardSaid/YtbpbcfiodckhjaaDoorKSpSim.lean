/- How alike two blobs are. -/
import Derived.Test.YtbpbcfiodckhjaaDoorKSpTree
set_option linter.unusedVariables false
set_option linter.unusedSimpArgs false
namespace Go.VS
variable {P : Pg}
def ZQ (l : List Bs) (s : Bs) : Option Int := if s ∈ l then some ((l.count s : Nat) : Int) else none
theorem Aap (l : List Bs) (x : Bs) (s : Bs) : ZQ (l ++ [x]) s = if s = x then some ((((l.count x : Nat) : Int)) + 1) else ZQ l s := by
 unfold ZQ
 by_cases h : s = x
 ·subst h
  rw [if_pos (by simp), if_pos rfl, List.count_append, List.count_singleton_self]
  rfl
 ·rw [if_neg h, List.count_append, List.count_eq_zero_of_not_mem (by simpa using h : s ∉ [x])]
  simp [h]
theorem ZV (l : List Bs) (s : Bs) : (ZQ l s).getD 0 = ((l.count s : Nat) : Int) := by
 unfold ZQ
 by_cases h : s ∈ l
 ·rw [if_pos h]; rfl
 ·rw [if_neg h, List.count_eq_zero_of_not_mem h]; rfl
def ddF : List Bs → List Bs
 | [] => []
 | a :: l => if a ∈ l then ddF l else a :: ddF l
theorem ZS : ∀ (l : List Bs) (s : Bs), s ∈ ddF l ↔ s ∈ l
 | [], s => Iff.rfl
 | a :: l, s => by
  rw [ddF]
  split
  ·rename_i h
   rw [ZS l s, List.mem_cons]
   exact ⟨.inr, fun h2 => h2.elim (fun e => e ▸ h) id⟩
  ·rw [List.mem_cons, List.mem_cons, ZS l s]
theorem Z0 : ∀ l : List Bs, (ddF l).Nodup
 | [] => List.nodup_nil
 | a :: l => by
  rw [ddF]
  split
  ·exact Z0 l
  ·rename_i h
   exact List.nodup_cons.2 ⟨fun h2 => h ((ZS l a).1 h2), Z0 l⟩
theorem Aaf : ∀ l : List Bs, (ddF l).length ≤ l.length
 | [] => Nat.le_refl _
 | a :: l => by
  rw [ddF]
  have := Aaf l
  split
  ·rw [List.length_cons]; omega
  ·rw [List.length_cons, List.length_cons]; omega
def Z1 (x y : List Bs) (s : Bs) : Int := (if ((y.count s : Nat) : Int) < ((x.count s : Nat) : Int) then ((y.count s : Nat) : Int) else ((x.count s : Nat) : Int)) * ((s.length : Nat) : Int)
def Z5 (x y : List Bs) : List Bs → Int
 | [] => 0
 | s :: l => Z1 x y s + Z5 x y l
theorem Z7 (x y : List Bs) : ∀ {l : List Bs} {s : Bs}, s ∈ l → Z5 x y l = Z1 x y s + Z5 x y (l.erase s)
 | a :: l, s, h => by
  by_cases e : a = s
  ·subst e; rw [List.erase_cons_head]; rfl
  ·rw [List.erase_cons_tail (by simpa using e)]
   rcases List.mem_cons.1 h with h | h
   ·exact absurd h.symm e
   ·rw [Z5, Z5, Z7 x y h]; omega
theorem Z2 {x y : List Bs} {s : Bs} (hx : x.length ≤ 4096) (hs : s.length ≤ 1048576) : 0 ≤ Z1 x y s ∧ Z1 x y s ≤ 4294967296 := by
 unfold Z1
 have h1 : x.count s ≤ x.length := List.count_le_length
 have h2 : (if ((y.count s : Nat) : Int) < ((x.count s : Nat) : Int) then ((y.count s : Nat) : Int) else ((x.count s : Nat) : Int)) ≤ 4096 := by split <;> omega
 have h3 : 0 ≤ (if ((y.count s : Nat) : Int) < ((x.count s : Nat) : Int) then ((y.count s : Nat) : Int) else ((x.count s : Nat) : Int)) := by split <;> omega
 refine ⟨Int.mul_nonneg h3 (Int.natCast_nonneg _), ?_⟩
 exact Int.le_trans (Int.mul_le_mul h2 (show ((s.length : Nat) : Int) ≤ 1048576 by omega) (Int.natCast_nonneg _) (by decide)) (by decide)
theorem ZP {x y : List Bs} (hx : x.length ≤ 4096) : ∀ {l : List Bs}, (∀ s ∈ l, s.length ≤ 1048576) → 0 ≤ Z5 x y l ∧ Z5 x y l ≤ 4294967296 * (l.length : Int)
 | [], _ => ⟨Int.le_refl _, Int.le_refl _⟩
 | s :: l, h => by
  have h1 := Z2 (y := y) hx (h s (List.mem_cons_self ..))
  have h2 := ZP (y := y) hx (l := l) fun t ht => h t (List.mem_cons_of_mem _ ht)
  rw [Z5, List.length_cons]
  omega
def ZX (x y : List Bs) : Int := Z5 x y (ddF x)
theorem Aaq {x y : List Bs} (hx : x.length ≤ 4096) (h : ∀ s ∈ x, s.length ≤ 1048576) : 0 ≤ ZX x y ∧ ZX x y ≤ 17592186044416 := by
 have h1 := ZP (y := y) hx (l := ddF x) fun s hs => h s ((ZS x s).1 hs)
 have h2 := Aaf x
 unfold ZX
 omega
def AaD (a b : Bs) : Int := if ((b.length : Nat) : Int) > ((a.length : Nat) : Int) then ((b.length : Nat) : Int) else ((a.length : Nat) : Int)
def Aat (a b : Bs) : Int := Int.tdiv (100 * ZX (lnF a) (lnF b)) (AaD a b)
def ZJ (a b : Bs) : Int × Int :=
 if FZ a ≠ 0 then (0, 1) else if FZ b ≠ 0 then (0, 1) else if a = b then (100, 0) else (if 99 < Aat a b then 99 else Aat a b, 0)
theorem Aaa : ∀ (s acc t : Bs), t ∈ lnN acc s → t.length ≤ acc.length + s.length
 | [], acc, t, h => by rw [lnN] at h; cases h
 | b :: r, acc, t, h => by
  rw [lnN] at h
  split at h
  ·rcases List.mem_cons.1 h with rfl | h
   ·simp only [List.length_append, List.length_cons, List.length_nil]; omega
   ·have := Aaa r [] t h
    simp only [List.length_cons, List.length_nil] at this ⊢; omega
  ·have := Aaa r (acc ++ [b]) t h
   simp only [List.length_append, List.length_cons, List.length_nil] at this ⊢; omega
theorem Aan {s t : Bs} (h : t ∈ lnF s) : t.length ≤ s.length := by
 have := Aaa s [] t h
 simp only [List.length_nil] at this
 omega
def ZO (P : Pg) : Prop := ∀ x : Bs × Bs, x.1.length ≤ 140737488351232 → x.2.length ≤ 140737488351232 → Fn P zS9 Zz x fun (d : Int × Int) _ => d = ZJ x.1 x.2
end Go.VS
