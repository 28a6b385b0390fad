/- Texts as the library cuts them into lines. -/
import Derived.Test.YtdnomijflodcgaaDoorKSpLn
set_option linter.unusedVariables false
set_option linter.unusedSimpArgs false
namespace Go.VS
variable {P : Pg}
def saN (acc : Bs) : Bs → List Bs
 | [] => [acc]
 | b :: r => if b = 10 then (acc ++ [b]) :: saN [] r else saN (acc ++ [b]) r
def saF (s : Bs) : List Bs := saN [] s
def Mb (s : Bs) : Bool := ([10] : Bs).isSuffixOf s
def GM (P : Pg) : Prop := ∀ s : Bs, Fn P "strings.Count" D3 (s, [10]) fun (d : Int) _ => d = ((s.count 10 : Nat) : Int)
def F4 (P : Pg) : Prop := ∀ s : Bs, s.length ≤ 140737488351232 → Fn P "strings.HasSuffix" CZ (s, [10]) fun (d : Bool) _ => d = Mb s
def Gc (P : Pg) : Prop := ∀ s : Bs, s.length ≤ 4000000000 → Fn P "strings.SplitAfter" F0 (s, [10]) fun (d : List Bs) _ => d = saF s
theorem GM.at (h : GM P) {s : Bs} {K : Int → Unit → Prop} (hk : K ((s.count 10 : Nat) : Int) ()) : Fn P "strings.Count" D3 (s, [10]) K :=
 (h s).to fun (d : Int) _ hd => by
  have hd : d = ((s.count 10 : Nat) : Int) := hd
  subst hd
  exact hk
theorem F4.at (h : F4 P) {s : Bs} (hs : s.length ≤ 140737488351232) {K : Bool → Unit → Prop} (hk : K (Mb s) ()) : Fn P "strings.HasSuffix" CZ (s, [10]) K :=
 (h s hs).to fun (d : Bool) _ hd => by
  have hd : d = Mb s := hd
  subst hd
  exact hk
theorem Gc.at (h : Gc P) {s : Bs} (hs : s.length ≤ 4000000000) {K : List Bs → Unit → Prop} (hk : K (saF s) ()) : Fn P "strings.SplitAfter" F0 (s, [10]) K :=
 (h s hs).to fun (d : List Bs) _ hd => by
  have hd : d = saF s := hd
  subst hd
  exact hk
theorem Nh (l : Bs) (b : UInt8) : Mb (l ++ [b]) = (b == 10) := by
 unfold Mb
 by_cases h : b = 10
 ·subst h
  rw [show ((10 : UInt8) == 10) = true from rfl, List.isSuffixOf_iff_suffix]
  exact List.suffix_append ..
 ·rw [show (b == 10) = false by simpa using h, Bool.eq_false_iff]
  intro hs
  rw [List.isSuffixOf_iff_suffix] at hs
  obtain ⟨t, ht⟩ := hs
  have := congrArg List.getLast? ht
  simp at this
  exact h this.symm
theorem SE : ∀ (s acc : Bs), (lnN acc s).length = s.count 10 + (if s ≠ [] ∧ Mb s = false then 1 else 0)
 | [], acc => by rw [if_neg (by simp)]; rfl
 | b :: r, acc => by
  rw [lnN]
  rcases List.eq_nil_or_concat r with rfl | ⟨l, c, rfl⟩
  ·rw [if_pos (.inr rfl), show [b] = ([] : Bs) ++ [b] from rfl, Nh]
   by_cases hb : b = 10
   ·subst hb; rfl
   ·rw [show (b == 10) = false by simpa using hb]
    simp [lnN, hb]
  ·have e1 : Mb (b :: l.concat c) = Mb (l.concat c) := by
    rw [List.concat_eq_append, ← List.cons_append, Nh, Nh]
   have hne : l.concat c ≠ [] := by simp
   by_cases hb : b = 10
   ·subst hb
    rw [if_pos (.inl rfl), List.length_cons, SE (l.concat c) [], e1, List.count_cons_self]
    simp only [ne_eq, hne, not_false_eq_true, true_and, List.cons_ne_nil]
    omega
   ·rw [if_neg (by rintro (h1 | h1); exact hb h1; exact hne h1), SE (l.concat c) _, e1, List.count_cons_of_ne (by simpa using hb)]
    simp only [ne_eq, hne, not_false_eq_true, true_and, List.cons_ne_nil]
theorem Xj (s : Bs) : (lnF s).length = s.count 10 + (if s ≠ [] ∧ Mb s = false then 1 else 0) := SE s []
def M5 (P : Pg) : Prop := ∀ s : Bs, s.length ≤ 140737488351232 → Fn P AaH Dw s fun (d : Bool) _ => d = Mb s
theorem YI (h : Has P Gs) (hS : F4 P) : M5 P := by
 intro s hs
 refine QC h ?_
 unfold LV
 exact hS.at hs rfl
def Jg (s : Bs) : Int := if s.length > 1048576 ∨ (lnF s).length > 4096 then 1 else 0
def M4 (P : Pg) : Prop := ∀ s : Bs, s.length ≤ 140737488351232 → Fn P AaI Dv s fun (d : Int) _ => d = Jg s
theorem YH (h : Has P Gr) (hC : GM P) (hE : M5 P) : M4 P := by
 intro s hs
 refine QB h ?_
 unfold LU
 refine hC.at ?_
 have hcl := List.count_le_length (a := (10 : UInt8)) (l := s)
 have hl := Xj s
 refine Ai.mid (fun d => (!(s == ([] : Bs))) = true → d = Mb s) ⟨fun _ => (hE s hs).to fun (d : Bool) _ hd _ => hd, (by intro hc hc2; rw [hc] at hc2; cases hc2), trivial⟩ ?_
 intro d hd
 have hfin : ∀ n : Int, n = ((lnF s).length : Nat) → ((cond (decide (((List.length s : Nat) : Int) > (1048576 : Int))) true (decide (n > (4096 : Int)))) = true → (1 : Int) = Jg s) ∧ ((cond (decide (((List.length s : Nat) : Int) > (1048576 : Int))) true (decide (n > (4096 : Int)))) = false → (0 : Int) = Jg s) := by
  rintro n rfl
  unfold Jg
  by_cases h1 : s.length > 1048576
  ·have e1 : decide (((List.length s : Nat) : Int) > (1048576 : Int)) = true := decide_eq_true (by omega)
   rw [e1, if_pos (.inl h1)]
   exact ⟨fun _ => rfl, fun h => nomatch h⟩
  ·have e1 : decide (((List.length s : Nat) : Int) > (1048576 : Int)) = false := decide_eq_false (by omega)
   rw [e1, cond_false]
   by_cases h2 : (lnF s).length > 4096
   ·rw [if_pos (.inr h2), show decide ((((lnF s).length : Nat) : Int) > 4096) = true from decide_eq_true (by omega)]
    exact ⟨fun _ => rfl, fun h => nomatch h⟩
   ·rw [if_neg (by omega), show decide ((((lnF s).length : Nat) : Int) > 4096) = false from decide_eq_false (by omega)]
    exact ⟨(fun h => nomatch h), fun _ => rfl⟩
 refine Ai.mid (fun n => n = ((lnF s).length : Nat)) ⟨fun hc => ?_, fun hc => ?_⟩ hfin
 ·by_cases hn : s = []
  ·subst hn; cases hc
  ·have hb : (!(s == ([] : Bs))) = true := by simpa using hn
   rw [hb, cond_true] at hc
   have he : Mb s = false := by rw [← hd hb]; simpa using hc
   rw [w64 (by omega) (by omega), hl, if_pos ⟨hn, he⟩]
   omega
 ·by_cases hn : s = []
  ·subst hn; rfl
  ·have hb : (!(s == ([] : Bs))) = true := by simpa using hn
   rw [hb, cond_true] at hc
   have he : Mb s = true := by rw [← hd hb]; simpa using hc
   rw [hl, if_neg (by rw [he]; simp)]
   omega
end Go.VS
