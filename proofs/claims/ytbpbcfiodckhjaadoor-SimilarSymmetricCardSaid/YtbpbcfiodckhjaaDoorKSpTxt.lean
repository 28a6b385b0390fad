/- Texts as the library cuts them into lines. -/
import Derived.Test.YtbpbcfiodckhjaaDoorKSpLn
set_option linter.unusedVariables false
set_option linter.unusedSimpArgs false
namespace Go.VS
variable {P : Pg}
def saN (acc : Bs) : Bs → List Bs
 | [] => [acc]
 | b :: r => if b = 10 then (acc ++ [b]) :: saN [] r else saN (acc ++ [b]) r
def saF (s : Bs) : List Bs := saN [] s
def H7 (s : Bs) : Bool := ([10] : Bs).isSuffixOf s
def EO (P : Pg) : Prop := ∀ s : Bs, Fn P "strings.Count" CE (s, [10]) fun (d : Int) _ => d = ((s.count 10 : Nat) : Int)
def Eg (P : Pg) : Prop := ∀ s : Bs, s.length ≤ 140737488351232 → Fn P "strings.HasSuffix" BO (s, [10]) fun (d : Bool) _ => d = H7 s
def En (P : Pg) : Prop := ∀ s : Bs, s.length ≤ 4000000000 → Fn P "strings.SplitAfter" Ef (s, [10]) fun (d : List Bs) _ => d = saF s
theorem EO.at (h : EO P) {s : Bs} {K : Int → Unit → Prop} (hk : K ((s.count 10 : Nat) : Int) ()) : Fn P "strings.Count" CE (s, [10]) K :=
 (h s).to fun (d : Int) _ hd => by
  have hd : d = ((s.count 10 : Nat) : Int) := hd
  subst hd
  exact hk
theorem Eg.at (h : Eg P) {s : Bs} (hs : s.length ≤ 140737488351232) {K : Bool → Unit → Prop} (hk : K (H7 s) ()) : Fn P "strings.HasSuffix" BO (s, [10]) K :=
 (h s hs).to fun (d : Bool) _ hd => by
  have hd : d = H7 s := hd
  subst hd
  exact hk
theorem En.at (h : En P) {s : Bs} (hs : s.length ≤ 4000000000) {K : List Bs → Unit → Prop} (hk : K (saF s) ()) : Fn P "strings.SplitAfter" Ef (s, [10]) K :=
 (h s hs).to fun (d : List Bs) _ hd => by
  have hd : d = saF s := hd
  subst hd
  exact hk
theorem X2 : ∀ (s acc : Bs), saN acc s ≠ []
 | [], _ => by simp [saN]
 | b :: r, acc => by
  rw [saN]
  split
  ·simp
  ·exact X2 r _
theorem Ym {α : Type} (a : α) (l : List α) (d : α) (h : l ≠ []) : (a :: l).getD ((a :: l).length - 1) d = l.getD (l.length - 1) d := by
 cases l with
 | nil => exact absurd rfl h
 | cons b l => rfl
theorem XI {α : Type} (a : α) (l : List α) (h : l ≠ []) : (a :: l).dropLast = a :: l.dropLast := by
 cases l with
 | nil => exact absurd rfl h
 | cons b l => rfl
theorem Ye : ∀ (s acc : Bs), (s = [] → acc = []) → lnN acc s = if (saN acc s).getD ((saN acc s).length - 1) [] = [] then (saN acc s).dropLast else saN acc s
 | [], acc, h => by
  rw [h rfl]
  rfl
 | b :: r, acc, h => by
  rw [lnN, saN]
  by_cases hb : b = 10
  ·have ih := Ye r [] fun _ => rfl
   rw [if_pos (.inl hb), if_pos hb, Ym _ _ _ (X2 r []), XI _ _ (X2 r []), ih]
   split <;> rfl
  ·rw [if_neg hb]
   by_cases hr : r = []
   ·subst hr
    rw [if_pos (.inr rfl)]
    simp [saN, lnN]
   ·rw [if_neg (by rintro (h1 | h1); exact hb h1; exact hr h1)]
    exact Ye r (acc ++ [b]) fun h1 => absurd h1 hr
theorem Yp (s : Bs) : lnF s = if (saF s).getD ((saF s).length - 1) [] = [] then (saF s).dropLast else saF s := Ye s [] fun _ => rfl
theorem I8 (l : Bs) (b : UInt8) : H7 (l ++ [b]) = (b == 10) := by
 unfold H7
 by_cases h : b = 10
 ·subst h
  rw [show ((10 : UInt8) == 10) = true from rfl, List.isSuffixOf_iff_suffix]
  exact List.suffix_append ..
 ·rw [show (b == 10) = false by simpa using h, Bool.eq_false_iff]
  intro hs
  rw [List.isSuffixOf_iff_suffix] at hs
  obtain ⟨t, ht⟩ := hs
  have := congrArg List.getLast? ht
  simp at this
  exact h this.symm
theorem MS : ∀ (s acc : Bs), (lnN acc s).length = s.count 10 + (if s ≠ [] ∧ H7 s = false then 1 else 0)
 | [], acc => by rw [if_neg (by simp)]; rfl
 | b :: r, acc => by
  rw [lnN]
  rcases List.eq_nil_or_concat r with rfl | ⟨l, c, rfl⟩
  ·rw [if_pos (.inr rfl), show [b] = ([] : Bs) ++ [b] from rfl, I8]
   by_cases hb : b = 10
   ·subst hb; rfl
   ·rw [show (b == 10) = false by simpa using hb]
    simp [lnN, hb]
  ·have e1 : H7 (b :: l.concat c) = H7 (l.concat c) := by
    rw [List.concat_eq_append, ← List.cons_append, I8, I8]
   have hne : l.concat c ≠ [] := by simp
   by_cases hb : b = 10
   ·subst hb
    rw [if_pos (.inl rfl), List.length_cons, MS (l.concat c) [], e1, List.count_cons_self]
    simp only [ne_eq, hne, not_false_eq_true, true_and, List.cons_ne_nil]
    omega
   ·rw [if_neg (by rintro (h1 | h1); exact hb h1; exact hne h1), MS (l.concat c) _, e1, List.count_cons_of_ne (by simpa using hb)]
    simp only [ne_eq, hne, not_false_eq_true, true_and, List.cons_ne_nil]
theorem SJ (s : Bs) : (lnF s).length = s.count 10 + (if s ≠ [] ∧ H7 s = false then 1 else 0) := MS s []
def IZ (P : Pg) : Prop := ∀ s : Bs, s.length ≤ 140737488351232 → Fn P zS8 Cb s fun (d : Bool) _ => d = H7 s
theorem QS (h : Has P Ev) (hS : Eg P) : IZ P := by
 intro s hs
 refine Lw h ?_
 unfold HU
 exact hS.at hs rfl
def Hu (s : Bs) : Int := if s.length > 1048576 ∨ (lnF s).length > 4096 then 1 else 0
def IY (P : Pg) : Prop := ∀ s : Bs, s.length ≤ 140737488351232 → Fn P zS9 Ca s fun (d : Int) _ => d = Hu s
theorem QR (h : Has P Eu) (hC : EO P) (hE : IZ P) : IY P := by
 intro s hs
 refine Lv h ?_
 unfold HT
 refine hC.at ?_
 have hcl := List.count_le_length (a := (10 : UInt8)) (l := s)
 have hl := SJ s
 refine AX.mid (fun d => (!(s == ([] : Bs))) = true → d = H7 s) ⟨fun _ => (hE s hs).to fun (d : Bool) _ hd _ => hd, (by intro hc hc2; rw [hc] at hc2; cases hc2), trivial⟩ ?_
 intro d hd
 have hfin : ∀ n : Int, n = ((lnF s).length : Nat) → ((cond (decide (((List.length s : Nat) : Int) > (1048576 : Int))) true (decide (n > (4096 : Int)))) = true → (1 : Int) = Hu s) ∧ ((cond (decide (((List.length s : Nat) : Int) > (1048576 : Int))) true (decide (n > (4096 : Int)))) = false → (0 : Int) = Hu s) := by
  rintro n rfl
  unfold Hu
  by_cases h1 : s.length > 1048576
  ·have e1 : decide (((List.length s : Nat) : Int) > (1048576 : Int)) = true := decide_eq_true (by omega)
   rw [e1, if_pos (.inl h1)]
   exact ⟨fun _ => rfl, fun h => nomatch h⟩
  ·have e1 : decide (((List.length s : Nat) : Int) > (1048576 : Int)) = false := decide_eq_false (by omega)
   rw [e1, cond_false]
   by_cases h2 : (lnF s).length > 4096
   ·rw [if_pos (.inr h2), show decide ((((lnF s).length : Nat) : Int) > 4096) = true from decide_eq_true (by omega)]
    exact ⟨fun _ => rfl, fun h => nomatch h⟩
   ·rw [if_neg (by omega), show decide ((((lnF s).length : Nat) : Int) > 4096) = false from decide_eq_false (by omega)]
    exact ⟨(fun h => nomatch h), fun _ => rfl⟩
 refine AX.mid (fun n => n = ((lnF s).length : Nat)) ⟨fun hc => ?_, fun hc => ?_⟩ hfin
 ·by_cases hn : s = []
  ·subst hn; cases hc
  ·have hb : (!(s == ([] : Bs))) = true := by simpa using hn
   rw [hb, cond_true] at hc
   have he : H7 s = false := by rw [← hd hb]; simpa using hc
   rw [w64 (by omega) (by omega), hl, if_pos ⟨hn, he⟩]
   omega
 ·by_cases hn : s = []
  ·subst hn; rfl
  ·have hb : (!(s == ([] : Bs))) = true := by simpa using hn
   rw [hb, cond_true] at hc
   have he : H7 s = true := by rw [← hd hb]; simpa using hc
   rw [hl, if_neg (by rw [he]; simp)]
   omega
def WU (P : Pg) : Prop := ∀ s : Bs, s.length ≤ 140737488351232 → Fn P Q2 WN s fun (d : List Bs × Int) _ => d = if Hu s = 0 then (lnF s, 0) else ([], 1)
theorem Yo (h : Has P W0) (hC : IY P) (hS : En P) : WU P := by
 intro s hs
 refine XO h ?_
 unfold Xx
 refine (hC s hs).to ?_
 rintro (d : Int) _ hd
 have hd : d = Hu s := hd
 subst hd
 refine ⟨fun hc => ?_, fun hc => ?_⟩
 ·have hc : Hu s ≠ 0 := by simpa using hc
  rw [if_neg hc]
  unfold Hu at hc ⊢
  split
  ·rfl
  ·rename_i h1; rw [if_neg h1] at hc; exact absurd rfl hc
 ·have hc : Hu s = 0 := by simpa using hc
  rw [if_pos hc]
  have hl : s.length ≤ 1048576 := by
   unfold Hu at hc
   split at hc
   ·cases hc
   ·omega
  refine hS.at (by omega) ?_
  have hne := X2 s []
  have hpos : 0 < (saF s).length := List.length_pos_iff.2 hne
  have hlen : (saF s).length ≤ s.length + 1 := by
   have : ∀ (s acc : Bs), (saN acc s).length ≤ s.length + 1 := by
    intro s
    induction s with
    | nil => intro acc; simp [saN]
    | cons b r ih =>
     intro acc
     rw [saN]
     split
     ·have := ih []; simp only [List.length_cons]; omega
     ·have := ih (acc ++ [b]); simp only [List.length_cons]; omega
   exact this s []
  rw [w64 (n := ((saF s).length : Int) - 1) (by omega) (by omega)]
  have e1 : (((saF s).length : Int) - 1).toNat = (saF s).length - 1 := by omega
  rw [e1]
  refine ⟨⟨by omega, by omega⟩, by omega, AX.of ⟨fun hb => ⟨⟨by omega, by omega⟩, by omega, ?_⟩, fun hb => ?_⟩⟩
  ·have hb : (saF s).getD ((saF s).length - 1) [] = [] := by simpa using hb
   rw [Yp, if_pos hb, List.drop_zero, List.dropLast_eq_take]
  ·have hb : ¬ (saF s).getD ((saF s).length - 1) [] = [] := by simpa using hb
   rw [Yp, if_neg hb]
theorem WU.at (h : WU P) {s : Bs} (hs : s.length ≤ 140737488351232) {K : List Bs × Int → Unit → Prop} (hk : K (if Hu s = 0 then (lnF s, 0) else ([], 1)) ()) : Fn P Q2 WN s K :=
 (h s hs).to fun (d : List Bs × Int) _ hd => by
  have hd : d = if Hu s = 0 then (lnF s, 0) else ([], 1) := hd
  subst hd
  exact hk
end Go.VS
