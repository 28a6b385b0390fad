/- Texts as the library cuts them into lines. -/
import Derived.Test.YtbpbcfiodckhjaaDoorKSpLn
set_option linter.unusedVariables false
set_option linter.unusedSimpArgs false
namespace Go.VS
variable {P : Pg}
def saN (acc : Bs) : Bs → List Bs
 | [] => [acc]
 | b :: r => if b = 10 then (acc ++ [b]) :: saN [] r else saN (acc ++ [b]) r
def saF (s : Bs) : List Bs := saN [] s
def JJ (s : Bs) : Bool := ([10] : Bs).isSuffixOf s
def Fs (P : Pg) : Prop := ∀ s : Bs, Fn P "strings.Count" C6 (s, [10]) fun (d : Int) _ => d = ((s.count 10 : Nat) : Int)
def ER (P : Pg) : Prop := ∀ s : Bs, s.length ≤ 140737488351232 → Fn P "strings.HasSuffix" B9 (s, [10]) fun (d : Bool) _ => d = JJ s
def EY (P : Pg) : Prop := ∀ s : Bs, s.length ≤ 4000000000 → Fn P "strings.SplitAfter" EO (s, [10]) fun (d : List Bs) _ => d = saF s
theorem Fs.at (h : Fs P) {s : Bs} {K : Int → Unit → Prop} (hk : K ((s.count 10 : Nat) : Int) ()) : Fn P "strings.Count" C6 (s, [10]) K :=
 (h s).to fun (d : Int) _ hd => by
  have hd : d = ((s.count 10 : Nat) : Int) := hd
  subst hd
  exact hk
theorem ER.at (h : ER P) {s : Bs} (hs : s.length ≤ 140737488351232) {K : Bool → Unit → Prop} (hk : K (JJ s) ()) : Fn P "strings.HasSuffix" B9 (s, [10]) K :=
 (h s hs).to fun (d : Bool) _ hd => by
  have hd : d = JJ s := hd
  subst hd
  exact hk
theorem EY.at (h : EY P) {s : Bs} (hs : s.length ≤ 4000000000) {K : List Bs → Unit → Prop} (hk : K (saF s) ()) : Fn P "strings.SplitAfter" EO (s, [10]) K :=
 (h s hs).to fun (d : List Bs) _ hd => by
  have hd : d = saF s := hd
  subst hd
  exact hk
theorem Aab : ∀ (s acc : Bs), saN acc s ≠ []
 | [], _ => by simp [saN]
 | b :: r, acc => by
  rw [saN]
  split
  ·simp
  ·exact Aab r _
theorem Aar {α : Type} (a : α) (l : List α) (d : α) (h : l ≠ []) : (a :: l).getD ((a :: l).length - 1) d = l.getD (l.length - 1) d := by
 cases l with
 | nil => exact absurd rfl h
 | cons b l => rfl
theorem ZY {α : Type} (a : α) (l : List α) (h : l ≠ []) : (a :: l).dropLast = a :: l.dropLast := by
 cases l with
 | nil => exact absurd rfl h
 | cons b l => rfl
theorem Aag : ∀ (s acc : Bs), (s = [] → acc = []) → lnN acc s = if (saN acc s).getD ((saN acc s).length - 1) [] = [] then (saN acc s).dropLast else saN acc s
 | [], acc, h => by
  rw [h rfl]
  rfl
 | b :: r, acc, h => by
  rw [lnN, saN]
  by_cases hb : b = 10
  ·have ih := Aag r [] fun _ => rfl
   rw [if_pos (.inl hb), if_pos hb, Aar _ _ _ (Aab r []), ZY _ _ (Aab r []), ih]
   split <;> rfl
  ·rw [if_neg hb]
   by_cases hr : r = []
   ·subst hr
    rw [if_pos (.inr rfl)]
    simp [saN, lnN]
   ·rw [if_neg (by rintro (h1 | h1); exact hb h1; exact hr h1)]
    exact Aag r (acc ++ [b]) fun h1 => absurd h1 hr
theorem Aav (s : Bs) : lnF s = if (saF s).getD ((saF s).length - 1) [] = [] then (saF s).dropLast else saF s := Aag s [] fun _ => rfl
theorem KV (l : Bs) (b : UInt8) : JJ (l ++ [b]) = (b == 10) := by
 unfold JJ
 by_cases h : b = 10
 ·subst h
  rw [show ((10 : UInt8) == 10) = true from rfl, List.isSuffixOf_iff_suffix]
  exact List.suffix_append ..
 ·rw [show (b == 10) = false by simpa using h, Bool.eq_false_iff]
  intro hs
  rw [List.isSuffixOf_iff_suffix] at hs
  obtain ⟨t, ht⟩ := hs
  have := congrArg List.getLast? ht
  simp at this
  exact h this.symm
theorem Px : ∀ (s acc : Bs), (lnN acc s).length = s.count 10 + (if s ≠ [] ∧ JJ s = false then 1 else 0)
 | [], acc => by rw [if_neg (by simp)]; rfl
 | b :: r, acc => by
  rw [lnN]
  rcases List.eq_nil_or_concat r with rfl | ⟨l, c, rfl⟩
  ·rw [if_pos (.inr rfl), show [b] = ([] : Bs) ++ [b] from rfl, KV]
   by_cases hb : b = 10
   ·subst hb; rfl
   ·rw [show (b == 10) = false by simpa using hb]
    simp [lnN, hb]
  ·have e1 : JJ (b :: l.concat c) = JJ (l.concat c) := by
    rw [List.concat_eq_append, ← List.cons_append, KV, KV]
   have hne : l.concat c ≠ [] := by simp
   by_cases hb : b = 10
   ·subst hb
    rw [if_pos (.inl rfl), List.length_cons, Px (l.concat c) [], e1, List.count_cons_self]
    simp only [ne_eq, hne, not_false_eq_true, true_and, List.cons_ne_nil]
    omega
   ·rw [if_neg (by rintro (h1 | h1); exact hb h1; exact hne h1), Px (l.concat c) _, e1, List.count_cons_of_ne (by simpa using hb)]
    simp only [ne_eq, hne, not_false_eq_true, true_and, List.cons_ne_nil]
theorem WN (s : Bs) : (lnF s).length = s.count 10 + (if s ≠ [] ∧ JJ s = false then 1 else 0) := Px s []
def KH (P : Pg) : Prop := ∀ s : Bs, s.length ≤ 140737488351232 → Fn P UM Cz s fun (d : Bool) _ => d = JJ s
theorem UD (h : Has P E7) (hS : ER P) : KH P := by
 intro s hs
 refine NL h ?_
 unfold Jw
 exact hS.at hs rfl
def FZ (s : Bs) : Int := if s.length > 1048576 ∨ (lnF s).length > 4096 then 1 else 0
def KF (P : Pg) : Prop := ∀ s : Bs, s.length ≤ 140737488351232 → Fn P zS8 Cy s fun (d : Int) _ => d = FZ s
theorem UC (h : Has P E6) (hC : Fs P) (hE : KH P) : KF P := by
 intro s hs
 refine NK h ?_
 unfold Jv
 refine hC.at ?_
 have hcl := List.count_le_length (a := (10 : UInt8)) (l := s)
 have hl := WN s
 refine Ar.mid (fun d => (!(s == ([] : Bs))) = true → d = JJ s) ⟨fun _ => (hE s hs).to fun (d : Bool) _ hd _ => hd, (by intro hc hc2; rw [hc] at hc2; cases hc2), trivial⟩ ?_
 intro d hd
 have hfin : ∀ n : Int, n = ((lnF s).length : Nat) → ((cond (decide (((List.length s : Nat) : Int) > (1048576 : Int))) true (decide (n > (4096 : Int)))) = true → (1 : Int) = FZ s) ∧ ((cond (decide (((List.length s : Nat) : Int) > (1048576 : Int))) true (decide (n > (4096 : Int)))) = false → (0 : Int) = FZ s) := by
  rintro n rfl
  unfold FZ
  by_cases h1 : s.length > 1048576
  ·have e1 : decide (((List.length s : Nat) : Int) > (1048576 : Int)) = true := decide_eq_true (by omega)
   rw [e1, if_pos (.inl h1)]
   exact ⟨fun _ => rfl, fun h => nomatch h⟩
  ·have e1 : decide (((List.length s : Nat) : Int) > (1048576 : Int)) = false := decide_eq_false (by omega)
   rw [e1, cond_false]
   by_cases h2 : (lnF s).length > 4096
   ·rw [if_pos (.inr h2), show decide ((((lnF s).length : Nat) : Int) > 4096) = true from decide_eq_true (by omega)]
    exact ⟨fun _ => rfl, fun h => nomatch h⟩
   ·rw [if_neg (by omega), show decide ((((lnF s).length : Nat) : Int) > 4096) = false from decide_eq_false (by omega)]
    exact ⟨(fun h => nomatch h), fun _ => rfl⟩
 refine Ar.mid (fun n => n = ((lnF s).length : Nat)) ⟨fun hc => ?_, fun hc => ?_⟩ hfin
 ·by_cases hn : s = []
  ·subst hn; cases hc
  ·have hb : (!(s == ([] : Bs))) = true := by simpa using hn
   rw [hb, cond_true] at hc
   have he : JJ s = false := by rw [← hd hb]; simpa using hc
   rw [w64 (by omega) (by omega), hl, if_pos ⟨hn, he⟩]
   omega
 ·by_cases hn : s = []
  ·subst hn; rfl
  ·have hb : (!(s == ([] : Bs))) = true := by simpa using hn
   rw [hb, cond_true] at hc
   have he : JJ s = true := by rw [← hd hb]; simpa using hc
   rw [hl, if_neg (by rw [he]; simp)]
   omega
def ZD (P : Pg) : Prop := ∀ s : Bs, s.length ≤ 140737488351232 → Fn P V4 ZB s fun (d : List Bs × Int) _ => d = if FZ s = 0 then (lnF s, 0) else ([], 1)
theorem Aau (h : Has P ZH) (hC : KF P) (hS : EY P) : ZD P := by
 intro s hs
 refine Z3 h ?_
 unfold ZT
 refine (hC s hs).to ?_
 rintro (d : Int) _ hd
 have hd : d = FZ s := hd
 subst hd
 refine ⟨fun hc => ?_, fun hc => ?_⟩
 ·have hc : FZ s ≠ 0 := by simpa using hc
  rw [if_neg hc]
  unfold FZ at hc ⊢
  split
  ·rfl
  ·rename_i h1; rw [if_neg h1] at hc; exact absurd rfl hc
 ·have hc : FZ s = 0 := by simpa using hc
  rw [if_pos hc]
  have hl : s.length ≤ 1048576 := by
   unfold FZ at hc
   split at hc
   ·cases hc
   ·omega
  refine hS.at (by omega) ?_
  have hne := Aab s []
  have hpos : 0 < (saF s).length := List.length_pos_iff.2 hne
  have hlen : (saF s).length ≤ s.length + 1 := by
   have : ∀ (s acc : Bs), (saN acc s).length ≤ s.length + 1 := by
    intro s
    induction s with
    | nil => intro acc; simp [saN]
    | cons b r ih =>
     intro acc
     rw [saN]
     split
     ·have := ih []; simp only [List.length_cons]; omega
     ·have := ih (acc ++ [b]); simp only [List.length_cons]; omega
   exact this s []
  rw [w64 (n := ((saF s).length : Int) - 1) (by omega) (by omega)]
  have e1 : (((saF s).length : Int) - 1).toNat = (saF s).length - 1 := by omega
  rw [e1]
  refine ⟨⟨by omega, by omega⟩, by omega, Ar.of ⟨fun hb => ⟨⟨by omega, by omega⟩, by omega, ?_⟩, fun hb => ?_⟩⟩
  ·have hb : (saF s).getD ((saF s).length - 1) [] = [] := by simpa using hb
   rw [Aav, if_pos hb, List.drop_zero, List.dropLast_eq_take]
  ·have hb : ¬ (saF s).getD ((saF s).length - 1) [] = [] := by simpa using hb
   rw [Aav, if_neg hb]
theorem ZD.at (h : ZD P) {s : Bs} (hs : s.length ≤ 140737488351232) {K : List Bs × Int → Unit → Prop} (hk : K (if FZ s = 0 then (lnF s, 0) else ([], 1)) ()) : Fn P V4 ZB s K :=
 (h s hs).to fun (d : List Bs × Int) _ hd => by
  have hd : d = if FZ s = 0 then (lnF s, 0) else ([], 1) := hd
  subst hd
  exact hk
end Go.VS
