/- Texts as the library cuts them into lines. -/
import Derived.Test.YtcaandgkdmidkaaDoorKSpLn
set_option linter.unusedVariables false
set_option linter.unusedSimpArgs false
namespace Go.VS
variable {P : Pg}
def saN (acc : Bs) : Bs → List Bs
 | [] => [acc]
 | b :: r => if b = 10 then (acc ++ [b]) :: saN [] r else saN (acc ++ [b]) r
def saF (s : Bs) : List Bs := saN [] s
def ZY (s : Bs) : Bool := ([10] : Bs).isSuffixOf s
def YU (s : Bs) : Bs := if ZY s = true then s.take (s.length - 1) else s
def Zs (P : Pg) : Prop := ∀ s : Bs, Fn P "strings.Count" Y1 (s, [10]) fun (d : Int) _ => d = ((s.count 10 : Nat) : Int)
def Zj (P : Pg) : Prop := ∀ s : Bs, s.length ≤ 140737488351232 → Fn P "strings.HasSuffix" YM (s, [10]) fun (d : Bool) _ => d = ZY s
def ZF (P : Pg) : Prop := ∀ s : Bs, s.length ≤ 140737488351232 → Fn P "strings.TrimSuffix" YL (s, [10]) fun (d : Bs) _ => d = YU s
def Y2 (P : Pg) : Prop := ∀ s : Bs, s.length ≤ 4000000000 → Fn P "strings.SplitAfter" YX (s, [10]) fun (d : List Bs) _ => d = saF s
theorem Zs.at (h : Zs P) {s : Bs} {K : Int → Unit → Prop} (hk : K ((s.count 10 : Nat) : Int) ()) : Fn P "strings.Count" Y1 (s, [10]) K :=
 (h s).to fun (d : Int) _ hd => by
  have hd : d = ((s.count 10 : Nat) : Int) := hd
  subst hd
  exact hk
theorem Zj.at (h : Zj P) {s : Bs} (hs : s.length ≤ 140737488351232) {K : Bool → Unit → Prop} (hk : K (ZY s) ()) : Fn P "strings.HasSuffix" YM (s, [10]) K :=
 (h s hs).to fun (d : Bool) _ hd => by
  have hd : d = ZY s := hd
  subst hd
  exact hk
theorem ZF.at (h : ZF P) {s : Bs} (hs : s.length ≤ 140737488351232) {K : Bs → Unit → Prop} (hk : K (YU s) ()) : Fn P "strings.TrimSuffix" YL (s, [10]) K :=
 (h s hs).to fun (d : Bs) _ hd => by
  have hd : d = YU s := hd
  subst hd
  exact hk
theorem Y2.at (h : Y2 P) {s : Bs} (hs : s.length ≤ 4000000000) {K : List Bs → Unit → Prop} (hk : K (saF s) ()) : Fn P "strings.SplitAfter" YX (s, [10]) K :=
 (h s hs).to fun (d : List Bs) _ hd => by
  have hd : d = saF s := hd
  subst hd
  exact hk
theorem Aa7 : ∀ (s acc : Bs), saN acc s ≠ []
 | [], _ => by simp [saN]
 | b :: r, acc => by
  rw [saN]
  split
  ·simp
  ·exact Aa7 r _
theorem AbL {α : Type} (a : α) (l : List α) (d : α) (h : l ≠ []) : (a :: l).getD ((a :: l).length - 1) d = l.getD (l.length - 1) d := by
 cases l with
 | nil => exact absurd rfl h
 | cons b l => rfl
theorem Aaz {α : Type} (a : α) (l : List α) (h : l ≠ []) : (a :: l).dropLast = a :: l.dropLast := by
 cases l with
 | nil => exact absurd rfl h
 | cons b l => rfl
theorem Abv : ∀ (s acc : Bs), (s = [] → acc = []) → lnN acc s = if (saN acc s).getD ((saN acc s).length - 1) [] = [] then (saN acc s).dropLast else saN acc s
 | [], acc, h => by
  rw [h rfl]
  rfl
 | b :: r, acc, h => by
  rw [lnN, saN]
  by_cases hb : b = 10
  ·have ih := Abv r [] fun _ => rfl
   rw [if_pos (.inl hb), if_pos hb, AbL _ _ _ (Aa7 r []), Aaz _ _ (Aa7 r []), ih]
   split <;> rfl
  ·rw [if_neg hb]
   by_cases hr : r = []
   ·subst hr
    rw [if_pos (.inr rfl)]
    simp [saN, lnN]
   ·rw [if_neg (by rintro (h1 | h1); exact hb h1; exact hr h1)]
    exact Abv r (acc ++ [b]) fun h1 => absurd h1 hr
theorem Ab0 (s : Bs) : lnF s = if (saF s).getD ((saF s).length - 1) [] = [] then (saF s).dropLast else saF s := Abv s [] fun _ => rfl
theorem ZX (l : Bs) (b : UInt8) : ZY (l ++ [b]) = (b == 10) := by
 unfold ZY
 by_cases h : b = 10
 ·subst h
  rw [show ((10 : UInt8) == 10) = true from rfl, List.isSuffixOf_iff_suffix]
  exact List.suffix_append ..
 ·rw [show (b == 10) = false by simpa using h, Bool.eq_false_iff]
  intro hs
  rw [List.isSuffixOf_iff_suffix] at hs
  obtain ⟨t, ht⟩ := hs
  have := congrArg List.getLast? ht
  simp at this
  exact h this.symm
theorem Aa3 : ∀ (s acc : Bs), (lnN acc s).length = s.count 10 + (if s ≠ [] ∧ ZY s = false then 1 else 0)
 | [], acc => by rw [if_neg (by simp)]; rfl
 | b :: r, acc => by
  rw [lnN]
  rcases List.eq_nil_or_concat r with rfl | ⟨l, c, rfl⟩
  ·rw [if_pos (.inr rfl), show [b] = ([] : Bs) ++ [b] from rfl, ZX]
   by_cases hb : b = 10
   ·subst hb; rfl
   ·rw [show (b == 10) = false by simpa using hb]
    simp [lnN, hb]
  ·have e1 : ZY (b :: l.concat c) = ZY (l.concat c) := by
    rw [List.concat_eq_append, ← List.cons_append, ZX, ZX]
   have hne : l.concat c ≠ [] := by simp
   by_cases hb : b = 10
   ·subst hb
    rw [if_pos (.inl rfl), List.length_cons, Aa3 (l.concat c) [], e1, List.count_cons_self]
    simp only [ne_eq, hne, not_false_eq_true, true_and, List.cons_ne_nil]
    omega
   ·rw [if_neg (by rintro (h1 | h1); exact hb h1; exact hne h1), Aa3 (l.concat c) _, e1, List.count_cons_of_ne (by simpa using hb)]
    simp only [ne_eq, hne, not_false_eq_true, true_and, List.cons_ne_nil]
theorem Acq (s : Bs) : (lnF s).length = s.count 10 + (if s ≠ [] ∧ ZY s = false then 1 else 0) := Aa3 s []
def Aam (P : Pg) : Prop := ∀ s : Bs, s.length ≤ 140737488351232 → Fn P VG YZ s fun (d : Bool) _ => d = ZY s
theorem AbU (h : Has P Zq) (hS : Zj P) : Aam P := by
 intro s hs
 refine AaN h ?_
 unfold Aac
 exact hS.at hs rfl
def Aae (s : Bs) : Int := if s.length > 1048576 ∨ (lnF s).length > 4096 then 1 else 0
def Aal (P : Pg) : Prop := ∀ s : Bs, s.length ≤ 140737488351232 → Fn P VH YY s fun (d : Int) _ => d = Aae s
theorem AbT (h : Has P Zp) (hC : Zs P) (hE : Aam P) : Aal P := by
 intro s hs
 refine AaM h ?_
 unfold Aab
 refine hC.at ?_
 have hcl := List.count_le_length (a := (10 : UInt8)) (l := s)
 have hl := Acq s
 refine Ao.mid (fun d => (!(s == ([] : Bs))) = true → d = ZY s) ⟨fun _ => (hE s hs).to fun (d : Bool) _ hd _ => hd, (by intro hc hc2; rw [hc] at hc2; cases hc2), trivial⟩ ?_
 intro d hd
 have hfin : ∀ n : Int, n = ((lnF s).length : Nat) → ((cond (decide (((List.length s : Nat) : Int) > (1048576 : Int))) true (decide (n > (4096 : Int)))) = true → (1 : Int) = Aae s) ∧ ((cond (decide (((List.length s : Nat) : Int) > (1048576 : Int))) true (decide (n > (4096 : Int)))) = false → (0 : Int) = Aae s) := by
  rintro n rfl
  unfold Aae
  by_cases h1 : s.length > 1048576
  ·have e1 : decide (((List.length s : Nat) : Int) > (1048576 : Int)) = true := decide_eq_true (by omega)
   rw [e1, if_pos (.inl h1)]
   exact ⟨fun _ => rfl, fun h => nomatch h⟩
  ·have e1 : decide (((List.length s : Nat) : Int) > (1048576 : Int)) = false := decide_eq_false (by omega)
   rw [e1, cond_false]
   by_cases h2 : (lnF s).length > 4096
   ·rw [if_pos (.inr h2), show decide ((((lnF s).length : Nat) : Int) > 4096) = true from decide_eq_true (by omega)]
    exact ⟨fun _ => rfl, fun h => nomatch h⟩
   ·rw [if_neg (by omega), show decide ((((lnF s).length : Nat) : Int) > 4096) = false from decide_eq_false (by omega)]
    exact ⟨(fun h => nomatch h), fun _ => rfl⟩
 refine Ao.mid (fun n => n = ((lnF s).length : Nat)) ⟨fun hc => ?_, fun hc => ?_⟩ hfin
 ·by_cases hn : s = []
  ·subst hn; cases hc
  ·have hb : (!(s == ([] : Bs))) = true := by simpa using hn
   rw [hb, cond_true] at hc
   have he : ZY s = false := by rw [← hd hb]; simpa using hc
   rw [w64 (by omega) (by omega), hl, if_pos ⟨hn, he⟩]
   omega
 ·by_cases hn : s = []
  ·subst hn; rfl
  ·have hb : (!(s == ([] : Bs))) = true := by simpa using hn
   rw [hb, cond_true] at hc
   have he : ZY s = true := by rw [← hd hb]; simpa using hc
   rw [hl, if_neg (by rw [he]; simp)]
   omega
def ZE (P : Pg) : Prop := ∀ s : Bs, s.length ≤ 140737488351232 → Fn P zS5 YP s fun (d : List Bs × Int) _ => d = if Aae s = 0 then (lnF s, 0) else ([], 1)
theorem AbV (h : Has P Zr) (hC : Aal P) (hS : Y2 P) : ZE P := by
 intro s hs
 refine AaO h ?_
 unfold Aad
 refine (hC s hs).to ?_
 rintro (d : Int) _ hd
 have hd : d = Aae s := hd
 subst hd
 refine ⟨fun hc => ?_, fun hc => ?_⟩
 ·have hc : Aae s ≠ 0 := by simpa using hc
  rw [if_neg hc]
  unfold Aae at hc ⊢
  split
  ·rfl
  ·rename_i h1; rw [if_neg h1] at hc; exact absurd rfl hc
 ·have hc : Aae s = 0 := by simpa using hc
  rw [if_pos hc]
  have hl : s.length ≤ 1048576 := by
   unfold Aae at hc
   split at hc
   ·cases hc
   ·omega
  refine hS.at (by omega) ?_
  have hne := Aa7 s []
  have hpos : 0 < (saF s).length := List.length_pos_iff.2 hne
  have hlen : (saF s).length ≤ s.length + 1 := by
   have : ∀ (s acc : Bs), (saN acc s).length ≤ s.length + 1 := by
    intro s
    induction s with
    | nil => intro acc; simp [saN]
    | cons b r ih =>
     intro acc
     rw [saN]
     split
     ·have := ih []; simp only [List.length_cons]; omega
     ·have := ih (acc ++ [b]); simp only [List.length_cons]; omega
   exact this s []
  rw [w64 (n := ((saF s).length : Int) - 1) (by omega) (by omega)]
  have e1 : (((saF s).length : Int) - 1).toNat = (saF s).length - 1 := by omega
  rw [e1]
  refine ⟨⟨by omega, by omega⟩, by omega, Ao.of ⟨fun hb => ⟨⟨by omega, by omega⟩, by omega, ?_⟩, fun hb => ?_⟩⟩
  ·have hb : (saF s).getD ((saF s).length - 1) [] = [] := by simpa using hb
   rw [Ab0, if_pos hb, List.drop_zero, List.dropLast_eq_take]
  ·have hb : ¬ (saF s).getD ((saF s).length - 1) [] = [] := by simpa using hb
   rw [Ab0, if_neg hb]
theorem ZE.at (h : ZE P) {s : Bs} (hs : s.length ≤ 140737488351232) {K : List Bs × Int → Unit → Prop} (hk : K (if Aae s = 0 then (lnF s, 0) else ([], 1)) ()) : Fn P zS5 YP s K :=
 (h s hs).to fun (d : List Bs × Int) _ hd => by
  have hd : d = if Aae s = 0 then (lnF s, 0) else ([], 1) := hd
  subst hd
  exact hk
end Go.VS
