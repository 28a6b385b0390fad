/- Patterns made of pieces are mild. -/
import Derived.Test.YtbandpkgjepklaaKSpPatW
set_option linter.unusedVariables false
set_option linter.unusedSimpArgs false
namespace Go.VS
variable {P : Pg}
theorem Eo (x y : Bs) (p : Nat) : byt (x ++ y) p = if p < x.length then byt x p else byt y (p - x.length) := by
 unfold byt
 split
 ·rename_i h; rw [Dx h]
 ·rename_i h
  simp only [List.getD_eq_getElem?_getD]
  rw [List.getElem?_append_right (by omega)]
theorem Mild.app {x y : Bs} (hx : Mild x) (hy : Mild y) : Mild (x ++ y) := by
 constructor
 ·intro p hp h1 h2
  rw [Eo] at h1 h2 ⊢
  rw [List.length_append] at hp ⊢
  by_cases h : p < x.length
  ·rw [if_pos h] at h1 h2 ⊢
   obtain ⟨k1, k2, k3⟩ := hx.dig p h h1 h2
   refine ⟨k1, by omega, ?_⟩
   rw [Eo, if_pos k2]
   exact k3
  ·rw [if_neg h] at h1 h2 ⊢
   obtain ⟨k1, k2, k3⟩ := hy.dig (p - x.length) (by omega) h1 h2
   refine ⟨k1, by omega, ?_⟩
   rw [Eo, if_neg (by omega), show p + 1 - x.length = p - x.length + 1 by omega]
   exact k3
 ·intro p hp h1
  rw [Eo] at h1
  rw [List.length_append] at hp ⊢
  by_cases h : p < x.length
  ·rw [if_pos h] at h1
   obtain ⟨q, k1, k2, k3, k4, k5⟩ := hx.grp p h h1
   refine ⟨q, k1, k2, by omega, by rw [Eo, if_pos k3]; exact k4, fun i i1 i2 => ?_⟩
   rw [Eo, if_pos (by omega)]
   exact k5 i i1 i2
  ·rw [if_neg h] at h1
   obtain ⟨q, k1, k2, k3, k4, k5⟩ := hy.grp (p - x.length) (by omega) h1
   refine ⟨q + x.length, by omega, by omega, by omega, ?_, fun i i1 i2 => ?_⟩
   ·rw [Eo, if_neg (by omega), show q + x.length - x.length = q by omega]; exact k4
   ·rw [Eo, if_neg (by omega)]
    exact k5 (i - x.length) (by omega) (by omega)
def Z5 (s : Bs) : Bool := (List.range s.length).all fun p =>
 (!(decide (48 ≤ byt s p) && decide (byt s p ≤ 57)) || (decide (byt s p ≤ 50) && (decide (p + 1 < s.length) && !(decide (48 ≤ byt s (p + 1)) && decide (byt s (p + 1) ≤ 57))))) &&
 (!(byt s p == 40) || (List.range 5).any fun r => decide (0 < r) && (decide (p + r < s.length) && (byt s (p + r) == 41 && (List.range (p + r)).all fun i => !(decide (p < i)) || (byt s i == 97 || (byt s i == 98 || byt s i == 124)))))
abbrev MB (s : Bs) : Prop := Z5 s = true
theorem MB.mild {s : Bs} (h : MB s) : Mild s := by
 unfold MB Z5 at h
 rw [List.all_eq_true] at h
 refine ⟨fun p hp h1 h2 => ?_, fun p hp h1 => ?_⟩
 ·have h3 := h p (by simpa using hp)
  rw [Bool.and_eq_true] at h3
  have h3 := h3.1
  rw [decide_eq_true h1, decide_eq_true h2] at h3
  simp only [Bool.and_self, Bool.not_true, Bool.false_or, Bool.and_eq_true, decide_eq_true_eq, Bool.not_eq_true', Bool.and_eq_false_iff, decide_eq_false_iff_not] at h3
  refine ⟨h3.1, h3.2.1, ?_⟩
  rintro ⟨h4, h5⟩
  rcases h3.2.2 with h6 | h6
  ·exact h6 h4
  ·exact h6 h5
 ·have h3 := h p (by simpa using hp)
  rw [Bool.and_eq_true] at h3
  have h3 := h3.2
  rw [h1] at h3
  simp only [beq_self_eq_true, Bool.not_true, Bool.false_or, List.any_eq_true, List.mem_range, Bool.and_eq_true, decide_eq_true_eq, List.all_eq_true, Bool.or_eq_true, Bool.not_eq_true', decide_eq_false_iff_not, beq_iff_eq] at h3
  obtain ⟨r, r5, r0, r1, r2, r3⟩ := h3
  refine ⟨p + r, by omega, by omega, r1, r2, fun i i1 i2 => ?_⟩
  rcases r3 i i1 with h4 | h4
  ·exact absurd i2 h4
  ·exact h4
abbrev GK : List Bs := [[97], [98], [46], [91, 97, 98, 93], [91, 94, 97, 93], [40, 97, 124, 98, 41], [40, 97, 98, 41], [91, 91, 58, 97, 108, 112, 104, 97, 58, 93, 120, 93], [92, 43], [40, 41], [40, 98, 124, 41], [91, 97, 45, 99, 93], [93], [120]]
abbrev HT : List Bs := [[], [], [], [42], [43], [63], [123, 50, 125], [123, 49, 44, 50, 125], [123, 48, 44, 49, 125], [123, 50, 44, 125]]
theorem UF : ∀ k, k < 14 → MB (GK.getD k []) ∧ (GK.getD k []).length ≤ 12 := by decide
theorem UZ : ∀ k, k < 10 → MB (HT.getD k []) ∧ (HT.getD k []).length ≤ 5 := by decide
def L0 (P : Pg) : Prop := ∀ x : List Int × Int, Fn P Y2 CJ x fun (d : Bs) _ => Mild d ∧ d.length ≤ 160
theorem Vl (h : Has P Gh) (hA : Sy P) (hM : NF P) : L0 P := by
 rintro ⟨raw, n⟩
 refine Pw h ?_
 unfold LO
 dsimp only
 refine hA.at (by decide) ⟨by decide, ?_⟩
 refine Ag.mid (fun d => Mild d ∧ d.length ≤ 1) ⟨fun _ => ⟨(MB.mild (by decide)), by decide⟩, fun _ => ⟨(MB.mild (by decide)), by decide⟩⟩ ?_
 rintro s0 ⟨m0, l0⟩
 refine Ag.mid (fun d => Mild d ∧ d.length ≤ 150) ?_ ?_
 ·refine B0.of (fun q => 0 ≤ q.2 ∧ q.2 ≤ 7 ∧ Mild q.1 ∧ (q.1.length : Int) ≤ 18 * q.2 + 1) (fun q => (8 - q.2).toNat) ⟨Int.le_refl _, by dsimp only; omega, m0, by dsimp only; omega⟩ ?_
  rintro ⟨s, i⟩ ⟨i0, i1, hm, hl⟩
  dsimp only at i0 i1 hm hl ⊢
  have hr := Jw (a := n) (n := 8) (by decide) (by decide)
  refine hM.at (by decide) (by decide) ⟨fun hc => ?_, fun hc => ⟨hm, by omega⟩⟩
  have hc := of_decide_eq_true hc
  rw [w64 (n := 10 + i) (by omega) (by omega), w64 (n := 30 + i) (by omega) (by omega), w64 (n := 50 + i) (by omega) (by omega), w64 (n := i + 1) (by omega) (by omega)]
  refine Ag.mid (fun d => Mild d ∧ (d.length : Int) ≤ s.length + 18) (Ag.mid (fun d => Mild d ∧ (d.length : Int) ≤ s.length + 17) ?_ ?_) ?_
  ·have ha := Jw (a := atF raw (10 + i)) (n := 14) (by decide) (by decide)
   have hb := Jw (a := atF raw (30 + i)) (n := 10) (by decide) (by decide)
   refine ⟨hA.at (by omega) ⟨hM.at (by decide) (by decide) ?_, trivial⟩, trivial⟩
   generalize LL (atF raw (10 + i)) 14 = a at ha ⊢
   obtain ⟨a1, a2⟩ := UF a.toNat (by omega)
   obtain ⟨b1, b2⟩ := UZ (LL (atF raw (30 + i)) 10).toNat (by omega)
   have a3 : a.toNat < GK.length := by show a.toNat < 14; omega
   have a4 : a < ((GK.length : Nat) : Int) := by show a < 14; omega
   have b3 : (LL (atF raw (30 + i)) 10).toNat < HT.length := by show _ < 10; omega
   have b4 : LL (atF raw (30 + i)) 10 < ((HT.length : Nat) : Int) := by show _ < (10 : Int); omega
   have c1 : s.length + (GK.getD a.toNat []).length ≤ 9223372036854775807 := by omega
   have c2 : (s ++ GK.getD a.toNat []).length + (HT.getD (LL (atF raw (30 + i)) 10).toNat []).length ≤ 9223372036854775807 := by rw [List.length_append]; omega
   have fin : Mild ((s ++ GK.getD a.toNat []) ++ HT.getD (LL (atF raw (30 + i)) 10).toNat []) ∧ ((((s ++ GK.getD a.toNat []) ++ HT.getD (LL (atF raw (30 + i)) 10).toNat []).length : Nat) : Int) ≤ s.length + 17 :=
    ⟨(hm.app a1.mild).app b1.mild, by rw [List.length_append, List.length_append]; omega⟩
   refine ⟨⟨ha.1, a4⟩, ⟨a3, c1, hA.at (by omega) ⟨hM.at (by decide) (by decide) ⟨⟨hb.1, b4⟩, b3, c2, fin, trivial⟩, trivial⟩, trivial⟩, hA.at (by omega) ⟨⟨a3, c1, hM.at (by decide) (by decide) ⟨⟨hb.1, b4⟩, b3, c2, fin, trivial⟩, trivial⟩, hM.at (by decide) (by decide) ⟨a3, c1, ⟨hb.1, b4⟩, b3, c2, fin, trivial⟩, trivial⟩, trivial⟩
  ·rintro s1 ⟨m1, l1⟩
   refine hA.at (by omega) ⟨by decide, ?_⟩
   refine Ag.of ⟨fun _ => ⟨by simp only [List.length_cons, List.length_nil]; omega, m1.app (MB.mild (by decide)), ?_⟩, fun _ => ⟨m1, by omega⟩⟩
   rw [List.length_append]; simp only [List.length_cons, List.length_nil]; omega
  ·rintro s1 ⟨m1, l1⟩
   exact ⟨⟨by omega, by omega, m1, by omega⟩, by omega⟩
 ·rintro s1 ⟨m1, l1⟩
  refine hA.at (by decide) ⟨by decide, ?_⟩
  refine Ag.mid (fun d => Mild d ∧ d.length ≤ 160) ⟨fun _ => ⟨by simp only [List.length_cons, List.length_nil]; omega, m1.app (MB.mild (by decide)), ?_⟩, fun _ => ⟨m1, by omega⟩⟩ fun d hd => hd
  rw [List.length_append]; simp only [List.length_cons, List.length_nil]; omega
end Go.VS
