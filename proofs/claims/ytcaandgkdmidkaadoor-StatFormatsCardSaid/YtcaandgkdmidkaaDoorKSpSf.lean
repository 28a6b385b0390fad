/- Statistics as a text. -/
import Derived.Test.YtcaandgkdmidkaaDoorKSpStat
import Derived.Test.YtcaandgkdmidkaaDoorKSpFmt
import Derived.Test.YtcaandgkdmidkaaDoorKSpScan
import Derived.Test.YtcaandgkdmidkaaDoorKSpQuo
set_option linter.unusedVariables false
set_option linter.unusedSimpArgs false
namespace Go.VS
variable {P : Pg}
def Qo (s : Stat) (a r : Int) : Prop := DR s.2.1 ∧ DR s.2.2 ∧ DR (a + s.2.1 + (r + s.2.2))
instance (s : Stat) (a r : Int) : Decidable (Qo s a r) := by unfold Qo; infer_instance
def Fx : List Stat → Int → Int → Int → Int × (Int × (Int × Bool))
 | [], a, r, m => (a, (r, (m, true)))
 | s :: l, a, r, m => if Qo s a r then Fx l (a + s.2.1) (r + s.2.2) (if s.2.1 + s.2.2 > m then s.2.1 + s.2.2 else m) else (0, (0, (0, false)))
def Fw (l : List Stat) : Int × (Int × (Int × Bool)) := Fx l 0 0 0
theorem OS : ∀ {l : List Stat} {a r m : Int}, (Fx l a r m).2.2.2 = true → 0 ≤ a → 0 ≤ r → a + r ≤ 2147483647 → 0 ≤ m → m ≤ 2147483647 →
  0 ≤ (Fx l a r m).1 ∧ 0 ≤ (Fx l a r m).2.1 ∧ (Fx l a r m).1 + (Fx l a r m).2.1 ≤ 2147483647 ∧ m ≤ (Fx l a r m).2.2.1 ∧ (Fx l a r m).2.2.1 ≤ 2147483647 ∧ ∀ s ∈ l, 0 ≤ s.2.1 ∧ 0 ≤ s.2.2 ∧ s.2.1 + s.2.2 ≤ (Fx l a r m).2.2.1
 | [], a, r, m, h, h1, h2, h3, h4, h5 => ⟨h1, h2, h3, Int.le_refl _, h5, fun s hs => nomatch hs⟩
 | s :: l, a, r, m, h, h1, h2, h3, h4, h5 => by
  rw [Fx] at h ⊢
  by_cases hc : Qo s a r
  ·rw [if_pos hc] at h ⊢
   obtain ⟨⟨c1, c2⟩, ⟨c3, c4⟩, ⟨c5, c6⟩⟩ := hc
   have hm : 0 ≤ (if s.2.1 + s.2.2 > m then s.2.1 + s.2.2 else m) ∧ (if s.2.1 + s.2.2 > m then s.2.1 + s.2.2 else m) ≤ 2147483647 ∧ m ≤ (if s.2.1 + s.2.2 > m then s.2.1 + s.2.2 else m) ∧ s.2.1 + s.2.2 ≤ (if s.2.1 + s.2.2 > m then s.2.1 + s.2.2 else m) := by split <;> omega
   obtain ⟨k1, k2, k3, k4, k5, k6⟩ := OS h (by omega) (by omega) (by omega) hm.1 hm.2.1
   refine ⟨k1, k2, k3, by omega, k5, fun t ht => ?_⟩
   rcases List.mem_cons.1 ht with rfl | ht
   ·exact ⟨c1, c3, by omega⟩
   ·exact k6 t ht
  ·rw [if_neg hc] at h
   cases h
def HZ (P : Pg) : Prop := ∀ x : List Stat, x.length ≤ 1000000 → Fn P "mergelens/stat.totals" BF x fun (d : Int × (Int × (Int × Bool))) _ => d = Fw x
theorem Py (h : Has P Ds) (hN : DZ P) : HZ P := by
 intro x hx
 refine Jy h ?_
 unfold GG
 refine BI.mid (fun q => (q.1, (q.2.1, (q.2.2.1, true))) = Fw x) ?_ fun q hq => hq
 refine Mb.of (fun q => 0 ≤ q.1 ∧ 0 ≤ q.2.1 ∧ q.1 + q.2.1 ≤ 2147483647 ∧ 0 ≤ q.2.2.1 ∧ q.2.2.1 ≤ 2147483647 ∧ 0 ≤ q.2.2.2.2 ∧ q.2.2.2.2 ≤ x.length ∧ Fw x = Fx (x.drop q.2.2.2.2.toNat) q.1 q.2.1 q.2.2.1) (fun q => (x.length - q.2.2.2.2).toNat) ⟨by decide, by decide, by decide, by decide, by decide, by decide, by dsimp only; omega, rfl⟩ ?_
 rintro ⟨a, r, m, b, i⟩ ⟨a0, r0, ar, m0, m1, i0, i1, e⟩
 dsimp only at a0 r0 ar m0 m1 i0 i1 e ⊢
 refine ⟨fun hc => ?_, fun hc => ?_⟩
 ·have hc := of_decide_eq_true hc
  have hi : i.toNat < x.length := by omega
  have hd : x.drop i.toNat = x.getD i.toNat FH :: x.drop (i.toNat + 1) := by
   rw [List.drop_eq_getElem_cons hi, List.getD_eq_getElem?_getD, List.getElem?_eq_getElem hi, Option.getD_some]
  rw [hd] at e
  generalize x.getD i.toNat FH = s at e ⊢
  obtain ⟨p, sa, sr⟩ := s
  dsimp only
  refine BI.mid (fun q => Fw x = Fx (x.drop (i.toNat + 1)) q.1 q.2.1 q.2.2.1 ∧ 0 ≤ q.1 ∧ 0 ≤ q.2.1 ∧ q.1 + q.2.1 ≤ 2147483647 ∧ 0 ≤ q.2.2.1 ∧ q.2.2.1 ≤ 2147483647) ⟨⟨i0, hc⟩, hi, hN.at ?_⟩ ?_
  ·by_cases c1 : DR sa
   ·rw [decide_eq_true c1]
    refine BI.mid (fun q => q = decide (DR sr)) ⟨fun _ => hN.at rfl, fun hh => by simp at hh, trivial⟩ ?_
    rintro q rfl
    by_cases c2 : DR sr
    ·rw [decide_eq_true c2]
     unfold DR at c1 c2
     refine ⟨fun hh => by simp at hh, fun _ => ?_⟩
     rw [w64 (n := a + sa) (by omega) (by omega), w64 (n := r + sr) (by omega) (by omega), w64 (n := sa + sr) (by omega) (by omega), w64 (n := a + sa + (r + sr)) (by omega) (by omega)]
     refine hN.at ?_
     by_cases c3 : DR (a + sa + (r + sr))
     ·rw [decide_eq_true c3]
      refine ⟨fun hh => by simp at hh, fun _ => ?_⟩
      have hok : Qo (p, (sa, sr)) a r := ⟨c1, c2, c3⟩
      rw [Fx, if_pos hok] at e
      unfold DR at c3
      refine ⟨e, by dsimp only; omega, by dsimp only; omega, by dsimp only; omega, ?_, ?_⟩
      ·dsimp only; split <;> omega
      ·dsimp only; split <;> omega
     ·rw [decide_eq_false c3]
      refine ⟨fun _ => ?_, fun hh => by simp at hh⟩
      rw [Fx, if_neg (fun x => c3 x.2.2)] at e
      exact e.symm
    ·rw [decide_eq_false c2]
     refine ⟨fun _ => ?_, fun hh => by simp at hh⟩
     rw [Fx, if_neg (fun x => c2 x.2.1)] at e
     exact e.symm
   ·rw [decide_eq_false c1]
    refine BI.mid (fun q => True) ⟨fun hh => by simp at hh, fun _ => trivial, trivial⟩ ?_
    intro q _
    refine ⟨fun _ => ?_, fun hh => by simp at hh⟩
    rw [Fx, if_neg (fun x => c1 x.1)] at e
    exact e.symm
  ·rintro ⟨a', r', m', b'⟩ ⟨e', k1, k2, k3, k4, k5⟩
   dsimp only at e' k1 k2 k3 k4 k5 ⊢
   rw [w64 (by omega) (by omega)]
   refine ⟨⟨k1, k2, k3, k4, k5, by omega, by omega, ?_⟩, by omega⟩
   rw [show (i + 1).toNat = i.toNat + 1 by omega]
   exact e'
 ·have hc := of_decide_eq_false hc
  rw [show i.toNat = x.length by omega, List.drop_length] at e
  exact e.symm
def Cj (most width : Int) (s : Stat) : Bs :=
 (((((((([32] : Bs) ++ CY s.1) ++ [32, 124, 32]) ++ Ed (s.2.1 + s.2.2)) ++ [32]) ++ List.replicate (Cz s.2.1 s.2.2 most width).1.toNat 43) ++ List.replicate (Cz s.2.1 s.2.2 most width).2.toNat 45) ++ [10])
def LG (n a r : Int) : Bs := (((((([32] : Bs) ++ Ed n) ++ [32, 102, 105, 108, 101, 115, 44, 32]) ++ Ed a) ++ [32, 97, 100, 100, 101, 100, 44, 32]) ++ Ed r) ++ [32, 114, 101, 109, 111, 118, 101, 100, 10]
def sfF (l : List Stat) (width : Int) : Bs × Int :=
 if (Fw l).2.2.2 = false ∨ width < 2 ∨ width > 1000 then ([], 3) else (l.flatMap (Cj (Fw l).2.2.1 width) ++ LG l.length (Fw l).1 (Fw l).2.1, 0)
def Few (l : List Stat) : Prop := l.length ≤ 8 ∧ ∀ s ∈ l, s.1.length ≤ 60
def GM (P : Pg) : Prop := ∀ x : List Stat × Int, Few x.1 → Fn P zS6 Dt x fun (d : Bs × Int) _ => d = sfF x.1 x.2
theorem Mj {a r most width : Int} (ha : 0 ≤ a) (hr : 0 ≤ r) (h : a + r ≤ most) (hw : 2 ≤ width) (hw2 : width ≤ 1000) : 0 ≤ (Cz a r most width).1 ∧ (Cz a r most width).1 ≤ 1000 ∧ 0 ≤ (Cz a r most width).2 ∧ (Cz a r most width).2 ≤ 1000 := by
 by_cases hm : most ≤ width
 ·unfold Cz
  rw [if_pos hm]
  dsimp only
  omega
 ·have := QT ha hr h hw (by omega)
  omega
theorem Lo (s : Bs) : (CY s).length ≤ 4 * s.length + 2 := by
 have esc : ∀ l : Bs, (l.flatMap DN).length ≤ 4 * l.length := by
  intro l
  induction l with
  | nil => simp
  | cons b l ih =>
   have hb : (DN b).length ≤ 4 := by
    unfold DN
    repeat' split
    all_goals simp
   rw [List.flatMap_cons, List.length_append, List.length_cons]
   omega
 unfold CY
 split
 ·omega
 ·have := esc s
  simp only [List.length_cons, List.length_append, List.length_nil]
  omega
theorem Pj {most width : Int} {s : Stat} (h1 : 0 ≤ s.2.1) (h2 : 0 ≤ s.2.2) (h : s.2.1 + s.2.2 ≤ most) (hw : 2 ≤ width) (hw2 : width ≤ 1000) (hp : s.1.length ≤ 60) : (Cj most width s).length ≤ 3000 := by
 have hb := Mj h1 h2 h hw hw2
 have hq := Lo s.1
 have hf := Hn (s.2.1 + s.2.2)
 unfold Cj
 simp only [List.length_append, List.length_replicate, List.length_cons, List.length_nil]
 omega
theorem Ug (n a r : Int) : (LG n a r).length ≤ 60 := by
 have h1 := Hn n; have h2 := Hn a; have h3 := Hn r
 unfold LG
 simp only [List.length_append, List.length_cons, List.length_nil]
 omega
end Go.VS
