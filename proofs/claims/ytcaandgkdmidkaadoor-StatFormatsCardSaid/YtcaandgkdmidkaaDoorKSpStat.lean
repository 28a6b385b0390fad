/- Bars of statistics: the program's, the document's. -/
import Derived.Test.YtcaandgkdmidkaaDoorKSpBarF
import Derived.Test.YtcaandgkdmidkaaDoorKSpGen
set_option linter.unusedVariables false
set_option linter.unusedSimpArgs false
namespace Go.VS
variable {P : Pg}
def DR (n : Int) : Prop := 0 ≤ n ∧ n ≤ 2147483647
instance (n : Int) : Decidable (DR n) := by unfold DR; infer_instance
theorem RC {n most width : Int} (h0 : 0 ≤ n) (h1 : n ≤ most) (hm : 0 < most) (hM : most ≤ 2147483647) (hw : 2 ≤ width) (hw2 : width ≤ 1000) (hn : n ≠ 0) :
  IntKind.i64.wrap (1 + IntKind.i64.wrap (Int.tdiv (IntKind.i64.wrap (n * IntKind.i64.wrap (width - 1))) most)) = scl n most width := by
 have hmul : 0 ≤ n * (width - 1) := Int.mul_nonneg h0 (by omega)
 have hmul2 : n * (width - 1) ≤ 2147483647 * 999 := Int.le_trans (Int.mul_le_mul_of_nonneg_right (show n ≤ 2147483647 by omega) (by omega)) (Int.mul_le_mul_of_nonneg_left (by omega) (by decide))
 have hr := EH h0 h1 hm hw
 unfold scl at hr ⊢
 rw [if_neg hn] at hr ⊢
 rw [w64 (n := width - 1) (by omega) (by omega), w64 (n := n * (width - 1)) (by omega) (by omega), Int.tdiv_eq_ediv_of_nonneg hmul, w64 (n := n * (width - 1) / most) (by omega) (by omega), w64 (by omega) (by omega)]
def DZ (P : Pg) : Prop := ∀ x : Int, Fn P zS4 AD x fun (d : Bool) _ => d = decide (DR x)
theorem Px (h : Has P Dr) : DZ P := by
 intro x
 refine Jx h ?_
 unfold GF
 by_cases h1 : x ≥ 0 <;> by_cases h2 : x ≤ 2147483647 <;> simp [DR, h1, h2] <;> omega
theorem DZ.at (h : DZ P) {x : Int} {K : Bool → Unit → Prop} (hk : K (decide (DR x)) ()) : Fn P zS4 AD x K :=
 (h x).to fun (d : Bool) _ hd => by
  have hd : d = decide (DR x) := hd
  subst hd
  exact hk
def LA (P : Pg) : Prop := ∀ x : Int × (Int × Int), 0 ≤ x.1 → x.1 ≤ x.2.2 → 0 < x.2.2 → x.2.2 ≤ 2147483647 → 2 ≤ x.2.1 → x.2.1 ≤ 1000 → Fn P UF Bl x fun (d : Int) (e : Int × Int) => d = scl x.1 x.2.2 x.2.1 ∧ e = x.2
theorem Rp (h : Has P DJ) : LA P := by
 rintro ⟨n, w, m⟩ h0 h1 h2 h3 h4 h5
 dsimp only at h0 h1 h2 h3 h4 h5
 refine Kw h ?_
 unfold He
 dsimp only
 refine ⟨fun hc => ⟨?_, rfl⟩, fun hc => ⟨by omega, ?_, rfl⟩⟩
 ·have hc : n = 0 := by simpa using hc
  unfold scl
  rw [if_pos hc]
 ·have hc : ¬ n = 0 := by simpa using hc
  exact RC h0 h1 h2 h3 h4 h5 hc
def Iu (a r most width : Int) : Prop := 2 ≤ width ∧ width ≤ 1000 ∧ 0 ≤ a ∧ 0 ≤ r ∧ most ≤ 2147483647 ∧ a + r ≤ most
instance (a r most width : Int) : Decidable (Iu a r most width) := by unfold Iu; infer_instance
def HY (P : Pg) : Prop := ∀ x : Int × (Int × (Int × Int)), Iu x.1 x.2.1 x.2.2.1 x.2.2.2 → Fn P VT BQ x fun (d : Int × Int) _ => d = Cz x.1 x.2.1 x.2.2.1 x.2.2.2
theorem Sm (h : Has P Fg) (hB : LA P) : HY P := by
 rintro ⟨a, r, m, w⟩ ⟨h1, h2, h3, h4, h5, h6⟩
 dsimp only at h1 h2 h3 h4 h5 h6
 refine Mw h ?_
 unfold Jf
 dsimp only
 refine ⟨fun hc => ?_, fun hc => ?_⟩
 ·unfold Cz
  rw [if_pos (of_decide_eq_true hc)]
 have hc := of_decide_eq_false hc
 rw [w64 (n := a + r) (by omega) (by omega)]
 refine (hB (a + r, (w, m)) (by dsimp only; omega) (by dsimp only; omega) (by dsimp only; omega) h5 h1 h2).to ?_
 rintro (d : Int) (e : Int × Int) ⟨rfl, rfl⟩
 dsimp only
 have hall := EH (n := a + r) (most := m) (width := w) (by omega) h6 (by omega) h1
 refine BI.mid (fun q => q = GN a r m w) ⟨fun hb => ?_, fun hb => ?_⟩ ?_
 ·unfold GN
  have hb : a > 0 ∧ r > 0 := by simpa using hb
  split <;> split <;> omega
 ·unfold GN
  have hb : ¬ (a > 0 ∧ r > 0) := by simpa using hb
  rw [if_neg (fun x => hb ⟨x.1, x.2.1⟩)]
 rintro q rfl
 refine (hB ((if r < a then r else a), (w, m)) (by dsimp only; split <;> omega) (by dsimp only; split <;> omega) (by dsimp only; omega) h5 h1 h2).to ?_
 rintro (d : Int) (e : Int × Int) ⟨rfl, rfl⟩
 dsimp only
 have hp := EH (n := if r < a then r else a) (most := m) (width := w) (by split <;> omega) (by split <;> omega) (by omega) h1
 have hA : 0 ≤ GN a r m w ∧ GN a r m w ≤ 1000 := by unfold GN; split <;> omega
 unfold Cz
 rw [if_neg hc]
 refine ⟨fun hb => ?_, fun hb => ?_⟩
 ·have hb := of_decide_eq_true hb
  rw [if_neg (by omega)] at hp ⊢
  rw [if_pos hb, w64 (by omega) (by omega)]
 ·have hb := of_decide_eq_false hb
  rw [if_pos (by omega)] at hp ⊢
  rw [if_neg hb, w64 (by omega) (by omega)]
def Lx (a r most width : Int) : Int × (Int × Int) := if Iu a r most width then ((Cz a r most width).1, ((Cz a r most width).2, 0)) else (0, (0, 3))
def HX (P : Pg) : Prop := ∀ x : Int × (Int × (Int × Int)), Fn P VN Bh x fun (d : Int × (Int × Int)) _ => d = Lx x.1 x.2.1 x.2.2.1 x.2.2.2
theorem Sk (h : Has P Ff) (hN : DZ P) (hB : HY P) : HX P := by
 rintro ⟨a, r, m, w⟩
 refine Mv h ?_
 unfold Je Lx
 dsimp only
 refine BI.mid (fun q => (2 ≤ w ∧ w ≤ 1000) → q = decide (DR a)) ⟨fun _ => hN.at fun _ => rfl, fun hc hw => ?_, trivial⟩ ?_
 ·simp at hc; omega
 intro q1 hq1
 refine BI.mid (fun q => (2 ≤ w ∧ w ≤ 1000 ∧ q1 = true) → q = decide (DR r)) ⟨fun _ => hN.at fun _ => rfl, fun hc hw => ?_, trivial⟩ ?_
 ·simp [hw.2.2] at hc; omega
 intro q2 hq2
 refine BI.mid (fun q => (2 ≤ w ∧ w ≤ 1000 ∧ q1 = true ∧ q2 = true) → q = decide (DR m)) ⟨fun _ => hN.at fun _ => rfl, fun hc hw => ?_, trivial⟩ ?_
 ·simp [hw.2.2.1, hw.2.2.2] at hc; omega
 intro q3 hq3
 by_cases hw : 2 ≤ w ∧ w ≤ 1000
 ·have e1 := hq1 hw
  have d1 : decide (w < 2) = false := decide_eq_false (by omega)
  have d2 : decide (w > 1000) = false := decide_eq_false (by omega)
  rw [d1, d2]
  by_cases ha : DR a
  ·rw [decide_eq_true ha] at e1
   subst e1
   have e2 := hq2 ⟨hw.1, hw.2, rfl⟩
   by_cases hr : DR r
   ·rw [decide_eq_true hr] at e2
    subst e2
    have e3 := hq3 ⟨hw.1, hw.2, rfl, rfl⟩
    unfold DR at ha hr
    rw [w64 (n := a + r) (by omega) (by omega)]
    by_cases hm : DR m
    ·rw [decide_eq_true hm] at e3
     subst e3
     unfold DR at hm
     refine ⟨fun hc => ?_, fun hc => ?_⟩
     ·have hc : m < a + r := by simpa using hc
      rw [if_neg (fun x => by have := x.2.2.2.2.2; omega)]
     ·have hc : ¬ m < a + r := by simpa using hc
      have hok : Iu a r m w := ⟨hw.1, hw.2, ha.1, hr.1, hm.2, by omega⟩
      refine (hB (a, (r, (m, w))) hok).to ?_
      rintro (d : Int × Int) _ hd
      have hd : d = Cz a r m w := hd
      subst hd
      rw [if_pos hok]
    ·rw [decide_eq_false hm] at e3
     subst e3
     refine ⟨fun _ => ?_, fun hc => by simp at hc⟩
     rw [if_neg (fun x => hm ⟨by have := x.2.2.2.2.2; omega, x.2.2.2.2.1⟩)]
   ·rw [decide_eq_false hr] at e2
    subst e2
    refine ⟨fun _ => ?_, fun hc => by simp at hc⟩
    unfold DR at ha
    rw [if_neg (fun x => hr ⟨x.2.2.2.1, by have := x.2.2.2.2; omega⟩)]
  ·rw [decide_eq_false ha] at e1
   subst e1
   refine ⟨fun _ => ?_, fun hc => by simp at hc⟩
   rw [if_neg (fun x => ha ⟨x.2.2.1, by have := x.2.2.2; omega⟩)]
 ·refine ⟨fun _ => ?_, fun hc => ?_⟩
  ·rw [if_neg (fun x => hw ⟨x.1, x.2.1⟩)]
  ·simp at hc
   omega
def Jd (P : Pg) : Prop := ∀ x : Int × (Int × Int), 0 ≤ x.1 → x.1 ≤ x.2.1 → 0 < x.2.1 → x.2.1 ≤ 2147483647 → 2 ≤ x.2.2 → x.2.2 ≤ 1000 → Fn P zS9 A6 x fun (d : Int) _ => d = scl x.1 x.2.1 x.2.2
theorem QD (h : Has P Dp) : Jd P := by
 rintro ⟨n, m, w⟩ h0 h1 h2 h3 h4 h5
 dsimp only at h0 h1 h2 h3 h4 h5
 refine Jv h ?_
 unfold GC
 dsimp only
 refine ⟨fun hc => ?_, fun hc => ⟨by omega, ?_⟩⟩
 ·have hc : n = 0 := by simpa using hc
  unfold scl
  rw [if_pos hc]
 ·have hc : ¬ n = 0 := by simpa using hc
  exact RC h0 h1 h2 h3 h4 h5 hc
def Hd (P : Pg) : Prop := ∀ x : Int × (Int × (Int × Int)), Fn P UC Bm x fun (d : Int × (Int × Int)) _ => d = Lx x.1 x.2.1 x.2.2.1 x.2.2.2
theorem Ro (h : Has P Ey) (hS : Jd P) : Hd P := by
 rintro ⟨a, r, m, w⟩
 refine LK h ?_
 unfold Iv Lx
 dsimp only
 by_cases hok : Iu a r m w
 ·obtain ⟨h1, h2, h3, h4, h5, h6⟩ := hok
  rw [w64 (n := m - a) (by omega) (by omega), w64 (n := a + r) (by omega) (by omega)]
  refine ⟨fun hc => ?_, fun _ => ?_⟩
  ·exfalso
   simp at hc
   omega
  rw [if_pos ⟨h1, h2, h3, h4, h5, h6⟩]
  refine ⟨fun hc => ?_, fun hc => ?_⟩
  ·unfold Cz
   rw [if_pos (of_decide_eq_true hc)]
  have hc := of_decide_eq_false hc
  refine (hS (a + r, (m, w)) (by dsimp only; omega) (by dsimp only; omega) (by dsimp only; omega) h5 h1 h2).to ?_
  rintro (d : Int) _ rfl
  dsimp only
  have hall := EH (n := a + r) (most := m) (width := w) (by omega) h6 (by omega) h1
  refine BI.mid (fun q => q = GN a r m w) ⟨fun hb => ?_, fun hb => ?_⟩ ?_
  ·unfold GN
   have hb : (a > 0 ∧ r > 0) ∧ scl (a + r) m w < 2 := by simpa using hb
   rw [if_pos ⟨hb.1.1, hb.1.2, hb.2⟩]
  ·unfold GN
   rw [if_neg (fun x => by simp [x.1, x.2.1, x.2.2] at hb)]
  rintro q rfl
  refine (hS ((if r < a then r else a), (m, w)) (by dsimp only; split <;> omega) (by dsimp only; split <;> omega) (by dsimp only; omega) h5 h1 h2).to ?_
  rintro (d : Int) _ rfl
  dsimp only
  have hp := EH (n := if r < a then r else a) (most := m) (width := w) (by split <;> omega) (by split <;> omega) (by omega) h1
  have hA : 0 ≤ GN a r m w ∧ GN a r m w ≤ 1000 := by unfold GN; split <;> omega
  unfold Cz
  rw [if_neg hc]
  refine ⟨fun hb => ?_, fun hb => ?_⟩
  ·have hb := of_decide_eq_true hb
   rw [if_neg (show ¬ r < a by omega)] at hp ⊢
   rw [if_pos hb, w64 (by omega) (by omega)]
  ·have hb := of_decide_eq_false hb
   rw [if_pos (show r < a by omega)] at hp ⊢
   rw [if_neg hb, w64 (by omega) (by omega)]
 ·rw [if_neg hok]
  refine ⟨fun _ => rfl, fun hc => ?_⟩
  exfalso
  apply hok
  simp at hc
  obtain ⟨⟨⟨⟨⟨⟨⟨c1, c2⟩, c3⟩, c4⟩, c5⟩, c6⟩, c7⟩, c8⟩ := hc
  rw [w64 (n := m - a) (by omega) (by omega)] at c8
  exact ⟨by omega, by omega, by omega, by omega, by omega, by omega⟩
end Go.VS
