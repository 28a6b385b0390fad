/- Lists of nodes: which are valid; weights. -/
import Derived.Test.YtbandpkgjepklaaKSpGen
set_option linter.unusedVariables false
set_option linter.unusedSimpArgs false
namespace Go.VS
variable {P : Pg}
def R8 (n : Node) (at_ : Nat) : Prop := (∀ k, k < n.2.2.2.2.length → 0 ≤ n.2.2.2.2.getD k 0 ∧ n.2.2.2.2.getD k 0 < (at_ : Int)) ∧ 0 ≤ n.1 ∧ n.1 ≤ 6 ∧ (n.1 ≤ 3 → n.2.2.2.2.length = 0) ∧ (n.1 = 4 ∨ n.1 = 5 → 2 ≤ n.2.2.2.2.length) ∧ (n.1 = 6 → n.2.2.2.2.length = 1 ∧ 0 ≤ n.2.2.1 ∧ n.2.2.1 ≤ 100 ∧ (n.2.2.2.1 = -1 ∨ n.2.2.1 ≤ n.2.2.2.1 ∧ n.2.2.2.1 ≤ 100))
structure Aad (l : List Node) : Prop where
 lo : 1 ≤ l.length
 hi : l.length ≤ 4000
 ok : ∀ i, i < l.length → R8 (l.getD i Ak) i
def KB (l : List Node) : Prop := ∀ i, (l.getD i Ak).2.2.2.2.length ≤ 140737488351232
def Acg (P : Pg) : Prop := ∀ x : Node, Fn P Y6 AbD x fun (d : Bool) _ => d = true ↔ (0 ≤ x.2.2.1 ∧ x.2.2.1 ≤ 100 ∧ (x.2.2.2.1 = -1 ∨ x.2.2.1 ≤ x.2.2.2.1 ∧ x.2.2.2.1 ≤ 100))
theorem AcN (h : Has P AbM) : Acg P := by
 intro x
 refine Ab9 h ?_
 unfold AbY
 simp
 omega
def Acw (P : Pg) : Prop := ∀ x : Node × Int, 0 ≤ x.2 → x.1.2.2.2.2.length ≤ 140737488351232 → Fn P Y7 AbE x fun (d : Bool) _ => d = true ↔ R8 x.1 x.2.toNat
theorem AcS (h : Has P AbU) (hB : Acg P) : Acw P := by
 rintro ⟨⟨k, w, mn, mx, kids⟩, a⟩ ha hl
 dsimp only at ha hl
 refine Ack h ?_
 unfold Ab4
 dsimp only
 refine Ag.mid (fun _ => ∀ i, i < kids.length → 0 ≤ kids.getD i 0 ∧ kids.getD i 0 < a) ?_ fun d hd => ?_
 ·refine B0.of (fun d => 0 ≤ d.2 ∧ d.2 ≤ kids.length ∧ ∀ i : Nat, (i : Int) < d.2 → 0 ≤ kids.getD i 0 ∧ kids.getD i 0 < a) (fun d => (kids.length - d.2).toNat) ⟨Int.le_refl _, by dsimp only; omega, fun i hi => by dsimp only at hi; omega⟩ ?_
  rintro ⟨u, i⟩ ⟨i0, i1, hi⟩
  dsimp only at i0 i1 hi ⊢
  refine ⟨fun hc => Ag.of ⟨⟨i0, of_decide_eq_true hc⟩, ?_, fun hb => ?_, fun hb => ?_⟩, fun hc => ?_⟩
  ·have hc := of_decide_eq_true hc; omega
  ·have hc := of_decide_eq_true hc
   refine ⟨fun hh => (nomatch hh), fun ho => ?_⟩
   have := ho.1 i.toNat (by dsimp only; omega)
   simp [-List.getD_eq_getElem?_getD] at hb
   dsimp only at this
   omega
  ·have hc := of_decide_eq_true hc
   rw [w64 (by omega) (by omega)]
   simp [-List.getD_eq_getElem?_getD] at hb
   refine ⟨⟨by omega, by omega, fun j hj => ?_⟩, by omega⟩
   by_cases e : j = i.toNat
   ·subst e; exact hb
   ·exact hi j (by omega)
  ·have hc := of_decide_eq_false hc
   exact fun j hj => hi j (by omega)
 ·have hkk : ∀ k', k' < kids.length → 0 ≤ kids.getD k' 0 ∧ kids.getD k' 0 < (a.toNat : Int) := fun k' hk' => by have := hd k' hk'; omega
  refine Ag.of (Ag.mid (fun d => d = true ↔ (0 ≤ k ∧ k ≤ 3)) ?_ ?_)
  ·refine ⟨fun hc => ?_, fun hc => Ag.of ⟨fun hc2 => ?_, fun hc2 => Ag.of ⟨fun hc3 => ?_, fun hc3 => ?_⟩⟩⟩ <;> simp at * <;> omega
  ·intro d10 h10
   refine ⟨fun hc => ?_, fun hc => Ag.mid (fun d => d = true ↔ (k = 4 ∨ k = 5)) ?_ ?_⟩
   ·have := h10.1 hc
    simp [R8, -List.getD_eq_getElem?_getD]
    constructor
    ·intro e; subst e; simp; omega
    ·intro hh; have := hh.2.2.2.1 (by omega); exact this
   ·refine ⟨fun hc2 => ?_, fun hc2 => ?_⟩ <;> simp at * <;> omega
   ·intro d16 h16
    have hno : ¬ (0 ≤ k ∧ k ≤ 3) := by rw [← h10, hc]; simp
    refine ⟨fun hc2 => ?_, fun hc2 => ⟨fun hc3 => Ag.mid (fun d => d = true ↔ kids.length = 1 ∧ (0 ≤ mn ∧ mn ≤ 100 ∧ (mx = -1 ∨ mn ≤ mx ∧ mx ≤ 100))) ⟨fun hc4 => (hB _).to ?_, fun hc4 => ?_, trivial⟩ ?_, fun hc3 => ?_⟩⟩
    ·have := h16.1 hc2
     simp only [R8, decide_eq_true_eq]
     constructor
     ·intro e; exact ⟨hkk, by omega, by omega, by omega, by omega, by omega⟩
     ·intro hh; have := hh.2.2.2.2.1 (by omega); omega
    ·rintro (b : Bool) _ hb
     simp only [hb]
     simp at hc4
     exact ⟨fun e => ⟨by omega, e⟩, fun e => e.2⟩
    ·simp at hc4
     exact ⟨fun e => (nomatch e), fun e => by omega⟩
    ·rintro b hb
     have hc3 : k = 6 := by simpa using hc3
     simp only [R8]
     constructor
     ·intro e
      simp at e
      have := hb.1 e.2
      exact ⟨hkk, by omega, by omega, by omega, by omega, fun _ => ⟨this.1, this.2⟩⟩
     ·intro hh
      have := hh.2.2.2.2.2 hc3
      have e2 := hb.2 ⟨this.1, this.2⟩
      simp [this.1, e2]
    ·have : ¬ (k = 4 ∨ k = 5) := by rw [← h16, hc2]; simp
     simp at hc3
     simp only [R8]
     refine ⟨fun hh => (nomatch hh), fun hh => ?_⟩
     have := hh.2.1; have := hh.2.2.1; omega
def Ab6 (P : Pg) : Prop := ∀ x : List Node, KB x → x.length ≤ 140737488351232 → Fn P QV AbF x fun (d : Int) _ => (Aad x → d = 0) ∧ (¬ Aad x → d = 2)
theorem AcQ (h : Has P AbR) (hF : Acw P) : Ab6 P := by
 intro x hK hl
 refine Ach h ?_
 unfold Ab0
 refine ⟨fun hc => ⟨fun v => ?_, fun _ => rfl⟩, fun hc => Ag.mid (fun _ => Aad x) ?_ fun _ hv => ⟨fun _ => rfl, fun hn => (hn hv).elim⟩⟩
 ·have := v.lo; have := v.hi; simp at hc; rcases hc with hc | hc
  ·subst hc; exact absurd (by assumption) (show ¬ (1 ≤ ([] : List Node).length) by decide)
  ·omega
 have hc : 1 ≤ x.length ∧ x.length ≤ 4000 := by
  simp at hc
  have : x.length ≠ 0 := fun e => hc.1 (List.eq_nil_of_length_eq_zero e)
  omega
 refine B0.of (fun d => 0 ≤ d.2 ∧ d.2 ≤ x.length ∧ ∀ i : Nat, (i : Int) < d.2 → R8 (x.getD i Ak) i) (fun d => (x.length - d.2).toNat) ⟨Int.le_refl _, by dsimp only; omega, fun i hi => by dsimp only at hi; omega⟩ ?_
 rintro ⟨u, i⟩ ⟨i0, i1, hi⟩
 dsimp only at i0 i1 hi ⊢
 refine ⟨fun hb => Ag.of ?_, fun hb => ?_⟩
 ·have hb := of_decide_eq_true hb
  refine ⟨⟨i0, hb⟩, by omega, ?_⟩
  refine (hF (x.getD i.toNat Ak, i) i0 (hK _)).to ?_
  rintro (b : Bool) _ hbb
  dsimp only at hbb ⊢
  refine ⟨fun hn => ⟨fun v => ?_, fun _ => rfl⟩, fun hn => ?_⟩
  ·have := hbb.2 (v.ok i.toNat (by omega))
   rw [this] at hn; cases hn
  ·have hn : b = true := by simpa using hn
   rw [w64 (by omega) (by omega)]
   refine ⟨⟨by omega, by omega, fun j hj => ?_⟩, by omega⟩
   by_cases e : j = i.toNat
   ·subst e; exact hbb.1 hn
   ·exact hi j (by omega)
 ·have hb := of_decide_eq_false hb
  exact ⟨hc.1, hc.2, fun j hj => hi j (by omega)⟩
def Agm (P : Pg) : Prop := ∀ x : List Node, KB x → x.length ≤ 140737488351232 → Fn P Su Adt x fun (d : Int) _ => (Aad x → d = 0) ∧ (¬ Aad x → d = 2)
theorem AiJ (h : Has P Aei) : Agm P := by
 intro x hK hl
 refine AgX h ?_
 unfold AfL
 refine ⟨fun hc => ⟨fun v => ?_, fun _ => rfl⟩, fun hc => Ag.mid (fun _ => Aad x) ?_ fun _ hv => ⟨fun _ => rfl, fun hn => (hn hv).elim⟩⟩
 ·have := v.lo; have := v.hi; simp at hc; rcases hc with hc | hc
  ·subst hc; exact absurd (by assumption) (show ¬ (1 ≤ ([] : List Node).length) by decide)
  ·omega
 have hc : 1 ≤ x.length ∧ x.length ≤ 4000 := by
  simp at hc
  have : x.length ≠ 0 := fun e => hc.1 (List.eq_nil_of_length_eq_zero e)
  omega
 refine B0.of (fun d => 0 ≤ d.2 ∧ d.2 ≤ x.length ∧ ∀ i : Nat, (i : Int) < d.2 → R8 (x.getD i Ak) i) (fun d => (x.length - d.2).toNat) ⟨Int.le_refl _, by dsimp only; omega, fun i hi => by dsimp only at hi; omega⟩ ?_
 rintro ⟨u, i⟩ ⟨i0, i1, hi⟩
 dsimp only at i0 i1 hi ⊢
 refine ⟨fun hb => Ag.of ?_, fun hb => ?_⟩
 ·have hb := of_decide_eq_true hb
  refine ⟨⟨i0, hb⟩, by omega, ?_⟩
  have hbad : Aad x → R8 (x.getD i.toNat Ak) i.toNat := fun v => v.ok i.toNat (by omega)
  have hgood : R8 (x.getD i.toNat Ak) i.toNat → (0 ≤ i + 1 ∧ i + 1 ≤ (x.length : Int) ∧ ∀ (j : Nat), (j : Int) < i + 1 → R8 (x.getD j Ak) j) ∧ (x.length - (i + 1) : Int).toNat < (x.length - i : Int).toNat := by
   intro hn
   refine ⟨⟨by omega, by omega, fun j hj => ?_⟩, by omega⟩
   by_cases e : j = i.toNat
   ·subst e; exact hn
   ·exact hi j (by omega)
  rw [w64 (n := i + 1) (by omega) (by omega)]
  have hkl := hK i.toNat
  generalize x.getD i.toNat Ak = n at hbad hgood hkl ⊢
  obtain ⟨k, w, mn, mx, kids⟩ := n
  dsimp only at hkl ⊢
  refine Ag.mid (fun _ => ∀ j, j < kids.length → 0 ≤ kids.getD j 0 ∧ kids.getD j 0 < i) ?_ fun d hd => ?_
  ·refine B0.of (fun d => 0 ≤ d.2 ∧ d.2 ≤ kids.length ∧ ∀ j : Nat, (j : Int) < d.2 → 0 ≤ kids.getD j 0 ∧ kids.getD j 0 < i) (fun d => (kids.length - d.2).toNat) ⟨Int.le_refl _, by dsimp only; omega, fun i hi => by dsimp only at hi; omega⟩ ?_
   rintro ⟨u2, j⟩ ⟨j0, j1, hj⟩
   dsimp only at j0 j1 hj ⊢
   refine ⟨fun hc => Ag.of ?_, fun hc => ?_⟩
   ·have hc := of_decide_eq_true hc
    refine ⟨⟨j0, hc⟩, by omega, fun _ => ⟨j0, hc⟩, fun _ => by omega, fun hb => ?_, fun hb => ?_⟩
    ·refine ⟨fun v => ?_, fun _ => rfl⟩
     have := (hbad v).1 j.toNat (by dsimp only; omega)
     simp [-List.getD_eq_getElem?_getD] at hb
     dsimp only at this
     omega
    ·rw [w64 (by omega) (by omega)]
     simp [-List.getD_eq_getElem?_getD] at hb
     refine ⟨⟨by omega, by omega, fun j2 hj2 => ?_⟩, by omega⟩
     by_cases e : j2 = j.toNat
     ·subst e; exact hb
     ·exact hj j2 (by omega)
   ·have hc := of_decide_eq_false hc
    exact fun j2 hj2 => hj j2 (by omega)
  ·have hkk : ∀ k', k' < kids.length → 0 ≤ kids.getD k' 0 ∧ kids.getD k' 0 < (i.toNat : Int) := fun k' hk' => by have := hd k' hk'; omega
   refine Ag.mid (fun d => d = true ∧ 0 ≤ k ∧ k ≤ 6 ↔ R8 (k, w, mn, mx, kids) i.toNat) (Ag.of ?_) ?_
   ·refine ⟨fun hc => ?_, fun hc => Ag.mid (fun d => d = true ↔ (k = 4 ∨ k = 5)) ?_ ?_⟩
    ·have hc : k = 6 := by simpa using hc
     simp [R8, -List.getD_eq_getElem?_getD]
     constructor
     ·intro hh; exact ⟨fun k' hk' => by have := hd k' hk'; omega, by omega⟩
     ·rintro ⟨_, hh⟩; omega
    ·refine ⟨fun hc2 => ?_, fun hc2 => ?_⟩ <;> simp at * <;> omega
    ·intro d18 h18
     have hc : k ≠ 6 := by simpa using hc
     refine Ag.of ⟨fun hc2 => ?_, fun hc2 => ?_⟩
     ·have := h18.1 hc2
      simp only [R8, decide_eq_true_eq]
      constructor
      ·intro e; exact ⟨hkk, by omega, by omega, by omega, by omega, by omega⟩
      ·intro hh; have := hh.2.2.2.2.1 (by omega); omega
     ·have : ¬ (k = 4 ∨ k = 5) := by rw [← h18, hc2]; simp
      simp only [R8, beq_iff_eq]
      constructor
      ·intro e; exact ⟨hkk, by omega, by omega, by omega, by omega, by omega⟩
      ·intro hh; have := hh.2.2.2.1 (by omega); omega
   ·intro d14 h14
    refine ⟨fun hn => ⟨fun v => ?_, fun _ => rfl⟩, fun hn => ?_⟩
    ·have := h14.2 (hbad v)
     rw [this.1] at hn
     simp at hn
     omega
    ·simp at hn
     exact hgood (h14.1 ⟨hn.1.1, by omega, by omega⟩)
 ·have hb := of_decide_eq_false hb
  exact ⟨hc.1, hc.2, fun j hj => hi j (by omega)⟩
def AdS (n : Int) : Int := if 4001 < n then 4001 else n
def Adq (w : List Int) (kids : List Int) : Int := kids.foldl (fun n k => AdS (n + w.getD k.toNat 0)) 0
def Ac7 (n : Node) (w : List Int) : Int :=
 if n.1 = 4 then Adq w n.2.2.2.2
 else if n.1 = 5 then AdS (Adq w n.2.2.2.2 + n.2.2.2.2.length - 1)
 else if n.1 = 6 then (if n.2.2.2.1 < 0 then AdS (n.2.2.1 * Adq w n.2.2.2.2 + Adq w n.2.2.2.2 + 1) else AdS (n.2.2.1 * Adq w n.2.2.2.2 + (n.2.2.2.1 - n.2.2.1) * (Adq w n.2.2.2.2 + 1)))
 else 1
def wts (l : List Node) : List Int := l.foldl (fun w n => w ++ [Ac7 n w]) []
theorem AfG (l : List Node) (n : Node) : wts (l ++ [n]) = wts l ++ [Ac7 n (wts l)] := by simp [wts, List.foldl_append]
theorem Aeg (l : List Node) : (wts l).length = l.length := by
 have : ∀ (l : List Node) (w : List Int), (l.foldl (fun w n => w ++ [Ac7 n w]) w).length = w.length + l.length := by
  intro l
  induction l with
  | nil => intro w; rfl
  | cons n l ih => intro w; simp [ih]; omega
 have := this l []
 rw [wts, this]; simp
def InW (w : List Int) : Prop := ∀ i, 0 ≤ w.getD i 0 ∧ w.getD i 0 ≤ 4001
theorem AeA {n : Int} (h : 0 ≤ n) : 0 ≤ AdS n ∧ AdS n ≤ 4001 := by unfold AdS; split <;> omega
theorem Agt (w : List Int) (l : List Int) (k : Int) : Adq w (l ++ [k]) = AdS (Adq w l + w.getD k.toNat 0) := by simp [Adq, List.foldl_append]
theorem AeF {w : List Int} (h : InW w) (kids : List Int) : 0 ≤ Adq w kids ∧ Adq w kids ≤ 4001 := by
 have : ∀ (kids : List Int) (n : Int), 0 ≤ n ∧ n ≤ 4001 → 0 ≤ kids.foldl (fun n k => AdS (n + w.getD k.toNat 0)) n ∧ kids.foldl (fun n k => AdS (n + w.getD k.toNat 0)) n ≤ 4001 := by
  intro kids
  induction kids with
  | nil => exact fun n h => h
  | cons k kids ih => exact fun n hn => ih _ (AeA (by have := (h k.toNat).1; omega))
 exact this kids 0 (by omega)
theorem AhP {w : List Int} (h : InW w) {n : Node} {i : Nat} (ho : R8 n i) : 0 ≤ Ac7 n w ∧ Ac7 n w ≤ 4001 := by
 obtain ⟨k, st, mn, mx, kids⟩ := n
 have hs := AeF h kids
 obtain ⟨_, _, _, h3, h4, h5⟩ := ho
 dsimp only at h3 h4 h5
 unfold Ac7
 dsimp only
 split
 ·exact hs
 split
 ·have := h4 (by omega); exact AeA (by omega)
 split
 ·obtain ⟨h6, h7, h8, h9⟩ := h5 (by assumption)
  have hp := Int.mul_nonneg h7 hs.1
  split
  ·exact AeA (by omega)
  ·have : 0 ≤ (mx - mn) * (Adq w kids + 1) := Int.mul_nonneg (by omega) (by omega)
   exact AeA (by omega)
 ·omega
theorem AhU {w : List Int} {x : Int} {i : Nat} : (w ++ [x]).getD i 0 = if i < w.length then w.getD i 0 else if i = w.length then x else 0 := by
 split
 ·rename_i h; exact Dx h
 split
 ·rename_i h; subst h; exact HI
 ·rename_i h1 h2
  rw [List.getD_eq_getElem?_getD, List.getElem?_eq_none (by simp; omega)]; rfl
theorem AhJ {l : List Node} (h : ∀ i, i < l.length → R8 (l.getD i Ak) i) : InW (wts l) := by
 induction h0 : l.length generalizing l with
 | zero =>
  have : l = [] := List.eq_nil_of_length_eq_zero h0
  subst this
  intro i; simp [wts]
 | succ m ih =>
  obtain ⟨l, n, rfl⟩ : ∃ l' n, l = l' ++ [n] := ⟨l.dropLast, l.getLast (by intro e; subst e; simp at h0), (List.dropLast_concat_getLast _).symm⟩
  have ih := fun h => ih (l := l) h (by simp at h0; exact h0)
  have ih := ih fun i hi => by have := h i (by simp; omega); rwa [Dx hi] at this
  have hn := h l.length (by simp)
  rw [HI] at hn
  rw [AfG]
  intro i
  rw [AhU]
  split
  ·exact ih i
  split
  ·exact AhP ih hn
  ·omega
end Go.VS
