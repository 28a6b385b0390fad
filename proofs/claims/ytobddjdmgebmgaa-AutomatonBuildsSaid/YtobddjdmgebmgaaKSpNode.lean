/- Lists of nodes: which are valid; weights. -/
import Derived.Test.YtobddjdmgebmgaaKSpGen
set_option linter.unusedVariables false
set_option linter.unusedSimpArgs false
namespace Go.VS
variable {P : Program}
def okNode (n : Node) (at_ : Nat) : Prop := (∀ k, k < n.2.2.2.2.length → 0 ≤ n.2.2.2.2.getD k 0 ∧ n.2.2.2.2.getD k 0 < (at_ : Int)) ∧ 0 ≤ n.1 ∧ n.1 ≤ 6 ∧ (n.1 ≤ 3 → n.2.2.2.2.length = 0) ∧ (n.1 = 4 ∨ n.1 = 5 → 2 ≤ n.2.2.2.2.length) ∧ (n.1 = 6 → n.2.2.2.2.length = 1 ∧ 0 ≤ n.2.2.1 ∧ n.2.2.1 ≤ 100 ∧ (n.2.2.2.1 = -1 ∨ n.2.2.1 ≤ n.2.2.2.1 ∧ n.2.2.2.1 ≤ 100))
structure NValid (l : List Node) : Prop where
 lo : 1 ≤ l.length
 hi : l.length ≤ 4000
 ok : ∀ i, i < l.length → okNode (l.getD i zNode) i
def KB (l : List Node) : Prop := ∀ i, (l.getD i zNode).2.2.2.2.length ≤ 140737488351232
def Sp_bounded (P : Program) : Prop := ∀ x : Node, Fn P "mergelens/regex.bounded" S_regex_bounded x fun (d : Bool) _ => d = true ↔ (0 ≤ x.2.2.1 ∧ x.2.2.1 ≤ 100 ∧ (x.2.2.2.1 = -1 ∨ x.2.2.1 ≤ x.2.2.2.1 ∧ x.2.2.2.1 ≤ 100))
theorem sp_bounded (h : Has P F_regex_bounded) : Sp_bounded P := by
 intro x
 refine fn_regex_bounded h ?_
 unfold W_regex_bounded
 simp
 omega
def Sp_fits (P : Program) : Prop := ∀ x : Node × Int, 0 ≤ x.2 → x.1.2.2.2.2.length ≤ 140737488351232 → Fn P "mergelens/regex.fits" S_regex_fits x fun (d : Bool) _ => d = true ↔ okNode x.1 x.2.toNat
theorem sp_fits (h : Has P F_regex_fits) (hB : Sp_bounded P) : Sp_fits P := by
 rintro ⟨⟨k, w, mn, mx, kids⟩, a⟩ ha hl
 dsimp only at ha hl
 refine fn_regex_fits h ?_
 unfold W_regex_fits
 dsimp only
 refine JoinW.mid (fun _ => ∀ i, i < kids.length → 0 ≤ kids.getD i 0 ∧ kids.getD i 0 < a) ?_ fun d hd => ?_
 ·refine LoopW.of (fun d => 0 ≤ d.2 ∧ d.2 ≤ kids.length ∧ ∀ i : Nat, (i : Int) < d.2 → 0 ≤ kids.getD i 0 ∧ kids.getD i 0 < a) (fun d => (kids.length - d.2).toNat) ⟨Int.le_refl _, by dsimp only; omega, fun i hi => by dsimp only at hi; omega⟩ ?_
  rintro ⟨u, i⟩ ⟨i0, i1, hi⟩
  dsimp only at i0 i1 hi ⊢
  refine ⟨fun hc => JoinW.of ⟨⟨i0, of_decide_eq_true hc⟩, ?_, fun hb => ?_, fun hb => ?_⟩, fun hc => ?_⟩
  ·have hc := of_decide_eq_true hc; omega
  ·have hc := of_decide_eq_true hc
   refine ⟨fun hh => (nomatch hh), fun ho => ?_⟩
   have := ho.1 i.toNat (by dsimp only; omega)
   simp [-List.getD_eq_getElem?_getD] at hb
   dsimp only at this
   omega
  ·have hc := of_decide_eq_true hc
   rw [w64 (by omega) (by omega)]
   simp [-List.getD_eq_getElem?_getD] at hb
   refine ⟨⟨by omega, by omega, fun j hj => ?_⟩, by omega⟩
   by_cases e : j = i.toNat
   ·subst e; exact hb
   ·exact hi j (by omega)
  ·have hc := of_decide_eq_false hc
   exact fun j hj => hi j (by omega)
 ·have hkk : ∀ k', k' < kids.length → 0 ≤ kids.getD k' 0 ∧ kids.getD k' 0 < (a.toNat : Int) := fun k' hk' => by have := hd k' hk'; omega
  refine JoinW.of (JoinW.mid (fun d => d = true ↔ (0 ≤ k ∧ k ≤ 3)) ?_ ?_)
  ·refine ⟨fun hc => ?_, fun hc => JoinW.of ⟨fun hc2 => ?_, fun hc2 => JoinW.of ⟨fun hc3 => ?_, fun hc3 => ?_⟩⟩⟩ <;> simp at * <;> omega
  ·intro d10 h10
   refine ⟨fun hc => ?_, fun hc => JoinW.mid (fun d => d = true ↔ (k = 4 ∨ k = 5)) ?_ ?_⟩
   ·have := h10.1 hc
    simp [okNode, -List.getD_eq_getElem?_getD]
    constructor
    ·intro e; subst e; simp; omega
    ·intro hh; have := hh.2.2.2.1 (by omega); exact this
   ·refine ⟨fun hc2 => ?_, fun hc2 => ?_⟩ <;> simp at * <;> omega
   ·intro d16 h16
    have hno : ¬ (0 ≤ k ∧ k ≤ 3) := by rw [← h10, hc]; simp
    refine ⟨fun hc2 => ?_, fun hc2 => ⟨fun hc3 => JoinW.mid (fun d => d = true ↔ kids.length = 1 ∧ (0 ≤ mn ∧ mn ≤ 100 ∧ (mx = -1 ∨ mn ≤ mx ∧ mx ≤ 100))) ⟨fun hc4 => (hB _).to ?_, fun hc4 => ?_, trivial⟩ ?_, fun hc3 => ?_⟩⟩
    ·have := h16.1 hc2
     simp only [okNode, decide_eq_true_eq]
     constructor
     ·intro e; exact ⟨hkk, by omega, by omega, by omega, by omega, by omega⟩
     ·intro hh; have := hh.2.2.2.2.1 (by omega); omega
    ·rintro (b : Bool) _ hb
     simp only [hb]
     simp at hc4
     exact ⟨fun e => ⟨by omega, e⟩, fun e => e.2⟩
    ·simp at hc4
     exact ⟨fun e => (nomatch e), fun e => by omega⟩
    ·rintro b hb
     have hc3 : k = 6 := by simpa using hc3
     simp only [okNode]
     constructor
     ·intro e
      simp at e
      have := hb.1 e.2
      exact ⟨hkk, by omega, by omega, by omega, by omega, fun _ => ⟨this.1, this.2⟩⟩
     ·intro hh
      have := hh.2.2.2.2.2 hc3
      have e2 := hb.2 ⟨this.1, this.2⟩
      simp [this.1, e2]
    ·have : ¬ (k = 4 ∨ k = 5) := by rw [← h16, hc2]; simp
     simp at hc3
     simp only [okNode]
     refine ⟨fun hh => (nomatch hh), fun hh => ?_⟩
     have := hh.2.1; have := hh.2.2.1; omega
def Sp_GCheck (P : Program) : Prop := ∀ x : List Node, KB x → x.length ≤ 140737488351232 → Fn P "mergelens/regex.Check" S_regex_Check x fun (d : Int) _ => (NValid x → d = 0) ∧ (¬ NValid x → d = 2)
theorem sp_GCheck (h : Has P F_regex_Check) (hF : Sp_fits P) : Sp_GCheck P := by
 intro x hK hl
 refine fn_regex_Check h ?_
 unfold W_regex_Check
 refine ⟨fun hc => ⟨fun v => ?_, fun _ => rfl⟩, fun hc => JoinW.mid (fun _ => NValid x) ?_ fun _ hv => ⟨fun _ => rfl, fun hn => (hn hv).elim⟩⟩
 ·have := v.lo; have := v.hi; simp at hc; rcases hc with hc | hc
  ·subst hc; exact absurd (by assumption) (show ¬ (1 ≤ ([] : List Node).length) by decide)
  ·omega
 have hc : 1 ≤ x.length ∧ x.length ≤ 4000 := by
  simp at hc
  have : x.length ≠ 0 := fun e => hc.1 (List.eq_nil_of_length_eq_zero e)
  omega
 refine LoopW.of (fun d => 0 ≤ d.2 ∧ d.2 ≤ x.length ∧ ∀ i : Nat, (i : Int) < d.2 → okNode (x.getD i zNode) i) (fun d => (x.length - d.2).toNat) ⟨Int.le_refl _, by dsimp only; omega, fun i hi => by dsimp only at hi; omega⟩ ?_
 rintro ⟨u, i⟩ ⟨i0, i1, hi⟩
 dsimp only at i0 i1 hi ⊢
 refine ⟨fun hb => JoinW.of ?_, fun hb => ?_⟩
 ·have hb := of_decide_eq_true hb
  refine ⟨⟨i0, hb⟩, by omega, ?_⟩
  refine (hF (x.getD i.toNat zNode, i) i0 (hK _)).to ?_
  rintro (b : Bool) _ hbb
  dsimp only at hbb ⊢
  refine ⟨fun hn => ⟨fun v => ?_, fun _ => rfl⟩, fun hn => ?_⟩
  ·have := hbb.2 (v.ok i.toNat (by omega))
   rw [this] at hn; cases hn
  ·have hn : b = true := by simpa using hn
   rw [w64 (by omega) (by omega)]
   refine ⟨⟨by omega, by omega, fun j hj => ?_⟩, by omega⟩
   by_cases e : j = i.toNat
   ·subst e; exact hbb.1 hn
   ·exact hi j (by omega)
 ·have hb := of_decide_eq_false hb
  exact ⟨hc.1, hc.2, fun j hj => hi j (by omega)⟩
def Sp_NCheck (P : Program) : Prop := ∀ x : List Node, KB x → x.length ≤ 140737488351232 → Fn P "mergelens/mergelensref04.Check" S_ref04_Check x fun (d : Int) _ => (NValid x → d = 0) ∧ (¬ NValid x → d = 2)
theorem sp_NCheck (h : Has P F_ref04_Check) : Sp_NCheck P := by
 intro x hK hl
 refine fn_ref04_Check h ?_
 unfold W_ref04_Check
 refine ⟨fun hc => ⟨fun v => ?_, fun _ => rfl⟩, fun hc => JoinW.mid (fun _ => NValid x) ?_ fun _ hv => ⟨fun _ => rfl, fun hn => (hn hv).elim⟩⟩
 ·have := v.lo; have := v.hi; simp at hc; rcases hc with hc | hc
  ·subst hc; exact absurd (by assumption) (show ¬ (1 ≤ ([] : List Node).length) by decide)
  ·omega
 have hc : 1 ≤ x.length ∧ x.length ≤ 4000 := by
  simp at hc
  have : x.length ≠ 0 := fun e => hc.1 (List.eq_nil_of_length_eq_zero e)
  omega
 refine LoopW.of (fun d => 0 ≤ d.2 ∧ d.2 ≤ x.length ∧ ∀ i : Nat, (i : Int) < d.2 → okNode (x.getD i zNode) i) (fun d => (x.length - d.2).toNat) ⟨Int.le_refl _, by dsimp only; omega, fun i hi => by dsimp only at hi; omega⟩ ?_
 rintro ⟨u, i⟩ ⟨i0, i1, hi⟩
 dsimp only at i0 i1 hi ⊢
 refine ⟨fun hb => JoinW.of ?_, fun hb => ?_⟩
 ·have hb := of_decide_eq_true hb
  refine ⟨⟨i0, hb⟩, by omega, ?_⟩
  have hbad : NValid x → okNode (x.getD i.toNat zNode) i.toNat := fun v => v.ok i.toNat (by omega)
  have hgood : okNode (x.getD i.toNat zNode) i.toNat → (0 ≤ i + 1 ∧ i + 1 ≤ (x.length : Int) ∧ ∀ (j : Nat), (j : Int) < i + 1 → okNode (x.getD j zNode) j) ∧ (x.length - (i + 1) : Int).toNat < (x.length - i : Int).toNat := by
   intro hn
   refine ⟨⟨by omega, by omega, fun j hj => ?_⟩, by omega⟩
   by_cases e : j = i.toNat
   ·subst e; exact hn
   ·exact hi j (by omega)
  rw [w64 (n := i + 1) (by omega) (by omega)]
  have hkl := hK i.toNat
  generalize x.getD i.toNat zNode = n at hbad hgood hkl ⊢
  obtain ⟨k, w, mn, mx, kids⟩ := n
  dsimp only at hkl ⊢
  refine JoinW.mid (fun _ => ∀ j, j < kids.length → 0 ≤ kids.getD j 0 ∧ kids.getD j 0 < i) ?_ fun d hd => ?_
  ·refine LoopW.of (fun d => 0 ≤ d.2 ∧ d.2 ≤ kids.length ∧ ∀ j : Nat, (j : Int) < d.2 → 0 ≤ kids.getD j 0 ∧ kids.getD j 0 < i) (fun d => (kids.length - d.2).toNat) ⟨Int.le_refl _, by dsimp only; omega, fun i hi => by dsimp only at hi; omega⟩ ?_
   rintro ⟨u2, j⟩ ⟨j0, j1, hj⟩
   dsimp only at j0 j1 hj ⊢
   refine ⟨fun hc => JoinW.of ?_, fun hc => ?_⟩
   ·have hc := of_decide_eq_true hc
    refine ⟨⟨j0, hc⟩, by omega, fun _ => ⟨j0, hc⟩, fun _ => by omega, fun hb => ?_, fun hb => ?_⟩
    ·refine ⟨fun v => ?_, fun _ => rfl⟩
     have := (hbad v).1 j.toNat (by dsimp only; omega)
     simp [-List.getD_eq_getElem?_getD] at hb
     dsimp only at this
     omega
    ·rw [w64 (by omega) (by omega)]
     simp [-List.getD_eq_getElem?_getD] at hb
     refine ⟨⟨by omega, by omega, fun j2 hj2 => ?_⟩, by omega⟩
     by_cases e : j2 = j.toNat
     ·subst e; exact hb
     ·exact hj j2 (by omega)
   ·have hc := of_decide_eq_false hc
    exact fun j2 hj2 => hj j2 (by omega)
  ·have hkk : ∀ k', k' < kids.length → 0 ≤ kids.getD k' 0 ∧ kids.getD k' 0 < (i.toNat : Int) := fun k' hk' => by have := hd k' hk'; omega
   refine JoinW.mid (fun d => d = true ∧ 0 ≤ k ∧ k ≤ 6 ↔ okNode (k, w, mn, mx, kids) i.toNat) (JoinW.of ?_) ?_
   ·refine ⟨fun hc => ?_, fun hc => JoinW.mid (fun d => d = true ↔ (k = 4 ∨ k = 5)) ?_ ?_⟩
    ·have hc : k = 6 := by simpa using hc
     simp [okNode, -List.getD_eq_getElem?_getD]
     constructor
     ·intro hh; exact ⟨fun k' hk' => by have := hd k' hk'; omega, by omega⟩
     ·rintro ⟨_, hh⟩; omega
    ·refine ⟨fun hc2 => ?_, fun hc2 => ?_⟩ <;> simp at * <;> omega
    ·intro d18 h18
     have hc : k ≠ 6 := by simpa using hc
     refine JoinW.of ⟨fun hc2 => ?_, fun hc2 => ?_⟩
     ·have := h18.1 hc2
      simp only [okNode, decide_eq_true_eq]
      constructor
      ·intro e; exact ⟨hkk, by omega, by omega, by omega, by omega, by omega⟩
      ·intro hh; have := hh.2.2.2.2.1 (by omega); omega
     ·have : ¬ (k = 4 ∨ k = 5) := by rw [← h18, hc2]; simp
      simp only [okNode, beq_iff_eq]
      constructor
      ·intro e; exact ⟨hkk, by omega, by omega, by omega, by omega, by omega⟩
      ·intro hh; have := hh.2.2.2.1 (by omega); omega
   ·intro d14 h14
    refine ⟨fun hn => ⟨fun v => ?_, fun _ => rfl⟩, fun hn => ?_⟩
    ·have := h14.2 (hbad v)
     rw [this.1] at hn
     simp at hn
     omega
    ·simp at hn
     exact hgood (h14.1 ⟨hn.1.1, by omega, by omega⟩)
 ·have hb := of_decide_eq_false hb
  exact ⟨hc.1, hc.2, fun j hj => hi j (by omega)⟩
def capW (n : Int) : Int := if 4001 < n then 4001 else n
def sumW (w : List Int) (kids : List Int) : Int := kids.foldl (fun n k => capW (n + w.getD k.toNat 0)) 0
def wtNode (n : Node) (w : List Int) : Int :=
 if n.1 = 4 then sumW w n.2.2.2.2
 else if n.1 = 5 then capW (sumW w n.2.2.2.2 + n.2.2.2.2.length - 1)
 else if n.1 = 6 then (if n.2.2.2.1 < 0 then capW (n.2.2.1 * sumW w n.2.2.2.2 + sumW w n.2.2.2.2 + 1) else capW (n.2.2.1 * sumW w n.2.2.2.2 + (n.2.2.2.1 - n.2.2.1) * (sumW w n.2.2.2.2 + 1)))
 else 1
def wts (l : List Node) : List Int := l.foldl (fun w n => w ++ [wtNode n w]) []
theorem wts_snoc (l : List Node) (n : Node) : wts (l ++ [n]) = wts l ++ [wtNode n (wts l)] := by simp [wts, List.foldl_append]
theorem wts_length (l : List Node) : (wts l).length = l.length := by
 have : ∀ (l : List Node) (w : List Int), (l.foldl (fun w n => w ++ [wtNode n w]) w).length = w.length + l.length := by
  intro l
  induction l with
  | nil => intro w; rfl
  | cons n l ih => intro w; simp [ih]; omega
 have := this l []
 rw [wts, this]; simp
def InW (w : List Int) : Prop := ∀ i, 0 ≤ w.getD i 0 ∧ w.getD i 0 ≤ 4001
theorem capW_range {n : Int} (h : 0 ≤ n) : 0 ≤ capW n ∧ capW n ≤ 4001 := by unfold capW; split <;> omega
theorem sumW_snoc (w : List Int) (l : List Int) (k : Int) : sumW w (l ++ [k]) = capW (sumW w l + w.getD k.toNat 0) := by simp [sumW, List.foldl_append]
theorem sumW_range {w : List Int} (h : InW w) (kids : List Int) : 0 ≤ sumW w kids ∧ sumW w kids ≤ 4001 := by
 have : ∀ (kids : List Int) (n : Int), 0 ≤ n ∧ n ≤ 4001 → 0 ≤ kids.foldl (fun n k => capW (n + w.getD k.toNat 0)) n ∧ kids.foldl (fun n k => capW (n + w.getD k.toNat 0)) n ≤ 4001 := by
  intro kids
  induction kids with
  | nil => exact fun n h => h
  | cons k kids ih => exact fun n hn => ih _ (capW_range (by have := (h k.toNat).1; omega))
 exact this kids 0 (by omega)
theorem wtNode_range {w : List Int} (h : InW w) {n : Node} {i : Nat} (ho : okNode n i) : 0 ≤ wtNode n w ∧ wtNode n w ≤ 4001 := by
 obtain ⟨k, st, mn, mx, kids⟩ := n
 have hs := sumW_range h kids
 obtain ⟨_, _, _, h3, h4, h5⟩ := ho
 dsimp only at h3 h4 h5
 unfold wtNode
 dsimp only
 split
 ·exact hs
 split
 ·have := h4 (by omega); exact capW_range (by omega)
 split
 ·obtain ⟨h6, h7, h8, h9⟩ := h5 (by assumption)
  have hp := Int.mul_nonneg h7 hs.1
  split
  ·exact capW_range (by omega)
  ·have : 0 ≤ (mx - mn) * (sumW w kids + 1) := Int.mul_nonneg (by omega) (by omega)
   exact capW_range (by omega)
 ·omega
theorem getD_append {w : List Int} {x : Int} {i : Nat} : (w ++ [x]).getD i 0 = if i < w.length then w.getD i 0 else if i = w.length then x else 0 := by
 split
 ·rename_i h; exact getD_append_left h
 split
 ·rename_i h; subst h; exact getD_append_at
 ·rename_i h1 h2
  rw [List.getD_eq_getElem?_getD, List.getElem?_eq_none (by simp; omega)]; rfl
theorem inW_wts {l : List Node} (h : ∀ i, i < l.length → okNode (l.getD i zNode) i) : InW (wts l) := by
 induction h0 : l.length generalizing l with
 | zero =>
  have : l = [] := List.eq_nil_of_length_eq_zero h0
  subst this
  intro i; simp [wts]
 | succ m ih =>
  obtain ⟨l, n, rfl⟩ : ∃ l' n, l = l' ++ [n] := ⟨l.dropLast, l.getLast (by intro e; subst e; simp at h0), (List.dropLast_concat_getLast _).symm⟩
  have ih := fun h => ih (l := l) h (by simp at h0; exact h0)
  have ih := ih fun i hi => by have := h i (by simp; omega); rwa [getD_append_left hi] at this
  have hn := h l.length (by simp)
  rw [getD_append_at] at hn
  rw [wts_snoc]
  intro i
  rw [getD_append]
  split
  ·exact ih i
  split
  ·exact wtNode_range ih hn
  ·omega
end Go.VS
