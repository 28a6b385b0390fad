/- Weights: both computations. -/
import Derived.Test.YtobddjdmgebmgaaKSpNode
set_option linter.unusedVariables false
set_option linter.unusedSimpArgs false
namespace Go.VS
variable {P : Program}
theorem mul_b {a b : Int} (h1 : 0 ≤ a) (h2 : a ≤ 100) (h3 : 0 ≤ b) (h4 : b ≤ 4002) : 0 ≤ a * b ∧ a * b ≤ 400200 :=
 ⟨Int.mul_nonneg h1 h3, Int.le_trans (Int.mul_le_mul_of_nonneg_right h2 h3) (by omega)⟩
theorem take_succ_getD {l : List Int} {i : Int} (h0 : 0 ≤ i) (h : i < (l.length : Int)) : l.take (i + 1).toNat = l.take i.toNat ++ [l.getD i.toNat 0] := by
 rw [show (i + 1).toNat = i.toNat + 1 by omega, List.take_succ_eq_append_getElem (by omega), getD_eq (by omega)]
theorem takeN_succ {l : List Node} {i : Int} (h0 : 0 ≤ i) (h : i < (l.length : Int)) : l.take (i + 1).toNat = l.take i.toNat ++ [l.getD i.toNat zNode] := by
 rw [show (i + 1).toNat = i.toNat + 1 by omega, List.take_succ_eq_append_getElem (by omega), getD_eq (by omega)]
theorem wt_cases {n : Node} {i : Nat} (ho : okNode n i) {w : List Int} (hw : InW w) (hl : n.2.2.2.2.length ≤ 140737488351232) :
  0 ≤ sumW w n.2.2.2.2 ∧ sumW w n.2.2.2.2 ≤ 4001 ∧ (n.1 = 6 → 0 ≤ n.2.2.1 ∧ n.2.2.1 ≤ 100 ∧ 0 ≤ n.2.2.1 * sumW w n.2.2.2.2 ∧ n.2.2.1 * sumW w n.2.2.2.2 ≤ 400200 ∧ (0 ≤ n.2.2.2.1 → 0 ≤ n.2.2.2.1 - n.2.2.1 ∧ n.2.2.2.1 - n.2.2.1 ≤ 100 ∧ 0 ≤ (n.2.2.2.1 - n.2.2.1) * (sumW w n.2.2.2.2 + 1) ∧ (n.2.2.2.1 - n.2.2.1) * (sumW w n.2.2.2.2 + 1) ≤ 400200)) := by
 have hs := sumW_range hw n.2.2.2.2
 refine ⟨hs.1, hs.2, fun h6 => ?_⟩
 obtain ⟨_, h1, h2, h3⟩ := ho.2.2.2.2.2 h6
 have := mul_b h1 h2 hs.1 (by omega)
 refine ⟨h1, h2, this.1, this.2, fun h0 => ?_⟩
 have := mul_b (a := n.2.2.2.1 - n.2.2.1) (b := sumW w n.2.2.2.2 + 1) (by omega) (by omega) (by omega) (by omega)
 exact ⟨by omega, by omega, this.1, this.2⟩
def Sp_gweight (P : Program) : Prop := ∀ x : Node × List Int, InW x.2 → okNode x.1 x.2.length → x.1.2.2.2.2.length ≤ 140737488351232 → Fn P "mergelens/regex.weight" S_regex_weight x fun (d : Int) _ => d = wtNode x.1 x.2
theorem sp_gweight (h : Has P F_regex_weight) : Sp_gweight P := by
 rintro ⟨⟨k, st, mn, mx, kids⟩, w⟩ hw ho hl
 have hc := wt_cases ho hw hl
 dsimp only at hw ho hl hc
 refine fn_regex_weight h ?_
 unfold W_regex_weight
 dsimp only
 refine JoinW.mid (fun d => d = sumW w kids) ?_ ?_
 ·refine LoopW.of (fun d => 0 ≤ d.2 ∧ d.2 ≤ kids.length ∧ d.1 = sumW w (kids.take d.2.toNat)) (fun d => (kids.length - d.2).toNat) ⟨Int.le_refl _, by dsimp only; omega, rfl⟩ ?_
  rintro ⟨n, i⟩ ⟨i0, i1, hi⟩
  dsimp only at i0 i1 hi ⊢
  refine ⟨fun hb => JoinW.of ?_, fun hb => ?_⟩
  ·have hb := of_decide_eq_true hb
   have hk := ho.1 i.toNat (by dsimp only; omega)
   dsimp only at hk
   have hn := sumW_range hw (kids.take i.toNat)
   have hg := hw (kids.getD i.toNat 0).toNat
   have e1 : IntKind.i64.wrap (i + 1) = i + 1 := w64 (by omega) (by omega)
   rw [e1]
   refine ⟨⟨i0, hb⟩, by omega, hk, by omega, ⟨by omega, by omega, ?_⟩, by omega⟩
   rw [take_succ_getD i0 hb, sumW_snoc, ← hi, w64 (by omega) (by omega)]
   rfl
  ·have hb := of_decide_eq_false hb
   rw [hi, List.take_of_length_le (by omega)]
 ·rintro d rfl
  generalize hS : sumW w kids = S at hc ⊢
  unfold wtNode
  dsimp only
  rw [hS]
  refine JoinW.of ⟨fun h4 => ?_, fun h4 => ⟨fun h5 => ?_, fun h5 => ⟨fun h6 => ?_, fun h6 => ?_⟩⟩⟩
  ·simp at h4; rw [if_pos h4]
  ·simp at h4 h5
   rw [if_neg h4, if_pos h5, w64 (n := S + _) (by omega) (by omega), w64 (by omega) (by omega)]
   rfl
  ·simp at h4 h5 h6
   rw [if_neg h4, if_neg h5, if_pos h6]
   obtain ⟨c1, c2, c3, c4, c5⟩ := hc.2.2 h6
   refine ⟨fun hm => ?_, fun hm => ?_⟩
   ·have hm := of_decide_eq_true hm
    rw [if_pos hm, w64 (n := mn * S) (by omega) (by omega), w64 (n := mn * S + S) (by omega) (by omega), w64 (by omega) (by omega)]
    rfl
   ·have hm := of_decide_eq_false hm
    obtain ⟨e1, e2, e3, e4⟩ := c5 (by omega)
    rw [if_neg hm, w64 (n := mn * S) (by omega) (by omega), w64 (n := mx - mn) (by omega) (by omega), w64 (n := S + 1) (by omega) (by omega), w64 (n := (mx - mn) * (S + 1)) (by omega) (by omega), w64 (by omega) (by omega)]
    rfl
  ·simp at h4 h5 h6
   rw [if_neg h4, if_neg h5, if_neg h6]
theorem wts_take_getD (l : List Node) {i j : Nat} (h : j < i) (hi : i ≤ l.length) : (wts (l.take i)).getD j 0 = (wts l).getD j 0 := by
 have : ∀ (m : List Node) (l : List Node), j < l.length → (wts (l ++ m)).getD j 0 = (wts l).getD j 0 := by
  intro m
  induction m with
  | nil => intro l _; rw [List.append_nil]
  | cons n m ih =>
   intro l hl
   have := ih (l ++ [n]) (by simp; omega)
   rw [List.append_assoc] at this
   rw [show l ++ n :: m = l ++ ([n] ++ m) from rfl, this, wts_snoc, getD_append_left (by rw [wts_length]; exact hl)]
 have := this (l.drop i) (l.take i) (by simp; omega)
 rw [List.take_append_drop] at this
 exact this.symm
theorem NValid.inW {l : List Node} (v : NValid l) : InW (wts l) := inW_wts v.ok
theorem NValid.inWt {l : List Node} (v : NValid l) (i : Nat) : InW (wts (l.take i)) := inW_wts fun j hj => by
 have h1 : j < l.length := by simp at hj; omega
 have := v.ok j h1
 rw [getD_eq h1] at this
 rw [getD_eq hj]
 simpa using this
theorem wts_at {l : List Node} (v : NValid l) {i : Nat} (h : i < l.length) : (wts l).getD i 0 = wtNode (l.getD i zNode) (wts l) := by
 have e : l.take (i + 1) = l.take i ++ [l.getD i zNode] := by rw [List.take_succ_eq_append_getElem h, getD_eq h]
 rw [← wts_take_getD l (Nat.lt_succ_self i) (by omega), e, wts_snoc]
 have hlen : (wts (l.take i)).length = i := by rw [wts_length]; simp; omega
 have : (wts (l.take i) ++ [wtNode (l.getD i zNode) (wts (l.take i))]).getD i 0 = wtNode (l.getD i zNode) (wts (l.take i)) := by
  have := @getD_append_at _ (wts (l.take i)) (wtNode (l.getD i zNode) (wts (l.take i))) 0
  rwa [hlen] at this
 rw [this]
 have hs : sumW (wts (l.take i)) (l.getD i zNode).2.2.2.2 = sumW (wts l) (l.getD i zNode).2.2.2.2 := by
  have hk := (v.ok i h).1
  have : ∀ (kids : List Int) (n : Int), (∀ k, k < kids.length → 0 ≤ kids.getD k 0 ∧ kids.getD k 0 < (i : Int)) → kids.foldl (fun n k => capW (n + (wts (l.take i)).getD k.toNat 0)) n = kids.foldl (fun n k => capW (n + (wts l).getD k.toNat 0)) n := by
   intro kids
   induction kids with
   | nil => intros; rfl
   | cons k kids ih =>
    intro n hk
    have h0 := hk 0 (by simp)
    simp only [List.getD_cons_zero] at h0
    simp only [List.foldl_cons]
    rw [wts_take_getD l (by omega) (by omega)]
    exact ih _ fun k' hk' => by have := hk (k' + 1) (by simp; omega); simpa using this
  exact this _ 0 hk
 unfold wtNode
 rw [hs]
def Sp_GWeights (P : Program) : Prop := ∀ x : List Node, NValid x → KB x → Fn P "mergelens/regex.Weights" S_regex_Weights x fun (d : List Int) _ => d = wts x
theorem sp_GWeights (h : Has P F_regex_Weights) (hW : Sp_gweight P) : Sp_GWeights P := by
 intro x v hK
 have := v.lo; have := v.hi
 refine fn_regex_Weights h ?_
 unfold W_regex_Weights
 refine ⟨⟨by omega, by omega, by omega⟩, JoinW.mid (fun d => d = wts x) ?_ fun d hd => hd⟩
 refine LoopW.of (fun d => 0 ≤ d.2 ∧ d.2 ≤ x.length ∧ d.1 = wts (x.take d.2.toNat) ++ List.replicate (x.length - d.2.toNat) 0) (fun d => (x.length - d.2).toNat) ⟨Int.le_refl _, by dsimp only; omega, by simp [wts]⟩ ?_
 rintro ⟨w, i⟩ ⟨i0, i1, hi⟩
 dsimp only at i0 i1 hi ⊢
 refine ⟨fun hb => JoinW.of ?_, fun hb => ?_⟩
 ·have hb := of_decide_eq_true hb
  refine ⟨⟨i0, hb⟩, by omega, ?_⟩
  have hlen : (wts (x.take i.toNat)).length = i.toNat := by rw [wts_length]; simp; omega
  have hg : ∀ j, w.getD j 0 = (wts (x.take i.toNat)).getD j 0 := by
   intro j
   rw [hi]
   rcases Nat.lt_or_ge j i.toNat with hj | hj
   ·rw [getD_append_left (by omega)]
   ·rw [List.getD_eq_getElem?_getD, List.getElem?_append_right (by omega), List.getD_eq_getElem?_getD, List.getElem?_eq_none (l := wts _) (by omega)]
    rw [List.getElem?_replicate]
    split <;> rfl
  have hwl : w.length = x.length := by rw [hi]; simp [hlen]; omega
  refine (hW (x.getD i.toNat zNode, w) ?_ ?_ (hK _)).to ?_
  ·intro j; dsimp only; rw [hg]; exact v.inWt _ j
  ·have := v.ok i.toNat (by omega)
   exact ⟨fun k hk => by have := this.1 k hk; dsimp only; omega, this.2⟩
  ·rintro (d : Int) _ rfl
   dsimp only
   rw [w64 (by omega) (by omega)]
   have e : wtNode (x.getD i.toNat zNode) w = wtNode (x.getD i.toNat zNode) (wts (x.take i.toNat)) := by
    have : ∀ kids, sumW w kids = sumW (wts (x.take i.toNat)) kids := fun kids => by unfold sumW; simp only [hg]
    unfold wtNode; simp only [this]
   refine ⟨⟨i0, by omega⟩, by omega, ⟨by omega, by omega, ?_⟩, by omega⟩
   have : x.length - i.toNat = (x.length - (i + 1).toNat) + 1 := by omega
   rw [takeN_succ i0 hb, wts_snoc, e, hi, this, List.replicate_succ, List.set_append_right _ _ (by omega), hlen, Nat.sub_self, List.set_cons_zero, List.append_assoc]
   rfl
 ·have hb := of_decide_eq_false hb
  rw [hi, List.take_of_length_le (by omega), show x.length - i.toNat = 0 by omega]
  simp
def Sp_GWeight (P : Program) : Prop := ∀ x : List Node, KB x → x.length ≤ 140737488351232 → Fn P "mergelens/regex.Weight" S_regex_Weight x fun (d : Int × Int) _ => (NValid x → d = ((wts x).getD (x.length - 1) 0, 0)) ∧ (¬ NValid x → d = (0, 2))
theorem sp_GWeight (h : Has P F_regex_Weight) (hC : Sp_GCheck P) (hW : Sp_GWeights P) : Sp_GWeight P := by
 intro x hK hl
 refine fn_regex_Weight h ?_
 unfold W_regex_Weight
 refine (hC x hK hl).to ?_
 rintro (d : Int) _ hd
 refine ⟨fun hc => ⟨fun v => ?_, fun nv => ?_⟩, fun hc => ?_⟩
 ·rw [hd.1 v] at hc; simp at hc
 ·rw [hd.2 nv]
 ·have v : NValid x := by
   apply Classical.byContradiction
   intro nv
   rw [hd.2 nv] at hc; simp at hc
  have := v.lo
  refine (hW x v hK).to ?_
  rintro (w : List Int) _ rfl
  have hlen := wts_length x
  rw [w64 (by omega) (by omega)]
  refine ⟨⟨by omega, by omega⟩, by omega, fun _ => ?_, fun nv => (nv v).elim⟩
  rw [show (((x.length : Nat) : Int) - 1).toNat = x.length - 1 by omega]
def Sp_capped (P : Program) : Prop := ∀ x : Int, Fn P "mergelens/mergelensref04.capped" S_ref04_capped x fun (d : Int) _ => d = capW x
theorem sp_capped (h : Has P F_ref04_capped) : Sp_capped P := by
 intro x
 refine fn_ref04_capped h ?_
 unfold W_ref04_capped
 rfl
def Sp_RWeight (P : Program) : Prop := ∀ x : List Node, KB x → x.length ≤ 140737488351232 → Fn P "mergelens/mergelensref04.Weight" S_ref04_Weight x fun (d : Int × Int) _ => (NValid x → d = ((wts x).getD (x.length - 1) 0, 0)) ∧ (¬ NValid x → d = (0, 2))
theorem sp_RWeight (h : Has P F_ref04_Weight) (hC : Sp_NCheck P) (hcap : Sp_capped P) : Sp_RWeight P := by
 intro x hK hl
 refine fn_ref04_Weight h ?_
 unfold W_ref04_Weight
 refine (hC x hK hl).to ?_
 rintro (d : Int) _ hd
 refine ⟨fun hc => ⟨fun v => ?_, fun nv => rfl⟩, fun hc => ?_⟩
 ·rw [hd.1 v] at hc; simp at hc
 have v : NValid x := by
  apply Classical.byContradiction
  intro nv
  rw [hd.2 nv] at hc; simp at hc
 have hlo := v.lo; have hhi := v.hi
 refine JoinW.mid (fun d => d = wts x) ?_ ?_
 ·refine LoopW.of (fun d => 0 ≤ d.2 ∧ d.2 ≤ x.length ∧ d.1 = wts (x.take d.2.toNat)) (fun d => (x.length - d.2).toNat) ⟨Int.le_refl _, by dsimp only; omega, rfl⟩ ?_
  rintro ⟨w, i⟩ ⟨i0, i1, hi⟩
  dsimp only at i0 i1 hi ⊢
  refine ⟨fun hb => JoinW.of ?_, fun hb => ?_⟩
  ·have hb := of_decide_eq_true hb
   have hlen : w.length = i.toNat := by rw [hi, wts_length]; simp; omega
   have hw : InW w := by rw [hi]; exact v.inWt _
   have ho : okNode (x.getD i.toNat zNode) w.length := by rw [hlen]; exact v.ok _ (by omega)
   have hfin : ∀ d, d = wtNode (x.getD i.toNat zNode) w → (w.length + ([d] : List Int).length) * 8 ≤ 140737488355328 ∧ (0 ≤ IntKind.i64.wrap (i + 1) ∧ IntKind.i64.wrap (i + 1) ≤ (x.length : Int) ∧ w ++ [d] = wts (x.take (IntKind.i64.wrap (i + 1)).toNat)) ∧ ((x.length : Int) - IntKind.i64.wrap (i + 1)).toNat < ((x.length : Int) - i).toNat := by
    rintro d rfl
    rw [w64 (by omega) (by omega), takeN_succ i0 hb, wts_snoc, hi]
    rw [hi] at hlen
    refine ⟨?_, ⟨by omega, by omega, rfl⟩, by omega⟩
    simp only [List.length_cons, List.length_nil]; omega
   have hI : 0 ≤ i ∧ i < (x.length : Int) := ⟨i0, hb⟩
   have hIN : i.toNat < x.length := by omega
   have hKi := hK i.toNat
   generalize x.getD i.toNat zNode = n at ho hfin hKi ⊢
   obtain ⟨k, st, mn, mx, kids⟩ := n
   have hcs := wt_cases ho hw hKi
   dsimp only at hKi hcs ⊢
   refine JoinW.mid (fun d => d = sumW w kids) ?_ ?_
   ·refine LoopW.of (fun d => 0 ≤ d.2 ∧ d.2 ≤ kids.length ∧ d.1 = sumW w (kids.take d.2.toNat)) (fun d => (kids.length - d.2).toNat) ⟨Int.le_refl _, by dsimp only; omega, rfl⟩ ?_
    rintro ⟨n, j⟩ ⟨j0, j1, hj⟩
    dsimp only at j0 j1 hj ⊢
    refine ⟨hI, hIN, fun hb => JoinW.of ?_, fun hb => ?_⟩
    ·have hb := of_decide_eq_true hb
     have hk := ho.1 j.toNat (by dsimp only; omega)
     dsimp only at hk
     have hn := sumW_range hw (kids.take j.toNat)
     have hg := hw (kids.getD j.toNat 0).toNat
     refine ⟨hI, hIN, ⟨j0, hb⟩, by omega, hk, by omega, ?_⟩
     refine (hcap _).to ?_
     rintro (c : Int) _ rfl
     refine ⟨⟨?_, ?_, ?_⟩, ?_⟩ <;> rw [w64 (n := j + 1) (by omega) (by omega)]
     ·omega
     ·omega
     ·rw [take_succ_getD j0 hb, sumW_snoc, ← hj, w64 (by omega) (by omega)]
     ·omega
    ·have hb := of_decide_eq_false hb
     rw [hj, List.take_of_length_le (by omega)]
   ·rintro d rfl
    refine ⟨hI, hIN, ?_⟩
    have hWn : wtNode (k, (st, (mn, (mx, kids)))) w = wtNode (k, (st, (mn, (mx, kids)))) w := rfl
    conv at hWn => rhs; unfold wtNode
    dsimp only at hWn
    generalize hS : sumW w kids = S at hcs hWn ⊢
    refine JoinW.mid (fun d => capW d = wtNode (k, (st, (mn, (mx, kids)))) w) (JoinW.of ⟨fun h5 => ⟨hI, hIN, ?_⟩, fun h5 => JoinW.of ⟨fun h6 => ⟨hI, hIN, ?_⟩, fun h6 => JoinW.of ⟨fun h4 => ?_, fun h4 => ?_⟩⟩⟩) ?_
    ·simp at h5
     subst h5
     rw [if_neg (show ¬ (5 : Int) = 4 by omega), if_pos rfl] at hWn
     rw [hWn, w64 (n := S + _) (by omega) (by omega), w64 (by omega) (by omega)]
    ·simp at h6
     subst h6
     obtain ⟨c1, c2, c3, c4, c5⟩ := hcs.2.2 rfl
     rw [if_neg (show ¬ (6 : Int) = 4 by omega), if_neg (show ¬ (6 : Int) = 5 by omega), if_pos rfl] at hWn
     refine JoinW.mid (fun d => d = if mx < 0 then S + 1 else (mx - mn) * (S + 1)) ⟨fun hm => JoinW.of ⟨hI, hIN, hI, hIN, ?_, trivial⟩, fun hm => ?_⟩ ?_
     ·have hm := of_decide_eq_true hm
      obtain ⟨e1, e2, e3, e4⟩ := c5 hm
      rw [if_neg (by omega), w64 (n := mx - mn) (by omega) (by omega), w64 (n := S + 1) (by omega) (by omega), w64 (by omega) (by omega)]
     ·have hm := of_decide_eq_false hm
      rw [if_pos (by omega), w64 (by omega) (by omega)]
     ·rintro d rfl
      refine ⟨hI, hIN, ?_⟩
      rw [hWn, w64 (n := mn * S) (by omega) (by omega)]
      split
      ·rw [w64 (by omega) (by omega), Int.add_assoc]
      ·obtain ⟨e1, e2, e3, e4⟩ := c5 (by omega)
       rw [w64 (by omega) (by omega)]
    ·simp at h4
     subst h4
     rw [if_pos rfl] at hWn
     rw [hWn]
     show (if 4001 < S then (4001 : Int) else S) = S
     rw [if_neg (by omega)]
    ·simp at h4 h5 h6
     simp only [if_neg h4, if_neg h5, if_neg h6] at hWn
     rw [hWn]; rfl
    ·intro d hd
     refine (hcap _).to ?_
     rintro (c : Int) _ rfl
     exact hfin _ hd
  ·have hb := of_decide_eq_false hb
   rw [hi, List.take_of_length_le (by omega)]
 ·rintro w rfl
  have hlen := wts_length x
  rw [w64 (by omega) (by omega)]
  refine ⟨⟨by omega, by omega⟩, by omega, fun _ => ?_, fun nv => (nv v).elim⟩
  rw [hlen, show (((x.length : Nat) : Int) - 1).toNat = x.length - 1 by omega]
end Go.VS
