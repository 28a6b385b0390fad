/- The language of a node; automata that are built state by state. -/
import Derived.Test.YtobddjdmgebmgaaKSpLang
import Derived.Test.YtobddjdmgebmgaaKSpWt
set_option linter.unusedVariables false
set_option linter.unusedSimpArgs false
namespace Go.VS
def botR : RelT := fun _ _ _ => False
def seqL (R : Nat → RelT) : List Int → RelT
 | [] => idR
 | k :: ks => compR (R k.toNat) (seqL R ks)
def altL (R : Nat → RelT) : List Int → RelT
 | [] => botR
 | k :: ks => uniR (R k.toNat) (altL R ks)
def repR (R : RelT) (mn mx : Int) : RelT := fun s i j => ∃ r : Nat, mn ≤ r ∧ (mx < 0 ∨ (r : Int) ≤ mx) ∧ powR R r s i j
def nodeR (n : Node) (R : Nat → RelT) : RelT :=
 if n.1 = 1 then setR n.2.1 else if n.1 = 2 then stR else if n.1 = 3 then enR
 else if n.1 = 4 then seqL R n.2.2.2.2 else if n.1 = 5 then altL R n.2.2.2.2
 else if n.1 = 6 then repR (R (n.2.2.2.2.getD 0 0).toNat) n.2.2.1 n.2.2.2.1 else idR
def langs (l : List Node) : List RelT := l.foldl (fun L n => L ++ [nodeR n fun k => L.getD k botR]) []
def Lang (l : List Node) (k : Nat) : RelT := (langs l).getD k botR
theorem langs_snoc (l : List Node) (n : Node) : langs (l ++ [n]) = langs l ++ [nodeR n (Lang l)] := by simp only [langs, List.foldl_append]; rfl
theorem langs_length (l : List Node) : (langs l).length = l.length := by
 have : ∀ (l : List Node) (w : List RelT), (l.foldl (fun L n => L ++ [nodeR n fun k => L.getD k botR]) w).length = w.length + l.length := by
  intro l
  induction l with
  | nil => intro w; rfl
  | cons n l ih => intro w; simp only [List.foldl_cons, ih, List.length_append, List.length_cons, List.length_nil]; omega
 have := this l []
 rw [langs, this]; simp
theorem lang_append (l m : List Node) {k : Nat} (h : k < l.length) : Lang (l ++ m) k = Lang l k := by
 induction m generalizing l with
 | nil => rw [List.append_nil]
 | cons n m ih =>
  rw [show l ++ n :: m = (l ++ [n]) ++ m by simp, ih _ (by simp; omega)]
  unfold Lang
  rw [langs_snoc, getD_append_left (by rw [langs_length]; exact h)]
theorem seqL_congr {R S : Nat → RelT} {l : List Int} (h : ∀ k ∈ l, R k.toNat = S k.toNat) : seqL R l = seqL S l := by
 induction l with
 | nil => rfl
 | cons k l ih => simp only [seqL]; rw [h k (by simp), ih fun k' hk' => h k' (by simp [hk'])]
theorem altL_congr {R S : Nat → RelT} {l : List Int} (h : ∀ k ∈ l, R k.toNat = S k.toNat) : altL R l = altL S l := by
 induction l with
 | nil => rfl
 | cons k l ih => simp only [altL]; rw [h k (by simp), ih fun k' hk' => h k' (by simp [hk'])]
theorem okNode.mem {n : Node} {i : Nat} (h : okNode n i) {k : Int} (hk : k ∈ n.2.2.2.2) : 0 ≤ k ∧ k < (i : Int) := by
 obtain ⟨j, hj, rfl⟩ := List.getElem_of_mem hk
 have := h.1 j hj
 rwa [getD_eq hj] at this
theorem nodeR_congr {n : Node} {i : Nat} (ho : okNode n i) {R S : Nat → RelT} (h : ∀ k, k < i → R k = S k) : nodeR n R = nodeR n S := by
 have hm : ∀ k ∈ n.2.2.2.2, R k.toNat = S k.toNat := fun k hk => h _ (by have := ho.mem hk; omega)
 unfold nodeR
 rw [seqL_congr hm, altL_congr hm]
 by_cases h6 : n.1 = 6
 ·have := ho.2.2.2.2.2 h6
  have := ho.1 0 (by omega)
  rw [h (n.2.2.2.2.getD 0 0).toNat (by omega)]
 ·simp only [if_neg h6]
theorem lang_at {l : List Node} (v : NValid l) {k : Nat} (h : k < l.length) : Lang l k = nodeR (l.getD k zNode) (Lang l) := by
 have e : l.take (k + 1) = l.take k ++ [l.getD k zNode] := by rw [List.take_succ_eq_append_getElem h, getD_eq h]
 have e2 : Lang l k = Lang (l.take (k + 1)) k := by
  conv => lhs; rw [← List.take_append_drop (k + 1) l]
  exact lang_append _ _ (by simp; omega)
 rw [e2, e]
 unfold Lang
 rw [langs_snoc]
 have hlen : (langs (l.take k)).length = k := by rw [langs_length]; simp; omega
 have := @getD_append_at _ (langs (l.take k)) (nodeR (l.getD k zNode) (Lang (l.take k))) botR
 rw [hlen] at this
 rw [this]
 refine nodeR_congr (v.ok k h) fun m hm => ?_
 show Lang (l.take k) m = Lang l m
 conv => rhs; rw [← List.take_append_drop k l]
 exact (lang_append _ _ (by simp; omega)).symm
def sumX (w : List Int) : List Int → Int
 | [] => 0
 | k :: ks => w.getD k.toNat 0 + sumX w ks
theorem sumX_nonneg {w : List Int} (h : InW w) (l : List Int) : 0 ≤ sumX w l := by
 induction l with
 | nil => exact Int.le_refl _
 | cons k l ih => have := (h k.toNat).1; simp only [sumX]; omega
theorem sumW_exact {w : List Int} (h : InW w) (kids : List Int) (hs : sumW w kids ≤ 4000) : sumW w kids = sumX w kids := by
 have key : ∀ (kids : List Int) (n : Int), 0 ≤ n → kids.foldl (fun n k => capW (n + w.getD k.toNat 0)) n ≤ 4000 → kids.foldl (fun n k => capW (n + w.getD k.toNat 0)) n = n + sumX w kids := by
  intro kids
  induction kids with
  | nil => intro n hn hs; simp [sumX]
  | cons k kids ih =>
   intro n hn hs
   have hk := (h k.toNat).1
   have hcap : 0 ≤ capW (n + w.getD k.toNat 0) := (capW_range (by omega)).1
   have := ih _ hcap hs
   simp only [List.foldl_cons] at hs ⊢
   rw [this] at hs ⊢
   have hx := sumX_nonneg h kids
   have : capW (n + w.getD k.toNat 0) = n + w.getD k.toNat 0 := by
    unfold capW at hs ⊢
    split at hs
    ·omega
    ·rw [if_neg (by omega)]
   rw [this]; simp only [sumX]; omega
 have := key kids 0 (Int.le_refl _) hs
 unfold sumW at hs ⊢
 rw [this]; omega
theorem lang_zero {l : List Node} (v : NValid l) {k : Nat} (h : k < l.length) (hz : (wts l).getD k 0 = 0) {s : List UInt8} {i j : Nat} : Lang l k s i j ↔ idR s i j := by
 induction k using Nat.strongRecOn generalizing i j with
 | ind k ih =>
  have hw := v.inW
  have ho := v.ok k h
  rw [wts_at v h] at hz
  rw [lang_at v h]
  have hm : ∀ q ∈ (l.getD k zNode).2.2.2.2, 0 ≤ q ∧ q < (k : Int) := fun q hq => ho.mem hq
  generalize l.getD k zNode = n at hz ho hm ⊢
  obtain ⟨kd, st, mn, mx, kids⟩ := n
  have hs := sumW_range hw kids
  unfold wtNode at hz
  dsimp only at hz hm
  unfold nodeR
  dsimp only
  have ho2 := ho.2.2.2
  dsimp only at ho2
  have pz : ∀ q ∈ kids, (wts l).getD q.toNat 0 = 0 → ∀ {i j : Nat}, Lang l q.toNat s i j ↔ idR s i j := fun q hq hz => by
   have := hm q hq
   intro i j
   exact ih q.toNat (by omega) (by omega) hz
  split at hz
  ·rename_i h4
   subst h4
   rw [if_neg (by omega), if_neg (by omega), if_neg (by omega), if_pos rfl]
   have e := sumW_exact hw kids (by omega)
   have hzz : sumX (wts l) kids = 0 := by omega
   clear hs e ho ho2 hm ih hz
   induction kids generalizing i with
   | nil => exact Iff.rfl
   | cons q kids ihk =>
    have h1 := (hw q.toNat).1
    have h2 := sumX_nonneg hw kids
    simp only [sumX] at hzz
    have pq := @pz q (by simp) (by omega)
    have pk := fun i => @ihk i (fun q hq => pz q (by simp [hq])) (by omega)
    simp only [seqL, compR, pq, idR]
    constructor
    ·rintro ⟨m, rfl, h⟩; exact (pk _).1 h
    ·rintro rfl; exact ⟨i, rfl, (pk i).2 rfl⟩
  split at hz
  ·rename_i h5
   have := ho2.2.1 (.inr h5)
   unfold capW at hz
   split at hz <;> omega
  split at hz
  ·rename_i h4 h5 h6
   subst h6
   obtain ⟨o1, o2, o3, o4⟩ := ho2.2.2 rfl
   rw [if_neg (by omega), if_neg (by omega), if_neg (by omega), if_neg (by omega), if_neg (by omega), if_pos rfl]
   obtain ⟨q, rfl⟩ : ∃ q, kids = [q] := by
    match kids, o1 with
    | [q], _ => exact ⟨q, rfl⟩
   have hp := Int.mul_nonneg o2 hs.1
   split at hz
   ·unfold capW at hz
    split at hz <;> omega
   ·rename_i hmx
    have hp2 : 0 ≤ (mx - mn) * (sumW (wts l) [q] + 1) := Int.mul_nonneg (by omega) (by omega)
    have hz : mn * sumW (wts l) [q] = 0 ∧ (mx - mn) * (sumW (wts l) [q] + 1) = 0 := by
     unfold capW at hz
     split at hz <;> omega
    have e1 : mx = mn := by
     rcases Int.mul_eq_zero.1 hz.2 with e | e <;> omega
    subst e1
    have e2 := Int.mul_eq_zero.1 hz.1
    simp only [repR, List.getD_cons_zero]
    have hpow : ∀ (r : Nat), (mx = 0 → r = 0) → ∀ {i j : Nat}, powR (Lang l q.toNat) r s i j ↔ idR s i j := by
     intro r hr
     rcases e2 with e2 | e2
     ·rw [hr e2]; exact Iff.rfl
     ·have e3 := sumW_exact hw [q] (by omega)
      have pq := @pz q (by simp) (by simp only [sumX] at e3; omega)
      induction r with
      | zero => intro i j; exact Iff.rfl
      | succ r ihr =>
       intro i j
       have ihr := @ihr (fun e => absurd (hr e) (by omega))
       simp only [powR, compR, pq, ihr, idR]
       constructor
       ·rintro ⟨m, rfl, rfl⟩; rfl
       ·rintro rfl; exact ⟨i, rfl, rfl⟩
    constructor
    ·rintro ⟨r, r1, r2, r3⟩
     exact (hpow r (by omega)).1 r3
    ·intro hid
     exact ⟨mx.toNat, by omega, by omega, (hpow _ (by omega)).2 hid⟩
  ·omega
structure Bld (R : RelT) (st st' : List State) (d nx : Nat) (w : Int) : Prop where
 pre : st' = st ++ st'.drop st.length
 len : (st'.length : Int) ≤ st.length + w
 dlt : d < st'.length
 ok : ∀ i, st.length ≤ i → i < st'.length → okState st'.length (st'.getD i zState)
 lead : ∀ A : List State, (∀ i, st.length ≤ i → i < st'.length → A.getD i zState = st'.getD i zState) → Leads A R d nx
theorem okState.mono {n m : Nat} {s : State} (h : okState n s) (hm : n ≤ m) : okState m s := by
 obtain ⟨h1, h2, h3, h4⟩ := h
 exact ⟨h1, h2, fun h => by have := h3 h; omega, fun h => by have := h4 h; omega⟩
theorem Bld.le {R : RelT} {st st' : List State} {d nx : Nat} {w : Int} (h : Bld R st st' d nx w) : st.length ≤ st'.length := by
 have := congrArg List.length h.pre
 simp at this; omega
theorem pre_of {st st' new : List State} (h : st' = st ++ new) : st' = st ++ st'.drop st.length := by subst h; simp
theorem Bld.trans_pre {R S : RelT} {st st1 st2 : List State} {d1 d2 n1 n2 : Nat} {w1 w2 : Int} (h1 : Bld R st st1 d1 n1 w1) (h2 : Bld S st1 st2 d2 n2 w2) : st2 = st ++ st2.drop st.length := by
 refine pre_of (new := st1.drop st.length ++ st2.drop st1.length) ?_
 rw [← List.append_assoc, ← h1.pre]; exact h2.pre
theorem Bld.getD {R : RelT} {st st' : List State} {d nx : Nat} {w : Int} (h : Bld R st st' d nx w) {i : Nat} (hi : i < st.length) : st'.getD i zState = st.getD i zState := by
 conv => lhs; rw [h.pre]
 exact getD_append_left hi
theorem Bld.id {st : List State} {nx : Nat} (h : nx < st.length) : Bld idR st st nx nx 0 := ⟨by simp, by omega, h, fun i h1 h2 => by omega, fun A hA => .id⟩
theorem Bld.congr {R S : RelT} {st st' : List State} {d nx : Nat} {w : Int} (h : Bld R st st' d nx w) (e : ∀ s i j, R s i j ↔ S s i j) : Bld S st st' d nx w :=
 ⟨h.pre, h.len, h.dlt, h.ok, fun A hA => (h.lead A hA).congr e⟩
theorem Bld.weaken {R : RelT} {st st' : List State} {d nx : Nat} {w w' : Int} (h : Bld R st st' d nx w) (e : w ≤ w') : Bld R st st' d nx w' :=
 ⟨h.pre, by have := h.len; omega, h.dlt, h.ok, h.lead⟩
theorem Bld.comp {R S : RelT} {st st1 st2 : List State} {d m nx : Nat} {w1 w2 : Int} (h1 : Bld S st st1 m nx w1) (h2 : Bld R st1 st2 d m w2) : Bld (compR R S) st st2 d nx (w1 + w2) := by
 have l1 := h1.le; have l2 := h2.le
 refine ⟨h1.trans_pre h2, by have := h1.len; have := h2.len; omega, h2.dlt, fun i i1 i2 => ?_, fun A hA => ?_⟩
 ·rcases Nat.lt_or_ge i st1.length with hi | hi
  ·rw [h2.getD hi]; exact (h1.ok i i1 hi).mono l2
  ·exact h2.ok i hi i2
 ·refine (h2.lead A fun i i1 i2 => hA i (by omega) i2).comp (h1.lead A fun i i1 i2 => ?_)
  rw [hA i i1 (by omega), h2.getD i2]
theorem okState_split {n d b : Nat} {z : Set4} (h1 : d < n) (h2 : b < n) : okState n ((1 : Int), (z, ((d : Int), (b : Int)))) := by
 unfold okState; dsimp only; omega
theorem getD_last {st : List State} {x : State} : (st ++ [x]).getD st.length zState = x := getD_append_at
theorem Bld.alt {R S : RelT} {st st1 st2 : List State} {d s1 nx : Nat} {w1 w2 : Int} {z : Set4} (h1 : Bld S st st1 s1 nx w1) (h2 : Bld R st1 st2 d nx w2) : Bld (uniR R S) st (st2 ++ [((1 : Int), (z, ((d : Int), (s1 : Int))))]) st2.length nx (w1 + w2 + 1) := by
 have l1 := h1.le; have l2 := h2.le
 have hd := h2.dlt; have hs := h1.dlt
 have hlen : (st2 ++ [((1 : Int), (z, ((d : Int), (s1 : Int))))]).length = st2.length + 1 := by simp
 refine ⟨?_, by have := h1.len; have := h2.len; omega, by omega, fun i i1 i2 => ?_, fun A hA => ?_⟩
 ·refine pre_of (new := st2.drop st.length ++ [((1 : Int), (z, ((d : Int), (s1 : Int))))]) ?_
  rw [← List.append_assoc, ← h1.trans_pre h2]
 ·rw [hlen]
  rcases Nat.lt_or_ge i st2.length with hi | hi
  ·rw [getD_append_left hi]
   rcases Nat.lt_or_ge i st1.length with hi1 | hi1
   ·rw [h2.getD hi1]; exact (h1.ok i i1 hi1).mono (by omega)
   ·exact (h2.ok i hi1 hi).mono (by omega)
  ·have : i = st2.length := by omega
   subst this
   rw [getD_last]
   exact okState_split (by omega) (by omega)
 ·have hsp : A.getD st2.length zState = ((1 : Int), (z, ((d : Int), (s1 : Int)))) := by rw [hA _ (by omega) (by omega), getD_last]
  refine Leads.split hsp (h2.lead A fun i i1 i2 => ?_) (h1.lead A fun i i1 i2 => ?_)
  ·rw [hA i (by omega) (by omega), getD_append_left i2]
  ·rw [hA i i1 (by omega), getD_append_left (by omega), h2.getD i2]
theorem Bld.opt {R : RelT} {st st2 : List State} {d nx : Nat} {w : Int} {z : Set4} (h : Bld R st st2 d nx w) (hn : nx < st.length) : Bld (uniR R idR) st (st2 ++ [((1 : Int), (z, ((d : Int), (nx : Int))))]) st2.length nx (w + 1) := by
 have := (Bld.id hn).alt h (z := z)
 exact this.weaken (by omega)
theorem Bld.star {R : RelT} {st st2 : List State} {d nx : Nat} {w : Int} {z : Set4} {x : State} (hn : nx < st.length) (h : Bld R (st ++ [x]) st2 d st.length w) : Bld (starR R) st (st2.set st.length ((1 : Int), (z, ((d : Int), (nx : Int))))) st.length nx (w + 1) := by
 have hl := h.le
 simp at hl
 have hd := h.dlt
 refine ⟨?_, by have := h.len; simp at this ⊢; omega, by simp; omega, fun i i1 i2 => ?_, fun A hA => ?_⟩
 ·refine pre_of (new := ((1 : Int), (z, ((d : Int), (nx : Int)))) :: st2.drop (st.length + 1)) ?_
  have := h.pre
  simp only [List.length_append, List.length_cons, List.length_nil] at this
  conv => lhs; rw [this]
  rw [List.append_assoc, List.set_append_right _ _ (Nat.le_refl _), Nat.sub_self]
  rfl
 ·simp only [List.length_set] at i2 ⊢
  rw [getD_set (by omega)]
  split
  ·exact okState_split (by omega) (by omega)
  ·exact h.ok i (by simp; omega) i2
 ·have hsp : A.getD st.length zState = ((1 : Int), (z, ((d : Int), (nx : Int)))) := by
   rw [hA _ (Nat.le_refl _) (by simp; omega), getD_set (by omega), if_pos rfl]
  refine Leads.star hsp (h.lead A fun i i1 i2 => ?_)
  simp at i1
  rw [hA i (by omega) (by simp; omega), getD_set (by omega), if_neg (by omega)]
theorem Bld.one {R : RelT} {st : List State} {nx : Nat} {x : State} (ho : okState (st.length + 1) x) (hl : ∀ (A : List State) (d : Nat), A.getD d zState = x → Leads A R d nx) : Bld R st (st ++ [x]) st.length nx 1 :=
 ⟨pre_of rfl, by simp, by simp, fun i i1 i2 => by
  simp at i2
  have : i = st.length := by omega
  subst this
  rw [getD_last]; simpa using ho, fun A hA => hl A _ (by rw [hA _ (Nat.le_refl _) (by simp), getD_last])⟩
end Go.VS
