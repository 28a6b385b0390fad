/- Contracts of the functions. -/
import Derived.Test.YtbandpkgjepklaaKS0
set_option linter.unusedVariables false
set_option linter.unusedSimpArgs false
open Int renaming le_refl → Qa0, mul_le_mul_of_nonneg_right → Qa4, mul_nonneg → Qa7, lt_or_le → Qb0, add_mul → Qb1, one_mul → Qb2, toNat_zero → Qb5
open List renaming length_cons → Qa1, length_nil → Qa2, length_append → Qa6, getD_eq_getElem?_getD → Qa8, append_assoc → Qa9, take_of_length_le → Qb3, take_append_drop → Qb4
open Nat renaming lt_or_ge → Qa3, le_refl → Qa5
namespace Go.VS
def AhT : Ada := fun _ _ _ => False
def AfJ (R : Nat → Ada) : List Int → Ada
 | [] => idR
 | k :: ks => Aga (R k.toNat) (AfJ R ks)
def Ae8 (R : Nat → Ada) : List Int → Ada
 | [] => AhT
 | k :: ks => Ahp (R k.toNat) (Ae8 R ks)
def AhN (R : Ada) (mn mx : Int) : Ada := fun s i j => ∃ r : Nat, mn ≤ r ∧ (mx < 0 ∨ (r : Int) ≤ mx) ∧ Aey R r s i j
def Adr (n : Node) (R : Nat → Ada) : Ada :=
 if n.1 = 1 then AjV n.2.1 else if n.1 = 2 then stR else if n.1 = 3 then enR
 else if n.1 = 4 then AfJ R n.2.2.2.2 else if n.1 = 5 then Ae8 R n.2.2.2.2
 else if n.1 = 6 then AhN (R (n.2.2.2.2.getD 0 0).toNat) n.2.2.1 n.2.2.2.1 else idR
def langs (l : List Node) : List Ada := l.foldl (fun L n => L ++ [Adr n fun k => L.getD k AhT]) []
def Lang (l : List Node) (k : Nat) : Ada := (langs l).getD k AhT
theorem Ag8 (l : List Node) (n : Node) : langs (l ++ [n]) = langs l ++ [Adr n (Lang l)] := by simp only [langs, List.foldl_append]; rfl
theorem Agf (l : List Node) : (langs l).length = l.length := by
 have : ∀ (l : List Node) (w : List Ada), (l.foldl (fun L n => L ++ [Adr n fun k => L.getD k AhT]) w).length = w.length + l.length := by
  intro l
  induction l with
  | nil => intro w; rfl
  | cons n l ih => intro w; simp only [List.foldl_cons, ih, Qa6, Qa1, Qa2]; omega
 have := this l []; rw [langs, this]; simp
theorem Agx (l m : List Node) {k : Nat} (h : k < l.length) : Lang (l ++ m) k = Lang l k := by
 induction m generalizing l with
 | nil => rw [List.append_nil]
 | cons n m ih =>
  rw [show l ++ n :: m = (l ++ [n]) ++ m by simp, ih _ (by simp; omega)]
  unfold Lang; rw [Ag8, Dx (by rw [Agf]; exact h)]
theorem Aij {R S : Nat → Ada} {l : List Int} (h : ∀ k ∈ l, R k.toNat = S k.toNat) : AfJ R l = AfJ S l := by
 induction l with
 | nil => rfl
 | cons k l ih => simp only [AfJ]; rw [h k (by simp), ih fun k' hk' => h k' (by simp [hk'])]
theorem Aid {R S : Nat → Ada} {l : List Int} (h : ∀ k ∈ l, R k.toNat = S k.toNat) : Ae8 R l = Ae8 S l := by
 induction l with
 | nil => rfl
 | cons k l ih => simp only [Ae8]; rw [h k (by simp), ih fun k' hk' => h k' (by simp [hk'])]
theorem R8.mem {n : Node} {i : Nat} (h : R8 n i) {k : Int} (hk : k ∈ n.2.2.2.2) : 0 ≤ k ∧ k < (i : Int) := by
 obtain ⟨j, hj, rfl⟩ := List.getElem_of_mem hk; have := h.1 j hj
 rwa [getD_eq hj] at this
theorem AhX {n : Node} {i : Nat} (ho : R8 n i) {R S : Nat → Ada} (h : ∀ k, k < i → R k = S k) : Adr n R = Adr n S := by
 have hm : ∀ k ∈ n.2.2.2.2, R k.toNat = S k.toNat := fun k hk => h _ (by have := ho.mem hk; omega)
 unfold Adr; rw [Aij hm, Aid hm]
 by_cases h6 : n.1 = 6
 ·have := ho.2.2.2.2.2 h6; have := ho.1 0 (by omega); rw [h (n.2.2.2.2.getD 0 0).toNat (by omega)]
 ·simp only [if_neg h6]
theorem AgJ {l : List Node} (v : Aad l) {k : Nat} (h : k < l.length) : Lang l k = Adr (l.getD k Ak) (Lang l) := by
 have e : l.take (k + 1) = l.take k ++ [l.getD k Ak] := by rw [List.take_succ_eq_append_getElem h, getD_eq h]
 have e2 : Lang l k = Lang (l.take (k + 1)) k := by
  conv => lhs; rw [← Qb4 (k + 1) l]
  exact Agx _ _ (by simp; omega)
 rw [e2, e]; unfold Lang; rw [Ag8]
 have hlen : (langs (l.take k)).length = k := by rw [Agf]; simp; omega
 have := @HI _ (langs (l.take k)) (Adr (l.getD k Ak) (Lang (l.take k))) AhT; rw [hlen] at this; rw [this]
 refine AhX (v.ok k h) fun m hm => ?_
 show Lang (l.take k) m = Lang l m
 conv => rhs; rw [← Qb4 k l]
 exact (Agx _ _ (by simp; omega)).symm
def Ad2 (w : List Int) : List Int → Int
 | [] => 0
 | k :: ks => w.getD k.toNat 0 + Ad2 w ks
theorem AeU {w : List Int} (h : InW w) (l : List Int) : 0 ≤ Ad2 w l := by
 induction l with
 | nil => exact Qa0 _
 | cons k l ih => have := (h k.toNat).1; simp only [Ad2]; omega
theorem Afj {w : List Int} (h : InW w) (kids : List Int) (hs : Adq w kids ≤ 4000) : Adq w kids = Ad2 w kids := by
 have key : ∀ (kids : List Int) (n : Int), 0 ≤ n → kids.foldl (fun n k => AdS (n + w.getD k.toNat 0)) n ≤ 4000 → kids.foldl (fun n k => AdS (n + w.getD k.toNat 0)) n = n + Ad2 w kids := by
  intro kids
  induction kids with
  | nil => intro n hn hs; simp [Ad2]
  | cons k kids ih =>
   intro n hn hs; have hk := (h k.toNat).1; have hcap : 0 ≤ AdS (n + w.getD k.toNat 0) := (AeA (by omega)).1; have := ih _ hcap hs; simp only [List.foldl_cons] at hs ⊢; rw [this] at hs ⊢; have hx := AeU h kids
   have : AdS (n + w.getD k.toNat 0) = n + w.getD k.toNat 0 := by
    unfold AdS at hs ⊢; split at hs
    ·omega
    ·rw [if_neg (by omega)]
   rw [this]; simp only [Ad2]; omega
 have := key kids 0 (Qa0 _) hs; unfold Adq at hs ⊢; rw [this]; omega
theorem Aiw {l : List Node} (v : Aad l) {k : Nat} (h : k < l.length) (hz : (wts l).getD k 0 = 0) {s : List UInt8} {i j : Nat} : Lang l k s i j ↔ idR s i j := by
 induction k using Nat.strongRecOn generalizing i j with
 | ind k ih =>
  have hw := v.inW; have ho := v.ok k h; rw [Ajb v h] at hz; rw [AgJ v h]
  have hm : ∀ q ∈ (l.getD k Ak).2.2.2.2, 0 ≤ q ∧ q < (k : Int) := fun q hq => ho.mem hq
  generalize l.getD k Ak = n at hz ho hm ⊢; obtain ⟨kd, st, mn, mx, kids⟩ := n; have hs := AeF hw kids; unfold Ac7 at hz; dsimp only at hz hm; unfold Adr; dsimp only; have ho2 := ho.2.2.2; dsimp only at ho2
  have pz : ∀ q ∈ kids, (wts l).getD q.toNat 0 = 0 → ∀ {i j : Nat}, Lang l q.toNat s i j ↔ idR s i j := fun q hq hz => by
   have := hm q hq; intro i j; exact ih q.toNat (by omega) (by omega) hz
  split at hz
  ·rename_i h4; subst h4; rw [if_neg (by omega), if_neg (by omega), if_neg (by omega), if_pos rfl]; have e := Afj hw kids (by omega)
   have hzz : Ad2 (wts l) kids = 0 := by omega
   clear hs e ho ho2 hm ih hz
   induction kids generalizing i with
   | nil => exact Iff.rfl
   | cons q kids ihk =>
    have h1 := (hw q.toNat).1; have h2 := AeU hw kids; simp only [Ad2] at hzz; have pq := @pz q (by simp) (by omega)
    have pk := fun i => @ihk i (fun q hq => pz q (by simp [hq])) (by omega)
    simp only [AfJ, Aga, pq, idR]; constructor
    ·rintro ⟨m, rfl, h⟩; exact (pk _).1 h
    ·rintro rfl; exact ⟨i, rfl, (pk i).2 rfl⟩
  split at hz
  ·rename_i h5; have := ho2.2.1 (.inr h5); unfold AdS at hz
   split at hz <;> omega
  split at hz
  ·rename_i h4 h5 h6; subst h6; obtain ⟨o1, o2, o3, o4⟩ := ho2.2.2 rfl; rw [if_neg (by omega), if_neg (by omega), if_neg (by omega), if_neg (by omega), if_neg (by omega), if_pos rfl]
   obtain ⟨q, rfl⟩ : ∃ q, kids = [q] := by
    match kids, o1 with
    | [q], _ => exact ⟨q, rfl⟩
   have hp := Qa7 o2 hs.1; split at hz
   ·unfold AdS at hz
    split at hz <;> omega
   ·rename_i hmx; have hp2 : 0 ≤ (mx - mn) * (Adq (wts l) [q] + 1) := Qa7 (by omega) (by omega)
    have hz : mn * Adq (wts l) [q] = 0 ∧ (mx - mn) * (Adq (wts l) [q] + 1) = 0 := by
     unfold AdS at hz
     split at hz <;> omega
    have e1 : mx = mn := by
     rcases Int.mul_eq_zero.1 hz.2 with e | e <;> omega
    subst e1; have e2 := Int.mul_eq_zero.1 hz.1; simp only [AhN, List.getD_cons_zero]
    have hpow : ∀ (r : Nat), (mx = 0 → r = 0) → ∀ {i j : Nat}, Aey (Lang l q.toNat) r s i j ↔ idR s i j := by
     intro r hr
     rcases e2 with e2 | e2
     ·rw [hr e2]; exact Iff.rfl
     ·have e3 := Afj hw [q] (by omega); have pq := @pz q (by simp) (by simp only [Ad2] at e3; omega)
      induction r with
      | zero => intro i j; exact Iff.rfl
      | succ r ihr =>
       intro i j; have ihr := @ihr (fun e => absurd (hr e) (by omega)); simp only [Aey, Aga, pq, ihr, idR]; constructor
       ·rintro ⟨m, rfl, rfl⟩; rfl
       ·rintro rfl; exact ⟨i, rfl, rfl⟩
    constructor
    ·rintro ⟨r, r1, r2, r3⟩; exact (hpow r (by omega)).1 r3
    ·intro hid; exact ⟨mx.toNat, by omega, by omega, (hpow _ (by omega)).2 hid⟩
  ·omega
structure Bld (R : Ada) (st st' : List State) (d nx : Nat) (w : Int) : Prop where
 pre : st' = st ++ st'.drop st.length
 len : (st'.length : Int) ≤ st.length + w
 dlt : d < st'.length
 ok : ∀ i, st.length ≤ i → i < st'.length → Adk st'.length (st'.getD i Aby)
 lead : ∀ A : List State, (∀ i, st.length ≤ i → i < st'.length → A.getD i Aby = st'.getD i Aby) → Leads A R d nx
theorem Adk.mono {n m : Nat} {s : State} (h : Adk n s) (hm : n ≤ m) : Adk m s := by
 obtain ⟨h1, h2, h3, h4⟩ := h; exact ⟨h1, h2, fun h => by have := h3 h; omega, fun h => by have := h4 h; omega⟩
theorem Bld.le {R : Ada} {st st' : List State} {d nx : Nat} {w : Int} (h : Bld R st st' d nx w) : st.length ≤ st'.length := by
 have := congrArg List.length h.pre; simp at this; omega
theorem AhL {st st' new : List State} (h : st' = st ++ new) : st' = st ++ st'.drop st.length := by subst h; simp
theorem Bld.Ahv {R S : Ada} {st st1 st2 : List State} {d1 d2 n1 n2 : Nat} {w1 w2 : Int} (h1 : Bld R st st1 d1 n1 w1) (h2 : Bld S st1 st2 d2 n2 w2) : st2 = st ++ st2.drop st.length := by
 refine AhL (new := st1.drop st.length ++ st2.drop st1.length) ?_; rw [← Qa9, ← h1.pre]; exact h2.pre
theorem Bld.getD {R : Ada} {st st' : List State} {d nx : Nat} {w : Int} (h : Bld R st st' d nx w) {i : Nat} (hi : i < st.length) : st'.getD i Aby = st.getD i Aby := by
 conv => lhs; rw [h.pre]
 exact Dx hi
theorem Bld.id {st : List State} {nx : Nat} (h : nx < st.length) : Bld idR st st nx nx 0 := ⟨by simp, by omega, h, fun i h1 h2 => by omega, fun A hA => .id⟩
theorem Bld.congr {R S : Ada} {st st' : List State} {d nx : Nat} {w : Int} (h : Bld R st st' d nx w) (e : ∀ s i j, R s i j ↔ S s i j) : Bld S st st' d nx w :=
 ⟨h.pre, h.len, h.dlt, h.ok, fun A hA => (h.lead A hA).congr e⟩
theorem Bld.weaken {R : Ada} {st st' : List State} {d nx : Nat} {w w' : Int} (h : Bld R st st' d nx w) (e : w ≤ w') : Bld R st st' d nx w' :=
 ⟨h.pre, by have := h.len; omega, h.dlt, h.ok, h.lead⟩
theorem Bld.comp {R S : Ada} {st st1 st2 : List State} {d m nx : Nat} {w1 w2 : Int} (h1 : Bld S st st1 m nx w1) (h2 : Bld R st1 st2 d m w2) : Bld (Aga R S) st st2 d nx (w1 + w2) := by
 have l1 := h1.le; have l2 := h2.le; refine ⟨h1.Ahv h2, by have := h1.len; have := h2.len; omega, h2.dlt, fun i i1 i2 => ?_, fun A hA => ?_⟩
 ·rcases Qa3 i st1.length with hi | hi
  ·rw [h2.getD hi]; exact (h1.ok i i1 hi).mono l2
  ·exact h2.ok i hi i2
 ·refine (h2.lead A fun i i1 i2 => hA i (by omega) i2).comp (h1.lead A fun i i1 i2 => ?_); rw [hA i i1 (by omega), h2.getD i2]
theorem AfS {n d b : Nat} {z : Bb} (h1 : d < n) (h2 : b < n) : Adk n ((1 : Int), (z, ((d : Int), (b : Int)))) := by
 unfold Adk; dsimp only; omega
theorem Afb {st : List State} {x : State} : (st ++ [x]).getD st.length Aby = x := HI
theorem Bld.alt {R S : Ada} {st st1 st2 : List State} {d s1 nx : Nat} {w1 w2 : Int} {z : Bb} (h1 : Bld S st st1 s1 nx w1) (h2 : Bld R st1 st2 d nx w2) : Bld (Ahp R S) st (st2 ++ [((1 : Int), (z, ((d : Int), (s1 : Int))))]) st2.length nx (w1 + w2 + 1) := by
 have l1 := h1.le; have l2 := h2.le; have hd := h2.dlt; have hs := h1.dlt
 have hlen : (st2 ++ [((1 : Int), (z, ((d : Int), (s1 : Int))))]).length = st2.length + 1 := by simp
 refine ⟨?_, by have := h1.len; have := h2.len; omega, by omega, fun i i1 i2 => ?_, fun A hA => ?_⟩
 ·refine AhL (new := st2.drop st.length ++ [((1 : Int), (z, ((d : Int), (s1 : Int))))]) ?_; rw [← Qa9, ← h1.Ahv h2]
 ·rw [hlen]
  rcases Qa3 i st2.length with hi | hi
  ·rw [Dx hi]
   rcases Qa3 i st1.length with hi1 | hi1
   ·rw [h2.getD hi1]; exact (h1.ok i i1 hi1).mono (by omega)
   ·exact (h2.ok i hi1 hi).mono (by omega)
  ·have : i = st2.length := by omega
   subst this; rw [Afb]; exact AfS (by omega) (by omega)
 ·have hsp : A.getD st2.length Aby = ((1 : Int), (z, ((d : Int), (s1 : Int)))) := by rw [hA _ (by omega) (by omega), Afb]
  refine Leads.split hsp (h2.lead A fun i i1 i2 => ?_) (h1.lead A fun i i1 i2 => ?_)
  ·rw [hA i (by omega) (by omega), Dx i2]
  ·rw [hA i i1 (by omega), Dx (by omega), h2.getD i2]
theorem Bld.opt {R : Ada} {st st2 : List State} {d nx : Nat} {w : Int} {z : Bb} (h : Bld R st st2 d nx w) (hn : nx < st.length) : Bld (Ahp R idR) st (st2 ++ [((1 : Int), (z, ((d : Int), (nx : Int))))]) st2.length nx (w + 1) := by
 have := (Bld.id hn).alt h (z := z); exact this.weaken (by omega)
theorem Bld.star {R : Ada} {st st2 : List State} {d nx : Nat} {w : Int} {z : Bb} {x : State} (hn : nx < st.length) (h : Bld R (st ++ [x]) st2 d st.length w) : Bld (Ahu R) st (st2.set st.length ((1 : Int), (z, ((d : Int), (nx : Int))))) st.length nx (w + 1) := by
 have hl := h.le; simp at hl; have hd := h.dlt; refine ⟨?_, by have := h.len; simp at this ⊢; omega, by simp; omega, fun i i1 i2 => ?_, fun A hA => ?_⟩
 ·refine AhL (new := ((1 : Int), (z, ((d : Int), (nx : Int)))) :: st2.drop (st.length + 1)) ?_; have := h.pre; simp only [Qa6, Qa1, Qa2] at this
  conv => lhs; rw [this]
  rw [Qa9, List.set_append_right _ _ (Qa5 _), Nat.sub_self]; rfl
 ·simp only [List.length_set] at i2 ⊢; rw [AdI (by omega)]; split
  ·exact AfS (by omega) (by omega)
  ·exact h.ok i (by simp; omega) i2
 ·have hsp : A.getD st.length Aby = ((1 : Int), (z, ((d : Int), (nx : Int)))) := by
   rw [hA _ (Qa5 _) (by simp; omega), AdI (by omega), if_pos rfl]
  refine Leads.star hsp (h.lead A fun i i1 i2 => ?_); simp at i1; rw [hA i (by omega) (by simp; omega), AdI (by omega), if_neg (by omega)]
theorem Bld.one {R : Ada} {st : List State} {nx : Nat} {x : State} (ho : Adk (st.length + 1) x) (hl : ∀ (A : List State) (d : Nat), A.getD d Aby = x → Leads A R d nx) : Bld R st (st ++ [x]) st.length nx 1 :=
 ⟨AhL rfl, by simp, by simp, fun i i1 i2 => by
  simp at i2
  have : i = st.length := by omega
  subst this
  rw [Afb]; simpa using ho, fun A hA => hl A _ (by rw [hA _ (Qa5 _) (by simp), Afb])⟩
variable {P : Pg}
def Agn (P : Pg) : Prop := ∀ x : MH × State, x.1.2.2.length ≤ 1000000000 → Fn P zS4 AcU x fun (d : Int) (e : MH) => d = x.1.2.2.length ∧ e = (x.1.1, (x.1.2.1, x.1.2.2 ++ [x.2]))
theorem AjZ (h : Has P Adp) : Agn P := by
 rintro ⟨⟨l, w, st⟩, s⟩ hl; dsimp only at hl; refine AeW h ?_; unfold Ad4; dsimp only
 have hlen : (st ++ [s]).length = st.length + 1 := by simp
 refine Ag.mid (fun d => d = (l, (w, st ++ [s]))) ?_ ?_
 ·simp only [Qa1, Qa2, and_true, and_self]; omega
 ·rintro d rfl; dsimp only; rw [hlen, w64 (by omega) (by omega)]; exact ⟨by omega, rfl⟩
def Ad3 (l : List Node) (R : Ada) (st : List State) (nx : Int) (w : Int) (d : Int) (e : MH) : Prop := ∃ st', e = (l, (wts l, st')) ∧ 0 ≤ d ∧ Bld R st st' d.toNat nx.toNat w
def AfV (P : Pg) (N : Nat) : Prop := ∀ (l : List Node) (st : List State) (a nx : Int), Aad l → KB l → 0 ≤ a → a < l.length → a < N → (wts l).getD a.toNat 0 ≤ 4000 → 0 ≤ nx → nx < st.length → (st.length : Int) + (wts l).getD a.toNat 0 ≤ 1000000 →
 Fn P zS5 AcT ((l, (wts l, st)), (a, nx)) fun (d : Int) (e : MH) => Ad3 l (Lang l a.toNat) st nx ((wts l).getD a.toNat 0) d e
theorem Ae9 {l : List Int} {i : Nat} (h : i < l.length) : l.drop i = l.getD i 0 :: l.drop (i + 1) := by rw [List.drop_eq_getElem_cons h, getD_eq h]
theorem Agk {w : List Int} (hw : InW w) (l : List Int) (i : Nat) : Ad2 w (l.drop i) ≤ Ad2 w l := by
 induction l generalizing i with
 | nil => simp [Ad2]
 | cons k l ih =>
  cases i with
  | zero => exact Qa0 _
  | succ i => have := ih i; have := (hw k.toNat).1; simp only [List.drop_succ_cons, Ad2]; omega
def AhQ (P : Pg) (N : Nat) : Prop := ∀ (l : List Node) (st : List State) (kids : List Int) (nx : Int), Aad l → KB l → (∀ k ∈ kids, 0 ≤ k ∧ k < l.length ∧ k < N) → 1 ≤ kids.length → kids.length ≤ 140737488351232 → Ad2 (wts l) kids + kids.length - 1 ≤ 4000 → 0 ≤ nx → nx < st.length → (st.length : Int) + Ad2 (wts l) kids + kids.length - 1 ≤ 1000000 →
 Fn P AcO Ac0 ((l, (wts l, st)), (kids, nx)) fun (d : Int) (e : MH) => Ad3 l (Ae8 (Lang l) kids) st nx (Ad2 (wts l) kids + kids.length - 1) d e
theorem Ah8 (h : Has P Ac5) (hA : Agn P) {N : Nat} (hB : AfV P N) : AhQ P N := by
 intro l st kids nx v hK hk hk1 hkl hs hn0 hn hm; have hw := v.inW; refine Aew h ?_; unfold AdT; dsimp only; have e1 : IntKind.i64.wrap (((kids.length : Nat) : Int) - 1) = (kids.length : Int) - 1 := w64 (by omega) (by omega)
 have e2 : IntKind.i64.wrap ((kids.length : Int) - 1 - 1) = (kids.length : Int) - 2 := by rw [w64 (by omega) (by omega)]; omega
 simp only [e1, e2]
 have hkid : ∀ i : Nat, i < kids.length → (0 ≤ kids.getD i 0 ∧ kids.getD i 0 < l.length ∧ kids.getD i 0 < N) ∧ 0 ≤ (wts l).getD (kids.getD i 0).toNat 0 ∧ (wts l).getD (kids.getD i 0).toNat 0 + Ad2 (wts l) (kids.drop (i + 1)) ≤ Ad2 (wts l) kids ∧ 0 ≤ Ad2 (wts l) (kids.drop (i + 1)) := by
  intro i hi; refine ⟨hk _ (S7 hi), (hw _).1, ?_, AeU hw _⟩; have := Agk hw kids i; rw [Ae9 hi] at this; exact this
 refine ⟨⟨by omega, by omega⟩, by omega, ?_⟩; obtain ⟨⟨k1, k2, k3⟩, k4, k5, k6⟩ := hkid ((kids.length : Int) - 1).toNat (by omega); refine (hB l st _ nx v hK k1 k2 k3 (by omega) hn0 hn (by omega)).to ?_; rintro (d1 : Int) (e : MH) ⟨st1, rfl, h0, hb⟩
 try dsimp only
 refine Ag.mid (fun d => Ad3 l (Ae8 (Lang l) kids) st nx (Ad2 (wts l) kids + kids.length - 1) d.1 d.2) ?_ fun d hd => hd
 refine B0.of (fun d => -1 ≤ d.2.1 ∧ d.2.1 ≤ (kids.length : Int) - 2 ∧ Ad3 l (Ae8 (Lang l) (kids.drop (d.2.1 + 1).toNat)) st nx (Ad2 (wts l) (kids.drop (d.2.1 + 1).toNat) + (kids.length - (d.2.1 + 1)) - 1) d.1 d.2.2) (fun d => (d.2.1 + 1).toNat) ?_ ?_
 ·refine ⟨by dsimp only; omega, by dsimp only; omega, st1, rfl, h0, ?_⟩
  dsimp only; rw [show ((kids.length : Int) - 2 + 1).toNat = ((kids.length : Int) - 1).toNat by omega, Ae9 (show ((kids.length : Int) - 1).toNat < kids.length by omega), List.drop_eq_nil_of_le (show kids.length ≤ ((kids.length : Int) - 1).toNat + 1 by omega)]; refine (hb.congr (S := Ae8 (Lang l) [kids.getD ((kids.length : Int) - 1).toNat 0]) fun s i j => ?_).weaken (by simp only [Ad2]; omega)
  simp [Ae8, Ahp, AhT]
 ·rintro ⟨d, i, b⟩ ⟨i0, i1, st2, rfl, hd0, hb2⟩; dsimp only at i0 i1 hd0 hb2 ⊢; refine ⟨fun hc => Ag.of ?_, fun hc => ?_⟩
  ·have hc := of_decide_eq_true hc; refine ⟨⟨hc, by omega⟩, by omega, ?_⟩; obtain ⟨⟨k1, k2, k3⟩, k4, k5, k6⟩ := hkid i.toNat (by omega); have hl2 := hb2.le; have hl3 := hb2.len; rw [show (i + 1).toNat = i.toNat + 1 by omega] at hb2 hl3; refine (hB l st2 _ nx v hK k1 k2 k3 (by omega) hn0 (by omega) (by omega)).to ?_; rintro (d9 : Int) (e10 : MH) ⟨st3, rfl, h90, hb3⟩; dsimp only; have hl4 := hb3.len
   refine (hA ((l, (wts l, st3)), ((1 : Int), (((0 : Int), ((0 : Int), ((0 : Int), (0 : Int)))), (d9, d)))) (by dsimp only; omega)).to ?_
   rintro (d11 : Int) (e12 : MH) ⟨rfl, rfl⟩; dsimp only; rw [w64 (by omega) (by omega)]; have hb4 := hb2.alt hb3 (z := ((0 : Int), ((0 : Int), ((0 : Int), (0 : Int))))); rw [show ((d9.toNat : Nat) : Int) = d9 by omega, show ((d.toNat : Nat) : Int) = d by omega] at hb4; refine ⟨⟨by omega, by omega, _, rfl, by omega, ?_⟩, by omega⟩
   rw [show (i - 1 + 1).toNat = i.toNat by omega, Ae9 (show i.toNat < kids.length by omega)]; rw [show (((st3.length : Nat) : Int)).toNat = st3.length by omega]; exact hb4.weaken (by simp only [Ad2]; omega)
  ·have hc := of_decide_eq_false hc
   have : i = -1 := by omega
   subst this; refine ⟨st2, rfl, hd0, ?_⟩; simpa using hb2
def upR (R : Ada) : Nat → Ada
 | 0 => idR
 | r + 1 => Ahp (Aga R (upR R r)) idR
theorem Aiu {R : Ada} {r : Nat} {s : List UInt8} {i j : Nat} : upR R r s i j ↔ ∃ m, m ≤ r ∧ Aey R m s i j := by
 induction r generalizing i with
 | zero =>
  refine ⟨fun h => ⟨0, Qa5 _, h⟩, fun ⟨m, h1, h2⟩ => ?_⟩
  have : m = 0 := by omega
  subst this; exact h2
 | succ r ih =>
  constructor
  ·rintro (⟨m, h1, h2⟩ | h)
   ·obtain ⟨k, k1, k2⟩ := ih.1 h2; exact ⟨k + 1, by omega, m, h1, k2⟩
   ·exact ⟨0, by omega, h⟩
  ·rintro ⟨m, h1, h2⟩
   cases m with
   | zero => exact .inr h2
   | succ m =>
    obtain ⟨q, h3, h4⟩ := h2; exact .inl ⟨q, h3, ih.2 ⟨m, by omega, h4⟩⟩
def Aif (R S : Ada) : Nat → Ada
 | 0 => S
 | r + 1 => Aga R (Aif R S r)
theorem AhY {R S : Ada} {r : Nat} {s : List UInt8} {i j : Nat} : Aif R S r s i j ↔ ∃ m, Aey R r s i m ∧ S s m j := by
 induction r generalizing i with
 | zero => exact ⟨fun h => ⟨i, rfl, h⟩, fun ⟨m, h1, h2⟩ => by cases h1; exact h2⟩
 | succ r ih =>
  constructor
  ·rintro ⟨m, h1, h2⟩; obtain ⟨k, k1, k2⟩ := ih.1 h2; exact ⟨k, ⟨m, h1, k1⟩, k2⟩
  ·rintro ⟨k, ⟨m, h1, k1⟩, k2⟩; exact ⟨m, h1, ih.2 ⟨k, k1, k2⟩⟩
theorem AiY {R : Ada} {mn mx : Int} (h0 : 0 ≤ mn) (hx : mx < 0) (s : List UInt8) (i j : Nat) : Aif R (Ahu R) mn.toNat s i j ↔ AhN R mn mx s i j := by
 rw [AhY]; constructor
 ·rintro ⟨m, h1, n, h2⟩; exact ⟨mn.toNat + n, by omega, .inl hx, AfC.2 ⟨m, h1, h2⟩⟩
 ·rintro ⟨r, r1, _, r2⟩
  have : r = mn.toNat + (r - mn.toNat) := by omega
  rw [this] at r2; obtain ⟨m, h1, h2⟩ := AfC.1 r2; exact ⟨m, h1, _, h2⟩
theorem AiX {R : Ada} {mn mx : Int} (h0 : 0 ≤ mn) (hx : mn ≤ mx) (s : List UInt8) (i j : Nat) : Aif R (upR R (mx - mn).toNat) mn.toNat s i j ↔ AhN R mn mx s i j := by
 rw [AhY]; constructor
 ·rintro ⟨m, h1, h2⟩; obtain ⟨n, h3, h4⟩ := Aiu.1 h2; exact ⟨mn.toNat + n, by omega, .inr (by omega), AfC.2 ⟨m, h1, h4⟩⟩
 ·rintro ⟨r, r1, r3, r2⟩
  have : r = mn.toNat + (r - mn.toNat) := by omega
  rw [this] at r2; obtain ⟨m, h1, h2⟩ := AfC.1 r2; exact ⟨m, h1, Aiu.2 ⟨r - mn.toNat, by omega, h2⟩⟩
theorem Bld.AiS {R S : Ada} {r : Nat} {st st1 st2 : List State} {d m nx : Nat} {w1 w2 : Int} (h1 : Bld (Aif R S r) st st1 m nx w1) (h2 : Bld R st1 st2 d m w2) : Bld (Aif R S (r + 1)) st st2 d nx (w1 + w2) := h1.comp h2
theorem Bld.AjO {R : Ada} {r : Nat} {st st1 st2 : List State} {d m nx : Nat} {w1 w2 : Int} {z : Bb} (h1 : Bld (upR R r) st st1 m nx w1) (h2 : Bld R st1 st2 d m w2) (hn : nx < st.length) : Bld (upR R (r + 1)) st (st2 ++ [((1 : Int), (z, ((d : Int), (nx : Int))))]) st2.length nx (w1 + w2 + 1) := (h1.comp h2).opt hn
def AgF (S mn mx : Int) : Int := if mx < 0 then mn * S + S + 1 else mn * S + (mx - mn) * (S + 1)
def AhR (P : Pg) (N : Nat) : Prop := ∀ (l : List Node) (st : List State) (n : Node) (nx k : Int), Aad l → KB l → n.2.2.2.2 = [k] → 0 ≤ k → k < l.length → k < N → 0 ≤ n.2.2.1 → n.2.2.1 ≤ 100 → (n.2.2.2.1 = -1 ∨ n.2.2.1 ≤ n.2.2.2.1 ∧ n.2.2.2.1 ≤ 100) → (wts l).getD k.toNat 0 ≤ 4000 → 0 ≤ nx → nx < st.length → (st.length : Int) + AgF ((wts l).getD k.toNat 0) n.2.2.1 n.2.2.2.1 ≤ 1000000 →
 Fn P XI AcX ((l, (wts l, st)), (n, nx)) fun (d : Int) (e : MH) => Ad3 l (AhN (Lang l k.toNat) n.2.2.1 n.2.2.2.1) st nx (AgF ((wts l).getD k.toNat 0) n.2.2.1 n.2.2.2.1) d e
theorem Ah9 (h : Has P Ac6) (hA : Agn P) {N : Nat} (hB : AfV P N) : AhR P N := by
 rintro l st ⟨kd, set, mn, mx, kids⟩ nx k v hK hkids k0 kl kN m0 m1 m2 hs hn0 hn hm; dsimp only at hkids m0 m1 m2 hm ⊢; subst hkids; have hw := v.inW; have hS0 := (hw k.toNat).1; generalize hS : (wts l).getD k.toNat 0 = S at hs hm hS0 ⊢
 have hB' : ∀ (st : List State) (nx : Int), 0 ≤ nx → nx < st.length → (st.length : Int) + S ≤ 1000000 → Fn P zS5 AcT ((l, (wts l, st)), (k, nx)) fun (d : Int) (e : MH) => Ad3 l (Lang l k.toNat) st nx S d e := by
  intro st nx h1 h2 h3; rw [← hS]; exact hB l st k nx v hK k0 kl kN (by omega) h1 h2 (by omega)
 generalize Lang l k.toNat = R at hB' ⊢; refine Aex h ?_; unfold AdU; dsimp only; have hmS := AiO m0 m1 hS0 (by omega); refine ⟨⟨by simp, by simp⟩, by simp, ?_⟩; refine Ag.mid (fun d => (mx < 0 → Ad3 l (Ahu R) st nx (S + 1) d.1 d.2) ∧ (¬ mx < 0 → d = (nx, (l, (wts l, st))))) ⟨fun hc => ?_, fun hc => ?_⟩ ?_
 ·have hc := of_decide_eq_true hc
  have hrw : AgF S mn mx = mn * S + S + 1 := by unfold AgF; rw [if_pos hc]
  refine (hA ((l, (wts l, st)), ((1 : Int), (((0 : Int), ((0 : Int), ((0 : Int), (0 : Int)))), ((0 : Int), nx)))) (by dsimp only; omega)).to ?_
  rintro (d3 : Int) (e4 : MH) ⟨rfl, rfl⟩; dsimp only; refine (hB' _ _ (by omega) (by rw [Qa6]; simp only [Qa1, Qa2]; omega) (by rw [Qa6]; simp only [Qa1, Qa2]; omega)).to ?_
  rintro (d5 : Int) (e6 : MH) ⟨st2, rfl, h50, hb⟩; dsimp only; have hb := hb; rw [show ((st.length : Nat) : Int).toNat = st.length by omega] at hb ⊢
  have hlt : st.length < st2.length := by have := hb.le; simp at this; omega
  have hget : st2.getD st.length Aby = ((1 : Int), (((0 : Int), ((0 : Int), ((0 : Int), (0 : Int)))), ((0 : Int), nx))) := by rw [hb.getD (by simp), Afb]
  rw [hget]; have hst := Bld.star (z := ((0 : Int), ((0 : Int), ((0 : Int), (0 : Int))))) (nx := nx.toNat) (by omega) hb; rw [show ((d5.toNat : Nat) : Int) = d5 by omega, show ((nx.toNat : Nat) : Int) = nx by omega] at hst; refine ⟨⟨by omega, by omega⟩, hlt, fun _ => ⟨_, rfl, by omega, ?_⟩, fun h => (h hc).elim⟩; rw [show ((st.length : Nat) : Int).toNat = st.length by omega]; exact hst
 ·have hc := of_decide_eq_false hc; exact ⟨fun h => (hc h).elim, fun _ => rfl⟩
 ·rintro ⟨nx2, b⟩ ⟨hd2, hd3⟩; dsimp only at hd2 hd3 ⊢; refine Ag.mid (fun d => Ad3 l (if mx < 0 then Ahu R else upR R (mx - mn).toNat) st nx (if mx < 0 then S + 1 else (mx - mn) * (S + 1)) d.1 d.2) ?_ ?_
  ·by_cases hx : mx < 0
   ·have hd2 := hd2 hx; simp only [if_pos hx]; refine B0.of (fun d => d = (nx2, ((0 : Int), (b.1, (b.2.1, b.2.2))))) (fun d => 0) rfl ?_; rintro _ rfl; dsimp only; refine ⟨fun hc => ?_, fun _ => hd2⟩; have hc := of_decide_eq_true hc; rw [w64 (by omega) (by omega)] at hc; omega
   ·cases hd3 hx; simp only [if_neg hx]
    have hmm : mn ≤ mx ∧ mx ≤ 100 := by omega
    have hrw : AgF S mn mx = mn * S + (mx - mn) * (S + 1) := by unfold AgF; rw [if_neg hx]
    rw [w64 (n := mx - mn) (by omega) (by omega)]; refine B0.of (fun d => 0 ≤ d.2.1 ∧ d.2.1 ≤ mx - mn ∧ Ad3 l (upR R d.2.1.toNat) st nx (d.2.1 * (S + 1)) d.1 d.2.2) (fun d => (mx - mn - d.2.1).toNat) ⟨by dsimp only; omega, by dsimp only; omega, st, rfl, hn0, ?_⟩ ?_
    ·dsimp only; exact (Bld.id (by omega)).weaken (by omega)
    ·rintro ⟨d, r, b⟩ ⟨r0, r1, st1, rfl, hd0, hb1⟩; dsimp only at r0 r1 hd0 hb1 ⊢; refine ⟨fun hc => Ag.of ?_, fun hc => ?_⟩
     ·have hc := of_decide_eq_true hc; have hl1 := hb1.le; have hl2 := hb1.len; have hd1 := hb1.dlt; have hmul : (r + 1) * (S + 1) ≤ (mx - mn) * (S + 1) := Qa4 (by omega) (by omega); rw [Qb1, Qb2] at hmul; refine (hB' _ _ hd0 (by omega) (by omega)).to ?_; rintro (d13 : Int) (e14 : MH) ⟨st2, rfl, h13, hb2⟩; dsimp only; have hl3 := hb2.len
      refine (hA ((l, (wts l, st2)), ((1 : Int), (((0 : Int), ((0 : Int), ((0 : Int), (0 : Int)))), (d13, nx)))) (by dsimp only; omega)).to ?_
      rintro (d11 : Int) (e12 : MH) ⟨rfl, rfl⟩; dsimp only; rw [w64 (by omega) (by omega)]; have hb3 := hb1.AjO hb2 (z := ((0 : Int), ((0 : Int), ((0 : Int), (0 : Int))))) (by omega); rw [show ((d13.toNat : Nat) : Int) = d13 by omega, show ((nx.toNat : Nat) : Int) = nx by omega] at hb3; refine ⟨⟨by omega, by omega, _, rfl, by omega, ?_⟩, by omega⟩
      rw [show (((st2.length : Nat) : Int)).toNat = st2.length by omega, show (r + 1).toNat = r.toNat + 1 by omega, Qb1, Qb2]; exact hb3.weaken (by omega)
     ·have hc := of_decide_eq_false hc
      have : r = mx - mn := by omega
      subst this; exact ⟨st1, rfl, hd0, hb1⟩
  ·rintro ⟨nx3, b3⟩ ⟨st3, hb3e, hn3, hb3⟩; dsimp only at hb3e hn3 hb3 ⊢; subst hb3e
   have hWW : (if mx < 0 then S + 1 else (mx - mn) * (S + 1)) + mn * S = AgF S mn mx := by unfold AgF; split <;> omega
   have hW0 : 0 ≤ (if mx < 0 then S + 1 else (mx - mn) * (S + 1)) := by
    split
    ·omega
    ·exact Qa7 (by omega) (by omega)
   generalize (if mx < 0 then S + 1 else (mx - mn) * (S + 1)) = w0 at hb3 hWW hW0
   refine Ag.mid (fun d => Ad3 l (AhN R mn mx) st nx (AgF S mn mx) d.1 d.2) ?_ fun d hd => hd
   refine B0.of (fun d => 0 ≤ d.2.1 ∧ d.2.1 ≤ mn ∧ Ad3 l (Aif R (if mx < 0 then Ahu R else upR R (mx - mn).toNat) d.2.1.toNat) st nx (w0 + d.2.1 * S) d.1 d.2.2) (fun d => (mn - d.2.1).toNat) ⟨by dsimp only; omega, by dsimp only; omega, st3, rfl, hn3, ?_⟩ ?_
   ·dsimp only; exact hb3.weaken (by omega)
   ·rintro ⟨d, r, b⟩ ⟨r0, r1, st1, rfl, hd0, hb1⟩; dsimp only at r0 r1 hd0 hb1 ⊢; refine ⟨fun hc => Ag.of ?_, fun hc => ?_⟩
    ·have hc := of_decide_eq_true hc; have hl1 := hb1.le; have hl2 := hb1.len; have hd1 := hb1.dlt; have hmul : (r + 1) * S ≤ mn * S := Qa4 (by omega) (by omega); rw [Qb1, Qb2] at hmul; refine (hB' _ _ hd0 (by omega) (by omega)).to ?_; rintro (d13 : Int) (e14 : MH) ⟨st2, rfl, h13, hb2⟩; dsimp only; rw [w64 (by omega) (by omega)]; have hb4 := hb1.AiS hb2
     refine ⟨⟨by omega, by omega, _, rfl, h13, ?_⟩, by omega⟩; rw [show (r + 1).toNat = r.toNat + 1 by omega, Qb1, Qb2]; exact hb4.weaken (by omega)
    ·have hc := of_decide_eq_false hc
     have : r = mn := by omega
     subst this; refine ⟨st1, rfl, hd0, (hb1.congr fun s i j => ?_).weaken (by omega)⟩
     by_cases hx : mx < 0
     ·rw [if_pos hx]; exact AiY m0 hx s i j
     ·rw [if_neg hx]; exact AiX m0 (by omega) s i j
theorem Ad3.of {l : List Node} {R S : Ada} {st : List State} {nx w w' d : Int} {e : MH} (h : Ad3 l R st nx w d e) (hR : ∀ s i j, R s i j ↔ S s i j) (hw : w ≤ w') : Ad3 l S st nx w' d e := by
 obtain ⟨st', rfl, h0, hb⟩ := h; exact ⟨st', rfl, h0, (hb.congr hR).weaken hw⟩
theorem Aja {w : List Int} {n : Node} (hz : Ac7 n w ≤ 4000) (h0 : Ac7 n w ≠ 0) (hw : InW w) {i : Nat} (ho : R8 n i) :
  (n.1 = 4 → Ad2 w n.2.2.2.2 = Ac7 n w) ∧ (n.1 = 5 → Ad2 w n.2.2.2.2 + n.2.2.2.2.length - 1 = Ac7 n w) ∧ (n.1 = 6 → ∃ k, n.2.2.2.2 = [k] ∧ AgF (w.getD k.toNat 0) n.2.2.1 n.2.2.2.1 = Ac7 n w ∧ w.getD k.toNat 0 ≤ 4000) ∧ (n.1 ≤ 3 → Ac7 n w = 1) := by
 obtain ⟨kd, st, mn, mx, kids⟩ := n; have hs := AeF hw kids; have ho2 := ho.2.2.2; dsimp only at ho2 ⊢; refine ⟨fun h => ?_, fun h => ?_, fun h => ?_, fun h => ?_⟩
 ·subst h; unfold Ac7 at hz ⊢; dsimp only at hz ⊢; rw [if_pos rfl] at hz ⊢; exact (Afj hw kids hz).symm
 ·subst h; unfold Ac7 at hz ⊢; dsimp only at hz ⊢; rw [if_neg (by omega), if_pos rfl] at hz ⊢; have := ho2.2.1 (.inr rfl); unfold AdS at hz ⊢; split at hz
  ·omega
  ·rw [if_neg (by assumption), Afj hw kids (by omega)]
 ·subst h; obtain ⟨o1, o2, o3, o4⟩ := ho2.2.2 rfl
  obtain ⟨k, rfl⟩ : ∃ q, kids = [q] := by
   match kids, o1 with
   | [q], _ => exact ⟨q, rfl⟩
  refine ⟨k, rfl, ?_⟩; have hk := hw k.toNat
  have hS : Adq w [k] = w.getD k.toNat 0 := by
   show AdS (0 + w.getD k.toNat 0) = _; unfold AdS; rw [if_neg (by omega)]; omega
  unfold Ac7 at hz h0 ⊢; dsimp only at hz h0 ⊢; rw [if_neg (by omega), if_neg (by omega), if_pos rfl] at hz h0 ⊢; rw [hS] at hz h0 ⊢; have hp := Qa7 o2 hk.1; unfold AgF; split at hz
  ·rename_i hx; rw [if_pos hx] at h0 ⊢; rw [if_pos hx]; unfold AdS at hz ⊢; split at hz
   ·omega
   ·rw [if_neg (by assumption)]; exact ⟨rfl, by omega⟩
  ·rename_i hx; rw [if_neg hx] at h0 ⊢; rw [if_neg hx]; have hp2 : 0 ≤ (mx - mn) * (w.getD k.toNat 0 + 1) := Qa7 (by omega) (by omega); unfold AdS at hz h0 ⊢; split at hz
   ·omega
   ·rename_i hle; rw [if_neg hle] at h0 ⊢; refine ⟨rfl, ?_⟩
    rcases Qb0 0 mn with h1 | h1
    ·have : 1 * w.getD k.toNat 0 ≤ mn * w.getD k.toNat 0 := Qa4 (by omega) (by omega); omega
    ·have e : mn = 0 := by omega
     rcases Qb0 0 (mx - mn) with h2 | h2
     ·have : 1 * (w.getD k.toNat 0 + 1) ≤ (mx - mn) * (w.getD k.toNat 0 + 1) := Qa4 (by omega) (by omega); omega
     ·have e2 : mx - mn = 0 := by omega
      rw [e2, e] at h0; simp at h0
 ·unfold Ac7; dsimp only; rw [if_neg (by omega), if_neg (by omega), if_neg (by omega)]
theorem Aim (h : Has P Adb) (hC : Has P Ac5) (hR : Has P Ac6) (hA : Agn P) (N : Nat) : AfV P N := by
 induction N with
 | zero => intro l st a nx v hK a0 al aN; omega
 | succ N ih =>
  have iC := Ah8 hC hA ih; have iR := Ah9 hR hA ih; intro l st a nx v hK a0 al aN hw4 hn0 hn hm; have hw := v.inW; have hlen := Aeg l
  have haN : a.toNat < l.length := by omega
  refine AeB h ?_; unfold AdW; dsimp only; refine ⟨⟨a0, by omega⟩, by omega, fun hz => ?_, fun hz => ⟨⟨a0, al⟩, haN, ?_⟩⟩
  ·have hz : (wts l).getD a.toNat 0 = 0 := by simpa using hz
   refine ⟨st, rfl, hn0, ((Bld.id (st := st) (nx := nx.toNat) (by omega)).congr fun s i j => (Aiw v haN hz).symm).weaken (by omega)⟩
  ·have hz : (wts l).getD a.toNat 0 ≠ 0 := by simpa using hz
   have hwt := Ajb v haN; have hwp := (hw a.toNat).1; rw [hwt] at hz; rw [hwt] at hw4 hm hwp ⊢; rw [AgJ v haN]; have ho := v.ok a.toNat haN
   have hmem : ∀ q ∈ (l.getD a.toNat Ak).2.2.2.2, 0 ≤ q ∧ q < a := fun q hq => by have := ho.mem hq; omega
   have hsp := Aja hw4 hz hw ho; have hKa := hK a.toNat; generalize hng : l.getD a.toNat Ak = n at hw4 hm hwp hz ho hsp hmem hKa ⊢; obtain ⟨kd, set, mn, mx, kids⟩ := n; generalize hW : Ac7 (kd, (set, (mn, (mx, kids)))) (wts l) = W at *; obtain ⟨s4, s5, s6, s3⟩ := hsp; have ho2 := ho.2.2.2; have hk0 := ho.2.1; dsimp only at hmem s4 s5 s6 s3 ho2 hk0 hKa ⊢
   have one : ∀ (x : State), Adk (st.length + 1) x → W = 1 → (∀ (A : List State) (d : Nat), A.getD d Aby = x → Leads A (Adr (kd, (set, (mn, (mx, kids)))) (Lang l)) d nx.toNat) → Fn P zS4 AcU ((l, (wts l, st)), x) fun (d : Int) (e : MH) => Ad3 l (Adr (kd, (set, (mn, (mx, kids)))) (Lang l)) st nx W d (e.1, (e.2.1, e.2.2)) := by
    intro x hx hW1 hl; refine (hA ((l, (wts l, st)), x) (by dsimp only; omega)).to ?_
    rintro (d : Int) (e : MH) ⟨rfl, rfl⟩; refine ⟨st ++ [x], rfl, by omega, ?_⟩; dsimp only; rw [show ((st.length : Nat) : Int).toNat = st.length by omega, hW1]; exact Bld.one hx hl
   have hnx : ((nx.toNat : Nat) : Int) = nx := by omega
   refine Ag.mid (fun d => Ad3 l (Adr (kd, (set, (mn, (mx, kids)))) (Lang l)) st nx W d.1 d.2.2) ⟨fun h1 => ?_, fun h1 => ⟨fun h2 => ?_, fun h2 => ⟨fun h3 => ?_, fun h3 => Ag.mid (fun d => Ad3 l (Adr (kd, (set, (mn, (mx, kids)))) (Lang l)) st nx W d.1 d.2.2) ⟨fun h4 => ?_, fun h4 => ⟨fun h5 => ?_, fun h5 => ⟨fun h6 => ?_, fun h6 => ?_⟩⟩⟩ fun d hd => hd⟩⟩⟩ fun d hd => hd
   ·have h1 : kd = 1 := by simpa using h1
    subst h1
    refine one _ ⟨by dsimp only; omega, by dsimp only; omega, fun _ => ⟨hn0, by dsimp only; omega⟩, fun h => by dsimp only at h; omega⟩ (s3 (by omega)) fun A d hd => ?_
    rw [← hnx] at hd; have := Leads.set hd; unfold Adr; rw [if_pos rfl]; exact this
   ·have h2 : kd = 2 := by simpa using h2
    subst h2
    refine one _ ⟨by dsimp only; omega, by dsimp only; omega, fun _ => ⟨hn0, by dsimp only; omega⟩, fun h => by dsimp only at h; omega⟩ (s3 (by omega)) fun A d hd => ?_
    rw [← hnx] at hd; have := Leads.st hd; unfold Adr; rw [if_neg (by dsimp only; omega), if_pos rfl]; exact this
   ·have h3 : kd = 3 := by simpa using h3
    subst h3
    refine one _ ⟨by dsimp only; omega, by dsimp only; omega, fun _ => ⟨hn0, by dsimp only; omega⟩, fun h => by dsimp only at h; omega⟩ (s3 (by omega)) fun A d hd => ?_
    rw [← hnx] at hd; have := Leads.en hd; unfold Adr; rw [if_neg (by dsimp only; omega), if_neg (by dsimp only; omega), if_pos rfl]; exact this
   ·have h4 : kd = 4 := by simpa using h4
    subst h4; have s4 := s4 rfl; have hl2 := ho2.2.1 (.inl rfl)
    have hkid : ∀ i : Nat, i < kids.length → (0 ≤ kids.getD i 0 ∧ kids.getD i 0 < a) ∧ 0 ≤ (wts l).getD (kids.getD i 0).toNat 0 ∧ (wts l).getD (kids.getD i 0).toNat 0 + Ad2 (wts l) (kids.drop (i + 1)) ≤ Ad2 (wts l) kids ∧ 0 ≤ Ad2 (wts l) (kids.drop (i + 1)) := by
     intro i hi; refine ⟨hmem _ (S7 hi), (hw _).1, ?_, AeU hw _⟩; have := Agk hw kids i; rw [Ae9 hi] at this; exact this
    have hN : Adr (4, (set, (mn, (mx, kids)))) (Lang l) = AfJ (Lang l) kids := by
     unfold Adr; rw [if_neg (by dsimp only; omega), if_neg (by dsimp only; omega), if_neg (by dsimp only; omega), if_pos rfl]
    rw [hN]
    refine Ag.mid (fun d => Ad3 l (AfJ (Lang l) kids) st nx W d.1 d.2) ?_ fun d hd => hd
    rw [w64 (n := _ - 1) (by omega) (by omega)]; refine B0.of (fun d => -1 ≤ d.2.1 ∧ d.2.1 ≤ (kids.length : Int) - 1 ∧ Ad3 l (AfJ (Lang l) (kids.drop (d.2.1 + 1).toNat)) st nx (Ad2 (wts l) (kids.drop (d.2.1 + 1).toNat)) d.1 d.2.2) (fun d => (d.2.1 + 1).toNat) ?_ ?_
    ·refine ⟨by dsimp only; omega, by dsimp only; omega, st, rfl, hn0, ?_⟩
     dsimp only; rw [show ((kids.length : Int) - 1 + 1).toNat = kids.length by omega, List.drop_length]; exact Bld.id (by omega)
    ·rintro ⟨d, i, b⟩ ⟨i0, i1, st2, rfl, hd0, hb2⟩; dsimp only at i0 i1 hd0 hb2 ⊢; refine ⟨fun hc => Ag.of ?_, fun hc => ?_⟩
     ·have hc := of_decide_eq_true hc; refine ⟨⟨hc, by omega⟩, by omega, ?_⟩; obtain ⟨⟨k1, k2⟩, k4, k5, k6⟩ := hkid i.toNat (by omega); have hl3 := hb2.len; have hl4 := hb2.le; have hl5 := hb2.dlt; rw [show (i + 1).toNat = i.toNat + 1 by omega] at hb2 hl3; refine (ih l st2 _ d v hK k1 (by omega) (by omega) (by omega) hd0 (by omega) (by omega)).to ?_
      rintro (d9 : Int) (e10 : MH) ⟨st3, rfl, h90, hb3⟩; dsimp only; rw [w64 (by omega) (by omega)]; refine ⟨⟨by omega, by omega, _, rfl, h90, ?_⟩, by omega⟩; rw [show (i - 1 + 1).toNat = i.toNat by omega, Ae9 (show i.toNat < kids.length by omega)]; exact (hb2.comp hb3).weaken (by simp only [Ad2]; omega)
     ·have hc := of_decide_eq_false hc
      have : i = -1 := by omega
      subst this; refine ⟨st2, rfl, hd0, hb2.weaken ?_⟩; simp only [show ((-1 : Int) + 1).toNat = 0 from rfl, List.drop_zero]; omega
   ·have h5 : kd = 5 := by simpa using h5
    subst h5; have s5 := s5 rfl; have hl2 := ho2.2.1 (.inr rfl)
    have hN : Adr (5, (set, (mn, (mx, kids)))) (Lang l) = Ae8 (Lang l) kids := by
     unfold Adr; rw [if_neg (by dsimp only; omega), if_neg (by dsimp only; omega), if_neg (by dsimp only; omega), if_neg (by dsimp only; omega), if_pos rfl]
    rw [hN, ← s5]; refine (iC l st kids nx v hK (fun k hk => by have := hmem k hk; omega) (by omega) hKa (by omega) hn0 hn (by omega)).to ?_
    rintro (d : Int) (e : MH) hd; exact hd
   ·have h6 : kd = 6 := by simpa using h6
    subst h6; obtain ⟨k, rfl, e1, e2⟩ := s6 rfl; obtain ⟨_, o2, o3, o4⟩ := ho2.2.2 rfl
    have hN : Adr (6, (set, (mn, (mx, [k])))) (Lang l) = AhN (Lang l k.toNat) mn mx := by
     unfold Adr; rw [if_neg (by dsimp only; omega), if_neg (by dsimp only; omega), if_neg (by dsimp only; omega), if_neg (by dsimp only; omega), if_neg (by dsimp only; omega), if_pos rfl]; rfl
    rw [hN, ← e1]; have := hmem k (by simp); have hrep := iR l st ((6 : Int), (set, (mn, (mx, [k])))) nx k v hK rfl this.1 (by omega) (by omega) o2 o3 o4 e2 hn0 hn (by dsimp only; omega)
    have hrep2 : Fn P XI AcX ((l, (wts l, st)), (l.getD a.toNat Ak, nx)) fun (d : Int) (e : MH) => Ad3 l (AhN (Lang l k.toNat) mn mx) st nx (AgF ((wts l).getD k.toNat 0) mn mx) d e := by
     rw [hng]; exact hrep
    refine hrep2.to ?_; rintro (d : Int) (e : MH) hd; exact hd
   ·simp at h1 h2 h3 h4 h5 h6
    have h0 : kd = 0 := by have := ho.2.2.1; dsimp only at this; omega
    subst h0; have hN : Adr (0, (set, (mn, (mx, kids)))) (Lang l) = idR := rfl; rw [hN]; exact ⟨st, rfl, hn0, (Bld.id (by omega)).weaken (by omega)⟩
structure Built (l : List Node) (a : Auto) : Prop where
 valid : Valid a
 len : (a.1.length : Int) ≤ (wts l).getD (l.length - 1) 0 + 1
 lang : ∀ s i j, acc a s i j ↔ Lang l (l.length - 1) s i j
def AgM (P : Pg) : Prop := ∀ x : List Node, KB x → x.length ≤ 140737488351232 → Fn P AcP Adc x fun (d : Auto × Int) _ => (¬ Aad x → d = (([], 0), 2)) ∧ (Aad x → ((wts x).getD (x.length - 1) 0 > 4000 → d = (([], 0), 1)) ∧ ((wts x).getD (x.length - 1) 0 ≤ 4000 → d.2 = 0 ∧ Built x d.1))
theorem AiZ (h : Has P AdP) (hB : Has P Adb) (hC : Has P Ac5) (hR : Has P Ac6) (hA : Agn P) (hW : AfT P) (hWs : AeQ P) : AgM P := by
 intro x hK hl; refine AfY h ?_; unfold AeR; refine (hW x hK hl).to ?_; rintro (d1 : Int × Int) _ ⟨hd1, hd2⟩; refine Ag.mid (fun _ => Aad x ∧ (wts x).getD (x.length - 1) 0 ≤ 4000) ⟨fun hc => ?_, fun hc => ?_⟩ ?_
 ·have nv : ¬ Aad x := fun v => by rw [hd1 v] at hc; simp at hc
  exact ⟨fun _ => by rw [hd2 nv], fun v => (nv v).elim⟩
 ·have v : Aad x := by
   apply Classical.byContradiction; intro nv; rw [hd2 nv] at hc; simp at hc
  rw [hd1 v]; dsimp only; refine ⟨fun hg => ?_, fun hg => ?_⟩
  ·have hg := of_decide_eq_true hg; exact ⟨fun nv => (nv v).elim, fun _ => ⟨fun _ => rfl, fun h => by omega⟩⟩
  ·have hg := of_decide_eq_false hg; exact ⟨v, by omega⟩
 ·rintro _ ⟨v, hw4⟩; have hlo := v.lo; have hhi := v.hi; refine (hWs x v hK).to ?_; rintro (w : List Int) _ rfl; refine (hA ((x, (wts x, [])), ((4 : Int), (((0 : Int), ((0 : Int), ((0 : Int), (0 : Int)))), ((0 : Int), (0 : Int))))) (by simp)).to ?_; rintro (d7 : Int) (e8 : MH) ⟨rfl, rfl⟩; dsimp only; rw [w64 (by omega) (by omega)]
  have hN : (((x.length : Nat) : Int) - 1).toNat = x.length - 1 := by omega
  have := (v.inW (x.length - 1)).1; refine (Aim hB hC hR hA (x.length + 1) x _ _ _ v hK (by omega) (by omega) (by omega) (by rw [hN]; omega) (by decide) (by decide) (by rw [hN]; simp only [List.nil_append, Qa1, Qa2]; omega)).to ?_
  rintro (d9 : Int) (e10 : MH) ⟨st, rfl, h0, hb⟩; rw [hN] at hb; dsimp only at hb ⊢; refine ⟨fun nv => (nv v).elim, fun _ => ⟨fun hg => by omega, fun _ => ⟨rfl, ?_⟩⟩⟩; have hle := hb.le; have hdl := hb.dlt; have hln := hb.len; simp only [List.nil_append, Qa1, Qa2] at hle hln
  have h0s : st.getD 0 Aby = ((4 : Int), (((0 : Int), ((0 : Int), ((0 : Int), (0 : Int)))), ((0 : Int), (0 : Int)))) := by rw [hb.getD (by simp)]; rfl
  refine ⟨⟨by omega, by dsimp only; omega, h0, by dsimp only; omega, fun i hi => ?_⟩, by dsimp only; omega, fun s i j => ?_⟩
  ·rcases Nat.eq_zero_or_pos i with e | e
   ·subst e; dsimp only; rw [h0s]; exact ⟨by decide, by decide, fun h => (h rfl).elim, fun h => by cases h⟩
   ·exact hb.ok i (by simp; omega) hi
  ·have hlead := hb.lead st (fun _ _ _ => rfl) s; rw [AjB]; dsimp only
   have hend : ∀ n m, ToN st s n 0 m j → m = j := by
    intro n m ht
    cases ht with
    | acc => rfl
    | eps e _ =>
     unfold Agb at e; rw [h0s] at e
     rcases e with ⟨e, _⟩ | ⟨e, _⟩ | ⟨e, _⟩ <;> simp at e
    | read _ r _ =>
     obtain ⟨r, _⟩ := r; rw [h0s] at r; simp at r
   constructor
   ·rintro ⟨n, ht⟩; obtain ⟨m, n', _, hr, ht2⟩ := hlead.1 _ _ _ ht; have := hend _ _ ht2; subst this; exact hr
   ·intro hr; exact hlead.2 i j j 0 hr (.acc (by show (st.getD 0 Aby).1 = 4; rw [h0s]))
structure Ado (T : List (List Bool)) (n : Nat) (R : Nat → Nat → Prop) : Prop where
 len : T.length = n
 row : ∀ i, i < n → (T.getD i []).length = n
 at_ : ∀ i j, i < n → j < n → ((T.getD i []).getD j false = true ↔ R i j)
theorem Ado.congr {T : List (List Bool)} {n : Nat} {R S : Nat → Nat → Prop} (h : Ado T n R) (e : ∀ i j, i < n → j < n → (R i j ↔ S i j)) : Ado T n S :=
 ⟨h.len, h.row, fun i j hi hj => (h.at_ i j hi hj).trans (e i j hi hj)⟩
structure AeV (T : List (List Bool)) (k n : Nat) (R : Nat → Nat → Prop) : Prop where
 len : T.length = k
 row : ∀ i, i < k → (T.getD i []).length = n
 at_ : ∀ i j, i < k → j < n → ((T.getD i []).getD j false = true ↔ R i j)
theorem AeV.snoc {T : List (List Bool)} {k n : Nat} {R : Nat → Nat → Prop} (h : AeV T k n R) {r : List Bool} (hl : r.length = n) (hr : ∀ j, j < n → (r.getD j false = true ↔ R k j)) : AeV (T ++ [r]) (k + 1) n R := by
 have hat : (T ++ [r]).getD k [] = r := by have := @HI _ T r []; rwa [h.len] at this
 refine ⟨by simp [h.len], fun i hi => ?_, fun i j hi hj => ?_⟩
 ·rcases Qa3 i k with hlt | hge
  ·rw [Dx (by rw [h.len]; exact hlt)]; exact h.row i hlt
  ·have : i = k := by omega
   subst this; rw [hat]; exact hl
 ·rcases Qa3 i k with hlt | hge
  ·rw [Dx (by rw [h.len]; exact hlt)]; exact h.at_ i j hlt hj
  ·have : i = k := by omega
   subst this; rw [hat]; exact hr j hj
theorem AeV.tab {T : List (List Bool)} {n : Nat} {R : Nat → Nat → Prop} (h : AeV T n n R) : Ado T n R := ⟨h.len, h.row, h.at_⟩
theorem AeV.nil {n : Nat} {R : Nat → Nat → Prop} : AeV [] 0 n R := ⟨rfl, fun i hi => by omega, fun i j hi => by omega⟩
def AgS (P : Pg) : Prop := ∀ x : List UInt8 × Bool, x.1.length ≤ 1000000 → Fn P Ajd Adw x fun (d : List (List Bool)) _ => Ado d (x.1.length + 1) fun i j => i = j ∧ x.2 = true
theorem Ai6 (h : Has P Aek) : AgS P := by
 rintro ⟨s, b⟩ hl; dsimp only at hl ⊢; refine AgZ h ?_; unfold AfN; dsimp only; rw [w64 (n := (s.length : Int) + 1) (by omega) (by omega), show ((s.length : Int) + 1).toNat = s.length + 1 by omega]
 refine Ag.mid (fun d => Ado d (s.length + 1) fun i j => i = j ∧ b = true) ?_ fun d hd => hd
 refine B0.of (fun d => 0 ≤ d.2 ∧ d.2 ≤ (s.length : Int) + 1 ∧ AeV d.1 d.2.toNat (s.length + 1) fun i j => i = j ∧ b = true) (fun d => (s.length + 1 - d.2).toNat) ⟨Qa0 _, by dsimp only; omega, .nil⟩ ?_
 rintro ⟨T, i⟩ ⟨i0, i1, hT⟩; dsimp only at i0 i1 hT ⊢; refine ⟨fun hc => Ag.of ?_, fun hc => ?_⟩
 ·have hc := of_decide_eq_true hc; have hTl := hT.len; rw [w64 (by omega) (by omega)]; refine ⟨⟨by omega, by omega, by omega⟩, ⟨i0, by simp; omega⟩, by simp; omega, by simp only [Qa1, Qa2]; omega, ⟨by omega, by omega, ?_⟩, by omega⟩
  rw [show (i + 1).toNat = i.toNat + 1 by omega]
  refine hT.snoc (by simp) fun j hj => ?_
  rw [AdI (by simp; omega)]
  split
  ·rename_i e; simp [e]
  ·rename_i e; rw [AfA hj]; simp [e]
 ·have hc := of_decide_eq_false hc
  have : i = (s.length : Int) + 1 := by omega
  subst this; rw [show ((s.length : Int) + 1).toNat = s.length + 1 by omega] at hT; exact hT.tab
def AgU (P : Pg) : Prop := ∀ (a b : List (List Bool)) (n : Nat) (R S : Nat → Nat → Prop), n ≤ 1000001 → Ado a n R → Ado b n S → Fn P VI Adg (a, b) fun (d : List (List Bool)) _ => Ado d n fun i j => R i j ∨ S i j
theorem Ai8 (h : Has P Aem) : AgU P := by
 intro a b n R S hn ha hb; refine Ag1 h ?_; unfold AfP; dsimp only; have hal := ha.len; have hbl := hb.len; rw [hal, hbl]
 refine Ag.mid (fun d => Ado d n fun i j => R i j ∨ S i j) ?_ fun d hd => hd
 refine B0.of (fun d => 0 ≤ d.2 ∧ d.2 ≤ (n : Int) ∧ AeV d.1 d.2.toNat n fun i j => R i j ∨ S i j) (fun d => (n - d.2).toNat) ⟨Qa0 _, by dsimp only; omega, .nil⟩ ?_
 rintro ⟨T, i⟩ ⟨i0, i1, hT⟩; dsimp only at i0 i1 hT ⊢; refine ⟨fun hc => Ag.of ?_, fun hc => ?_⟩
 ·have hc := of_decide_eq_true hc; have hTl := hT.len
  have hiN : i.toNat < n := by omega
  have hra := ha.row _ hiN; have hrb := hb.row _ hiN; rw [hra, hrb]; refine ⟨⟨by omega, by omega, by omega⟩, ?_⟩; refine Ag.mid (fun r => r.length = n ∧ ∀ j, j < n → (r.getD j false = true ↔ R i.toNat j ∨ S i.toNat j)) ?_ ?_
  ·refine B0.of (fun d => 0 ≤ d.2 ∧ d.2 ≤ (n : Int) ∧ d.1.length = n ∧ ∀ j : Nat, (j : Int) < d.2 → (d.1.getD j false = true ↔ R i.toNat j ∨ S i.toNat j)) (fun d => (n - d.2).toNat) ⟨Qa0 _, by dsimp only; omega, by simp, fun j hj => by dsimp only at hj; omega⟩ ?_
   rintro ⟨r, j⟩ ⟨j0, j1, jl, hj⟩; dsimp only at j0 j1 jl hj ⊢; refine ⟨fun hc2 => Ag.of ?_, fun hc2 => ?_⟩
   ·have hc2 := of_decide_eq_true hc2; rw [w64 (by omega) (by omega)]; refine ⟨⟨i0, hc⟩, hiN, ⟨j0, hc2⟩, by omega, fun _ => ⟨i0, hc⟩, fun _ => hiN, fun _ => ⟨j0, hc2⟩, fun _ => by omega, ⟨j0, by omega⟩, by omega, ⟨by omega, by omega, by simpa using jl, fun j' hj' => ?_⟩, by omega⟩; rw [AdI (by omega)]; split
    ·rename_i e; subst e; have h1 := ha.at_ i.toNat j.toNat hiN (by omega); have h2 := hb.at_ i.toNat j.toNat hiN (by omega); rw [← h1, ← h2]
     cases (a.getD i.toNat []).getD j.toNat false <;> simp
    ·exact hj j' (by omega)
   ·have hc2 := of_decide_eq_false hc2; exact ⟨jl, fun j' hj' => hj j' (by omega)⟩
  ·rintro r ⟨r1, r2⟩; rw [w64 (by omega) (by omega)]; refine ⟨by simp only [Qa1, Qa2]; omega, ⟨by omega, by omega, ?_⟩, by omega⟩
   rw [show (i + 1).toNat = i.toNat + 1 by omega]; exact hT.snoc r1 r2
 ·have hc := of_decide_eq_false hc
  have : i = (n : Int) := by omega
  subst this; exact hT.tab
def AfW (P : Pg) : Prop := ∀ (a b : List (List Bool)) (n : Nat) (R S : Nat → Nat → Prop), n ≤ 1000001 → Ado a n R → Ado b n S → Fn P Oe Ac3 (a, b) fun (d : List (List Bool)) _ => Ado d n fun i j => ∃ k, i ≤ k ∧ k ≤ j ∧ R i k ∧ S k j
theorem Ain (h : Has P Ad0) : AfW P := by
 intro a b n R S hn ha hb; refine Agq h ?_; unfold Afn; dsimp only; have hal := ha.len; have hbl := hb.len; rw [hal, hbl]
 refine Ag.mid (fun d => Ado d n fun i j => ∃ k, i ≤ k ∧ k ≤ j ∧ R i k ∧ S k j) ?_ fun d hd => hd
 refine B0.of (fun d => 0 ≤ d.2 ∧ d.2 ≤ (n : Int) ∧ AeV d.1 d.2.toNat n fun i j => ∃ k, i ≤ k ∧ k ≤ j ∧ R i k ∧ S k j) (fun d => (n - d.2).toNat) ⟨Qa0 _, by dsimp only; omega, .nil⟩ ?_
 rintro ⟨T, i⟩ ⟨i0, i1, hT⟩; dsimp only at i0 i1 hT ⊢; refine ⟨fun hc => Ag.of ?_, fun hc => ?_⟩
 ·have hc := of_decide_eq_true hc; have hTl := hT.len
  have hiN : i.toNat < n := by omega
  have hra := ha.row _ hiN; rw [hra]; refine ⟨⟨by omega, by omega, by omega⟩, ?_⟩; refine Ag.mid (fun r => r.length = n ∧ ∀ j, j < n → (r.getD j false = true ↔ ∃ k, i.toNat ≤ k ∧ k ≤ j ∧ R i.toNat k ∧ S k j)) ?_ ?_
  ·refine B0.of (fun d => i ≤ d.2 ∧ d.2 ≤ (n : Int) ∧ d.1.length = n ∧ ∀ j : Nat, j < n → (d.1.getD j false = true ↔ ∃ k : Nat, (k : Int) < d.2 ∧ i.toNat ≤ k ∧ k ≤ j ∧ R i.toNat k ∧ S k j)) (fun d => (n - d.2).toNat) ⟨Qa0 _, by dsimp only; omega, by simp, fun j hj => ?_⟩ ?_
   ·dsimp only; rw [AfA (by omega)]; constructor
    ·intro h; cases h
    ·rintro ⟨k, k1, k2, _⟩; omega
   rintro ⟨r, k⟩ ⟨k0, k1, kl, hk⟩; dsimp only at k0 k1 kl hk ⊢; refine ⟨fun hc2 => Ag.of ?_, fun hc2 => ?_⟩
   ·have hc2 := of_decide_eq_true hc2
    have hkN : k.toNat < n := by omega
    have hrb := hb.row _ hkN; rw [hrb]; have hRk := ha.at_ i.toNat k.toNat hiN hkN; refine Ag.mid (fun r2 => r2.length = n ∧ ∀ j, j < n → (r2.getD j false = true ↔ (r.getD j false = true ∨ (k.toNat ≤ j ∧ R i.toNat k.toNat ∧ S k.toNat j)))) ?_ ?_
    ·refine B0.of (fun d => k ≤ d.2 ∧ d.2 ≤ (n : Int) ∧ d.1.length = n ∧ ∀ j : Nat, j < n → (d.1.getD j false = true ↔ (r.getD j false = true ∨ (k.toNat ≤ j ∧ (j : Int) < d.2 ∧ R i.toNat k.toNat ∧ S k.toNat j)))) (fun d => (n - d.2).toNat) ⟨Qa0 _, by dsimp only; omega, kl, fun j hj => ?_⟩ ?_
     ·dsimp only; constructor
      ·exact .inl
      ·rintro (h | ⟨h1, h2, _⟩)
       ·exact h
       ·omega
     rintro ⟨r2, j⟩ ⟨j0, j1, jl, hj⟩; dsimp only at j0 j1 jl hj ⊢; refine ⟨fun _ => ⟨i0, hc⟩, fun _ => hiN, fun _ => ⟨by omega, hc2⟩, fun _ => hkN, fun hc3 => Ag.of ?_, fun hc3 => ?_⟩
     ·simp [-Qa8] at hc3; obtain ⟨c1, c2⟩ := hc3; rw [w64 (by omega) (by omega)]; refine ⟨⟨by omega, by omega⟩, by omega, fun _ => ⟨by omega, hc2⟩, fun _ => hkN, fun _ => ⟨by omega, by omega⟩, fun _ => by omega, ⟨by omega, by omega⟩, by omega, ⟨by omega, by omega, by simpa using jl, fun j' hj' => ?_⟩, by omega⟩; rw [AdI (by omega)]; split
      ·rename_i e; subst e; have h1 := hj j.toNat hj'; have h2 := hb.at_ k.toNat j.toNat hkN hj'; rw [Bool.cond_eq_ite]
       have h3 : ¬ (((j.toNat : Nat) : Int) < j) := by omega
       have h4 : (((j.toNat : Nat) : Int) < j + 1) := by omega
       simp only [h3, false_and, and_false, or_false] at h1; simp only [h4, true_and]; split
       ·rename_i e2; exact ⟨fun _ => .inl (h1.1 e2), fun _ => rfl⟩
       ·rename_i e2; rw [h2]; constructor
        ·intro hS; exact .inr ⟨by omega, hRk.1 c2, hS⟩
        ·rintro (h | ⟨_, _, h⟩)
         ·exact absurd (h1.2 h) e2
         ·exact h
      ·rename_i e; rw [hj j' hj']; constructor
       ·rintro (h | ⟨a1, a2, a3⟩)
        ·exact .inl h
        ·exact .inr ⟨a1, by omega, a3⟩
       ·rintro (h | ⟨a1, a2, a3⟩)
        ·exact .inl h
        ·exact .inr ⟨a1, by omega, a3⟩
     ·simp [-Qa8] at hc3; refine ⟨jl, fun j' hj' => (hj j' hj').trans ?_⟩; constructor
      ·rintro (h | ⟨a1, a2, a3⟩)
       ·exact .inl h
       ·exact .inr ⟨a1, a3⟩
      ·rintro (h | ⟨a1, a2, a3⟩)
       ·exact .inl h
       ·refine .inr ⟨a1, ?_, a2, a3⟩
        rcases Qb0 j n with h | h
        ·have h5 := hc3 h; have h6 := hRk.2 a2; rw [h5] at h6; cases h6
        ·omega
    ·rintro r2 ⟨l2, h2⟩; rw [w64 (by omega) (by omega)]; refine ⟨⟨by omega, by omega, l2, fun j hj => ?_⟩, by omega⟩; rw [h2 j hj, hk j hj]; constructor
     ·rintro (⟨k', a1, a2, a3⟩ | ⟨a1, a2, a3⟩)
      ·exact ⟨k', by omega, a2, a3⟩
      ·exact ⟨k.toNat, by omega, by omega, a1, a2, a3⟩
     ·rintro ⟨k', a1, a2, a3, a4⟩
      by_cases e : k' = k.toNat
      ·subst e; exact .inr ⟨a3, a4⟩
      ·exact .inl ⟨k', by omega, a2, a3, a4⟩
   ·have hc2 := of_decide_eq_false hc2; refine ⟨kl, fun j hj => (hk j hj).trans ?_⟩; constructor
    ·rintro ⟨k', _, a⟩; exact ⟨k', a⟩
    ·rintro ⟨k', a1, a2, a3⟩; exact ⟨k', by omega, a1, a2, a3⟩
  ·rintro r ⟨r1, r2⟩; rw [w64 (by omega) (by omega)]; refine ⟨by simp only [Qa1, Qa2]; omega, ⟨by omega, by omega, ?_⟩, by omega⟩
   rw [show (i + 1).toNat = i.toNat + 1 by omega]; exact hT.snoc r1 r2
 ·have hc := of_decide_eq_false hc
  have : i = (n : Int) := by omega
  subst this; exact hT.tab
def Aef (R : Ada) : Prop := ∀ s i j, R s i j → i ≤ j ∧ (i ≤ s.length → j ≤ s.length)
theorem Aef.id : Aef idR := fun s i j h => by cases h; exact ⟨Qa5 _, fun h => h⟩
theorem Aef.comp {R S : Ada} (h1 : Aef R) (h2 : Aef S) : Aef (Aga R S) := by
 rintro s i j ⟨m, a, b⟩; have := h1 _ _ _ a; have := h2 _ _ _ b; exact ⟨by omega, fun h => by omega⟩
theorem Aef.pow {R : Ada} (h : Aef R) (n : Nat) : Aef (Aey R n) := by
 induction n with
 | zero => exact .id
 | succ n ih => exact h.comp ih
theorem Aef.seq {R : Nat → Ada} {l : List Int} (h : ∀ k ∈ l, Aef (R k.toNat)) : Aef (AfJ R l) := by
 induction l with
 | nil => exact .id
 | cons k l ih => exact (h k (by simp)).comp (ih fun k' hk' => h k' (by simp [hk']))
theorem Aef.alt {R : Nat → Ada} {l : List Int} (h : ∀ k ∈ l, Aef (R k.toNat)) : Aef (Ae8 R l) := by
 induction l with
 | nil => intro s i j h; exact h.elim
 | cons k l ih =>
  rintro s i j (ha | ha)
  ·exact h k (by simp) _ _ _ ha
  ·exact ih (fun k' hk' => h k' (by simp [hk'])) _ _ _ ha
theorem Aef.node {n : Node} {i : Nat} (ho : R8 n i) {R : Nat → Ada} (h : ∀ k, k < i → Aef (R k)) : Aef (Adr n R) := by
 have hm : ∀ k ∈ n.2.2.2.2, Aef (R k.toNat) := fun k hk => h _ (by have := ho.mem hk; omega)
 unfold Adr; split
 ·rintro s i j ⟨h1, _, rfl⟩; exact ⟨by omega, fun _ => by omega⟩
 split
 ·rintro s i j ⟨rfl, rfl⟩; exact ⟨Qa5 _, fun _ => Nat.zero_le _⟩
 split
 ·rintro s i j ⟨rfl, rfl⟩; exact ⟨Qa5 _, fun h => h⟩
 split
 ·exact .seq hm
 split
 ·exact .alt hm
 split
 ·rename_i h6; have := ho.2.2.2.2.2 h6; have := ho.1 0 (by omega); rintro s i j ⟨r, _, _, hr⟩; exact (h _ (by omega)).pow r _ _ _ hr
 ·exact .id
theorem Aef.lang {l : List Node} (v : Aad l) {k : Nat} (h : k < l.length) : Aef (Lang l k) := by
 induction k using Nat.strongRecOn with
 | ind k ih =>
  rw [AgJ v h]
  exact Aef.node (v.ok k h) fun m hm => ih m hm (by omega)
theorem AiR {R : Ada} (h : Aef R) {s : List UInt8} {r i j : Nat} (hj : j ≤ i + r) (hp : Aey R (r + 1) s i j) : Aey R r s i j := by
 induction r generalizing i with
 | zero =>
  obtain ⟨m, h1, h2⟩ := hp; cases h2; have := h _ _ _ h1; show i = j; omega
 | succ r ih =>
  obtain ⟨m, h1, h2⟩ := hp; have := h _ _ _ h1
  rcases Qa3 i m with hlt | hge
  ·exact ⟨m, h1, ih (by omega) h2⟩
  ·have : i = m := by omega
   subst this; exact h2
theorem Aie {R : Ada} (h : Aef R) {s : List UInt8} {n i j : Nat} (hn : j ≤ i + n) : ∀ r, n ≤ r → Aey R r s i j → Aey R n s i j := by
 intro r
 induction r with
 | zero =>
  intro hr hp; have : n = 0 := by omega
  subst this; exact hp
 | succ r ih =>
  intro hr hp
  rcases Qa3 r n with hlt | hge
  ·have : n = r + 1 := by omega
   subst this; exact hp
  ·exact ih hge (AiR h (by omega) hp)
theorem Ags {R : Ada} {r : Nat} {s : List UInt8} {i j : Nat} : Aey R (r + 1) s i j ↔ ∃ m, Aey R r s i m ∧ R s m j := by
 rw [AfC]; constructor
 ·rintro ⟨m, h1, m2, h2, h3⟩; cases h3; exact ⟨m, h1, h2⟩
 ·rintro ⟨m, h1, h2⟩; exact ⟨m, h1, j, h2, rfl⟩
theorem AiG {R : Nat → Ada} {l : List Int} {k : Int} {s : List UInt8} {i j : Nat} : AfJ R (l ++ [k]) s i j ↔ ∃ m, AfJ R l s i m ∧ R k.toNat s m j := by
 induction l generalizing i with
 | nil => exact ⟨fun ⟨m, h1, h2⟩ => by cases h2; exact ⟨i, rfl, h1⟩, fun ⟨m, h1, h2⟩ => by cases h1; exact ⟨j, h2, rfl⟩⟩
 | cons q l ih =>
  constructor
  ·rintro ⟨m, h1, h2⟩; obtain ⟨m2, h3, h4⟩ := ih.1 h2; exact ⟨m2, ⟨m, h1, h3⟩, h4⟩
  ·rintro ⟨m2, ⟨m, h1, h3⟩, h4⟩; exact ⟨m, h1, ih.2 ⟨m2, h3, h4⟩⟩
theorem Aiv {R : Nat → Ada} {l : List Int} {k : Int} {s : List UInt8} {i j : Nat} : Ae8 R (l ++ [k]) s i j ↔ Ae8 R l s i j ∨ R k.toNat s i j := by
 induction l with
 | nil => simp [Ae8, Ahp, AhT]
 | cons q l ih =>
  show Ahp (R q.toNat) (Ae8 R (l ++ [k])) s i j ↔ Ahp (R q.toNat) (Ae8 R l) s i j ∨ _; simp only [Ahp, ih, or_assoc]
def Tabs (all : List (List (List Bool))) (s : List UInt8) (R : Nat → Ada) : Prop := ∀ k, k < all.length → Ado (all.getD k []) (s.length + 1) (R k s)
theorem Ado.set {T : List (List Bool)} {n : Nat} {R : Nat → Nat → Prop} (h : Ado T n R) {i j : Nat} (hi : i < n) (hj : j < n) (b : Bool) : Ado (T.set i ((T.getD i []).set j b)) n fun i' j' => if i' = i ∧ j' = j then b = true else R i' j' := by
 have hl := h.len; have hr := h.row i hi; refine ⟨by simp [hl], fun i' hi' => ?_, fun i' j' hi' hj' => ?_⟩
 ·rw [AdI (by omega)]; split
  ·simpa using hr
  ·exact h.row i' hi'
 ·rw [AdI (by omega)]; split
  ·rename_i e; subst e; rw [AdI (by omega)]; split
   ·rename_i e; subst e; simp
   ·rename_i e; rw [if_neg (fun h => e h.2.symm)]; exact h.at_ i j' hi' hj'
  ·rename_i e; rw [if_neg (fun h => e h.1.symm)]; exact h.at_ i' j' hi' hj'
theorem Aj1 (kd : Int) : (cond (cond (kd == 0) true (kd == 4)) true (kd == 6)) = true ↔ (kd = 0 ∨ kd = 4 ∨ kd = 6) := by
 rw [show (cond (cond (kd == 0) true (kd == 4)) true (kd == 6)) = ((kd == 0) || ((kd == 4) || (kd == 6))) by cases (kd == 0) <;> cases (kd == 4) <;> rfl]; simp
def AgT (P : Pg) : Prop := ∀ (n : Node) (all : List (List (List Bool))) (s : List UInt8) (R : Nat → Ada), s.length ≤ 1000000 → R8 n all.length → n.2.2.2.2.length ≤ 140737488351232 → (∀ k, k < all.length → Aef (R k)) → Tabs all s R → Fn P Aje Adx (n, (all, s)) fun (d : List (List Bool)) _ => Ado d (s.length + 1) (Adr n R s)
theorem Ai7 (h : Has P Ael) (hE : AgS P) (hC : AfW P) (hU : AgU P) (hH : Aic P) : AgT P := by
 rintro ⟨kd, set, mn, mx, kids⟩ all s R hs ho hkl hord hT; have ho1 := ho.1; have ho2 := ho.2.2.2; have hk0 := ho.2.1; have hk6 := ho.2.2.1; dsimp only at hkl ho1 ho2 hk0 hk6; refine Ag0 h ?_; unfold AfO; dsimp only; refine (hE (s, _) hs).to ?_; rintro (d1 : List (List Bool)) _ hd1; dsimp only at hd1 ⊢
 have hd1 : Ado d1 (s.length + 1) fun i j => i = j ∧ (kd = 0 ∨ kd = 4 ∨ kd = 6) := hd1.congr fun i j _ _ => and_congr Iff.rfl (Aj1 kd)
 have hl1 := hd1.len
 have hcomp : ∀ (T : List (List Bool)) (Q : Ada) (k : Int), Aef Q → Ado T (s.length + 1) (Q s) → 0 ≤ k → k < (all.length : Int) → Fn P Oe Ac3 (T, all.getD k.toNat []) fun (d : List (List Bool)) _ => Ado d (s.length + 1) (fun i j => ∃ m, Q s i m ∧ R k.toNat s m j) := by
  intro T Q k hQ hTQ k0 k1; refine (hC T _ (s.length + 1) _ _ (by omega) hTQ (hT k.toNat (by omega))).to ?_; rintro (d : List (List Bool)) _ hd
  refine hd.congr fun i j _ _ => ?_
  constructor
  ·rintro ⟨m, _, _, a, b⟩; exact ⟨m, a, b⟩
  ·rintro ⟨m, a, b⟩; exact ⟨m, (hQ _ _ _ a).1, (hord _ (by omega) _ _ _ b).1, a, b⟩
 refine Ag.of (Ag.mid (fun d => Ado d (s.length + 1) (Adr (kd, (set, (mn, (mx, kids)))) R s)) ⟨fun h1 => ?_, fun h1 => Ag.of ⟨fun h2 => ?_, fun h2 => Ag.of ⟨fun h3 => ?_, fun h3 => Ag.of ⟨fun h4 => ?_, fun h4 => Ag.of ⟨fun h5 => ?_, fun h5 => Ag.of ⟨fun h6 => ?_, fun h6 => ?_⟩⟩⟩⟩⟩⟩ fun d hd => hd)
 ·have h1 : kd = 1 := by simpa using h1
  subst h1
  refine Ag.mid (fun d => Ado d (s.length + 1) (Adr (1, (set, (mn, (mx, kids)))) R s)) ?_ fun d hd => hd
  have hN : Adr (1, (set, (mn, (mx, kids)))) R = AjV set := rfl; rw [hN]; refine B0.of (fun d => 0 ≤ d.2 ∧ d.2 ≤ (s.length : Int) ∧ Ado d.1 (s.length + 1) fun i j => (i : Int) < d.2 ∧ Afh set ((s.getD i 0).toNat : Int) = true ∧ j = i + 1) (fun d => (s.length - d.2).toNat) ⟨Qa0 _, by dsimp only; omega, hd1.congr fun i j _ _ => ?_⟩ ?_
  ·dsimp only; constructor
   ·rintro ⟨_, h⟩; omega
   ·rintro ⟨h, _⟩; omega
  rintro ⟨T, i⟩ ⟨i0, i1, hTi⟩; dsimp only at i0 i1 hTi ⊢; have hTl := hTi.len; refine ⟨fun hc => Ag.of (Ag.mid (fun d => Ado d (s.length + 1) fun i' j => (i' : Int) < i + 1 ∧ Afh set ((s.getD i' 0).toNat : Int) = true ∧ j = i' + 1) ?_ ?_), fun hc => ?_⟩
  ·have hc := of_decide_eq_true hc; have hr := hTi.row i.toNat (by omega); rw [w64 (by omega) (by omega), hr, hTl]
   have hsz : 0 ≤ (((s.getD i.toNat 0).toNat : Nat) : Int) ∧ (((s.getD i.toNat 0).toNat : Nat) : Int) ≤ 255 := by
    have := (s.getD i.toNat 0).toNat_lt; omega
   have key : ∀ b, b = Afh set ((s.getD i.toNat 0).toNat : Int) → Ado (T.set i.toNat ((T.getD i.toNat []).set (i + 1).toNat b)) (s.length + 1) fun i' j => (i' : Int) < i + 1 ∧ Afh set ((s.getD i' 0).toNat : Int) = true ∧ j = i' + 1 := by
    rintro b rfl
    refine (hTi.set (i := i.toNat) (j := (i + 1).toNat) (by omega) (by omega) _).congr fun i' j' hi' hj' => ?_
    split
    ·rename_i e; obtain ⟨rfl, rfl⟩ := e; constructor
     ·intro h; exact ⟨by omega, h, by omega⟩
     ·rintro ⟨_, h, _⟩; exact h
    ·rename_i e; constructor
     ·rintro ⟨a, b, c⟩; exact ⟨by omega, b, c⟩
     ·rintro ⟨a, b, c⟩; refine ⟨?_, b, c⟩
      rcases Qb0 (i' : Int) i with h | h
      ·exact h
      ·exact absurd ⟨by omega, by omega⟩ e
   have g1 : 0 ≤ i ∧ i < ((s.length + 1 : Nat) : Int) := ⟨i0, by omega⟩
   have g2 : 0 ≤ i ∧ i < ((s.length : Nat) : Int) := ⟨i0, hc⟩
   have g3 : i.toNat < s.length + 1 := by omega
   have g4 : 0 ≤ i + 1 ∧ i + 1 < ((s.length + 1 : Nat) : Int) := ⟨by omega, by omega⟩
   have g5 : (i + 1).toNat < s.length + 1 := by omega
   refine ⟨g1, g2, ⟨g3, (hH (set, _) hsz.1 hsz.2).to ?_, trivial⟩, (hH (set, _) hsz.1 hsz.2).to ?_, trivial⟩
   ·rintro (b : Bool) _ hb; exact ⟨g3, g4, ⟨g3, g5, key b hb⟩, trivial⟩
   ·rintro (b : Bool) _ hb; exact ⟨g3, g3, g4, ⟨g3, g5, key b hb⟩, trivial⟩
  ·have hc := of_decide_eq_true hc; intro d hd; rw [w64 (by omega) (by omega)]; exact ⟨⟨by omega, by omega, hd⟩, by omega⟩
  ·have hc := of_decide_eq_false hc
   refine hTi.congr fun i' j' _ _ => ?_
   constructor
   ·rintro ⟨a, b, c⟩; exact ⟨by omega, b, c⟩
   ·rintro ⟨a, b, c⟩; exact ⟨by omega, b, c⟩
 ·have h2 : kd = 2 := by simpa using h2
  subst h2; have hr := hd1.row 0 (by omega); refine ⟨⟨by omega, by omega⟩, by simp; omega, by simp; omega, ⟨by omega, by simp only [Qb5]; omega⟩, by simp; omega, by simp only [Qb5]; omega, ?_⟩
  refine (hd1.set (i := 0) (j := 0) (by omega) (by omega) true).congr fun i j _ _ => ?_
  show _ ↔ stR s i j; split
  ·rename_i e; exact ⟨fun _ => e, fun _ => rfl⟩
  ·rename_i e; constructor
   ·rintro ⟨_, h⟩; omega
   ·intro h; exact absurd h e
 ·have h3 : kd = 3 := by simpa using h3
  subst h3; have hr := hd1.row s.length (by omega)
  have e : ((s.length : Nat) : Int).toNat = s.length := by omega
  rw [e, hr, hl1]; refine ⟨⟨by omega, by omega⟩, by omega, by omega, ⟨by omega, by omega⟩, by omega, by omega, ?_⟩
  refine (hd1.set (i := s.length) (j := s.length) (by omega) (by omega) true).congr fun i j _ _ => ?_
  show _ ↔ enR s i j; split
  ·rename_i e; exact ⟨fun _ => e, fun _ => rfl⟩
  ·rename_i e; constructor
   ·rintro ⟨_, h⟩; omega
   ·intro h; exact absurd h e
 ·have h4 : kd = 4 := by simpa using h4
  subst h4; have hN : Adr (4, (set, (mn, (mx, kids)))) R = AfJ R kids := rfl; rw [hN]
  refine Ag.of <| B0.of (fun d => 0 ≤ d.2 ∧ d.2 ≤ (kids.length : Int) ∧ Ado d.1 (s.length + 1) (AfJ R (kids.take d.2.toNat) s)) (fun d => (kids.length - d.2).toNat) ⟨Qa0 _, by dsimp only; omega, hd1.congr fun i j _ _ => by simp [AfJ, idR]⟩ ?_
  rintro ⟨T, i⟩ ⟨i0, i1, hTi⟩; dsimp only at i0 i1 hTi ⊢; refine ⟨fun hc => Ag.of ?_, fun hc => ?_⟩
  ·have hc := of_decide_eq_true hc; have hkk := ho1 i.toNat (by omega); refine ⟨⟨i0, hc⟩, by omega, hkk, by omega, ?_⟩; refine (hcomp T (AfJ R (kids.take i.toNat)) _ (.seq fun k hk => hord _ ?_) hTi hkk.1 hkk.2).to ?_
   ·have := ho.mem (k := k) (List.mem_of_mem_take hk); omega
   rintro (d : List (List Bool)) _ hd; rw [w64 (by omega) (by omega)]; refine ⟨⟨by omega, by omega, hd.congr fun i' j' _ _ => ?_⟩, by omega⟩; rw [AeK i0 hc, AiG]
  ·have hc := of_decide_eq_false hc; rw [Qb3 (by omega)] at hTi; exact hTi
 ·have h5 : kd = 5 := by simpa using h5
  subst h5; have hN : Adr (5, (set, (mn, (mx, kids)))) R = Ae8 R kids := rfl; rw [hN]
  refine Ag.of <| B0.of (fun d => 0 ≤ d.2 ∧ d.2 ≤ (kids.length : Int) ∧ Ado d.1 (s.length + 1) (Ae8 R (kids.take d.2.toNat) s)) (fun d => (kids.length - d.2).toNat) ⟨Qa0 _, by dsimp only; omega, hd1.congr fun i j _ _ => by simp [Ae8, AhT]⟩ ?_
  rintro ⟨T, i⟩ ⟨i0, i1, hTi⟩; dsimp only at i0 i1 hTi ⊢; refine ⟨fun hc => Ag.of ?_, fun hc => ?_⟩
  ·have hc := of_decide_eq_true hc; have hkk := ho1 i.toNat (by omega); refine ⟨⟨i0, hc⟩, by omega, hkk, by omega, ?_⟩; refine (hU T _ (s.length + 1) _ _ (by omega) hTi (hT (kids.getD i.toNat 0).toNat (by omega))).to ?_; rintro (d : List (List Bool)) _ hd; rw [w64 (by omega) (by omega)]; refine ⟨⟨by omega, by omega, hd.congr fun i' j' _ _ => ?_⟩, by omega⟩; rw [AeK i0 hc, Aiv]
  ·have hc := of_decide_eq_false hc; rw [Qb3 (by omega)] at hTi; exact hTi
 ·have h6 : kd = 6 := by simpa using h6
  subst h6; obtain ⟨o1, o2, o3, o4⟩ := ho2.2.2 rfl; have hkk := ho1 0 (by omega); have hN : Adr (6, (set, (mn, (mx, kids)))) R = AhN (R (kids.getD 0 0).toNat) mn mx := rfl; rw [hN]; have hOK : Aef (R (kids.getD 0 0).toNat) := hord _ (by omega)
  have hcomp := fun T Q hQ hTQ => hcomp T Q (kids.getD 0 0) hQ hTQ hkk.1 hkk.2
  simp only [Qb5]; refine ⟨⟨by omega, by omega⟩, by omega, hkk, by omega, ?_⟩; generalize R (kids.getD 0 0).toNat = Q at hOK hcomp ⊢
  refine Ag.mid (fun d => Ado d (s.length + 1) (Aey Q mn.toNat s)) ?_ fun T0 hT0 => ?_
  ·refine B0.of (fun d => 0 ≤ d.2 ∧ d.2 ≤ mn ∧ Ado d.1 (s.length + 1) (Aey Q d.2.toNat s)) (fun d => (mn - d.2).toNat) ⟨Qa0 _, o2, hd1.congr fun i j _ _ => by simp [Aey, idR]⟩ ?_; rintro ⟨T, i⟩ ⟨i0, i1, hTi⟩; dsimp only at i0 i1 hTi ⊢; refine ⟨fun hc => Ag.of ?_, fun hc => ?_⟩
   ·have hc := of_decide_eq_true hc; refine (hcomp T (Aey Q i.toNat) (hOK.pow _) hTi).to ?_; rintro (d : List (List Bool)) _ hd; rw [w64 (by omega) (by omega)]; refine ⟨⟨by omega, by omega, hd.congr fun i' j' _ _ => ?_⟩, by omega⟩; rw [show (i + 1).toNat = i.toNat + 1 by omega, Ags]
   ·have hc := of_decide_eq_false hc
    have : i = mn := by omega
    subst this; exact hTi
  ·refine Ag.mid (fun m => m = if mx < 0 then (s.length : Int) + 1 else mx - mn) ⟨fun hc => ?_, fun hc => ?_⟩ ?_
   ·rw [if_pos (of_decide_eq_true hc), w64 (by omega) (by omega)]
   ·have hc := of_decide_eq_false hc; rw [if_neg hc, w64 (by omega) (by omega)]
   ·rintro M hM
    have hM0 : 0 ≤ M ∧ M ≤ 1000001 := by
     rw [hM]; split <;> omega
    refine Ag.mid (fun d => Ado d (s.length + 1) fun i j => ∃ m : Nat, (m : Int) ≤ M ∧ Aey Q (mn.toNat + m) s i j) ?_ fun T hTM => ?_
    ·refine B0.of (fun d => 0 ≤ d.2 ∧ d.2 ≤ M ∧ Ado d.1 (s.length + 1) fun i j => ∃ m : Nat, (m : Int) ≤ d.2 ∧ Aey Q (mn.toNat + m) s i j) (fun d => (M - d.2).toNat) ⟨Qa0 _, hM0.1, hT0.congr fun i j _ _ => ?_⟩ ?_
     ·constructor
      ·intro h; exact ⟨0, by simp, h⟩
      ·rintro ⟨m, h1, h2⟩
       have : m = 0 := by dsimp only at h1; omega
       subst this; exact h2
     rintro ⟨T, i⟩ ⟨i0, i1, hTi⟩; dsimp only at i0 i1 hTi ⊢; refine ⟨fun hc => Ag.of ?_, fun hc => ?_⟩
     ·have hc := of_decide_eq_true hc; refine (hcomp T (fun s i' j => ∃ m : Nat, (m : Int) ≤ i ∧ Aey Q (mn.toNat + m) s i' j) ?_ hTi).to ?_
      ·rintro s i' j ⟨m, _, h⟩; exact hOK.pow _ _ _ _ h
      rintro (d : List (List Bool)) _ hd; refine (hU T d (s.length + 1) _ _ (by omega) hTi hd).to ?_; rintro (d2 : List (List Bool)) _ hd2; rw [w64 (by omega) (by omega)]; refine ⟨⟨by omega, by omega, hd2.congr fun i' j' _ _ => ?_⟩, by omega⟩; constructor
      ·rintro (⟨m, m1, m2⟩ | ⟨q, ⟨m, m1, m2⟩, m3⟩)
       ·exact ⟨m, by omega, m2⟩
       ·exact ⟨m + 1, by omega, Ags.2 ⟨q, m2, m3⟩⟩
      ·rintro ⟨m, m1, m2⟩
       rcases Nat.eq_zero_or_pos m with e | e
       ·exact .inl ⟨m, by omega, m2⟩
       ·obtain ⟨m', rfl⟩ : ∃ m', m = m' + 1 := ⟨m - 1, by omega⟩
        obtain ⟨q, q1, q2⟩ := Ags.1 m2; exact .inr ⟨q, ⟨m', by omega, q1⟩, q2⟩
     ·have hc := of_decide_eq_false hc
      have : i = M := by omega
      subst this; exact hTi
    ·refine hTM.congr fun i j hi hj => ?_
     constructor
     ·rintro ⟨m, m1, m2⟩; refine ⟨mn.toNat + m, by omega, ?_, m2⟩; rw [hM] at m1; split at m1
      ·left; assumption
      ·right; omega
     ·rintro ⟨r, r1, r2, r3⟩; rw [hM]; split
      ·rename_i hx
       rcases Qa3 (mn.toNat + s.length + 1) r with hlt | hge
       ·exact ⟨s.length + 1, by omega, Aie hOK (by omega) r (by omega) r3⟩
       ·exact ⟨r - mn.toNat, by omega, by rwa [show mn.toNat + (r - mn.toNat) = r by omega]⟩
      ·exact ⟨r - mn.toNat, by omega, by rwa [show mn.toNat + (r - mn.toNat) = r by omega]⟩
 ·simp at h1 h2 h3 h4 h5 h6
  have h0 : kd = 0 := by omega
  subst h0
  exact hd1.congr fun i j _ _ => by simp [Adr, idR]
def AgO (P : Pg) : Prop := ∀ x : List Node × List UInt8, Aad x.1 → KB x.1 → x.2.length ≤ 1000000 → Fn P Ajf Adv x fun (d : List (List Bool)) _ => Ado d (x.2.length + 1) (Lang x.1 (x.1.length - 1) x.2)
theorem Ai1 (h : Has P Aej) (hp : AgT P) : AgO P := by
 rintro ⟨l, s⟩ v hK hs; have hlo := v.lo; have hhi := v.hi; dsimp only at hlo hhi hK hs v ⊢; refine AgY h ?_; unfold AfM; dsimp only; refine Ag.mid (fun d => d.length = l.length ∧ Tabs d s (Lang l)) ?_ ?_
 ·refine B0.of (fun d => 0 ≤ d.2 ∧ d.2 ≤ (l.length : Int) ∧ d.1.length = d.2.toNat ∧ Tabs d.1 s (Lang l)) (fun d => (l.length - d.2).toNat) ⟨Qa0 _, by dsimp only; omega, rfl, fun k hk => by simp at hk⟩ ?_
  rintro ⟨T, i⟩ ⟨i0, i1, hl, hT⟩; dsimp only at i0 i1 hl hT ⊢; refine ⟨fun hc => Ag.of ?_, fun hc => ?_⟩
  ·have hc := of_decide_eq_true hc; have ho := v.ok i.toNat (by omega); refine ⟨⟨i0, hc⟩, by omega, ?_⟩; refine (hp (l.getD i.toNat Ak) T s (Lang l) hs (by rw [hl]; exact ho) (hK _) (fun k hk => .lang v (by omega)) hT).to ?_
   rintro (d : List (List Bool)) _ hd; rw [w64 (by omega) (by omega)]; refine ⟨by simp only [Qa1, Qa2]; omega, ⟨by omega, by omega, by simp; omega, fun k hk => ?_⟩, by omega⟩
   rcases Qa3 k T.length with hlt | hge
   ·rw [Dx hlt]; exact hT k hlt
   ·have : k = T.length := by simp at hk; omega
    subst this; rw [HI, hl, AgJ v (by omega)]; exact hd
  ·have hc := of_decide_eq_false hc; exact ⟨by omega, hT⟩
 ·rintro T ⟨hl, hT⟩; rw [w64 (by omega) (by omega)]; refine ⟨⟨by omega, by omega⟩, by omega, ?_⟩; rw [show (((T.length : Nat) : Int) - 1).toNat = l.length - 1 by omega]; exact hT _ (by omega)
theorem Agi (h : Has P Ads) (hPt : L0 P) (hP : Hk P) (hW : Ago P) (hM : NF P) (hB : AgM P) (hF : Ahz P) (hC : Agm P) (hPs : AgO P) (hAw : AfU P) (x : List Int × (Int × Int)) :
  Fn P Ajm AcZ x fun (d : Bool) _ => d = true := by
 obtain ⟨raw, n, fr⟩ := x
 have aw : ∀ K : Bool → Unit → Prop, K true () → Fn P ND Ac8 () K := fun K hk => Fn.to hAw fun (d : Bool) _ hd => by
  have hd : d = true := hd; subst hd; exact hk
 refine Afa h ?_; unfold Ad9; dsimp only; refine (hPt (raw, n)).to ?_; rintro (p : Bs) _ ⟨hm, hpl⟩; refine hP.at ⟨fun _ => aw _ rfl, fun hc => ?_⟩
 have h0 : (Dy p).2 = 0 := by simpa using hc
 have hpe : Dy p = ((Dy p).1, 0) := by rw [← h0]
 generalize (Dy p).1 = l at hpe ⊢; obtain ⟨v, hK, _⟩ := YC hpe; have hw := (AjF hm hpe).2.1; have hll := v.hi; have hlo := v.lo; refine (hW (raw, 60) (show (0 : Int) ≤ 60 by decide) (show (60 : Int) ≤ 1000000 by decide)).to ?_; rintro (s : Bs) _ hs; have hs : s.length ≤ 8 := hs; rw [w64 (n := (s.length : Int) + 1) (by omega) (by omega)]; refine hM.at (by omega) (by omega) ?_
 have hr := Jw (a := fr) (n := (s.length : Int) + 1) (by omega) (by omega); generalize LL fr ((s.length : Int) + 1) = f at hr ⊢; refine (hB l hK (by omega)).to ?_; rintro (d1 : Auto × Int) _ ⟨_, hd⟩; obtain ⟨e0, hb⟩ := (hd v).2 (by omega); rw [e0]; refine (hF (d1.1, (s, f)) (by dsimp only; omega)).to ?_
 rintro (d2 : (Int × Int) × (Bool × Int)) _ ⟨_, hd2⟩; obtain ⟨e1, hfi⟩ := (hd2 hb.valid).2 ⟨hr.1, show f ≤ (s.length : Int) by omega⟩; have hfi : Af3 d1.1 s f.toNat d2.1 d2.2.1 := hfi; rw [e1]; have hl0 : ((l.length : Int) == 0) = false := beq_eq_false_iff_ne.2 (by omega); simp only [hl0, bne_self_eq_false, cond_false]
 refine Ag.mid (fun d => d = 0) ⟨fun _ => (hC l hK (by omega)).to fun (d : Int) _ hd => hd.1 v, fun hc => absurd hc (by simp), trivial⟩ ?_; rintro d rfl; refine ⟨fun hc => absurd hc (by simp), fun _ => ?_⟩; refine (hPs (l, s) v hK (by dsimp only; omega)).to ?_
 rintro (T : List (List Bool)) _ hT; have hT : Ado T (s.length + 1) (Lang l (l.length - 1) s) := hT; have hT := hT.congr (S := fun i j => acc d1.1 s i j) (fun i j _ _ => (hb.lang s i j).symm); have hTl := hT.len; generalize d1.1 = a at hfi hT hb; refine Ag.mid (fun _ => Agl a s f.toNat) ?_ ?_
 ·refine B0.of (fun q => f ≤ q.2 ∧ q.2 ≤ s.length + 1 ∧ ∀ i j : Nat, f ≤ (i : Int) → (i : Int) < q.2 → ¬ acc a s i j) (fun q => (s.length + 1 - q.2).toNat) ⟨Qa0 _, by dsimp only; omega, fun i j h1 h2 => by dsimp only at h2; omega⟩ ?_
  rintro ⟨u, i⟩ ⟨i0, i1, hi⟩; dsimp only at i0 i1 hi ⊢; refine ⟨fun hc => Ag.of ?_, fun hc => ?_⟩
  ·have hc := of_decide_eq_true hc; have hrow := hT.row i.toNat (by omega); refine Ag.mid (fun _ => ∀ j : Nat, ¬ acc a s i.toNat j) ?_ ?_
   ·refine B0.of (fun q => i - 1 ≤ q.2 ∧ q.2 ≤ s.length ∧ ∀ j : Nat, q.2 < (j : Int) → ¬ acc a s i.toNat j) (fun q => (q.2 + 1 - i).toNat) ⟨by dsimp only; omega, Qa0 _, fun j hj ha => ?_⟩ ?_
    ·have := acc.Afi (by omega) ha; dsimp only at hj; omega
    rintro ⟨u2, j⟩ ⟨j0, j1, hj⟩; dsimp only at j0 j1 hj ⊢; refine ⟨fun hc2 => Ag.of ?_, fun hc2 j' ha => ?_⟩
    ·have hc2 := of_decide_eq_true hc2; have hat := hT.at_ i.toNat j.toNat (by omega) (by omega); refine ⟨⟨by omega, by omega⟩, by omega, ⟨by omega, by omega⟩, by omega, fun ht => ?_, fun ht => ?_⟩
     ·have hacc := hat.1 ht
      have hfn : Fnd a s f.toNat i.toNat j.toNat := by
       refine ⟨by omega, by omega, hacc, fun i' j' h1 h2 h3 => ?_, fun j' h1 => ?_⟩
       ·rcases Qa3 i' i.toNat with h4 | h4
        ·exact (hi i' j' (by omega) (by omega) h2).elim
        ·exact h4
       ·rcases Qa3 j.toNat j' with h4 | h4
        ·exact (hj j' (by omega) h1).elim
        ·exact h4
      have hu := hfi.uniq (.inl ⟨rfl, i.toNat, j.toNat, rfl, hfn⟩); rw [hu.2, hu.1]
      have q1 : ((((i.toNat : Nat) : Int) == i) && ((((j.toNat : Nat) : Int) == j) && true)) = true := by
       have e1 : ((i.toNat : Nat) : Int) = i := by omega
       have e2 : ((j.toNat : Nat) : Int) = j := by omega
       rw [e1, e2]; simp
      rw [q1]; refine Ag.mid (fun d => d = true) ⟨fun _ => aw _ rfl, fun hc => absurd hc (by simp), trivial⟩ ?_; rintro d rfl; rfl
     ·rw [w64 (by omega) (by omega)]; refine ⟨⟨by omega, by omega, fun j' hj' ha => ?_⟩, by omega⟩
      by_cases e : j' = j.toNat
      ·subst e; rw [hat.2 ha] at ht; cases ht
      ·exact hj j' (by omega) ha
    ·have hc2 := of_decide_eq_false hc2; have := acc.le ha; exact hj j' (by omega) ha
   ·intro _ hno; rw [w64 (by omega) (by omega)]; refine ⟨⟨by omega, by omega, fun i' j' h1 h2 ha => ?_⟩, by omega⟩
    by_cases e : i' = i.toNat
    ·subst e; exact hno j' ha
    ·exact hi i' j' h1 (by omega) ha
  ·have hc := of_decide_eq_false hc
   exact fun i' j' h1 h2 ha => hi i' j' (by omega) (by omega) ha
 ·intro _ hno; have hu := hfi.uniq (.inr ⟨rfl, rfl, hno⟩); rw [hu.2]; refine Ag.mid (fun d => d = true) ⟨fun _ => aw _ rfl, fun hc => absurd hc (by simp), trivial⟩ ?_; rintro d rfl; rfl
end Go.VS
