import Derived.Test.YtdnomijflodcgaaDoorKSm1
import Derived.Test.YtdnomijflodcgaaDoorKSm0
/- Trees made of raw numbers; lists that are compared. -/
set_option linter.unusedVariables false
set_option linter.unusedSimpArgs false
namespace Go.VS
variable {P : Pg}
def HY (P : Pg) : Prop := ∀ x : List Int × (Int × Int), (0 ≤ x.2.1 ∧ x.2.1 ≤ 100000) → (0 ≤ x.2.2 ∧ x.2.2 ≤ 100) → Fn P zS8 CI x fun (d : List AA) _ => d = GY x.1 x.2.1 x.2.2
theorem Aam (h : Has P Ht) (hA : KV P) (hB : OM P) : HY P := by
 rintro ⟨raw, fr, lines⟩ ⟨f0, f1⟩ ⟨l0, l1⟩
 dsimp only at f0 f1 l0 l1
 refine Si h ?_
 unfold NK
 dsimp only
 refine Ai.mid (fun d => d = GY raw fr lines) ?_ fun _ h => h
 have hlen4 : (Bu : List Bs).length = 4 := rfl
 unfold GY
 have hsl : ∀ k, (Og raw fr lines k).length ≤ k := fun k => by unfold Og; exact Nat.le_trans (List.length_filterMap_le ..) (by rw [List.length_range]; exact Nat.le_refl _)
 refine Bl.of (fun q => (0 ≤ q.2 ∧ q.2 ≤ 4) ∧ q.1 = Og raw fr lines q.2.toNat) (fun q => (4 - q.2).toNat) ⟨⟨Int.le_refl _, by decide⟩, rfl⟩ ?_
 rintro ⟨o, i⟩ ⟨⟨i0, i1⟩, ho⟩
 dsimp only at i0 i1 ho ⊢
 refine ⟨fun hi => ?_, fun hi => by have hi := of_decide_eq_false hi; rw [ho, show i = 4 by omega]; rfl⟩
 have hi := of_decide_eq_true hi
 have hnx := X1 raw fr lines i.toNat
 have hol := hsl i.toNat
 rw [← ho] at hnx hol
 unfold X0 at hnx
 rw [show ((i.toNat : Nat) : Int) = i by omega] at hnx
 have hr := XH raw (fr + i)
 have hi4 : i < ((List.length (Bu : List Bs) : Nat) : Int) := by rw [hlen4]; omega
 have hi5 : i.toNat < List.length (Bu : List Bs) := by rw [hlen4]; omega
 have hsz : ∀ v : Bs, (o.length + ([(Bu.getD i.toNat [], v)] : List AA).length) * 32 ≤ 140737488355328 := fun v => by
  simp only [List.length_cons, List.length_nil]; omega
 refine Ai.mid (fun d => d = Og raw fr lines (i.toNat + 1)) ?_ fun d hd => ?_
 ·rw [w64 (n := fr + i) (by omega) (by omega), w64 (n := fr + 10) (by omega) (by omega), w64 (n := 20 * i) (by omega) (by omega), w64 (n := fr + 10 + 20 * i) (by omega) (by omega)]
  refine hA.at (by omega) ⟨by decide, ?_⟩
  rw [Int.tmod_eq_emod_of_nonneg hr.1]
  refine Ai.mid (fun d => d = Og raw fr lines (i.toNat + 1)) ⟨fun hc => ?_, fun hc => ?_⟩ fun _ h => h
  ·have hc := of_decide_eq_true hc
   rw [if_pos hc] at hnx
   have hbl : ∀ {K : Bs → Unit → Prop}, K (LX raw (fr + 10 + 20 * i) lines 4) () → Fn P zS7 Dg (raw, (fr + 10 + 20 * i, (lines, (4 : Int)))) K := fun {K} hk => (hB (raw, (fr + 10 + 20 * i, (lines, (4 : Int)))) ⟨by dsimp only; omega, by dsimp only; omega⟩ ⟨l0, l1⟩ ⟨(by decide : (1 : Int) ≤ 4), (by decide : (4 : Int) ≤ 100000)⟩).to fun (d : Bs) _ hd => by
    have hd : d = _ := hd
    subst hd
    exact hk
   refine Ai.mid (fun d => d = Og raw fr lines (i.toNat + 1)) (by repeat' (first | exact trivial | exact i0 | exact hi4 | exact hi5 | exact hsz _ | exact hnx.symm | apply And.intro | (refine hbl ?_))) fun _ h => h
  ·have hc := of_decide_eq_false hc
   rw [if_neg hc] at hnx
   rw [hnx]
   exact (List.append_nil o).symm
 ·subst hd
  rw [w64 (by omega) (by omega)]
  exact ⟨⟨⟨by omega, by omega⟩, by rw [show (i + 1).toNat = i.toNat + 1 by omega]⟩, by omega⟩
theorem HY.at (h : HY P) {raw : List Int} {fr lines : Int} (f0 : 0 ≤ fr) (f1 : fr ≤ 100000) (l0 : 0 ≤ lines) (l1 : lines ≤ 100) {K : List AA → Unit → Prop} (hk : K (GY raw fr lines) ()) : Fn P zS8 CI (raw, (fr, lines)) K :=
 (h (raw, (fr, lines)) ⟨f0, f1⟩ ⟨l0, l1⟩).to fun (d : List AA) _ hd => by
  have hd : d = GY raw fr lines := hd
  subst hd
  exact hk
theorem Aba {α : Type} [DecidableEq α] {l m : List α} {d : α} (hl : l.length = m.length) (h : ∀ j, j < l.length → l.getD j d = m.getD j d) : decide (l = m) = true :=
 decide_eq_true (Zz d hl h)
theorem AdB {α : Type} [DecidableEq α] {l m : List α} {d : α} (j : Nat) (h : l.getD j d ≠ m.getD j d) : decide (l = m) = false :=
 decide_eq_false fun e => h (by rw [e])
theorem AcN {α : Type} [DecidableEq α] {l m : List α} (h : ((l.length : Nat) : Int) ≠ ((m.length : Nat) : Int)) : decide (l = m) = false :=
 decide_eq_false fun e => h (by rw [e])
def GN (P : Pg) : Prop := ∀ x : List AE × List AE, x.1.length ≤ 1000000000 → Fn P YU C8 x fun (d : Bool) _ => d = decide (x.1 = x.2)
theorem Wx (h : Has P Gm) : GN P := by
 rintro ⟨l, m⟩ hn
 dsimp only at hn
 refine Qx h ?_
 unfold LP
 dsimp only
 refine ⟨fun hc => (AcN (by simpa using hc)).symm, fun hc => ?_⟩
 have hlm : l.length = m.length := by
  have hc : ((l.length : Nat) : Int) = ((m.length : Nat) : Int) := by simpa using hc
  omega
 refine Ai.mid (fun _ => decide (l = m) = true) ?_ fun _ h => h.symm
 refine Bl.of (fun q => (0 ≤ q.2 ∧ q.2 ≤ l.length) ∧ ∀ j, j < q.2.toNat → l.getD j ([], 0) = m.getD j ([], 0)) (fun q => (l.length - q.2).toNat) ⟨⟨Int.le_refl _, Int.natCast_nonneg _⟩, fun j hj => absurd hj (by simp)⟩ ?_
 rintro ⟨q, i⟩ ⟨⟨i0, i1⟩, hq⟩
 dsimp only at i0 i1 hq ⊢
 refine ⟨fun hi => ?_, fun hi => ?_⟩
 ·have hi := of_decide_eq_true hi
  have hi2 : i.toNat < l.length := by omega
  refine Ai.mid (fun _ => l.getD i.toNat ([], 0) = m.getD i.toNat ([], 0)) ⟨⟨i0, hi⟩, hi2, ⟨i0, by omega⟩, by omega, fun hb => ?_, fun hb => ?_⟩ fun d hd => ?_
  ·exact (AdB i.toNat (d := ([], 0)) fun e => by rw [e] at hb; simp at hb).symm
  ·simp only [Bool.not_eq_false', Bool.and_true, Bool.and_eq_true, beq_iff_eq] at hb
   exact Prod.ext hb.1 hb.2
  ·rw [w64 (by omega) (by omega)]
   refine ⟨⟨⟨by omega, by omega⟩, fun j hj => ?_⟩, by omega⟩
   by_cases hji : j = i.toNat
   ·subst hji; exact hd
   ·exact hq j (by omega)
 ·have hi := of_decide_eq_false hi
  exact Aba hlm fun j hj => hq j (by omega)
theorem GN.at (h : GN P) {l m : List AE} (hl : l.length ≤ 1000000000) {K : Bool → Unit → Prop} (hk : K (decide (l = m)) ()) : Fn P YU C8 (l, m) K :=
 (h (l, m) hl).to fun (d : Bool) _ hd => by
  have hd : d = decide (l = m) := hd
  subst hd
  exact hk
end Go.VS

/- TreeDiffs. -/
set_option linter.unusedVariables false
set_option linter.unusedSimpArgs false
namespace Go.VS
variable {P : Pg}
def M0 (a b : List AA) (d : List AE × Int) : Prop := d.2 = Gj a b ∧ (d.2 ≠ 0 → d.1 = []) ∧ (d.2 = 0 → Gb a b d.1)
theorem V4 {a b : List AA} {d : List AE} (h : Gb a b d) : d.length ≤ a.length + b.length := by
 have hn : (d.map (·.1)).Nodup := by
  rw [List.nodup_iff_pairwise_ne, List.pairwise_map]
  refine h.1.imp fun {x y} hxy e => ?_
  rw [e, E0] at hxy
  cases hxy
 have hs : ∀ p ∈ d.map (·.1), p ∈ (a ++ b).map (·.1) := fun p hp => by
  obtain ⟨t, ht, rfl⟩ := List.mem_map.1 hp
  have := (h.2 t.1 t.2).1 ht
  unfold Mo at this
  rw [List.map_append, List.mem_append]
  cases h1 : AQ a t.1 with
  | some v =>
   obtain ⟨f, hf, e⟩ := (D8 a t.1).1 (by rw [h1]; rfl)
   exact .inl (List.mem_map.2 ⟨f, hf, e⟩)
  | none =>
   cases h2 : AQ b t.1 with
   | some v =>
    obtain ⟨f, hf, e⟩ := (D8 b t.1).1 (by rw [h2]; rfl)
    exact .inr (List.mem_map.2 ⟨f, hf, e⟩)
   | none => rw [h1, h2] at this; cases this
 have := FL hn hs
 rw [List.length_map, List.length_map, List.length_append] at this
 exact this
end Go.VS

/- changes: the lists of a commit. -/
set_option linter.unusedVariables false
set_option linter.unusedSimpArgs false
namespace Go.VS
variable {P : Pg}
def Ck (g : List Aq) (c : Int) : List AA := (g.getD c.toNat ([], (0, []))).2.2
def BV (g : List Aq) (c : Int) : List (List AA) := if (BF g c).length = 0 then [[]] else (BF g c).map fun p => Ck g p
theorem Ep {g : List Aq} (h : DF g 0) : Ia g ∧ HN g ∧ ¬L8 g ∧ Oe g ∧ HF g = 0 := by
 have k1 : Ia g := Classical.byContradiction fun k => by have := h.1 k; omega
 have k2 : HN g := Classical.byContradiction fun k => by have := h.2.1 k1 k; omega
 have k3 : ¬L8 g := fun k => by have := h.2.2.1 k1 k2 k; omega
 have k4 : Oe g := Classical.byContradiction fun k => by have := h.2.2.2.1 k1 k2 k3 k; omega
 exact ⟨k1, k2, k3, k4, (h.2.2.2.2 k1 k2 k3 k4).symm⟩
theorem AcH (g : List Aq) (c : Int) : (cond (decide (c ≥ (0 : Int))) (decide (c < ((List.length g : Nat) : Int))) false) = true ↔ inR g c := by
 unfold inR
 rw [Bool.cond_eq_ite]
 by_cases h : c ≥ 0
 ·rw [if_pos (decide_eq_true h)]
  exact ⟨fun k => ⟨h, of_decide_eq_true k⟩, fun k => decide_eq_true k.2⟩
 ·rw [if_neg (by simpa using h)]
  exact ⟨fun k => (by cases k), fun k => absurd k.1 h⟩
def FF (P : Pg) : Prop := ∀ x : List Aq × Int, MR x.1 → Fn P WO Bx x fun (d : Int) _ => ∃ e, DF x.1 e ∧ (e ≠ 0 → d = e) ∧ (e = 0 → (inR x.1 x.2 → d = 0) ∧ (¬inR x.1 x.2 → d = 5))
theorem Ww (h : Has P ET) (hI : Has P LK) (hD : Jk P) : FF P := by
 rintro ⟨g, c⟩ hs
 refine Nn h ?_
 unfold I9
 dsimp only at hs ⊢
 refine (hD g hs).to ?_
 rintro (e : Int) _ he
 have he : DF g e := he
 refine ⟨fun hb => ⟨e, he, fun _ => rfl, fun h0 => absurd h0 (by simpa using hb)⟩, fun hb => ?_⟩
 have h0 : e = 0 := by simpa using hb
 refine X3 hI ?_
 unfold Tm
 dsimp only
 have hi := AcH g c
 refine ⟨fun hb => ⟨e, he, fun k => absurd h0 k, fun _ => ⟨fun k => ?_, fun _ => rfl⟩⟩, fun hb => ⟨e, he, fun k => absurd h0 k, fun _ => ⟨fun _ => rfl, fun k => ?_⟩⟩⟩
 ·rw [hi.2 k] at hb; cases hb
 ·refine absurd (hi.1 ?_) k
  simpa using hb
def YY (P : Pg) : Prop := ∀ x : List Aq × Int, MR x.1 → ¬DF x.1 0 → Fn P Ab5 Dr x fun (d : List Bs × Int) _ => d.1 = [] ∧ DF x.1 d.2
theorem Ke {α : Type} {l : List α} {k : Nat} {d : α} (h : k < l.length) : l.take (k + 1) = l.take k ++ [l.getD k d] := by
 rw [List.take_add_one, List.getD_eq_getElem?_getD, List.getElem?_eq_getElem h]
 rfl
def Iv (P : Pg) : Prop := ∀ x : List Aq × Int, inR x.1 x.2 → Vl x.1 → (BF x.1 x.2).length ≤ 1000000 → Fn P WQ BC x fun (d : List (List AA)) _ => d = BV x.1 x.2
theorem WA (h : Has P Eh) : Iv P := by
 rintro ⟨g, c⟩ hc hv hl
 dsimp only at hc hv hl
 refine Lm h ?_
 unfold Hy
 dsimp only
 have hc2 : c.toNat < g.length := by have := hc.1; have := hc.2; omega
 have ez : (g.getD c.toNat Ak).1 = BF g c := rfl
 have hv2 := hv c hc
 rw [ez]
 refine ⟨⟨hc.1, hc.2⟩, hc2, fun hb => ?_, fun hb => ⟨⟨hc.1, hc.2⟩, hc2, ?_⟩⟩
 ·show [[]] = BV g c
  have hb : ((BF g c).length : Int) = 0 := by simpa using hb
  unfold BV
  rw [if_pos (by omega)]
 ·have hb : ¬((BF g c).length : Int) = 0 := by simpa using hb
  have et : BV g c = (BF g c).map fun p => Ck g p := by unfold BV; rw [if_neg (by omega)]
  rw [et]
  generalize BF g c = l at hl hv2 hb ⊢
  refine Ai.mid (fun d => d = l.map fun p => Ck g p) ?_ fun _ h => h
  refine Bl.of (fun q => (0 ≤ q.2 ∧ q.2 ≤ l.length) ∧ q.1 = (l.take q.2.toNat).map fun p => Ck g p) (fun q => (l.length - q.2).toNat) ⟨⟨Int.le_refl _, by dsimp only; omega⟩, rfl⟩ ?_
  rintro ⟨q, i⟩ ⟨⟨i0, i1⟩, hq⟩
  dsimp only at i0 i1 hq ⊢
  refine ⟨fun hi => ?_, fun hi => ?_⟩
  ·have hi := of_decide_eq_true hi
   have hi2 : i.toNat < l.length := by omega
   have hp := hv2 _ (BK (d := 0) hi2)
   have hql : q.length = i.toNat := by rw [hq, List.length_map, List.length_take]; omega
   refine Ai.mid (fun d => d = (l.take (i.toNat + 1)).map fun p => Ck g p) ⟨⟨i0, hi⟩, hi2, ⟨hp.1, hp.2⟩, by have := hp.1; have := hp.2; omega, by simp only [List.length_cons, List.length_nil]; omega, ?_⟩ fun d hn => ?_
   ·rw [Ke (d := 0) hi2, List.map_append, hq]
    rfl
   ·rw [w64 (by omega) (by omega)]
    refine ⟨⟨⟨by omega, by omega⟩, ?_⟩, by omega⟩
    rw [hn, show (i + 1).toNat = i.toNat + 1 by omega]
  ·have hi := of_decide_eq_false hi
   show q = _
   rw [hq, List.take_of_length_le (by omega)]
theorem ZM {α : Type} {q r : List α} {k : Nat} {d : α} (h : k < q.length) : (q ++ r).getD k d = q.getD k d := by
 rw [List.getD_eq_getElem?_getD, List.getElem?_append_left h, ← List.getD_eq_getElem?_getD]
theorem ZN {α : Type} {q : List α} {v d : α} : (q ++ [v]).getD q.length d = v := by
 rw [List.getD_eq_getElem?_getD, List.getElem?_append_right (Nat.le_refl _), Nat.sub_self]
 rfl
def Oc (g : List Aq) (c : Int) (d : List (List AE)) : Prop := d.length = (BV g c).length ∧ ∀ k, k < d.length → ∃ e, M0 ((BV g c).getD k []) (Ck g c) (d.getD k [], e)
theorem Qp {g : List Aq} {c : Int} (hl : (BF g c).length ≤ 1000000) : (BV g c).length ≤ 1000000 ∧ 0 < (BV g c).length := by
 unfold BV
 split
 ·simp
 ·rw [List.length_map]; omega
def WU (P : Pg) : Prop := ∀ x : List Aq × Int, inR x.1 x.2 → Vl x.1 → (BF x.1 x.2).length ≤ 1000000 → (∀ t ∈ BV x.1 x.2, Fk t) → Fk (Ck x.1 x.2) → Fn P AaN C7 x fun (d : List (List AE)) _ => Oc x.1 x.2 d
theorem AdS (h : Has P Gk) (hP : Iv P) (hT : OT P) : WU P := by
 rintro ⟨g, c⟩ hc hv hl ht hf
 dsimp only at hc hv hl ht hf
 refine Qv h ?_
 unfold LN
 refine (hP (g, c) hc hv hl).to ?_
 rintro (d : List (List AA)) _ hd
 have hd : d = BV g c := hd
 subst hd
 dsimp only
 have hc2 : c.toNat < g.length := by have := hc.1; have := hc.2; omega
 have htl := (Qp hl).1
 unfold Oc
 generalize BV g c = T at ht htl ⊢
 refine Ai.mid (fun d => d.length = T.length ∧ ∀ k, k < d.length → ∃ e, M0 (T.getD k []) (Ck g c) (d.getD k [], e)) ?_ fun _ h => h
 refine Bl.of (fun q => (0 ≤ q.2 ∧ q.2 ≤ T.length) ∧ q.1.length = q.2.toNat ∧ ∀ k, k < q.1.length → ∃ e, M0 (T.getD k []) (Ck g c) (q.1.getD k [], e)) (fun q => (T.length - q.2).toNat) ⟨⟨Int.le_refl _, by dsimp only; omega⟩, rfl, fun k hk => absurd hk (by simp)⟩ ?_
 rintro ⟨q, i⟩ ⟨⟨i0, i1⟩, hql, hq⟩
 dsimp only at i0 i1 hql hq ⊢
 refine ⟨fun hi => ?_, fun hi => ?_⟩
 ·have hi := of_decide_eq_true hi
  have hi2 : i.toNat < T.length := by omega
  refine Ai.mid (fun d => d.length = i.toNat + 1 ∧ ∀ k, k < d.length → ∃ e, M0 (T.getD k []) (Ck g c) (d.getD k [], e)) ⟨⟨i0, hi⟩, hi2, ⟨hc.1, hc.2⟩, hc2, (hT (T.getD i.toNat [], Ck g c) (ht _ (BK hi2)) hf).to ?_⟩ fun d hn => ?_
  ·rintro (d : List AE × Int) _ hd
   have hd : M0 (T.getD i.toNat []) (Ck g c) d := hd
   refine ⟨by simp only [List.length_cons, List.length_nil]; omega, ?_, fun k hk => ?_⟩
   ·rw [List.length_append, hql]; rfl
   ·rw [List.length_append, List.length_singleton] at hk
    by_cases hki : k < q.length
    ·obtain ⟨e, he⟩ := hq k hki
     refine ⟨e, ?_⟩
     rw [ZM hki]
     exact he
    ·have e1 : k = q.length := by omega
     refine ⟨d.2, ?_⟩
     rw [e1, ZN, hql]
     exact hd
  ·rw [w64 (by omega) (by omega)]
   exact ⟨⟨⟨by omega, by omega⟩, by rw [hn.1]; omega, hn.2⟩, by omega⟩
 ·have hi := of_decide_eq_false hi
  exact ⟨by omega, hq⟩
theorem RO : ∀ {g : List Aq}, HF g = 0 → ∀ c ∈ g, Ex c.2.2 = 0
 | [], _, c, hc => (nomatch hc)
 | x :: g, h, c, hc => by
  rw [HF] at h
  by_cases hx : Ex x.2.2 = 0
  ·rw [if_neg (by simpa using hx)] at h
   rcases List.mem_cons.1 hc with rfl | hc
   ·exact hx
   ·exact RO h c hc
  ·rw [if_pos hx] at h
   exact absurd h hx
theorem Zq {l : List AA} (h : Ex l = 0) : l.length ≤ 200 := by
 unfold Ex at h
 split at h
 ·cases h
 ·omega
theorem Ey {g : List Aq} (h0 : DF g 0) (hs : MR g) {c : Int} (hc : inR g c) : Ex (Ck g c) = 0 ∧ Fk (Ck g c) := by
 have hm := EM (g := g) (i := c.toNat) (by have := hc.1; have := hc.2; omega)
 have h1 := RO (Ep h0).2.2.2.2 _ hm
 refine ⟨h1, ?_, hs _ hm⟩
 have := Zq h1
 have : (Ck g c).length ≤ 200 := this
 omega
theorem GK {g : List Aq} (h0 : DF g 0) (hs : MR g) {c : Int} (hc : inR g c) : ∀ t ∈ BV g c, Ex t = 0 ∧ Fk t := by
 intro t ht
 unfold BV at ht
 split at ht
 ·have : t = [] := by simpa using ht
  subst this
  exact ⟨by decide, Nat.zero_le _, fun f hf => nomatch hf⟩
 ·obtain ⟨p, hp, rfl⟩ := List.mem_map.1 ht
  exact Ey h0 hs (Fq (Ep h0).2.1 c hc p hp)
def Ki (P : Pg) : Prop := ∀ x : List Aq × Int, MR x.1 → DF x.1 0 → inR x.1 x.2 → Fn P WR B7 x fun (d : List (List AE) × Int) _ => Oc x.1 x.2 d.1 ∧ d.2 = 0
theorem YG (h : Has P ES) (hC : FF P) (hO : WU P) : Ki P := by
 intro x hs h0 hc
 refine Nl h ?_
 unfold I8
 refine (hC x hs).to ?_
 rintro (d : Int) _ ⟨e, he, _, h1⟩
 have hd := (h1 (IE he h0)).1 hc
 subst hd
 refine ⟨fun hb => absurd hb (by simp), fun hb => ?_⟩
 have k := Ep h0
 refine (hO x hc (Fq k.2.1) (Mr k.1 _ hc) (fun t ht => (GK h0 hs hc t ht).2) (Ey h0 hs hc).2).to ?_
 rintro (d : List (List AE)) _ hd
 exact ⟨hd, rfl⟩
def OR (P : Pg) : Prop := ∀ x : List Aq × (Int × (Int × Bs)), MR x.1 → DF x.1 0 → inR x.1 x.2.1 → 0 ≤ x.2.2.1 → x.2.2.1 < (BV x.1 x.2.1).length → Fn P AaO CH x fun (d : Bs × (Bs × Int)) _ => d = ((findF ((BV x.1 x.2.1).getD x.2.2.1.toNat []) x.2.2.2).1, ((findF (Ck x.1 x.2.1) x.2.2.2).1, 0))
theorem Aaq (h : Has P E6) (hC : FF P) (hP : Iv P) (hF : Jm P) : OR P := by
 rintro ⟨g, c, p, w⟩ hs h0 hc hp0 hp1
 dsimp only at hs h0 hc hp0 hp1
 refine Oh h ?_
 unfold Jn
 dsimp only
 refine (hC (g, c) hs).to ?_
 rintro (d : Int) _ ⟨e, he, _, h1⟩
 have hd := (h1 (IE he h0)).1 hc
 subst hd
 refine ⟨fun hb => absurd hb (by simp), fun hb => ?_⟩
 have k := Ep h0
 refine (hP (g, c) hc (Fq k.2.1) (Mr k.1 _ hc)).to ?_
 rintro (d : List (List AA)) _ hd
 have hd : d = BV g c := hd
 subst hd
 have hp2 : p.toNat < (BV g c).length := by omega
 have hb2 := (Xp p (BV g c).length).2 ⟨hp0, hp1⟩
 refine ⟨fun hb => (by rw [hb2] at hb; cases hb), fun hb => ⟨⟨hp0, hp1⟩, hp2, ?_⟩⟩
 refine hF.at (GK h0 hs hc _ (BK hp2)).2.1 ⟨⟨hc.1, hc.2⟩, by have := hc.1; have := hc.2; omega, ?_⟩
 exact hF.at (Ey h0 hs hc).2.1 rfl
end Go.VS

/- Near: how long a changed text is, and how many lines it has. -/
set_option linter.unusedVariables false
set_option linter.unusedSimpArgs false
namespace Go.VS
variable {P : Pg}
theorem Nw : ∀ (s acc : Bs), s ≠ [] → (lnN acc s).flatten = acc ++ s
 | [], _, h => absurd rfl h
 | b :: r, acc, _ => by
  rw [lnN]
  split
  ·by_cases hr : r = []
   ·subst hr; simp [lnN]
   ·rw [List.flatten_cons, Nw r [] hr]; simp
  ·rename_i h
   have hr : r ≠ [] := fun e => h (Or.inr e)
   rw [Nw r (acc ++ [b]) hr]; simp
theorem Yh (s : Bs) : (lnF s).flatten = s := by
 by_cases h : s = []
 ·subst h; rfl
 ·exact Nw s [] h
theorem Ur (k : Int) : (N2 k).count 10 = 0 := by
 have hr := DV (a := k) (n := 10) (by decide) (by decide)
 unfold N2
 generalize FB k 10 = m at *
 have : m = 0 ∨ m = 1 ∨ m = 2 ∨ m = 3 ∨ m = 4 ∨ m = 5 ∨ m = 6 ∨ m = 7 ∨ m = 8 ∨ m = 9 := by omega
 rcases this with rfl | rfl | rfl | rfl | rfl | rfl | rfl | rfl | rfl | rfl <;> decide
def OQ (P : Pg) : Prop := ∀ x : Bs × (List Int × Int), x.1.length ≤ 4000 → (0 ≤ x.2.2 ∧ x.2.2 ≤ 1000000) → Fn P AaD Ej x fun (d : Bs) _ => d.length ≤ x.1.length + 4 * (x.1.count 10 + 1) ∧ d.count 10 ≤ 2 * x.1.count 10 + 1
theorem Aap (h : Has P Ir) (hA : KV P) (hL : LM P) (hN : Ld P) : OQ P := by
 rintro ⟨s, raw, fr⟩ hs ⟨f0, f1⟩
 dsimp only at hs f0 f1
 refine T2 h ?_
 unfold OW
 dsimp only
 refine (hN s (by omega)).to ?_
 rintro (l : List Bs) _ hl
 have hl : l = lnF s := hl
 have hlen : l.length ≤ s.count 10 + 1 := by
  have := Xj s
  rw [hl]
  split at this <;> omega
 have hlen2 : l.length ≤ s.length := by rw [hl]; exact OH s []
 have hfl : l.flatten = s := by rw [hl]; exact Yh s
 clear hl
 have hpre : ∀ k, k < l.length → (l.take (k + 1)).flatten = (l.take k).flatten ++ l.getD k [] := fun k hk => by
  rw [List.take_add_one, List.getElem?_eq_getElem hk, List.flatten_append, List.getD_eq_getElem?_getD, List.getElem?_eq_getElem hk]
  simp
 have hle : ∀ k, (l.take k).flatten.length ≤ s.length ∧ (l.take k).flatten.count 10 ≤ s.count 10 := fun k => by
  have : l.flatten = (l.take k).flatten ++ (l.drop k).flatten := by rw [← List.flatten_append, List.take_append_drop]
  rw [hfl] at this
  have h1 := congrArg List.length this
  have h2 := congrArg (List.count (10 : UInt8)) this
  rw [List.length_append] at h1
  rw [List.count_append] at h2
  omega
 rw [w64 (n := fr + 40) (by omega) (by omega)]
 refine Ai.mid (fun d => d.length ≤ s.length + 4 * (s.count 10 + 1) ∧ d.count 10 ≤ 2 * s.count 10 + 1) ?_ fun _ h => h
 refine Bl.of (fun q => (0 ≤ q.2 ∧ q.2 ≤ l.length) ∧ (q.1.length : Int) ≤ 4 * q.2 + ((l.take q.2.toNat).flatten.length : Nat) ∧ (q.1.count 10 : Int) ≤ q.2 + ((l.take q.2.toNat).flatten.count 10 : Nat)) (fun q => (l.length - q.2).toNat) ⟨⟨Int.le_refl _, Int.natCast_nonneg _⟩, by simp, by simp⟩ ?_
 rintro ⟨d, i⟩ ⟨⟨i0, i1⟩, hd, hc⟩
 dsimp only at i0 i1 hd hc ⊢
 have hti := hle i.toNat
 refine ⟨fun hi => ?_, fun hi => by have hi := of_decide_eq_false hi; omega⟩
 have hi := of_decide_eq_true hi
 have hi2 : i.toNat < l.length := by omega
 have hp := congrArg List.length (hpre i.toNat hi2)
 have hp2 := congrArg (List.count (10 : UInt8)) (hpre i.toNat hi2)
 rw [List.length_append] at hp
 rw [List.count_append] at hp2
 have htj := hle (i.toNat + 1)
 refine Ai.mid (fun d => (d.length : Int) ≤ 4 * (i + 1) + ((l.take (i.toNat + 1)).flatten.length : Nat) ∧ (d.count 10 : Int) ≤ i + 1 + ((l.take (i.toNat + 1)).flatten.count 10 : Nat)) ?_ fun d hd => ?_
 ·rw [w64 (n := fr + i) (by omega) (by omega), w64 (n := fr + 40 + i) (by omega) (by omega)]
  refine hA.at (by omega) ⟨by decide, ?_⟩
  refine Ai.mid (fun e => (e.length : Int) ≤ 4 * i + ((l.take i.toNat).flatten.length : Nat) + 4 ∧ (e.count 10 : Int) ≤ i + ((l.take i.toNat).flatten.count 10 : Nat) + 1) ⟨fun _ => by omega, fun _ => ?_⟩ fun e he => ?_
  ·refine Ai.mid (fun e => (e.length : Int) ≤ 4 * i + ((l.take i.toNat).flatten.length : Nat) + 4 ∧ (e.count 10 : Int) ≤ i + ((l.take i.toNat).flatten.count 10 : Nat) + 1) ⟨fun _ => ?_, fun _ => by omega⟩ fun _ h => h
   refine hA.at (by omega) ((hL _).to ?_)
   rintro (ln : Bs) _ hln
   have hln : ln = N2 _ := hln
   have hl1 := Nv (atF raw (fr + 40 + i))
   have hl2 := Ur (atF raw (fr + 40 + i))
   rw [← hln] at hl1 hl2
   refine ⟨by omega, by rw [List.length_append]; simp only [List.length_cons, List.length_nil]; omega, ?_⟩
   try dsimp only
   rw [List.length_append, List.length_append, List.count_append, List.count_append, hl2]
   simp only [List.length_cons, List.length_nil, List.count_singleton_self]
   omega
  ·refine ⟨⟨i0, hi⟩, hi2, by omega, ?_⟩
   try dsimp only
   rw [List.length_append, List.count_append]
   omega
 ·rw [w64 (by omega) (by omega), show (i + 1).toNat = i.toNat + 1 by omega]
  exact ⟨⟨⟨by omega, by omega⟩, hd.1, hd.2⟩, by omega⟩
end Go.VS

/- Trees made of raw numbers, and changed ones. -/
set_option linter.unusedVariables false
set_option linter.unusedSimpArgs false
namespace Go.VS
variable {P : Pg}
def O5 (B : Nat) (v : Bs) : Prop := v.count 10 + 1 ≤ B ∧ v.length + 4 ≤ 4 * B
def EH (B : Nat) (l : List AA) : Prop := (l.map (·.1)).Sublist Bu ∧ ∀ f ∈ l, O5 B f.2
theorem EH.mono {B C : Nat} {l : List AA} (h : EH B l) (hB : B ≤ C) : EH C l := ⟨h.1, fun f hf => by have := h.2 f hf; unfold O5 at *; omega⟩
theorem V7 : ∀ p ∈ Bu, EF p = 0 := by decide
theorem Rp : Bu.Pairwise fun p q => Op.bytesLess p q = true ∧ RX p q = false := by decide
theorem LG {B : Nat} {l : List AA} (h : EH B l) : l.length ≤ 4 := by
 have := h.1.length_le
 rw [List.length_map] at this
 exact this
theorem YR {B : Nat} {l : List AA} (h : EH B l) (hB : B ≤ 1000) : Ex l = 0 := by
 have hl := LG h
 have hp : l.all (fun f => EF f.1 == 0) = true := by
  rw [List.all_eq_true]
  intro f hf
  rw [V7 f.1 (h.1.subset (List.mem_map.2 ⟨f, hf, rfl⟩))]
  rfl
 have ho : PR l = true := by
  rw [UG]
  have hpw := Rp.sublist h.1
  rw [List.pairwise_map, List.pairwise_iff_getElem] at hpw
  intro i hi k hk
  have := hpw k i (by omega) hi hk
  unfold pth
  rw [List.getD_eq_getElem?_getD, List.getD_eq_getElem?_getD, List.getElem?_eq_getElem hi, List.getElem?_eq_getElem (Nat.lt_trans hk hi)]
  exact this
 have hc : l.all (fun f => Jg f.2 == 0) = true := by
  rw [List.all_eq_true]
  intro f hf
  have := (h.2 f hf).2
  rw [VO (by omega)]
  rfl
 unfold Ex
 rw [if_neg (by omega), if_neg (by rw [hp]; simp), if_neg (by rw [ho]; simp), if_neg (by rw [hc]; simp)]
theorem Yk : ∀ p ∈ Bu, p.length ≤ 3 := by decide
theorem Aax {B : Nat} {l : List AA} (h : EH B l) (hB : B ≤ 1000) : Fk l := ⟨by have := LG h; omega, fun f hf => by
 have h1 := Yk f.1 (h.1.subset (List.mem_map.2 ⟨f, hf, rfl⟩))
 have h2 := (h.2 f hf).2
 omega⟩
theorem Tw (raw : List Int) (fr kinds : Int) : ∀ k, (F5 raw fr kinds k).count 10 = k
 | 0 => rfl
 | k + 1 => by
  rw [F5, List.count_append, List.count_append, Tw raw fr kinds k, Ur]
  rfl
theorem Aa1 {raw : List Int} {fr mx kinds : Int} (h0 : 0 ≤ mx) (h1 : mx ≤ 100) : O5 (mx.toNat + 1) (LX raw fr mx kinds) := by
 have hr := DV (a := atF raw fr) (n := mx + 1) (by omega) (by omega)
 have h2 := H4 raw fr kinds (FB (atF raw fr) (mx + 1)).toNat
 have h3 := Tw raw fr kinds (FB (atF raw fr) (mx + 1)).toNat
 unfold LX O5
 split
 ·have h4 := (List.take_sublist ((F5 raw fr kinds (FB (atF raw fr) (mx + 1)).toNat).length - 1) (F5 raw fr kinds (FB (atF raw fr) (mx + 1)).toNat)).count_le (10 : UInt8)
  rw [List.length_take]
  omega
 ·omega
theorem OJ (p : Bs) (o : Option Bs) : (((o.map fun v => (p, v)).toList).map (·.1)).Sublist [p] := by cases o <;> simp
theorem TN {raw : List Int} {fr lines : Int} (h0 : 0 ≤ lines) (h1 : lines ≤ 100) : EH (lines.toNat + 1) (GY raw fr lines) := by
 refine ⟨?_, fun f hf => ?_⟩
 ·obtain ⟨a, b, c, d, _, hl⟩ := Vh (TO (raw := raw) (fr := fr) h0 h1)
  rw [hl, List.map_append, List.map_append, List.map_append]
  exact (OJ (Bu.getD 0 []) a).append ((OJ (Bu.getD 1 []) b).append ((OJ (Bu.getD 2 []) c).append (OJ (Bu.getD 3 []) d)))
 ·unfold GY Og at hf
  obtain ⟨i, _, hi⟩ := List.mem_filterMap.1 hf
  unfold X0 at hi
  split at hi
  ·have := Option.some.inj hi
   rw [← this]
   exact Aa1 h0 h1
  ·cases hi
theorem Uu {l : List AA} {i : Nat} (h : i < l.length) : (l.take (i + 1)).map (·.1) = (l.take i).map (·.1) ++ [(l.getD i ([], [])).1] := by
 rw [Ke (d := ([], [])) h, List.map_append]
 rfl
def Tk (B : Nat) (l : List AA) (i : Nat) (d : List AA) : Prop := (d.map (·.1)).Sublist ((l.take i).map (·.1)) ∧ ∀ f ∈ d, O5 B f.2
theorem XU {B : Nat} {l d : List AA} {i : Nat} (h : Tk B l i d) (hi : i < l.length) : Tk B l (i + 1) d := ⟨by rw [Uu hi]; exact h.1.trans (List.sublist_append_left _ _), h.2⟩
theorem Zo {B : Nat} {l d : List AA} {i : Nat} {v : Bs} (h : Tk B l i d) (hi : i < l.length) (hv : O5 B v) : Tk B l (i + 1) (d ++ [((l.getD i ([], [])).1, v)]) := by
 refine ⟨?_, fun f hf => ?_⟩
 ·rw [Uu hi, List.map_append]
  exact h.1.append (List.Sublist.refl _)
 ·rcases List.mem_append.1 hf with hf | hf
  ·exact h.2 f hf
  ·rw [List.mem_singleton.1 hf]
   exact hv
theorem Zp {B : Nat} {l d : List AA} {i : Nat} (h : Tk B l i d) (hl : l.length ≤ 4) : d.length ≤ 4 := by
 have := h.1.length_le
 rw [List.length_map, List.length_map, List.length_take] at this
 omega
def M3 (P : Pg) : Prop := ∀ (B : Nat) (x : List AA × (List Int × (Int × Int))), EH B x.1 → x.2.2.2.toNat + 1 ≤ B → B ≤ 900 → (0 ≤ x.2.2.1 ∧ x.2.2.1 ≤ 90000) → (0 ≤ x.2.2.2 ∧ x.2.2.2 ≤ 100) → Fn P AaE Du x fun (d : List AA) _ => EH (2 * B) d
theorem YF (h : Has P Gp) (hA : KV P) (hM : Iu P) (hN : OQ P) (hF : HY P) : M3 P := by
 rintro B ⟨l, raw, fr, lines⟩ hl hB hB2 ⟨f0, f1⟩ ⟨l0, l1⟩
 dsimp only at hl hB f0 f1 l0 l1
 have hl4 := LG hl
 refine Qz h ?_
 unfold LR
 dsimp only
 rw [w64 (n := fr + 3) (by omega) (by omega), w64 (n := fr + 5) (by omega) (by omega), w64 (n := fr + 7) (by omega) (by omega)]
 refine hA.at (by omega) (hM.at (by decide) (by decide) ?_)
 generalize FB (atF raw (fr + 3)) 4 = k
 refine Ai.mid (fun d => Tk (2 * B) l l.length d) ?_ fun d hd => ⟨fun _ => ?_, fun _ => ?_⟩
 ·refine Bl.of (fun q => (0 ≤ q.2 ∧ q.2 ≤ l.length) ∧ Tk (2 * B) l q.2.toNat q.1) (fun q => (l.length - q.2).toNat) ⟨⟨Int.le_refl _, Int.natCast_nonneg _⟩, by exact ⟨by simp, fun f hf => nomatch hf⟩⟩ ?_
  rintro ⟨d, i⟩ ⟨⟨i0, i1⟩, hd⟩
  dsimp only at i0 i1 hd ⊢
  refine ⟨fun hi => ?_, fun hi => by have hi := of_decide_eq_false hi; rw [show i.toNat = l.length by omega] at hd; exact hd⟩
  have hi := of_decide_eq_true hi
  have hi2 : i.toNat < l.length := by omega
  have hb := hl.2 _ (BK (d := ([], [])) hi2)
  have hb0 := hb
  unfold O5 at hb0
  have hdl := Zp hd hl4
  refine Ai.mid (fun d => Tk (2 * B) l (i.toNat + 1) d) ⟨⟨i0, hi⟩, hi2, ?_⟩ fun d hn => ?_
  ·refine Ai.mid (fun f => f.1 = (l.getD i.toNat ([], [])).1 ∧ O5 (2 * B) f.2) ⟨fun _ => ?_, fun _ => ⟨rfl, by unfold O5; omega⟩⟩ fun f hf => ⟨by simp only [List.length_cons, List.length_nil]; omega, ?_⟩
   ·refine (hN ((l.getD i.toNat ([], [])).2, (raw, fr + 7)) (by dsimp only; omega) ⟨by dsimp only; omega, by dsimp only; omega⟩).to ?_
    rintro (v : Bs) _ hv
    have hv : v.length ≤ (l.getD i.toNat ([], [])).2.length + 4 * ((l.getD i.toNat ([], [])).2.count 10 + 1) ∧ v.count 10 ≤ 2 * (l.getD i.toNat ([], [])).2.count 10 + 1 := hv
    have hvb : O5 (2 * B) v := by unfold O5; omega
    exact hA.at (by omega) ⟨by decide, fun _ => XU hd hi2, fun _ => ⟨rfl, hvb⟩⟩
   ·obtain ⟨a, b⟩ := f
    have e : a = (l.getD i.toNat ([], [])).1 := hf.1
    subst e
    exact Zo hd hi2 hf.2
  ·rw [w64 (by omega) (by omega)]
   exact ⟨⟨⟨by omega, by omega⟩, by rw [show (i + 1).toNat = i.toNat + 1 by omega]; exact hn⟩, by omega⟩
 ·refine (hF (raw, (fr, lines)) ⟨by dsimp only; omega, by dsimp only; omega⟩ ⟨l0, l1⟩).to ?_
  rintro (e : List AA) _ he
  have he : e = GY raw fr lines := he
  rw [he]
  exact (TN l0 l1).mono (by omega)
 ·refine ⟨?_, hd.2⟩
  have := hd.1
  rw [List.take_length] at this
  exact this.trans hl.1
end Go.VS

/- Graphs made of raw numbers: commits after their parents, and turned ones. -/
set_option linter.unusedVariables false
set_option linter.unusedSimpArgs false
namespace Go.VS
variable {P : Pg}
def HX (i : Int) (l : List Int) : Prop := l.length ≤ 3 ∧ l.Nodup ∧ ∀ p ∈ l, 0 ≤ p ∧ p < i
def OkC (B : Nat) (i : Nat) (c : Aq) : Prop := HX (i : Int) c.1 ∧ (0 ≤ c.2.1 ∧ c.2.1 < 5) ∧ EH (B * 2 ^ i) c.2.2
def GU (B : Nat) (g : List Aq) : Prop := ∀ j, j < g.length → OkC B j (g.getD j ([], (0, [])))
theorem HX.mono {i k : Int} {l : List Int} (h : HX i l) (hk : i ≤ k) : HX k l := ⟨h.1, h.2.1, fun p hp => by have := h.2.2 p hp; omega⟩
theorem HX.app {i : Int} {l : List Int} (h : HX i l) (h0 : 0 ≤ i) (hl : l.length < 3) : HX (i + 1) (l ++ [i]) := by
 refine ⟨by rw [List.length_append]; simp only [List.length_cons, List.length_nil]; omega, ?_, fun p hp => ?_⟩
 ·rw [List.nodup_append]
  refine ⟨h.2.1, by simp, fun a ha b hb => ?_⟩
  rw [List.mem_singleton.1 hb]
  have := h.2.2 a ha
  omega
 ·rcases List.mem_append.1 hp with hp | hp
  ·have := h.2.2 p hp
   omega
  ·rw [List.mem_singleton.1 hp]
   omega
theorem GU.app {B : Nat} {g : List Aq} {c : Aq} (h : GU B g) (hc : OkC B g.length c) : GU B (g ++ [c]) := by
 intro j hj
 rw [List.length_append, List.length_singleton] at hj
 by_cases hjg : j < g.length
 ·rw [ZM hjg]; exact h j hjg
 ·have e : j = g.length := by omega
  subst e
  rw [ZN]; exact hc
theorem Z5 {B i : Nat} (hB : B ≤ 3) (hi : i ≤ 8) : B * 2 ^ i ≤ 768 := Nat.mul_le_mul hB (Nat.pow_le_pow_right (by decide) hi : 2 ^ i ≤ 2 ^ 8)
theorem AcS {B i p : Nat} (h : p < i) : 2 * (B * 2 ^ p) ≤ B * 2 ^ i := by
 have h1 : 2 ^ (p + 1) ≤ 2 ^ i := Nat.pow_le_pow_right (by decide) h
 have h2 : 2 * (B * 2 ^ p) = B * 2 ^ (p + 1) := by rw [Nat.pow_succ, Nat.mul_comm 2, Nat.mul_assoc]
 rw [h2]
 exact Nat.mul_le_mul_left _ h1
theorem pow_one (B i : Nat) : B ≤ B * 2 ^ i := Nat.le_mul_of_pos_right _ (Nat.pow_pos (by decide))
theorem Sc {a b : Bool} (h : (cond a b false) = true) : a = true ∧ b = true := by cases a <;> simp_all
def Qr (n : Nat) (c : Aq) : Aq := (c.1.map fun p => (n : Int) - 1 - p, c.2)
def YZ (g d : List Aq) : Prop := d = g ∨ (d.length = g.length ∧ ∀ c, c < g.length → d.getD (g.length - 1 - c) ([], (0, [])) = Qr g.length (g.getD c ([], (0, []))))
theorem T9 {α : Type} {l : List α} {i : Nat} {v d : α} (h : i < l.length) : (l.set i v).getD i d = v := by
 rw [List.getD_eq_getElem?_getD, List.getElem?_set_self h]
 rfl
theorem getD_set_ne {α : Type} {l : List α} {i j : Nat} {v d : α} (h : i ≠ j) : (l.set i v).getD j d = l.getD j d := by
 rw [List.getD_eq_getElem?_getD, List.getElem?_set_ne h, ← List.getD_eq_getElem?_getD]
def M6 (P : Pg) : Prop := ∀ x : List Aq × List Int, x.1.length ≤ 1000 → (∀ j, j < x.1.length → (x.1.getD j ([], (0, []))).1.length ≤ 1000 ∧ ∀ p ∈ (x.1.getD j ([], (0, []))).1, 0 ≤ p ∧ p < (x.1.length : Int)) → Fn P AaF Dt x fun (d : List Aq) _ => YZ x.1 d
theorem YJ (h : Has P Gn) (hA : KV P) : M6 P := by
 rintro ⟨g, raw⟩ hg hp
 dsimp only at hg hp
 refine Qy h ?_
 unfold LQ
 dsimp only
 refine hA.at (by decide) ⟨by decide, fun _ => Or.inl rfl, fun _ => ⟨⟨by omega, by omega, by omega⟩, ?_⟩⟩
 refine Ai.mid (fun d => d.length = g.length ∧ ∀ c, c < g.length → d.getD (g.length - 1 - c) ([], (0, [])) = Qr g.length (g.getD c ([], (0, [])))) ?_ fun _ h => Or.inr h
 refine Bl.of (fun q => (0 ≤ q.2 ∧ q.2 ≤ g.length) ∧ q.1.length = g.length ∧ ∀ c, c < q.2.toNat → q.1.getD (g.length - 1 - c) ([], (0, [])) = Qr g.length (g.getD c ([], (0, [])))) (fun q => (g.length - q.2).toNat) ⟨⟨Int.le_refl _, Int.natCast_nonneg _⟩, by simp, fun c hc => absurd hc (by simp)⟩ ?_
 rintro ⟨d, i⟩ ⟨⟨i0, i1⟩, hdl, hd⟩
 dsimp only at i0 i1 hdl hd ⊢
 refine ⟨fun hi => ?_, fun hi => by have hi := of_decide_eq_false hi; exact ⟨hdl, fun c hc => hd c (by omega)⟩⟩
 have hi := of_decide_eq_true hi
 have hi2 : i.toNat < g.length := by omega
 obtain ⟨hpl, hpp⟩ := hp i.toNat hi2
 refine Ai.mid (fun d => d.length = g.length ∧ ∀ c, c < i.toNat + 1 → d.getD (g.length - 1 - c) ([], (0, [])) = Qr g.length (g.getD c ([], (0, [])))) ⟨⟨i0, hi⟩, hi2, ?_⟩ fun d2 hn => ?_
 ·have ez : g.getD i.toNat Ak = g.getD i.toNat ([], (0, [])) := rfl
  rw [ez]
  refine Ai.mid (fun y => y = Qr g.length (g.getD i.toNat ([], (0, [])))) ?_ fun y hy => ?_
  ·generalize g.getD i.toNat ([], (0, [])) = cm at hpl hpp ⊢
   obtain ⟨l, r⟩ := cm
   dsimp only at hpl hpp ⊢
   refine Bl.of (fun q => (0 ≤ q.1 ∧ q.1 ≤ l.length) ∧ q.2 = ((l.take q.1.toNat).map (fun p => (g.length : Int) - 1 - p), r)) (fun q => (l.length - q.1).toNat) ⟨⟨Int.le_refl _, Int.natCast_nonneg _⟩, rfl⟩ ?_
   rintro ⟨k, x⟩ ⟨⟨k0, k1⟩, hx⟩
   dsimp only at k0 k1 hx ⊢
   subst hx
   refine ⟨⟨i0, hi⟩, hi2, fun hk => ?_, fun hk => ?_⟩
   ·have hk := of_decide_eq_true hk
    have hk2 : k.toNat < l.length := by omega
    have hb := hpp _ (BK (d := 0) hk2)
    have hnx : (l.take (k.toNat + 1)).map (fun p => (g.length : Int) - 1 - p) = (l.take k.toNat).map (fun p => (g.length : Int) - 1 - p) ++ [(g.length : Int) - 1 - l.getD k.toNat 0] := by
     rw [Ke (d := 0) hk2, List.map_append]
     rfl
    have hsz : (((l.take k.toNat).map (fun p => (g.length : Int) - 1 - p)).length + ([(g.length : Int) - 1 - l.getD k.toNat 0] : List Int).length) * 8 ≤ 140737488355328 := by
     rw [List.length_map, List.length_take]
     simp only [List.length_cons, List.length_nil]
     omega
    rw [w64 (n := (g.length : Int) - 1) (by omega) (by omega), w64 (n := (g.length : Int) - 1 - l.getD k.toNat 0) (by omega) (by omega)]
    refine Ai.mid (fun y => y = ((l.take (k.toNat + 1)).map (fun p => (g.length : Int) - 1 - p), r)) ?_ fun y hy => ?_
    ·refine Ai.mid (fun y => y = ((l.take (k.toNat + 1)).map (fun p => (g.length : Int) - 1 - p), r)) ?_ fun y hy => hy
     have hj : (((l.take k.toNat).map (fun p => (g.length : Int) - 1 - p) ++ ([(g.length : Int) - 1 - l.getD k.toNat 0] : List Int), r) : Aq) = ((l.take (k.toNat + 1)).map (fun p => (g.length : Int) - 1 - p), r) := by rw [hnx]
     exact ⟨⟨i0, hi⟩, hi2, ⟨k0, hk⟩, hk2, ⟨⟨⟨hsz, hj, trivial⟩, trivial⟩, trivial⟩, ⟨⟨hsz, hj, trivial⟩, trivial⟩, trivial⟩
    ·subst hy
     rw [w64 (by omega) (by omega)]
     exact ⟨⟨⟨by omega, by omega⟩, by rw [show (k + 1).toNat = k.toNat + 1 by omega]⟩, by omega⟩
   ·have hk := of_decide_eq_false hk
    show ((l.take k.toNat).map _, r) = Qr g.length (l, r)
    rw [List.take_of_length_le (by omega)]
    rfl
  ·rw [w64 (n := (g.length : Int) - 1) (by omega) (by omega), w64 (n := (g.length : Int) - 1 - i) (by omega) (by omega)]
   have e : ((g.length : Int) - 1 - i).toNat = g.length - 1 - i.toNat := by omega
   rw [e]
   refine ⟨⟨by omega, by omega⟩, by omega, ?_, fun c hc => ?_⟩
   ·rw [List.length_set]; exact hdl
   ·by_cases hci : c = i.toNat
    ·subst hci
     rw [T9 (by omega)]
     exact hy
    ·rw [getD_set_ne (by omega)]
     exact hd c (by omega)
 ·rw [w64 (by omega) (by omega)]
  exact ⟨⟨⟨by omega, by omega⟩, hn.1, by rw [show (i + 1).toNat = i.toNat + 1 by omega]; exact hn.2⟩, by omega⟩
end Go.VS

/- Graphs made of raw numbers are valid. -/
set_option linter.unusedVariables false
set_option linter.unusedSimpArgs false
namespace Go.VS
variable {P : Pg}
theorem Z9 {g : List Aq} (hv : Vl g) (f : Int → Int) (h : ∀ c, inR g c → ∀ p ∈ BF g c, f p < f c) {a b : Int} (hr : Rch g a b) : inR g a → f b ≤ f a := by
 induction hr with
 | refl c => exact fun _ => Int.le_refl _
 | step hm t ih =>
  intro ha
  have h1 := h _ ha _ hm
  have h2 := ih (hv _ ha _ hm)
  omega
theorem AcO {g : List Aq} (hv : Vl g) (f : Int → Int) (h : ∀ c, inR g c → ∀ p ∈ BF g c, f p < f c) : ¬L8 g := by
 rintro ⟨c, hc, p, hp, hr⟩
 have h1 := h c hc p hp
 have h2 := Z9 hv f h hr (hv c hc p hp)
 omega
theorem AbI {n : Nat} {l : List Int} (hn : l.Nodup) (h : ∀ p ∈ l, 0 ≤ p ∧ p < (n : Int)) : UZ n l := by
 intro j hj
 refine ⟨h _ (BK hj), fun hm => ?_⟩
 obtain ⟨i, hi⟩ := List.getElem?_of_mem hm
 have hi2 : i < (l.take j).length := (List.getElem?_eq_some_iff.1 hi).1
 rw [List.length_take] at hi2
 rw [List.getElem?_take_of_lt (by omega), List.getElem?_eq_getElem (by omega), List.getD_eq_getElem?_getD, List.getElem?_eq_getElem hj, Option.getD_some] at hi
 rw [List.nodup_iff_pairwise_ne, List.pairwise_iff_getElem] at hn
 exact hn i j (by omega) hj (by omega) (Option.some.inj hi)
def YX (n : Nat) (g : List Aq) : Prop := g.length ≤ n ∧ DF g 0 ∧ MR g ∧ ∀ c ∈ g, EH 768 c.2.2 ∧ c.1.length ≤ 3
theorem Qo : ∀ {g : List Aq}, (∀ c ∈ g, Ex c.2.2 = 0) → HF g = 0
 | [], _ => rfl
 | c :: g, h => by
  rw [HF, if_neg (by simpa using h c (List.mem_cons_self ..))]
  exact Qo fun x hx => h x (List.mem_cons_of_mem _ hx)
theorem Xb {n : Nat} {g : List Aq} (hn : g.length ≤ n) (hn2 : n ≤ 9) (f : Int → Int) (h : ∀ j, j < g.length → (g.getD j ([], (0, []))).1.length ≤ 3 ∧ (g.getD j ([], (0, []))).1.Nodup ∧ (∀ p ∈ (g.getD j ([], (0, []))).1, (0 ≤ p ∧ p < (g.length : Int)) ∧ f p < f j) ∧ (0 ≤ (g.getD j ([], (0, []))).2.1 ∧ (g.getD j ([], (0, []))).2.1 < 5) ∧ EH 768 (g.getD j ([], (0, []))).2.2) : YX n g := by
 have hT : ∀ c ∈ g, EH 768 c.2.2 ∧ c.1.length ≤ 3 := El (d := ([], (0, []))) fun j hj => ⟨(h j hj).2.2.2.2, (h j hj).1⟩
 have hrel : HN g := El (d := ([], (0, []))) (p := fun c => UZ g.length c.1) fun j hj => AbI (h j hj).2.1 fun p hp => ((h j hj).2.2.1 p hp).1
 have hv := Fq hrel
 refine ⟨hn, SB ⟨by omega, fun c hc => Nat.le_trans (hT c hc).2 (by decide)⟩ hrel (AcO hv f fun c hc p hp => ?_) (El (d := ([], (0, []))) (p := fun c => 0 ≤ c.2.1 ∧ c.2.1 ≤ 2147483647) fun j hj => by have := (h j hj).2.2.2.1; omega) (Qo fun c hc => YR (hT c hc).1 (by decide)).symm, fun c hc => (Aax (hT c hc).1 (by decide)).2, hT⟩
 have h0 := hc.1
 have h1 := hc.2
 have := ((h c.toNat (by omega)).2.2.1 p hp).2
 rw [show ((c.toNat : Nat) : Int) = c by omega] at this
 exact this
theorem Ady {B n : Nat} {g : List Aq} (hB : B ≤ 3) (hn : g.length ≤ n) (hn2 : n ≤ 9) (h : GU B g) : YX n g := Xb hn hn2 (fun x => x) fun j hj => by
 obtain ⟨⟨h1, h2, h3⟩, h4, h5⟩ := h j hj
 exact ⟨h1, h2, fun p hp => ⟨by have := h3 p hp; omega, (h3 p hp).2⟩, h4, h5.mono (Z5 hB (by omega))⟩
theorem Ym {α β : Type} {f : α → β} (hf : ∀ a b, f a = f b → a = b) {l : List α} (h : l.Nodup) : (l.map f).Nodup := by
 rw [List.nodup_iff_pairwise_ne] at *
 rw [List.pairwise_map]
 exact h.imp fun hne e => hne (hf _ _ e)
theorem AbW {B n : Nat} {g d : List Aq} (hB : B ≤ 3) (hn : g.length ≤ n) (hn2 : n ≤ 9) (h : GU B g) (ht : YZ g d) : YX n d := by
 rcases ht with rfl | ⟨hl, ht⟩
 ·exact Ady hB hn hn2 h
 ·refine Xb (by omega) hn2 (fun x => -x) fun j hj => ?_
  have e := ht (g.length - 1 - j) (by omega)
  rw [show g.length - 1 - (g.length - 1 - j) = j by omega] at e
  rw [e]
  obtain ⟨⟨h1, h2, h3⟩, h4, h5⟩ := h (g.length - 1 - j) (by omega)
  refine ⟨by unfold Qr; rw [List.length_map]; exact h1, Ym (fun a b e => by omega) h2, fun p hp => ?_, h4, h5.mono (Z5 hB (by omega))⟩
  obtain ⟨q, hq, rfl⟩ := List.mem_map.1 hp
  have := h3 q hq
  omega
def OP (P : Pg) : Prop := ∀ x : List Int × (Int × Int), (0 ≤ x.2.1 ∧ x.2.1 ≤ 9) → (0 ≤ x.2.2 ∧ x.2.2 ≤ 2) → Fn P AaG DQ x fun (d : List Aq) _ => YX x.2.1.toNat d
theorem Aan (h : Has P Hu) (hA : KV P) (hM : Iu P) (hF : HY P) (hC : M3 P) (hT : M6 P) : OP P := by
 rintro ⟨raw, n, lines⟩ ⟨n0, n1⟩ ⟨l0, l1⟩
 dsimp only at n0 n1 l0 l1
 refine Sj h ?_
 unfold NL
 dsimp only
 rw [w64 (n := n + 1) (by omega) (by omega)]
 refine hA.at (by decide) (hM.at (by omega) (by omega) ?_)
 have hr := DV (a := atF raw 0) (n := n + 1) (by omega) (by omega)
 generalize FB (atF raw 0) (n + 1) = m at hr ⊢
 have hB : lines.toNat + 1 ≤ 3 := by omega
 refine Ai.mid (fun g => g.length = m.toNat ∧ GU (lines.toNat + 1) g) ?_ fun g hg => ?_
 ·refine Bl.of (fun q => (0 ≤ q.2 ∧ q.2 ≤ m) ∧ q.1.length = q.2.toNat ∧ GU (lines.toNat + 1) q.1) (fun q => (m - q.2).toNat) ⟨⟨Int.le_refl _, hr.1⟩, rfl, fun j hj => absurd hj (by simp)⟩ ?_
  rintro ⟨g, i⟩ ⟨⟨i0, i1⟩, hgl, hg⟩
  dsimp only at i0 i1 hgl hg ⊢
  refine ⟨fun hi => ?_, fun hi => by have hi := of_decide_eq_false hi; exact ⟨by omega, hg⟩⟩
  have hi := of_decide_eq_true hi
  refine Ai.mid (fun g => g.length = i.toNat + 1 ∧ GU (lines.toNat + 1) g) ?_ fun g2 hn => ?_
  ·rw [w64 (n := 1000 + i) (by omega) (by omega), w64 (n := 40 * i) (by omega) (by omega), w64 (n := 1100 + 40 * i) (by omega) (by omega), w64 (n := 1500 + i) (by omega) (by omega), w64 (n := 200 * i) (by omega) (by omega), w64 (n := 2000 + 200 * i) (by omega) (by omega), w64 (n := 1600 + i) (by omega) (by omega), w64 (n := i - 1) (by omega) (by omega)]
   refine hA.at (by omega) (hM.at (by decide) (by decide) ?_)
   have hdr := DV (a := atF raw (1000 + i)) (n := 5) (by decide) (by decide)
   generalize FB (atF raw (1000 + i)) 5 = dt at hdr ⊢
   refine Ai.mid (fun x => HX i x.1 ∧ x.2 = (dt, [])) ?_ fun x hx => ?_
   ·refine Bl.of (fun q => (0 ≤ q.1 ∧ q.1 ≤ i) ∧ HX q.1 q.2.1 ∧ q.2.2 = (dt, [])) (fun q => (i - q.1).toNat) ⟨⟨Int.le_refl _, i0⟩, ⟨Nat.zero_le _, List.nodup_nil, fun p hp => nomatch hp⟩, rfl⟩ ?_
    rintro ⟨p, ⟨l, r⟩⟩ ⟨⟨p0, p1⟩, hl, hrr⟩
    dsimp only at p0 p1 hl hrr ⊢
    refine ⟨fun hp => ?_, fun hp => by have hp := of_decide_eq_false hp; exact ⟨hl.mono (by omega), hrr⟩⟩
    have hp := of_decide_eq_true hp
    refine Ai.mid (fun x => HX (p + 1) x.1 ∧ x.2 = (dt, [])) ?_ fun x hx => ?_
    ·rw [w64 (n := 1100 + 40 * i + p) (by omega) (by omega)]
     refine hA.at (by omega) ⟨by decide, ?_⟩
     refine Ai.mid (fun x => HX (p + 1) x.1 ∧ x.2 = (dt, [])) ⟨fun hb => ?_, fun _ => ⟨hl.mono (by omega), hrr⟩⟩ fun _ h => h
     have hb2 := of_decide_eq_true (Sc hb).2
     exact ⟨by simp only [List.length_cons, List.length_nil]; omega, hl.app p0 (by omega), hrr⟩
    ·rw [w64 (by omega) (by omega)]
     exact ⟨⟨⟨by omega, by omega⟩, hx.1, hx.2⟩, by omega⟩
   ·refine Ai.mid (fun _ => True) ⟨fun _ => hA.at (by omega) trivial, fun _ => trivial, trivial⟩ fun d27 _ => ⟨fun _ => by decide, ?_⟩
    refine Ai.mid (fun y => HX i y.1 ∧ y.2 = (dt, [])) ⟨fun hb => ?_, fun _ => hx⟩ fun y hy => ?_
    ·have hi0 := of_decide_eq_true (Sc (Sc hb).1).2
     exact ⟨⟨Nat.succ_le_succ (Nat.zero_le _), by simp, fun p hp => by rw [List.mem_singleton.1 hp]; omega⟩, hx.2⟩
    ·obtain ⟨hy1, hy2⟩ := hy
     refine (hF (raw, (2000 + 200 * i, lines)) ⟨by dsimp only; omega, by dsimp only; omega⟩ ⟨l0, by dsimp only; omega⟩).to ?_
     rintro (fl : List AA) _ hfl
     have hfl : fl = GY raw (2000 + 200 * i) lines := hfl
     have hfs : EH (lines.toNat + 1) fl := by rw [hfl]; exact TN l0 (by omega)
     refine Ai.mid (fun _ => True) ⟨fun _ => hA.at (by omega) trivial, fun _ => trivial, trivial⟩ fun d34 _ => ⟨fun _ => by decide, ?_⟩
     have hii : ((i.toNat : Nat) : Int) = i := by omega
     have hy1' : HX ((i.toNat : Nat) : Int) y.1 := by rw [hii]; exact hy1
     have hdt : 0 ≤ y.2.1 ∧ y.2.1 < 5 := by rw [hy2]; exact hdr
     refine Ai.mid (fun z => OkC (lines.toNat + 1) i.toNat z) ⟨fun hb => ?_, fun _ => ?_⟩ fun z hz => ⟨by simp only [List.length_cons, List.length_nil]; omega, ?_, hg.app (by rw [hgl]; exact hz)⟩
     ·have hpos := of_decide_eq_true (Sc hb).1
      have hpos2 : 0 < y.1.length := by omega
      have hp := hy1.2.2 _ (BK (d := 0) hpos2)
      refine ⟨⟨by decide, by omega⟩, hpos2, ⟨hp.1, by rw [hgl]; exact (show y.1.getD 0 0 < ((i.toNat : Nat) : Int) by rw [hii]; exact hp.2)⟩, by have := hp.1; have := hp.2; show (y.1.getD 0 0).toNat < g.length; omega, ?_⟩
      have hpn : (y.1.getD 0 0).toNat < i.toNat := by omega
      have hog := hg (y.1.getD 0 0).toNat (by omega)
      have hpb := Z5 (B := lines.toNat + 1) (i := (y.1.getD 0 0).toNat) hB (by omega)
      have hpo := pow_one (lines.toNat + 1) (y.1.getD 0 0).toNat
      have hup := AcS (B := lines.toNat + 1) hpn
      refine (hC ((lines.toNat + 1) * 2 ^ (y.1.getD 0 0).toNat) ((g.getD (y.1.getD 0 0).toNat ([], (0, []))).2.2, (raw, (2000 + 200 * i, lines))) hog.2.2 hpo (by omega) ⟨by dsimp only; omega, by dsimp only; omega⟩ ⟨l0, by dsimp only; omega⟩).to ?_
      rintro (fl2 : List AA) _ hfl2
      exact ⟨hy1', hdt, EH.mono hfl2 hup⟩
     ·exact ⟨hy1', hdt, hfs.mono (pow_one _ _)⟩
     ·rw [List.length_append, hgl]; rfl
  ·rw [w64 (by omega) (by omega)]
   exact ⟨⟨⟨by omega, by omega⟩, by rw [hn.1]; omega, hn.2⟩, by omega⟩
 ·refine (hT (g, raw) (by dsimp only; omega) fun j hj => ?_).to ?_
  ·have := (hg.2 j hj).1
   exact ⟨Nat.le_trans this.1 (by decide), fun p hp => by have h3 := this.2.2 p hp; have hj : j < g.length := hj; dsimp only; omega⟩
  ·rintro (d : List Aq) _ hd
   exact AbW hB (by omega) (by omega) hg.2 hd
end Go.VS

/- The document's performing of differences. -/
set_option linter.unusedVariables false
set_option linter.unusedSimpArgs false
namespace Go.VS
variable {P : Pg}
theorem TP {l : List AA} (h : JK l) (p : Bs) : findF l p = ((AQ l p).getD [], (AQ l p).isSome) := by
 rw [Q4 h.ne]
 cases AQ l p <;> rfl
theorem Tx : ∀ {l : List AA} {p v : Bs}, AQ l p = some v → (p, v) ∈ l
 | [], _, _, h => nomatch h
 | f :: r, p, v, h => by
  rw [AQ] at h
  cases hb : AQ r p with
  | some u =>
   rw [hb] at h
   cases h
   exact List.mem_cons_of_mem _ (Tx hb)
  | none =>
   rw [hb] at h
   dsimp only at h
   split at h
   ·rename_i e
    cases h
    rw [e]
    exact List.mem_cons_self ..
   ·cases h
theorem WY {l : List AA} (h : Ex l = 0) : l.length ≤ 200 := by
 unfold Ex at h
 split at h
 ·cases h
 ·omega
end Go.VS

/- TreeApplies. -/
set_option linter.unusedVariables false
set_option linter.unusedSimpArgs false
namespace Go.VS
variable {P : Pg}
theorem Mn {a b : List AA} {d : List AE} (h : Gb a b d) {t : AE} (ht : t ∈ d) : (∃ f ∈ a, f.1 = t.1) ∨ ∃ f ∈ b, f.1 = t.1 := by
 have h1 := (h.2 t.1 t.2).1 ht
 unfold Mo at h1
 cases h2 : AQ a t.1 with
 | some v => exact .inl ((D8 a t.1).1 (by rw [h2]; rfl))
 | none =>
  cases h3 : AQ b t.1 with
  | some v => exact .inr ((D8 b t.1).1 (by rw [h3]; rfl))
  | none => rw [h2, h3] at h1; cases h1
end Go.VS

/- TreeRestores. -/
set_option linter.unusedVariables false
set_option linter.unusedSimpArgs false
namespace Go.VS
variable {P : Pg}
theorem R9 {a b : List AA} (ha : Ex a = 0) (hb : Ex b = 0) : Gj a b = 0 := by
 unfold Gj
 rw [if_neg (by simpa using ha)]
 exact hb
end Go.VS

/- changes: what both the program and the document answer. -/
set_option linter.unusedVariables false
set_option linter.unusedSimpArgs false
namespace Go.VS
variable {P : Pg}
theorem Yn {g : List Aq} {c : Int} (h0 : DF g 0) (hs : MR g) (hc : inR g c) {l m : List (List AE)} (hl : Oc g c l) (hm : Oc g c m) : l = m := by
 have hlen : l.length = m.length := hl.1.trans hm.1.symm
 refine List.ext_getElem hlen fun k h1 h2 => ?_
 have hkT : k < (BV g c).length := by rw [← hl.1]; exact h1
 have hT := GK h0 hs hc _ (BK (d := []) hkT)
 have hF := Ey h0 hs hc
 have hb : Gj ((BV g c).getD k []) (Ck g c) = 0 := R9 hT.1 hF.1
 obtain ⟨e1, d1⟩ := hl.2 k h1
 obtain ⟨e2, d2⟩ := hm.2 k h2
 have i1 := d1.2.2 (d1.1.trans hb)
 have i2 := d2.2.2 (d2.1.trans hb)
 have := N0 i1 i2
 dsimp only at this
 rw [getD_eq h1, getD_eq h2] at this
 exact this
end Go.VS
