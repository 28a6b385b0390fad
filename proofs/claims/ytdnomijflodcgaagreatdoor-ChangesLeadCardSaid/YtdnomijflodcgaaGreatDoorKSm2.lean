import Derived.Test.YtdnomijflodcgaaGreatDoorKSm1
import Derived.Test.YtdnomijflodcgaaGreatDoorKSm0
/- Trees made of raw numbers; lists that are compared. -/
set_option linter.unusedVariables false
set_option linter.unusedSimpArgs false
namespace Go.VS
variable {P : Pg}
def IL (P : Pg) : Prop := ∀ x : List Int × (Int × Int), (0 ≤ x.2.1 ∧ x.2.1 ≤ 100000) → (0 ≤ x.2.2 ∧ x.2.2 ≤ 100) → Fn P WY CJ x fun (d : List Bh) _ => d = Hu x.1 x.2.1 x.2.2
theorem Ab4 (h : Has P HX) (hA : LC P) (hB : PQ P) : IL P := by
 rintro ⟨raw, fr, lines⟩ ⟨f0, f1⟩ ⟨l0, l1⟩
 dsimp only at f0 f1 l0 l1
 refine TQ h ?_
 unfold OR
 dsimp only
 refine Ad.mid (fun d => d = Hu raw fr lines) ?_ fun _ h => h
 have hlen4 : (Ep : List Bs).length = 4 := rfl
 unfold Hu
 have hsl : ∀ k, (Ph raw fr lines k).length ≤ k := fun k => by unfold Ph; exact Nat.le_trans (List.length_filterMap_le ..) (by rw [List.length_range]; exact Nat.le_refl _)
 refine AF.of (fun q => (0 ≤ q.2 ∧ q.2 ≤ 4) ∧ q.1 = Ph raw fr lines q.2.toNat) (fun q => (4 - q.2).toNat) ⟨⟨Int.le_refl _, by decide⟩, rfl⟩ ?_
 rintro ⟨o, i⟩ ⟨⟨i0, i1⟩, ho⟩
 dsimp only at i0 i1 ho ⊢
 refine ⟨fun hi => ?_, fun hi => by have hi := of_decide_eq_false hi; rw [ho, show i = 4 by omega]; rfl⟩
 have hi := of_decide_eq_true hi
 have hnx := ZH raw fr lines i.toNat
 have hol := hsl i.toNat
 rw [← ho] at hnx hol
 unfold ZG at hnx
 rw [show ((i.toNat : Nat) : Int) = i by omega] at hnx
 have hr := Zq raw (fr + i)
 have hi4 : i < ((List.length (Ep : List Bs) : Nat) : Int) := by rw [hlen4]; omega
 have hi5 : i.toNat < List.length (Ep : List Bs) := by rw [hlen4]; omega
 have hsz : ∀ v : Bs, (o.length + ([(Ep.getD i.toNat [], v)] : List Bh).length) * 32 ≤ 140737488355328 := fun v => by
  simp only [List.length_cons, List.length_nil]; omega
 refine Ad.mid (fun d => d = Ph raw fr lines (i.toNat + 1)) ?_ fun d hd => ?_
 ·rw [w64 (n := fr + i) (by omega) (by omega), w64 (n := fr + 10) (by omega) (by omega), w64 (n := 20 * i) (by omega) (by omega), w64 (n := fr + 10 + 20 * i) (by omega) (by omega)]
  refine hA.at (by omega) ⟨by decide, ?_⟩
  rw [Int.tmod_eq_emod_of_nonneg hr.1]
  refine Ad.mid (fun d => d = Ph raw fr lines (i.toNat + 1)) ⟨fun hc => ?_, fun hc => ?_⟩ fun _ h => h
  ·have hc := of_decide_eq_true hc
   rw [if_pos hc] at hnx
   have hbl : ∀ {K : Bs → Unit → Prop}, K (MW raw (fr + 10 + 20 * i) lines 4) () → Fn P zS9 Dk (raw, (fr + 10 + 20 * i, (lines, (4 : Int)))) K := fun {K} hk => (hB (raw, (fr + 10 + 20 * i, (lines, (4 : Int)))) ⟨by dsimp only; omega, by dsimp only; omega⟩ ⟨l0, l1⟩ ⟨(by decide : (1 : Int) ≤ 4), (by decide : (4 : Int) ≤ 100000)⟩).to fun (d : Bs) _ hd => by
    have hd : d = _ := hd
    subst hd
    exact hk
   refine Ad.mid (fun d => d = Ph raw fr lines (i.toNat + 1)) (by repeat' (first | exact trivial | exact i0 | exact hi4 | exact hi5 | exact hsz _ | exact hnx.symm | apply And.intro | (refine hbl ?_))) fun _ h => h
  ·have hc := of_decide_eq_false hc
   rw [if_neg hc] at hnx
   rw [hnx]
   exact (List.append_nil o).symm
 ·subst hd
  rw [w64 (by omega) (by omega)]
  exact ⟨⟨⟨by omega, by omega⟩, by rw [show (i + 1).toNat = i.toNat + 1 by omega]⟩, by omega⟩
theorem IL.at (h : IL P) {raw : List Int} {fr lines : Int} (f0 : 0 ≤ fr) (f1 : fr ≤ 100000) (l0 : 0 ≤ lines) (l1 : lines ≤ 100) {K : List Bh → Unit → Prop} (hk : K (Hu raw fr lines) ()) : Fn P WY CJ (raw, (fr, lines)) K :=
 (h (raw, (fr, lines)) ⟨f0, f1⟩ ⟨l0, l1⟩).to fun (d : List Bh) _ hd => by
  have hd : d = Hu raw fr lines := hd
  subst hd
  exact hk
theorem AkG {α : Type} [DecidableEq α] {l m : List α} {d : α} (hl : l.length = m.length) (h : ∀ j, j < l.length → l.getD j d = m.getD j d) : decide (l = m) = true :=
 decide_eq_true (Vd d hl h)
theorem Ak4 {α : Type} [DecidableEq α] {l m : List α} {d : α} (j : Nat) (h : l.getD j d ≠ m.getD j d) : decide (l = m) = false :=
 decide_eq_false fun e => h (by rw [e])
theorem AkX {α : Type} [DecidableEq α] {l m : List α} (h : ((l.length : Nat) : Int) ≠ ((m.length : Nat) : Int)) : decide (l = m) = false :=
 decide_eq_false fun e => h (by rw [e])
def AgF (P : Pg) : Prop := ∀ x : List Af3 × List Af3, x.1.length ≤ 1000000000 → Fn P YB Agh x fun (d : Bool) _ => d = decide (x.1 = x.2)
theorem AjK (h : Has P AgV) : AgF P := by
 rintro ⟨l, m⟩ hn
 dsimp only at hn
 refine AiP h ?_
 unfold Ah5
 dsimp only
 refine ⟨fun hc => (AkX (by simpa using hc)).symm, fun hc => ?_⟩
 have hlm : l.length = m.length := by
  have hc : ((l.length : Nat) : Int) = ((m.length : Nat) : Int) := by simpa using hc
  omega
 refine Ad.mid (fun _ => decide (l = m) = true) ?_ fun _ h => h.symm
 refine AF.of (fun q => (0 ≤ q.2 ∧ q.2 ≤ l.length) ∧ ∀ j, j < q.2.toNat → l.getD j ([], 0) = m.getD j ([], 0)) (fun q => (l.length - q.2).toNat) ⟨⟨Int.le_refl _, Int.natCast_nonneg _⟩, fun j hj => absurd hj (by simp)⟩ ?_
 rintro ⟨q, i⟩ ⟨⟨i0, i1⟩, hq⟩
 dsimp only at i0 i1 hq ⊢
 refine ⟨fun hi => ?_, fun hi => ?_⟩
 ·have hi := of_decide_eq_true hi
  have hi2 : i.toNat < l.length := by omega
  refine Ad.mid (fun _ => l.getD i.toNat ([], 0) = m.getD i.toNat ([], 0)) ⟨⟨i0, hi⟩, hi2, ⟨i0, by omega⟩, by omega, fun hb => ?_, fun hb => ?_⟩ fun d hd => ?_
  ·exact (Ak4 i.toNat (d := ([], 0)) fun e => by rw [e] at hb; simp at hb).symm
  ·simp only [Bool.not_eq_false', Bool.and_true, Bool.and_eq_true, beq_iff_eq] at hb
   exact Prod.ext hb.1 hb.2
  ·rw [w64 (by omega) (by omega)]
   refine ⟨⟨⟨by omega, by omega⟩, fun j hj => ?_⟩, by omega⟩
   by_cases hji : j = i.toNat
   ·subst hji; exact hd
   ·exact hq j (by omega)
 ·have hi := of_decide_eq_false hi
  exact AkG hlm fun j hj => hq j (by omega)
def Alh (P : Pg) : Prop := ∀ x : List Bh × List Bh, x.1.length ≤ 1000000000 → Fn P YC Ala x fun (d : Bool) _ => d = decide (x.1 = x.2)
theorem Amk (h : Has P Alg) : Alh P := by
 rintro ⟨l, m⟩ hn
 dsimp only at hn
 refine AlM h ?_
 unfold Aly
 dsimp only
 refine ⟨fun hc => (AkX (by simpa using hc)).symm, fun hc => ?_⟩
 have hlm : l.length = m.length := by
  have hc : ((l.length : Nat) : Int) = ((m.length : Nat) : Int) := by simpa using hc
  omega
 refine Ad.mid (fun _ => decide (l = m) = true) ?_ fun _ h => h.symm
 refine AF.of (fun q => (0 ≤ q.2 ∧ q.2 ≤ l.length) ∧ ∀ j, j < q.2.toNat → l.getD j ([], []) = m.getD j ([], [])) (fun q => (l.length - q.2).toNat) ⟨⟨Int.le_refl _, Int.natCast_nonneg _⟩, fun j hj => absurd hj (by simp)⟩ ?_
 rintro ⟨q, i⟩ ⟨⟨i0, i1⟩, hq⟩
 dsimp only at i0 i1 hq ⊢
 refine ⟨fun hi => ?_, fun hi => ?_⟩
 ·have hi := of_decide_eq_true hi
  have hi2 : i.toNat < l.length := by omega
  refine Ad.mid (fun _ => l.getD i.toNat ([], []) = m.getD i.toNat ([], [])) ⟨⟨i0, hi⟩, hi2, ⟨i0, by omega⟩, by omega, fun hb => ?_, fun hb => ?_⟩ fun d hd => ?_
  ·exact (Ak4 i.toNat (d := ([], [])) fun e => by rw [e] at hb; simp at hb).symm
  ·simp only [Bool.not_eq_false', Bool.and_true, Bool.and_eq_true, beq_iff_eq] at hb
   exact Prod.ext hb.1 hb.2
  ·rw [w64 (by omega) (by omega)]
   refine ⟨⟨⟨by omega, by omega⟩, fun j hj => ?_⟩, by omega⟩
   by_cases hji : j = i.toNat
   ·subst hji; exact hd
   ·exact hq j (by omega)
 ·have hi := of_decide_eq_false hi
  exact AkG hlm fun j hj => hq j (by omega)
theorem AgF.at (h : AgF P) {l m : List Af3} (hl : l.length ≤ 1000000000) {K : Bool → Unit → Prop} (hk : K (decide (l = m)) ()) : Fn P YB Agh (l, m) K :=
 (h (l, m) hl).to fun (d : Bool) _ hd => by
  have hd : d = decide (l = m) := hd
  subst hd
  exact hk
theorem Alh.at (h : Alh P) {l m : List Bh} (hl : l.length ≤ 1000000000) {K : Bool → Unit → Prop} (hk : K (decide (l = m)) ()) : Fn P YC Ala (l, m) K :=
 (h (l, m) hl).to fun (d : Bool) _ hd => by
  have hd : d = decide (l = m) := hd
  subst hd
  exact hk
end Go.VS

/- TreeDiffs. -/
set_option linter.unusedVariables false
set_option linter.unusedSimpArgs false
namespace Go.VS
variable {P : Pg}
def Aha (a b : List Bh) (d : List Af3 × Int) : Prop := d.2 = AgN a b ∧ (d.2 ≠ 0 → d.1 = []) ∧ (d.2 = 0 → AgQ a b d.1)
theorem AjC {a b : List Bh} {d : List Af3} (h : AgQ a b d) : d.length ≤ a.length + b.length := by
 have hn : (d.map (·.1)).Nodup := by
  rw [List.nodup_iff_pairwise_ne, List.pairwise_map]
  refine h.1.imp fun {x y} hxy e => ?_
  rw [e, N9] at hxy
  cases hxy
 have hs : ∀ p ∈ d.map (·.1), p ∈ (a ++ b).map (·.1) := fun p hp => by
  obtain ⟨t, ht, rfl⟩ := List.mem_map.1 hp
  have := (h.2 t.1 t.2).1 ht
  unfold AhU at this
  rw [List.map_append, List.mem_append]
  cases h1 : D0 a t.1 with
  | some v =>
   obtain ⟨f, hf, e⟩ := (Li a t.1).1 (by rw [h1]; rfl)
   exact .inl (List.mem_map.2 ⟨f, hf, e⟩)
  | none =>
   cases h2 : D0 b t.1 with
   | some v =>
    obtain ⟨f, hf, e⟩ := (Li b t.1).1 (by rw [h2]; rfl)
    exact .inr (List.mem_map.2 ⟨f, hf, e⟩)
   | none => rw [h1, h2] at this; cases this
 have := He hn hs
 rw [List.length_map, List.length_map, List.length_append] at this
 exact this
end Go.VS

/- changes: the lists of a commit. -/
set_option linter.unusedVariables false
set_option linter.unusedSimpArgs false
namespace Go.VS
variable {P : Pg}
def Agd (g : List Ai) (c : Int) : List Bh := (g.getD c.toNat ([], (0, []))).2.2
def Af5 (g : List Ai) (c : Int) : List (List Bh) := if (A8 g c).length = 0 then [[]] else (A8 g c).map fun p => Agd g p
theorem XR {g : List Ai} (h : Dt g 0) : Il g ∧ G7 g ∧ ¬Lz g ∧ Ob g ∧ GP g = 0 := by
 have k1 : Il g := Classical.byContradiction fun k => by have := h.1 k; omega
 have k2 : G7 g := Classical.byContradiction fun k => by have := h.2.1 k1 k; omega
 have k3 : ¬Lz g := fun k => by have := h.2.2.1 k1 k2 k; omega
 have k4 : Ob g := Classical.byContradiction fun k => by have := h.2.2.2.1 k1 k2 k3 k; omega
 exact ⟨k1, k2, k3, k4, (h.2.2.2.2 k1 k2 k3 k4).symm⟩
theorem Aet (g : List Ai) (c : Int) : (cond (decide (c ≥ (0 : Int))) (decide (c < ((List.length g : Nat) : Int))) false) = true ↔ inR g c := by
 unfold inR
 rw [Bool.cond_eq_ite]
 by_cases h : c ≥ 0
 ·rw [if_pos (decide_eq_true h)]
  exact ⟨fun k => ⟨h, of_decide_eq_true k⟩, fun k => decide_eq_true k.2⟩
 ·rw [if_neg (by simpa using h)]
  exact ⟨fun k => (by cases k), fun k => absurd k.1 h⟩
def Agz (P : Pg) : Prop := ∀ x : List Ai × Int, Mt x.1 → Fn P Ach Af6 x fun (d : Int) _ => ∃ e, Dt x.1 e ∧ (e ≠ 0 → d = e) ∧ (e = 0 → (inR x.1 x.2 → d = 0) ∧ (¬inR x.1 x.2 → d = 5))
theorem AjJ (h : Has P AgB) (hI : Has P MK) (hD : Kb P) : Agz P := by
 rintro ⟨g, c⟩ hs
 refine Aih h ?_
 unfold Ahu
 dsimp only at hs ⊢
 refine (hD g hs).to ?_
 rintro (e : Int) _ he
 have he : Dt g e := he
 refine ⟨fun hb => ⟨e, he, fun _ => rfl, fun h0 => absurd h0 (by simpa using hb)⟩, fun hb => ?_⟩
 have h0 : e = 0 := by simpa using hb
 refine ZJ hI ?_
 unfold UM
 dsimp only
 have hi := Aet g c
 refine ⟨fun hb => ⟨e, he, fun k => absurd h0 k, fun _ => ⟨fun k => ?_, fun _ => rfl⟩⟩, fun hb => ⟨e, he, fun k => absurd h0 k, fun _ => ⟨fun _ => rfl, fun k => ?_⟩⟩⟩
 ·rw [hi.2 k] at hb; cases hb
 ·refine absurd (hi.1 ?_) k
  simpa using hb
theorem FQ {α : Type} {l : List α} {k : Nat} {d : α} (h : k < l.length) : l.take (k + 1) = l.take k ++ [l.getD k d] := by
 rw [List.take_add_one, List.getD_eq_getElem?_getD, List.getElem?_eq_getElem h]
 rfl
def AgZ (P : Pg) : Prop := ∀ x : List Ai × Int, inR x.1 x.2 → Sm x.1 → (A8 x.1 x.2).length ≤ 1000000 → Fn P Yw Af7 x fun (d : List (List Bh)) _ => d = Af5 x.1 x.2
theorem AjL (h : Has P Agv) : AgZ P := by
 rintro ⟨g, c⟩ hc hv hl
 dsimp only at hc hv hl
 refine AhY h ?_
 unfold Ag9
 dsimp only
 have hc2 : c.toNat < g.length := by have := hc.1; have := hc.2; omega
 have ez : (g.getD c.toNat Aj).1 = A8 g c := rfl
 have hv2 := hv c hc
 rw [ez]
 refine ⟨⟨hc.1, hc.2⟩, hc2, fun hb => ?_, fun hb => ⟨⟨hc.1, hc.2⟩, hc2, ?_⟩⟩
 ·show [[]] = Af5 g c
  have hb : ((A8 g c).length : Int) = 0 := by simpa using hb
  unfold Af5
  rw [if_pos (by omega)]
 ·have hb : ¬((A8 g c).length : Int) = 0 := by simpa using hb
  have et : Af5 g c = (A8 g c).map fun p => Agd g p := by unfold Af5; rw [if_neg (by omega)]
  rw [et]
  generalize A8 g c = l at hl hv2 hb ⊢
  refine Ad.mid (fun d => d = l.map fun p => Agd g p) ?_ fun _ h => h
  refine AF.of (fun q => (0 ≤ q.2 ∧ q.2 ≤ l.length) ∧ q.1 = (l.take q.2.toNat).map fun p => Agd g p) (fun q => (l.length - q.2).toNat) ⟨⟨Int.le_refl _, by dsimp only; omega⟩, rfl⟩ ?_
  rintro ⟨q, i⟩ ⟨⟨i0, i1⟩, hq⟩
  dsimp only at i0 i1 hq ⊢
  refine ⟨fun hi => ?_, fun hi => ?_⟩
  ·have hi := of_decide_eq_true hi
   have hi2 : i.toNat < l.length := by omega
   have hp := hv2 _ (Br (d := 0) hi2)
   have hql : q.length = i.toNat := by rw [hq, List.length_map, List.length_take]; omega
   refine Ad.mid (fun d => d = (l.take (i.toNat + 1)).map fun p => Agd g p) ⟨⟨i0, hi⟩, hi2, ⟨hp.1, hp.2⟩, by have := hp.1; have := hp.2; omega, by simp only [List.length_cons, List.length_nil]; omega, ?_⟩ fun d hn => ?_
   ·rw [FQ (d := 0) hi2, List.map_append, hq]
    rfl
   ·rw [w64 (by omega) (by omega)]
    refine ⟨⟨⟨by omega, by omega⟩, ?_⟩, by omega⟩
    rw [hn, show (i + 1).toNat = i.toNat + 1 by omega]
  ·have hi := of_decide_eq_false hi
   show q = _
   rw [hq, List.take_of_length_le (by omega)]
theorem Aff {α : Type} {q r : List α} {k : Nat} {d : α} (h : k < q.length) : (q ++ r).getD k d = q.getD k d := by
 rw [List.getD_eq_getElem?_getD, List.getElem?_append_left h, ← List.getD_eq_getElem?_getD]
theorem Afg {α : Type} {q : List α} {v d : α} : (q ++ [v]).getD q.length d = v := by
 rw [List.getD_eq_getElem?_getD, List.getElem?_append_right (Nat.le_refl _), Nat.sub_self]
 rfl
def Ah2 (g : List Ai) (c : Int) (d : List (List Af3)) : Prop := d.length = (Af5 g c).length ∧ ∀ k, k < d.length → ∃ e, Aha ((Af5 g c).getD k []) (Agd g c) (d.getD k [], e)
theorem Ah1 {g : List Ai} {c : Int} (hl : (A8 g c).length ≤ 1000000) : (Af5 g c).length ≤ 1000000 ∧ 0 < (Af5 g c).length := by
 unfold Af5
 split
 ·simp
 ·rw [List.length_map]; omega
def Ajg (P : Pg) : Prop := ∀ x : List Ai × Int, inR x.1 x.2 → Sm x.1 → (A8 x.1 x.2).length ≤ 1000000 → (∀ t ∈ Af5 x.1 x.2, Kw t) → Kw (Agd x.1 x.2) → Fn P Ack Agk x fun (d : List (List Af3)) _ => Ah2 x.1 x.2 d
theorem Ak5 (h : Has P AgU) (hP : AgZ P) (hT : Aiz P) : Ajg P := by
 rintro ⟨g, c⟩ hc hv hl ht hf
 dsimp only at hc hv hl ht hf
 refine AiO h ?_
 unfold Ah4
 refine (hP (g, c) hc hv hl).to ?_
 rintro (d : List (List Bh)) _ hd
 have hd : d = Af5 g c := hd
 subst hd
 dsimp only
 have hc2 : c.toNat < g.length := by have := hc.1; have := hc.2; omega
 have htl := (Ah1 hl).1
 unfold Ah2
 generalize Af5 g c = T at ht htl ⊢
 refine Ad.mid (fun d => d.length = T.length ∧ ∀ k, k < d.length → ∃ e, Aha (T.getD k []) (Agd g c) (d.getD k [], e)) ?_ fun _ h => h
 refine AF.of (fun q => (0 ≤ q.2 ∧ q.2 ≤ T.length) ∧ q.1.length = q.2.toNat ∧ ∀ k, k < q.1.length → ∃ e, Aha (T.getD k []) (Agd g c) (q.1.getD k [], e)) (fun q => (T.length - q.2).toNat) ⟨⟨Int.le_refl _, by dsimp only; omega⟩, rfl, fun k hk => absurd hk (by simp)⟩ ?_
 rintro ⟨q, i⟩ ⟨⟨i0, i1⟩, hql, hq⟩
 dsimp only at i0 i1 hql hq ⊢
 refine ⟨fun hi => ?_, fun hi => ?_⟩
 ·have hi := of_decide_eq_true hi
  have hi2 : i.toNat < T.length := by omega
  refine Ad.mid (fun d => d.length = i.toNat + 1 ∧ ∀ k, k < d.length → ∃ e, Aha (T.getD k []) (Agd g c) (d.getD k [], e)) ⟨⟨i0, hi⟩, hi2, ⟨hc.1, hc.2⟩, hc2, (hT (T.getD i.toNat [], Agd g c) (ht _ (Br hi2)) hf).to ?_⟩ fun d hn => ?_
  ·rintro (d : List Af3 × Int) _ hd
   have hd : Aha (T.getD i.toNat []) (Agd g c) d := hd
   refine ⟨by simp only [List.length_cons, List.length_nil]; omega, ?_, fun k hk => ?_⟩
   ·rw [List.length_append, hql]; rfl
   ·rw [List.length_append, List.length_singleton] at hk
    by_cases hki : k < q.length
    ·obtain ⟨e, he⟩ := hq k hki
     refine ⟨e, ?_⟩
     rw [Aff hki]
     exact he
    ·have e1 : k = q.length := by omega
     refine ⟨d.2, ?_⟩
     rw [e1, Afg, hql]
     exact hd
  ·rw [w64 (by omega) (by omega)]
   exact ⟨⟨⟨by omega, by omega⟩, by rw [hn.1]; omega, hn.2⟩, by omega⟩
 ·have hi := of_decide_eq_false hi
  exact ⟨by omega, hq⟩
theorem Ai5 : ∀ {g : List Ai}, GP g = 0 → ∀ c ∈ g, Fm c.2.2 = 0
 | [], _, c, hc => (nomatch hc)
 | x :: g, h, c, hc => by
  rw [GP] at h
  by_cases hx : Fm x.2.2 = 0
  ·rw [if_neg (by simpa using hx)] at h
   rcases List.mem_cons.1 hc with rfl | hc
   ·exact hx
   ·exact Ai5 h c hc
  ·rw [if_pos hx] at h
   exact absurd h hx
theorem Akh {l : List Bh} (h : Fm l = 0) : l.length ≤ 200 := by
 unfold Fm at h
 split at h
 ·cases h
 ·omega
theorem Agq {g : List Ai} (h0 : Dt g 0) (hs : Mt g) {c : Int} (hc : inR g c) : Fm (Agd g c) = 0 ∧ Kw (Agd g c) := by
 have hm := Ef (g := g) (i := c.toNat) (by have := hc.1; have := hc.2; omega)
 have h1 := Ai5 (XR h0).2.2.2.2 _ hm
 refine ⟨h1, ?_, hs _ hm⟩
 have := Akh h1
 have : (Agd g c).length ≤ 200 := this
 omega
theorem Agt {g : List Ai} (h0 : Dt g 0) (hs : Mt g) {c : Int} (hc : inR g c) : ∀ t ∈ Af5 g c, Fm t = 0 ∧ Kw t := by
 intro t ht
 unfold Af5 at ht
 split at ht
 ·have : t = [] := by simpa using ht
  subst this
  exact ⟨by decide, Nat.zero_le _, fun f hf => nomatch hf⟩
 ·obtain ⟨p, hp, rfl⟩ := List.mem_map.1 ht
  exact Agq h0 hs (HD (XR h0).2.1 c hc p hp)
def Aie (P : Pg) : Prop := ∀ x : List Ai × Int, Mt x.1 → Dt x.1 0 → inR x.1 x.2 → Fn P Yx Af9 x fun (d : List (List Af3) × Int) _ => Ah2 x.1 x.2 d.1 ∧ d.2 = 0
theorem Akb (h : Has P Ags) (hC : Agz P) (hO : Ajg P) : Aie P := by
 intro x hs h0 hc
 refine Ahl h ?_
 unfold AgR
 refine (hC x hs).to ?_
 rintro (d : Int) _ ⟨e, he, _, h1⟩
 have hd := (h1 (Ju he h0)).1 hc
 subst hd
 refine ⟨fun hb => absurd hb (by simp), fun hb => ?_⟩
 have k := XR h0
 refine (hO x hc (HD k.2.1) (PF k.1 _ hc) (fun t ht => (Agt h0 hs hc t ht).2) (Agq h0 hs hc).2).to ?_
 rintro (d : List (List Af3)) _ hd
 exact ⟨hd, rfl⟩
def Aiv (P : Pg) : Prop := ∀ x : List Ai × (Int × (Int × Bs)), Mt x.1 → Dt x.1 0 → inR x.1 x.2.1 → 0 ≤ x.2.2.1 → x.2.2.1 < (Af5 x.1 x.2.1).length → Fn P Acl Aga x fun (d : Bs × (Bs × Int)) _ => d = ((findF ((Af5 x.1 x.2.1).getD x.2.2.1.toNat []) x.2.2.2).1, ((findF (Agd x.1 x.2.1) x.2.2.2).1, 0))
theorem Akv (h : Has P Agw) (hC : Agz P) (hP : AgZ P) (hF : Ahj P) : Aiv P := by
 rintro ⟨g, c, p, w⟩ hs h0 hc hp0 hp1
 dsimp only at hs h0 hc hp0 hp1
 refine Ahv h ?_
 unfold Ag1
 dsimp only
 refine (hC (g, c) hs).to ?_
 rintro (d : Int) _ ⟨e, he, _, h1⟩
 have hd := (h1 (Ju he h0)).1 hc
 subst hd
 refine ⟨fun hb => absurd hb (by simp), fun hb => ?_⟩
 have k := XR h0
 refine (hP (g, c) hc (HD k.2.1) (PF k.1 _ hc)).to ?_
 rintro (d : List (List Bh)) _ hd
 have hd : d = Af5 g c := hd
 subst hd
 have hp2 : p.toNat < (Af5 g c).length := by omega
 have hb2 := (Uj p (Af5 g c).length).2 ⟨hp0, hp1⟩
 refine ⟨fun hb => (by rw [hb2] at hb; cases hb), fun hb => ⟨⟨hp0, hp1⟩, hp2, ?_⟩⟩
 refine hF.at (Agt h0 hs hc _ (Br hp2)).2.1 ⟨⟨hc.1, hc.2⟩, by have := hc.1; have := hc.2; omega, ?_⟩
 exact hF.at (Agq h0 hs hc).2.1 rfl
end Go.VS

/- Near: how long a changed text is, and how many lines it has. -/
set_option linter.unusedVariables false
set_option linter.unusedSimpArgs false
namespace Go.VS
variable {P : Pg}
theorem OC : ∀ (s acc : Bs), s ≠ [] → (lnN acc s).flatten = acc ++ s
 | [], _, h => absurd rfl h
 | b :: r, acc, _ => by
  rw [lnN]
  split
  ·by_cases hr : r = []
   ·subst hr; simp [lnN]
   ·rw [List.flatten_cons, OC r [] hr]; simp
  ·rename_i h
   have hr : r ≠ [] := fun e => h (Or.inr e)
   rw [OC r (acc ++ [b]) hr]; simp
theorem ZW (s : Bs) : (lnF s).flatten = s := by
 by_cases h : s = []
 ·subst h; rfl
 ·exact OC s [] h
theorem VN (k : Int) : (O5 k).count 10 = 0 := by
 have hr := EE (a := k) (n := 10) (by decide) (by decide)
 unfold O5
 generalize F8 k 10 = m at *
 have : m = 0 ∨ m = 1 ∨ m = 2 ∨ m = 3 ∨ m = 4 ∨ m = 5 ∨ m = 6 ∨ m = 7 ∨ m = 8 ∨ m = 9 := by omega
 rcases this with rfl | rfl | rfl | rfl | rfl | rfl | rfl | rfl | rfl | rfl <;> decide
def PU (P : Pg) : Prop := ∀ x : Bs × (List Int × Int), x.1.length ≤ 4000 → (0 ≤ x.2.2 ∧ x.2.2 ≤ 1000000) → Fn P Acn Ex x fun (d : Bs) _ => d.length ≤ x.1.length + 4 * (x.1.count 10 + 1) ∧ d.count 10 ≤ 2 * x.1.count 10 + 1
theorem Ab7 (h : Has P Jf) (hA : LC P) (hL : MM P) (hN : Ji P) : PU P := by
 rintro ⟨s, raw, fr⟩ hs ⟨f0, f1⟩
 dsimp only at hs f0 f1
 refine Vn h ?_
 unfold PY
 dsimp only
 refine (hN s (by omega)).to ?_
 rintro (l : List Bs) _ hl
 have hl : l = lnF s := hl
 have hlen : l.length ≤ s.count 10 + 1 := by
  have := Y1 s
  rw [hl]
  split at this <;> omega
 have hlen2 : l.length ≤ s.length := by rw [hl]; exact PG s []
 have hfl : l.flatten = s := by rw [hl]; exact ZW s
 clear hl
 have hpre : ∀ k, k < l.length → (l.take (k + 1)).flatten = (l.take k).flatten ++ l.getD k [] := fun k hk => by
  rw [List.take_add_one, List.getElem?_eq_getElem hk, List.flatten_append, List.getD_eq_getElem?_getD, List.getElem?_eq_getElem hk]
  simp
 have hle : ∀ k, (l.take k).flatten.length ≤ s.length ∧ (l.take k).flatten.count 10 ≤ s.count 10 := fun k => by
  have : l.flatten = (l.take k).flatten ++ (l.drop k).flatten := by rw [← List.flatten_append, List.take_append_drop]
  rw [hfl] at this
  have h1 := congrArg List.length this
  have h2 := congrArg (List.count (10 : UInt8)) this
  rw [List.length_append] at h1
  rw [List.count_append] at h2
  omega
 rw [w64 (n := fr + 40) (by omega) (by omega)]
 refine Ad.mid (fun d => d.length ≤ s.length + 4 * (s.count 10 + 1) ∧ d.count 10 ≤ 2 * s.count 10 + 1) ?_ fun _ h => h
 refine AF.of (fun q => (0 ≤ q.2 ∧ q.2 ≤ l.length) ∧ (q.1.length : Int) ≤ 4 * q.2 + ((l.take q.2.toNat).flatten.length : Nat) ∧ (q.1.count 10 : Int) ≤ q.2 + ((l.take q.2.toNat).flatten.count 10 : Nat)) (fun q => (l.length - q.2).toNat) ⟨⟨Int.le_refl _, Int.natCast_nonneg _⟩, by simp, by simp⟩ ?_
 rintro ⟨d, i⟩ ⟨⟨i0, i1⟩, hd, hc⟩
 dsimp only at i0 i1 hd hc ⊢
 have hti := hle i.toNat
 refine ⟨fun hi => ?_, fun hi => by have hi := of_decide_eq_false hi; omega⟩
 have hi := of_decide_eq_true hi
 have hi2 : i.toNat < l.length := by omega
 have hp := congrArg List.length (hpre i.toNat hi2)
 have hp2 := congrArg (List.count (10 : UInt8)) (hpre i.toNat hi2)
 rw [List.length_append] at hp
 rw [List.count_append] at hp2
 have htj := hle (i.toNat + 1)
 refine Ad.mid (fun d => (d.length : Int) ≤ 4 * (i + 1) + ((l.take (i.toNat + 1)).flatten.length : Nat) ∧ (d.count 10 : Int) ≤ i + 1 + ((l.take (i.toNat + 1)).flatten.count 10 : Nat)) ?_ fun d hd => ?_
 ·rw [w64 (n := fr + i) (by omega) (by omega), w64 (n := fr + 40 + i) (by omega) (by omega)]
  refine hA.at (by omega) ⟨by decide, ?_⟩
  refine Ad.mid (fun e => (e.length : Int) ≤ 4 * i + ((l.take i.toNat).flatten.length : Nat) + 4 ∧ (e.count 10 : Int) ≤ i + ((l.take i.toNat).flatten.count 10 : Nat) + 1) ⟨fun _ => by omega, fun _ => ?_⟩ fun e he => ?_
  ·refine Ad.mid (fun e => (e.length : Int) ≤ 4 * i + ((l.take i.toNat).flatten.length : Nat) + 4 ∧ (e.count 10 : Int) ≤ i + ((l.take i.toNat).flatten.count 10 : Nat) + 1) ⟨fun _ => ?_, fun _ => by omega⟩ fun _ h => h
   refine hA.at (by omega) ((hL _).to ?_)
   rintro (ln : Bs) _ hln
   have hln : ln = O5 _ := hln
   have hl1 := OB (atF raw (fr + 40 + i))
   have hl2 := VN (atF raw (fr + 40 + i))
   rw [← hln] at hl1 hl2
   refine ⟨by omega, by rw [List.length_append]; simp only [List.length_cons, List.length_nil]; omega, ?_⟩
   try dsimp only
   rw [List.length_append, List.length_append, List.count_append, List.count_append, hl2]
   simp only [List.length_cons, List.length_nil, List.count_singleton_self]
   omega
  ·refine ⟨⟨i0, hi⟩, hi2, by omega, ?_⟩
   try dsimp only
   rw [List.length_append, List.count_append]
   omega
 ·rw [w64 (by omega) (by omega), show (i + 1).toNat = i.toNat + 1 by omega]
  exact ⟨⟨⟨by omega, by omega⟩, hd.1, hd.2⟩, by omega⟩
end Go.VS

/- Trees made of raw numbers, and changed ones. -/
set_option linter.unusedVariables false
set_option linter.unusedSimpArgs false
namespace Go.VS
variable {P : Pg}
def P7 (B : Nat) (v : Bs) : Prop := v.count 10 + 1 ≤ B ∧ v.length + 4 ≤ 4 * B
def Hm (B : Nat) (l : List Bh) : Prop := (l.map (·.1)).Sublist Ep ∧ ∀ f ∈ l, P7 B f.2
theorem Hm.mono {B C : Nat} {l : List Bh} (h : Hm B l) (hB : B ≤ C) : Hm C l := ⟨h.1, fun f hf => by have := h.2 f hf; unfold P7 at *; omega⟩
theorem XV : ∀ p ∈ Ep, CD p = 0 := by decide
theorem Z0 : Ep.Pairwise fun p q => Op.bytesLess p q = true ∧ FZ p q = false := by decide
theorem MF {B : Nat} {l : List Bh} (h : Hm B l) : l.length ≤ 4 := by
 have := h.1.length_le
 rw [List.length_map] at this
 exact this
theorem Aau {B : Nat} {l : List Bh} (h : Hm B l) (hB : B ≤ 1000) : Fm l = 0 := by
 have hl := MF h
 have hp : l.all (fun f => CD f.1 == 0) = true := by
  rw [List.all_eq_true]
  intro f hf
  rw [XV f.1 (h.1.subset (List.mem_map.2 ⟨f, hf, rfl⟩))]
  rfl
 have ho : QT l = true := by
  rw [QU]
  have hpw := Z0.sublist h.1
  rw [List.pairwise_map, List.pairwise_iff_getElem] at hpw
  intro i hi k hk
  have := hpw k i (by omega) hi hk
  unfold pth
  rw [List.getD_eq_getElem?_getD, List.getD_eq_getElem?_getD, List.getElem?_eq_getElem hi, List.getElem?_eq_getElem (Nat.lt_trans hk hi)]
  exact this
 have hc : l.all (fun f => GK f.2 == 0) = true := by
  rw [List.all_eq_true]
  intro f hf
  have := (h.2 f hf).2
  rw [Xu (by omega)]
  rfl
 unfold Fm
 rw [if_neg (by omega), if_neg (by rw [hp]; simp), if_neg (by rw [ho]; simp), if_neg (by rw [hc]; simp)]
theorem ZZ : ∀ p ∈ Ep, p.length ≤ 3 := by decide
theorem Ace {B : Nat} {l : List Bh} (h : Hm B l) (hB : B ≤ 1000) : Kw l := ⟨by have := MF h; omega, fun f hf => by
 have h1 := ZZ f.1 (h.1.subset (List.mem_map.2 ⟨f, hf, rfl⟩))
 have h2 := (h.2 f hf).2
 omega⟩
theorem UY (raw : List Int) (fr kinds : Int) : ∀ k, (GC raw fr kinds k).count 10 = k
 | 0 => rfl
 | k + 1 => by
  rw [GC, List.count_append, List.count_append, UY raw fr kinds k, VN]
  rfl
theorem AcQ {raw : List Int} {fr mx kinds : Int} (h0 : 0 ≤ mx) (h1 : mx ≤ 100) : P7 (mx.toNat + 1) (MW raw fr mx kinds) := by
 have hr := EE (a := atF raw fr) (n := mx + 1) (by omega) (by omega)
 have h2 := IQ raw fr kinds (F8 (atF raw fr) (mx + 1)).toNat
 have h3 := UY raw fr kinds (F8 (atF raw fr) (mx + 1)).toNat
 unfold MW P7
 split
 ·have h4 := (List.take_sublist ((GC raw fr kinds (F8 (atF raw fr) (mx + 1)).toNat).length - 1) (GC raw fr kinds (F8 (atF raw fr) (mx + 1)).toNat)).count_le (10 : UInt8)
  rw [List.length_take]
  omega
 ·omega
theorem PI (p : Bs) (o : Option Bs) : (((o.map fun v => (p, v)).toList).map (·.1)).Sublist [p] := by cases o <;> simp
theorem Ve {raw : List Int} {fr lines : Int} (h0 : 0 ≤ lines) (h1 : lines ≤ 100) : Hm (lines.toNat + 1) (Hu raw fr lines) := by
 refine ⟨?_, fun f hf => ?_⟩
 ·obtain ⟨a, b, c, d, _, hl⟩ := WT (Vf (raw := raw) (fr := fr) h0 h1)
  rw [hl, List.map_append, List.map_append, List.map_append]
  exact (PI (Ep.getD 0 []) a).append ((PI (Ep.getD 1 []) b).append ((PI (Ep.getD 2 []) c).append (PI (Ep.getD 3 []) d)))
 ·unfold Hu Ph at hf
  obtain ⟨i, _, hi⟩ := List.mem_filterMap.1 hf
  unfold ZG at hi
  split at hi
  ·have := Option.some.inj hi
   rw [← this]
   exact AcQ h0 h1
  ·cases hi
theorem VR {l : List Bh} {i : Nat} (h : i < l.length) : (l.take (i + 1)).map (·.1) = (l.take i).map (·.1) ++ [(l.getD i ([], [])).1] := by
 rw [FQ (d := ([], [])) h, List.map_append]
 rfl
def UL (B : Nat) (l : List Bh) (i : Nat) (d : List Bh) : Prop := (d.map (·.1)).Sublist ((l.take i).map (·.1)) ∧ ∀ f ∈ d, P7 B f.2
theorem ZC {B : Nat} {l d : List Bh} {i : Nat} (h : UL B l i d) (hi : i < l.length) : UL B l (i + 1) d := ⟨by rw [VR hi]; exact h.1.trans (List.sublist_append_left _ _), h.2⟩
theorem Aa5 {B : Nat} {l d : List Bh} {i : Nat} {v : Bs} (h : UL B l i d) (hi : i < l.length) (hv : P7 B v) : UL B l (i + 1) (d ++ [((l.getD i ([], [])).1, v)]) := by
 refine ⟨?_, fun f hf => ?_⟩
 ·rw [VR hi, List.map_append]
  exact h.1.append (List.Sublist.refl _)
 ·rcases List.mem_append.1 hf with hf | hf
  ·exact h.2 f hf
  ·rw [List.mem_singleton.1 hf]
   exact hv
theorem Aa6 {B : Nat} {l d : List Bh} {i : Nat} (h : UL B l i d) (hl : l.length ≤ 4) : d.length ≤ 4 := by
 have := h.1.length_le
 rw [List.length_map, List.length_map, List.length_take] at this
 omega
def NW (P : Pg) : Prop := ∀ (B : Nat) (x : List Bh × (List Int × (Int × Int))), Hm B x.1 → x.2.2.2.toNat + 1 ≤ B → B ≤ 900 → (0 ≤ x.2.2.1 ∧ x.2.2.1 ≤ 90000) → (0 ≤ x.2.2.2 ∧ x.2.2.2 ≤ 100) → Fn P Aco DA x fun (d : List Bh) _ => Hm (2 * B) d
theorem Aah (h : Has P GS) (hA : LC P) (hM : Jj P) (hN : PU P) (hF : IL P) : NW P := by
 rintro B ⟨l, raw, fr, lines⟩ hl hB hB2 ⟨f0, f1⟩ ⟨l0, l1⟩
 dsimp only at hl hB f0 f1 l0 l1
 have hl4 := MF hl
 refine RE h ?_
 unfold MQ
 dsimp only
 rw [w64 (n := fr + 3) (by omega) (by omega), w64 (n := fr + 5) (by omega) (by omega), w64 (n := fr + 7) (by omega) (by omega)]
 refine hA.at (by omega) (hM.at (by decide) (by decide) ?_)
 generalize F8 (atF raw (fr + 3)) 4 = k
 refine Ad.mid (fun d => UL (2 * B) l l.length d) ?_ fun d hd => ⟨fun _ => ?_, fun _ => ?_⟩
 ·refine AF.of (fun q => (0 ≤ q.2 ∧ q.2 ≤ l.length) ∧ UL (2 * B) l q.2.toNat q.1) (fun q => (l.length - q.2).toNat) ⟨⟨Int.le_refl _, Int.natCast_nonneg _⟩, by exact ⟨by simp, fun f hf => nomatch hf⟩⟩ ?_
  rintro ⟨d, i⟩ ⟨⟨i0, i1⟩, hd⟩
  dsimp only at i0 i1 hd ⊢
  refine ⟨fun hi => ?_, fun hi => by have hi := of_decide_eq_false hi; rw [show i.toNat = l.length by omega] at hd; exact hd⟩
  have hi := of_decide_eq_true hi
  have hi2 : i.toNat < l.length := by omega
  have hb := hl.2 _ (Br (d := ([], [])) hi2)
  have hb0 := hb
  unfold P7 at hb0
  have hdl := Aa6 hd hl4
  refine Ad.mid (fun d => UL (2 * B) l (i.toNat + 1) d) ⟨⟨i0, hi⟩, hi2, ?_⟩ fun d hn => ?_
  ·refine Ad.mid (fun f => f.1 = (l.getD i.toNat ([], [])).1 ∧ P7 (2 * B) f.2) ⟨fun _ => ?_, fun _ => ⟨rfl, by unfold P7; omega⟩⟩ fun f hf => ⟨by simp only [List.length_cons, List.length_nil]; omega, ?_⟩
   ·refine (hN ((l.getD i.toNat ([], [])).2, (raw, fr + 7)) (by dsimp only; omega) ⟨by dsimp only; omega, by dsimp only; omega⟩).to ?_
    rintro (v : Bs) _ hv
    have hv : v.length ≤ (l.getD i.toNat ([], [])).2.length + 4 * ((l.getD i.toNat ([], [])).2.count 10 + 1) ∧ v.count 10 ≤ 2 * (l.getD i.toNat ([], [])).2.count 10 + 1 := hv
    have hvb : P7 (2 * B) v := by unfold P7; omega
    exact hA.at (by omega) ⟨by decide, fun _ => ZC hd hi2, fun _ => ⟨rfl, hvb⟩⟩
   ·obtain ⟨a, b⟩ := f
    have e : a = (l.getD i.toNat ([], [])).1 := hf.1
    subst e
    exact Aa5 hd hi2 hf.2
  ·rw [w64 (by omega) (by omega)]
   exact ⟨⟨⟨by omega, by omega⟩, by rw [show (i + 1).toNat = i.toNat + 1 by omega]; exact hn⟩, by omega⟩
 ·refine (hF (raw, (fr, lines)) ⟨by dsimp only; omega, by dsimp only; omega⟩ ⟨l0, l1⟩).to ?_
  rintro (e : List Bh) _ he
  have he : e = Hu raw fr lines := he
  rw [he]
  exact (Ve l0 l1).mono (by omega)
 ·refine ⟨?_, hd.2⟩
  have := hd.1
  rw [List.take_length] at this
  exact this.trans hl.1
end Go.VS

/- Graphs made of raw numbers: commits after their parents, and turned ones. -/
set_option linter.unusedVariables false
set_option linter.unusedSimpArgs false
namespace Go.VS
variable {P : Pg}
def IK (i : Int) (l : List Int) : Prop := l.length ≤ 3 ∧ l.Nodup ∧ ∀ p ∈ l, 0 ≤ p ∧ p < i
def OkC (B : Nat) (i : Nat) (c : Ai) : Prop := IK (i : Int) c.1 ∧ (0 ≤ c.2.1 ∧ c.2.1 < 5) ∧ Hm (B * 2 ^ i) c.2.2
def GU (B : Nat) (g : List Ai) : Prop := ∀ j, j < g.length → OkC B j (g.getD j ([], (0, [])))
theorem IK.mono {i k : Int} {l : List Int} (h : IK i l) (hk : i ≤ k) : IK k l := ⟨h.1, h.2.1, fun p hp => by have := h.2.2 p hp; omega⟩
theorem IK.app {i : Int} {l : List Int} (h : IK i l) (h0 : 0 ≤ i) (hl : l.length < 3) : IK (i + 1) (l ++ [i]) := by
 refine ⟨by rw [List.length_append]; simp only [List.length_cons, List.length_nil]; omega, ?_, fun p hp => ?_⟩
 ·rw [List.nodup_append]
  refine ⟨h.2.1, by simp, fun a ha b hb => ?_⟩
  rw [List.mem_singleton.1 hb]
  have := h.2.2 a ha
  omega
 ·rcases List.mem_append.1 hp with hp | hp
  ·have := h.2.2 p hp
   omega
  ·rw [List.mem_singleton.1 hp]
   omega
theorem GU.app {B : Nat} {g : List Ai} {c : Ai} (h : GU B g) (hc : OkC B g.length c) : GU B (g ++ [c]) := by
 intro j hj
 rw [List.length_append, List.length_singleton] at hj
 by_cases hjg : j < g.length
 ·rw [Aff hjg]; exact h j hjg
 ·have e : j = g.length := by omega
  subst e
  rw [Afg]; exact hc
theorem AbN {B i : Nat} (hB : B ≤ 3) (hi : i ≤ 8) : B * 2 ^ i ≤ 768 := Nat.mul_le_mul hB (Nat.pow_le_pow_right (by decide) hi : 2 ^ i ≤ 2 ^ 8)
theorem AeB {B i p : Nat} (h : p < i) : 2 * (B * 2 ^ p) ≤ B * 2 ^ i := by
 have h1 : 2 ^ (p + 1) ≤ 2 ^ i := Nat.pow_le_pow_right (by decide) h
 have h2 : 2 * (B * 2 ^ p) = B * 2 ^ (p + 1) := by rw [Nat.pow_succ, Nat.mul_comm 2, Nat.mul_assoc]
 rw [h2]
 exact Nat.mul_le_mul_left _ h1
theorem pow_one (B i : Nat) : B ≤ B * 2 ^ i := Nat.le_mul_of_pos_right _ (Nat.pow_pos (by decide))
theorem Qb {a b : Bool} (h : (cond a b false) = true) : a = true ∧ b = true := by cases a <;> simp_all
def Ry (n : Nat) (c : Ai) : Ai := (c.1.map fun p => (n : Int) - 1 - p, c.2)
def AaE (g d : List Ai) : Prop := d = g ∨ (d.length = g.length ∧ ∀ c, c < g.length → d.getD (g.length - 1 - c) ([], (0, [])) = Ry g.length (g.getD c ([], (0, []))))
theorem Vv {α : Type} {l : List α} {i : Nat} {v d : α} (h : i < l.length) : (l.set i v).getD i d = v := by
 rw [List.getD_eq_getElem?_getD, List.getElem?_set_self h]
 rfl
theorem getD_set_ne {α : Type} {l : List α} {i j : Nat} {v d : α} (h : i ≠ j) : (l.set i v).getD j d = l.getD j d := by
 rw [List.getD_eq_getElem?_getD, List.getElem?_set_ne h, ← List.getD_eq_getElem?_getD]
def N2 (P : Pg) : Prop := ∀ x : List Ai × List Int, x.1.length ≤ 1000 → (∀ j, j < x.1.length → (x.1.getD j ([], (0, []))).1.length ≤ 1000 ∧ ∀ p ∈ (x.1.getD j ([], (0, []))).1, 0 ≤ p ∧ p < (x.1.length : Int)) → Fn P Acp Dz x fun (d : List Ai) _ => AaE x.1 d
theorem Aan (h : Has P GR) (hA : LC P) : N2 P := by
 rintro ⟨g, raw⟩ hg hp
 dsimp only at hg hp
 refine RD h ?_
 unfold MP
 dsimp only
 refine hA.at (by decide) ⟨by decide, fun _ => Or.inl rfl, fun _ => ⟨⟨by omega, by omega, by omega⟩, ?_⟩⟩
 refine Ad.mid (fun d => d.length = g.length ∧ ∀ c, c < g.length → d.getD (g.length - 1 - c) ([], (0, [])) = Ry g.length (g.getD c ([], (0, [])))) ?_ fun _ h => Or.inr h
 refine AF.of (fun q => (0 ≤ q.2 ∧ q.2 ≤ g.length) ∧ q.1.length = g.length ∧ ∀ c, c < q.2.toNat → q.1.getD (g.length - 1 - c) ([], (0, [])) = Ry g.length (g.getD c ([], (0, [])))) (fun q => (g.length - q.2).toNat) ⟨⟨Int.le_refl _, Int.natCast_nonneg _⟩, by simp, fun c hc => absurd hc (by simp)⟩ ?_
 rintro ⟨d, i⟩ ⟨⟨i0, i1⟩, hdl, hd⟩
 dsimp only at i0 i1 hdl hd ⊢
 refine ⟨fun hi => ?_, fun hi => by have hi := of_decide_eq_false hi; exact ⟨hdl, fun c hc => hd c (by omega)⟩⟩
 have hi := of_decide_eq_true hi
 have hi2 : i.toNat < g.length := by omega
 obtain ⟨hpl, hpp⟩ := hp i.toNat hi2
 refine Ad.mid (fun d => d.length = g.length ∧ ∀ c, c < i.toNat + 1 → d.getD (g.length - 1 - c) ([], (0, [])) = Ry g.length (g.getD c ([], (0, [])))) ⟨⟨i0, hi⟩, hi2, ?_⟩ fun d2 hn => ?_
 ·have ez : g.getD i.toNat Aj = g.getD i.toNat ([], (0, [])) := rfl
  rw [ez]
  refine Ad.mid (fun y => y = Ry g.length (g.getD i.toNat ([], (0, [])))) ?_ fun y hy => ?_
  ·generalize g.getD i.toNat ([], (0, [])) = cm at hpl hpp ⊢
   obtain ⟨l, r⟩ := cm
   dsimp only at hpl hpp ⊢
   refine AF.of (fun q => (0 ≤ q.1 ∧ q.1 ≤ l.length) ∧ q.2 = ((l.take q.1.toNat).map (fun p => (g.length : Int) - 1 - p), r)) (fun q => (l.length - q.1).toNat) ⟨⟨Int.le_refl _, Int.natCast_nonneg _⟩, rfl⟩ ?_
   rintro ⟨k, x⟩ ⟨⟨k0, k1⟩, hx⟩
   dsimp only at k0 k1 hx ⊢
   subst hx
   refine ⟨⟨i0, hi⟩, hi2, fun hk => ?_, fun hk => ?_⟩
   ·have hk := of_decide_eq_true hk
    have hk2 : k.toNat < l.length := by omega
    have hb := hpp _ (Br (d := 0) hk2)
    have hnx : (l.take (k.toNat + 1)).map (fun p => (g.length : Int) - 1 - p) = (l.take k.toNat).map (fun p => (g.length : Int) - 1 - p) ++ [(g.length : Int) - 1 - l.getD k.toNat 0] := by
     rw [FQ (d := 0) hk2, List.map_append]
     rfl
    have hsz : (((l.take k.toNat).map (fun p => (g.length : Int) - 1 - p)).length + ([(g.length : Int) - 1 - l.getD k.toNat 0] : List Int).length) * 8 ≤ 140737488355328 := by
     rw [List.length_map, List.length_take]
     simp only [List.length_cons, List.length_nil]
     omega
    rw [w64 (n := (g.length : Int) - 1) (by omega) (by omega), w64 (n := (g.length : Int) - 1 - l.getD k.toNat 0) (by omega) (by omega)]
    refine Ad.mid (fun y => y = ((l.take (k.toNat + 1)).map (fun p => (g.length : Int) - 1 - p), r)) ?_ fun y hy => ?_
    ·refine Ad.mid (fun y => y = ((l.take (k.toNat + 1)).map (fun p => (g.length : Int) - 1 - p), r)) ?_ fun y hy => hy
     have hj : (((l.take k.toNat).map (fun p => (g.length : Int) - 1 - p) ++ ([(g.length : Int) - 1 - l.getD k.toNat 0] : List Int), r) : Ai) = ((l.take (k.toNat + 1)).map (fun p => (g.length : Int) - 1 - p), r) := by rw [hnx]
     exact ⟨⟨i0, hi⟩, hi2, ⟨k0, hk⟩, hk2, ⟨⟨⟨hsz, hj, trivial⟩, trivial⟩, trivial⟩, ⟨⟨hsz, hj, trivial⟩, trivial⟩, trivial⟩
    ·subst hy
     rw [w64 (by omega) (by omega)]
     exact ⟨⟨⟨by omega, by omega⟩, by rw [show (k + 1).toNat = k.toNat + 1 by omega]⟩, by omega⟩
   ·have hk := of_decide_eq_false hk
    show ((l.take k.toNat).map _, r) = Ry g.length (l, r)
    rw [List.take_of_length_le (by omega)]
    rfl
  ·rw [w64 (n := (g.length : Int) - 1) (by omega) (by omega), w64 (n := (g.length : Int) - 1 - i) (by omega) (by omega)]
   have e : ((g.length : Int) - 1 - i).toNat = g.length - 1 - i.toNat := by omega
   rw [e]
   refine ⟨⟨by omega, by omega⟩, by omega, ?_, fun c hc => ?_⟩
   ·rw [List.length_set]; exact hdl
   ·by_cases hci : c = i.toNat
    ·subst hci
     rw [Vv (by omega)]
     exact hy
    ·rw [getD_set_ne (by omega)]
     exact hd c (by omega)
 ·rw [w64 (by omega) (by omega)]
  exact ⟨⟨⟨by omega, by omega⟩, hn.1, by rw [show (i + 1).toNat = i.toNat + 1 by omega]; exact hn.2⟩, by omega⟩
end Go.VS

/- Graphs made of raw numbers are valid. -/
set_option linter.unusedVariables false
set_option linter.unusedSimpArgs false
namespace Go.VS
variable {P : Pg}
theorem AbS {g : List Ai} (hv : Sm g) (f : Int → Int) (h : ∀ c, inR g c → ∀ p ∈ A8 g c, f p < f c) {a b : Int} (hr : Rch g a b) : inR g a → f b ≤ f a := by
 induction hr with
 | refl c => exact fun _ => Int.le_refl _
 | step hm t ih =>
  intro ha
  have h1 := h _ ha _ hm
  have h2 := ih (hv _ ha _ hm)
  omega
theorem AbK {g : List Ai} (hv : Sm g) (f : Int → Int) (h : ∀ c, inR g c → ∀ p ∈ A8 g c, f p < f c) : ¬Lz g := by
 rintro ⟨c, hc, p, hp, hr⟩
 have h1 := h c hc p hp
 have h2 := AbS hv f h hr (hv c hc p hp)
 omega
theorem Adu {n : Nat} {l : List Int} (hn : l.Nodup) (h : ∀ p ∈ l, 0 ≤ p ∧ p < (n : Int)) : Po n l := by
 intro j hj
 refine ⟨h _ (Br hj), fun hm => ?_⟩
 obtain ⟨i, hi⟩ := List.getElem?_of_mem hm
 have hi2 : i < (l.take j).length := (List.getElem?_eq_some_iff.1 hi).1
 rw [List.length_take] at hi2
 rw [List.getElem?_take_of_lt (by omega), List.getElem?_eq_getElem (by omega), List.getD_eq_getElem?_getD, List.getElem?_eq_getElem hj, Option.getD_some] at hi
 rw [List.nodup_iff_pairwise_ne, List.pairwise_iff_getElem] at hn
 exact hn i j (by omega) hj (by omega) (Option.some.inj hi)
def AaD (n : Nat) (g : List Ai) : Prop := g.length ≤ n ∧ Dt g 0 ∧ Mt g ∧ ∀ c ∈ g, Hm 768 c.2.2 ∧ c.1.length ≤ 3
theorem ME : ∀ {g : List Ai}, (∀ c ∈ g, Fm c.2.2 = 0) → GP g = 0
 | [], _ => rfl
 | c :: g, h => by
  rw [GP, if_neg (by simpa using h c (List.mem_cons_self ..))]
  exact ME fun x hx => h x (List.mem_cons_of_mem _ hx)
theorem YU {n : Nat} {g : List Ai} (hn : g.length ≤ n) (hn2 : n ≤ 9) (f : Int → Int) (h : ∀ j, j < g.length → (g.getD j ([], (0, []))).1.length ≤ 3 ∧ (g.getD j ([], (0, []))).1.Nodup ∧ (∀ p ∈ (g.getD j ([], (0, []))).1, (0 ≤ p ∧ p < (g.length : Int)) ∧ f p < f j) ∧ (0 ≤ (g.getD j ([], (0, []))).2.1 ∧ (g.getD j ([], (0, []))).2.1 < 5) ∧ Hm 768 (g.getD j ([], (0, []))).2.2) : AaD n g := by
 have hT : ∀ c ∈ g, Hm 768 c.2.2 ∧ c.1.length ≤ 3 := CO (d := ([], (0, []))) fun j hj => ⟨(h j hj).2.2.2.2, (h j hj).1⟩
 have hrel : G7 g := CO (d := ([], (0, []))) (p := fun c => Po g.length c.1) fun j hj => Adu (h j hj).2.1 fun p hp => ((h j hj).2.2.1 p hp).1
 have hv := HD hrel
 refine ⟨hn, Oy ⟨by omega, fun c hc => Nat.le_trans (hT c hc).2 (by decide)⟩ hrel (AbK hv f fun c hc p hp => ?_) (CO (d := ([], (0, []))) (p := fun c => 0 ≤ c.2.1 ∧ c.2.1 ≤ 2147483647) fun j hj => by have := (h j hj).2.2.2.1; omega) (ME fun c hc => Aau (hT c hc).1 (by decide)).symm, fun c hc => (Ace (hT c hc).1 (by decide)).2, hT⟩
 have h0 := hc.1
 have h1 := hc.2
 have := ((h c.toNat (by omega)).2.2.1 p hp).2
 rw [show ((c.toNat : Nat) : Int) = c by omega] at this
 exact this
theorem Afh {B n : Nat} {g : List Ai} (hB : B ≤ 3) (hn : g.length ≤ n) (hn2 : n ≤ 9) (h : GU B g) : AaD n g := YU hn hn2 (fun x => x) fun j hj => by
 obtain ⟨⟨h1, h2, h3⟩, h4, h5⟩ := h j hj
 exact ⟨h1, h2, fun p hp => ⟨by have := h3 p hp; omega, (h3 p hp).2⟩, h4, h5.mono (AbN hB (by omega))⟩
theorem Z3 {α β : Type} {f : α → β} (hf : ∀ a b, f a = f b → a = b) {l : List α} (h : l.Nodup) : (l.map f).Nodup := by
 rw [List.nodup_iff_pairwise_ne] at *
 rw [List.pairwise_map]
 exact h.imp fun hne e => hne (hf _ _ e)
theorem AdO {B n : Nat} {g d : List Ai} (hB : B ≤ 3) (hn : g.length ≤ n) (hn2 : n ≤ 9) (h : GU B g) (ht : AaE g d) : AaD n d := by
 rcases ht with rfl | ⟨hl, ht⟩
 ·exact Afh hB hn hn2 h
 ·refine YU (by omega) hn2 (fun x => -x) fun j hj => ?_
  have e := ht (g.length - 1 - j) (by omega)
  rw [show g.length - 1 - (g.length - 1 - j) = j by omega] at e
  rw [e]
  obtain ⟨⟨h1, h2, h3⟩, h4, h5⟩ := h (g.length - 1 - j) (by omega)
  refine ⟨by unfold Ry; rw [List.length_map]; exact h1, Z3 (fun a b e => by omega) h2, fun p hp => ?_, h4, h5.mono (AbN hB (by omega))⟩
  obtain ⟨q, hq, rfl⟩ := List.mem_map.1 hp
  have := h3 q hq
  omega
def PS (P : Pg) : Prop := ∀ x : List Int × (Int × Int), (0 ≤ x.2.1 ∧ x.2.1 ≤ 9) → (0 ≤ x.2.2 ∧ x.2.2 ≤ 2) → Fn P Acq DX x fun (d : List Ai) _ => AaD x.2.1.toNat d
theorem Ab5 (h : Has P HY) (hA : LC P) (hM : Jj P) (hF : IL P) (hC : NW P) (hT : N2 P) : PS P := by
 rintro ⟨raw, n, lines⟩ ⟨n0, n1⟩ ⟨l0, l1⟩
 dsimp only at n0 n1 l0 l1
 refine TR h ?_
 unfold OS
 dsimp only
 rw [w64 (n := n + 1) (by omega) (by omega)]
 refine hA.at (by decide) (hM.at (by omega) (by omega) ?_)
 have hr := EE (a := atF raw 0) (n := n + 1) (by omega) (by omega)
 generalize F8 (atF raw 0) (n + 1) = m at hr ⊢
 have hB : lines.toNat + 1 ≤ 3 := by omega
 refine Ad.mid (fun g => g.length = m.toNat ∧ GU (lines.toNat + 1) g) ?_ fun g hg => ?_
 ·refine AF.of (fun q => (0 ≤ q.2 ∧ q.2 ≤ m) ∧ q.1.length = q.2.toNat ∧ GU (lines.toNat + 1) q.1) (fun q => (m - q.2).toNat) ⟨⟨Int.le_refl _, hr.1⟩, rfl, fun j hj => absurd hj (by simp)⟩ ?_
  rintro ⟨g, i⟩ ⟨⟨i0, i1⟩, hgl, hg⟩
  dsimp only at i0 i1 hgl hg ⊢
  refine ⟨fun hi => ?_, fun hi => by have hi := of_decide_eq_false hi; exact ⟨by omega, hg⟩⟩
  have hi := of_decide_eq_true hi
  refine Ad.mid (fun g => g.length = i.toNat + 1 ∧ GU (lines.toNat + 1) g) ?_ fun g2 hn => ?_
  ·rw [w64 (n := 1000 + i) (by omega) (by omega), w64 (n := 40 * i) (by omega) (by omega), w64 (n := 1100 + 40 * i) (by omega) (by omega), w64 (n := 1500 + i) (by omega) (by omega), w64 (n := 200 * i) (by omega) (by omega), w64 (n := 2000 + 200 * i) (by omega) (by omega), w64 (n := 1600 + i) (by omega) (by omega), w64 (n := i - 1) (by omega) (by omega)]
   refine hA.at (by omega) (hM.at (by decide) (by decide) ?_)
   have hdr := EE (a := atF raw (1000 + i)) (n := 5) (by decide) (by decide)
   generalize F8 (atF raw (1000 + i)) 5 = dt at hdr ⊢
   refine Ad.mid (fun x => IK i x.1 ∧ x.2 = (dt, [])) ?_ fun x hx => ?_
   ·refine AF.of (fun q => (0 ≤ q.1 ∧ q.1 ≤ i) ∧ IK q.1 q.2.1 ∧ q.2.2 = (dt, [])) (fun q => (i - q.1).toNat) ⟨⟨Int.le_refl _, i0⟩, ⟨Nat.zero_le _, List.nodup_nil, fun p hp => nomatch hp⟩, rfl⟩ ?_
    rintro ⟨p, ⟨l, r⟩⟩ ⟨⟨p0, p1⟩, hl, hrr⟩
    dsimp only at p0 p1 hl hrr ⊢
    refine ⟨fun hp => ?_, fun hp => by have hp := of_decide_eq_false hp; exact ⟨hl.mono (by omega), hrr⟩⟩
    have hp := of_decide_eq_true hp
    refine Ad.mid (fun x => IK (p + 1) x.1 ∧ x.2 = (dt, [])) ?_ fun x hx => ?_
    ·rw [w64 (n := 1100 + 40 * i + p) (by omega) (by omega)]
     refine hA.at (by omega) ⟨by decide, ?_⟩
     refine Ad.mid (fun x => IK (p + 1) x.1 ∧ x.2 = (dt, [])) ⟨fun hb => ?_, fun _ => ⟨hl.mono (by omega), hrr⟩⟩ fun _ h => h
     have hb2 := of_decide_eq_true (Qb hb).2
     exact ⟨by simp only [List.length_cons, List.length_nil]; omega, hl.app p0 (by omega), hrr⟩
    ·rw [w64 (by omega) (by omega)]
     exact ⟨⟨⟨by omega, by omega⟩, hx.1, hx.2⟩, by omega⟩
   ·refine Ad.mid (fun _ => True) ⟨fun _ => hA.at (by omega) trivial, fun _ => trivial, trivial⟩ fun d27 _ => ⟨fun _ => by decide, ?_⟩
    refine Ad.mid (fun y => IK i y.1 ∧ y.2 = (dt, [])) ⟨fun hb => ?_, fun _ => hx⟩ fun y hy => ?_
    ·have hi0 := of_decide_eq_true (Qb (Qb hb).1).2
     exact ⟨⟨Nat.succ_le_succ (Nat.zero_le _), by simp, fun p hp => by rw [List.mem_singleton.1 hp]; omega⟩, hx.2⟩
    ·obtain ⟨hy1, hy2⟩ := hy
     refine (hF (raw, (2000 + 200 * i, lines)) ⟨by dsimp only; omega, by dsimp only; omega⟩ ⟨l0, by dsimp only; omega⟩).to ?_
     rintro (fl : List Bh) _ hfl
     have hfl : fl = Hu raw (2000 + 200 * i) lines := hfl
     have hfs : Hm (lines.toNat + 1) fl := by rw [hfl]; exact Ve l0 (by omega)
     refine Ad.mid (fun _ => True) ⟨fun _ => hA.at (by omega) trivial, fun _ => trivial, trivial⟩ fun d34 _ => ⟨fun _ => by decide, ?_⟩
     have hii : ((i.toNat : Nat) : Int) = i := by omega
     have hy1' : IK ((i.toNat : Nat) : Int) y.1 := by rw [hii]; exact hy1
     have hdt : 0 ≤ y.2.1 ∧ y.2.1 < 5 := by rw [hy2]; exact hdr
     refine Ad.mid (fun z => OkC (lines.toNat + 1) i.toNat z) ⟨fun hb => ?_, fun _ => ?_⟩ fun z hz => ⟨by simp only [List.length_cons, List.length_nil]; omega, ?_, hg.app (by rw [hgl]; exact hz)⟩
     ·have hpos := of_decide_eq_true (Qb hb).1
      have hpos2 : 0 < y.1.length := by omega
      have hp := hy1.2.2 _ (Br (d := 0) hpos2)
      refine ⟨⟨by decide, by omega⟩, hpos2, ⟨hp.1, by rw [hgl]; exact (show y.1.getD 0 0 < ((i.toNat : Nat) : Int) by rw [hii]; exact hp.2)⟩, by have := hp.1; have := hp.2; show (y.1.getD 0 0).toNat < g.length; omega, ?_⟩
      have hpn : (y.1.getD 0 0).toNat < i.toNat := by omega
      have hog := hg (y.1.getD 0 0).toNat (by omega)
      have hpb := AbN (B := lines.toNat + 1) (i := (y.1.getD 0 0).toNat) hB (by omega)
      have hpo := pow_one (lines.toNat + 1) (y.1.getD 0 0).toNat
      have hup := AeB (B := lines.toNat + 1) hpn
      refine (hC ((lines.toNat + 1) * 2 ^ (y.1.getD 0 0).toNat) ((g.getD (y.1.getD 0 0).toNat ([], (0, []))).2.2, (raw, (2000 + 200 * i, lines))) hog.2.2 hpo (by omega) ⟨by dsimp only; omega, by dsimp only; omega⟩ ⟨l0, by dsimp only; omega⟩).to ?_
      rintro (fl2 : List Bh) _ hfl2
      exact ⟨hy1', hdt, Hm.mono hfl2 hup⟩
     ·exact ⟨hy1', hdt, hfs.mono (pow_one _ _)⟩
     ·rw [List.length_append, hgl]; rfl
  ·rw [w64 (by omega) (by omega)]
   exact ⟨⟨⟨by omega, by omega⟩, by rw [hn.1]; omega, hn.2⟩, by omega⟩
 ·refine (hT (g, raw) (by dsimp only; omega) fun j hj => ?_).to ?_
  ·have := (hg.2 j hj).1
   exact ⟨Nat.le_trans this.1 (by decide), fun p hp => by have h3 := this.2.2 p hp; have hj : j < g.length := hj; dsimp only; omega⟩
  ·rintro (d : List Ai) _ hd
   exact AdO hB (by omega) (by omega) hg.2 hd
end Go.VS
