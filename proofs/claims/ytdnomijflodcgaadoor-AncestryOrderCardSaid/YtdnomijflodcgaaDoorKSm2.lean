import Derived.Test.YtdnomijflodcgaaDoorKSm0
import Derived.Test.YtdnomijflodcgaaDoorKSm1
/- Blobs and trees made of raw numbers: which they are. -/
set_option linter.unusedVariables false
set_option linter.unusedSimpArgs false
namespace Go.VS
variable {P : Pg}
abbrev Ab0 : List Bs := [([97] : List UInt8), ([98] : List UInt8), ([99] : List UInt8), ([97, 98] : List UInt8), ([98, 97] : List UInt8), ([] : List UInt8), ([97, 97] : List UInt8), ([98, 32, 97] : List UInt8), ([120, 43, 121] : List UInt8), ([92] : List UInt8)]
def N2 (k : Int) : Bs := Ab0.getD (FB k 10).toNat []
theorem Nv (k : Int) : (N2 k).length ≤ 3 := by
 have hr := DV (a := k) (n := 10) (by decide) (by decide)
 unfold N2
 generalize FB k 10 = m at *
 have : m = 0 ∨ m = 1 ∨ m = 2 ∨ m = 3 ∨ m = 4 ∨ m = 5 ∨ m = 6 ∨ m = 7 ∨ m = 8 ∨ m = 9 := by omega
 rcases this with rfl | rfl | rfl | rfl | rfl | rfl | rfl | rfl | rfl | rfl <;> decide
def LM (P : Pg) : Prop := ∀ k : Int, Fn P AaB DD k fun (d : Bs) _ => d = N2 k
theorem Aao (h : Has P Iq) (hM : Iu P) : LM P := by
 intro k
 refine TZ h ?_
 unfold OV
 refine hM.at (by decide) (by decide) ?_
 have hr := DV (a := k) (n := 10) (by decide) (by decide)
 exact ⟨⟨by omega, by simp; omega⟩, by simp; omega, rfl⟩
def F5 (raw : List Int) (fr kinds : Int) : Nat → Bs
 | 0 => []
 | k + 1 => (F5 raw fr kinds k ++ N2 (FB (atF raw (fr + 1 + (k : Int))) kinds)) ++ [10]
theorem H4 (raw : List Int) (fr kinds : Int) : ∀ k, (F5 raw fr kinds k).length ≤ 4 * k
 | 0 => Nat.le_refl _
 | k + 1 => by
  have h1 := H4 raw fr kinds k
  have h2 := Nv (FB (atF raw (fr + 1 + (k : Int))) kinds)
  rw [F5, List.length_append, List.length_append]
  simp only [List.length_cons, List.length_nil]
  omega
def QZ (s : Bs) (z : Int) : Bool := cond (cond ((Int.tmod z (4 : Int)) == (0 : Int)) (decide (((List.length s : Nat) : Int) > (1 : Int))) false) (((UInt8.toNat (List.getD s (Int.toNat (IntKind.i64.wrap (((List.length s : Nat) : Int) - (2 : Int)))) 0) : Nat) : Int) != (10 : Int)) false
def LX (raw : List Int) (fr mx kinds : Int) : Bs :=
 if QZ (F5 raw fr kinds (FB (atF raw fr) (mx + 1)).toNat) (atF raw (fr + 90)) = true then (F5 raw fr kinds (FB (atF raw fr) (mx + 1)).toNat).take ((F5 raw fr kinds (FB (atF raw fr) (mx + 1)).toNat).length - 1) else F5 raw fr kinds (FB (atF raw fr) (mx + 1)).toNat
theorem XQ {raw : List Int} {fr mx kinds : Int} (h0 : 0 ≤ mx) (h1 : mx ≤ 100) : (LX raw fr mx kinds).length ≤ 400 := by
 have hr := DV (a := atF raw fr) (n := mx + 1) (by omega) (by omega)
 have h2 := H4 raw fr kinds (FB (atF raw fr) (mx + 1)).toNat
 unfold LX
 split
 ·rw [List.length_take]; omega
 ·omega
def OM (P : Pg) : Prop := ∀ x : List Int × (Int × (Int × Int)), (0 ≤ x.2.1 ∧ x.2.1 ≤ 1000000) → (0 ≤ x.2.2.1 ∧ x.2.2.1 ≤ 100) → (1 ≤ x.2.2.2 ∧ x.2.2.2 ≤ 100000) → Fn P zS7 Dg x fun (d : Bs) _ => d = LX x.1 x.2.1 x.2.2.1 x.2.2.2
theorem Aak (h : Has P Ip) (hA : KV P) (hM : Iu P) (hL : LM P) : OM P := by
 rintro ⟨raw, fr, mx, kinds⟩ ⟨f0, f1⟩ ⟨m0, m1⟩ ⟨k0, k1⟩
 dsimp only at f0 f1 m0 m1 k0 k1
 refine TY h ?_
 unfold OU
 dsimp only
 rw [w64 (n := mx + 1) (by omega) (by omega), w64 (n := fr + 1) (by omega) (by omega), w64 (n := fr + 90) (by omega) (by omega)]
 refine hA.at f0 (hM.at (by omega) (by omega) ?_)
 unfold LX
 have hr := DV (a := atF raw fr) (n := mx + 1) (by omega) (by omega)
 generalize FB (atF raw fr) (mx + 1) = m at hr ⊢
 refine Ai.mid (fun d => d = F5 raw fr kinds m.toNat) ?_ fun d hd => ?_
 ·refine Bl.of (fun q => (0 ≤ q.2 ∧ q.2 ≤ m) ∧ q.1 = F5 raw fr kinds q.2.toNat) (fun q => (m - q.2).toNat) ⟨⟨Int.le_refl _, hr.1⟩, rfl⟩ ?_
  rintro ⟨s, i⟩ ⟨⟨i0, i1⟩, hs⟩
  dsimp only at i0 i1 hs ⊢
  have hsl := H4 raw fr kinds i.toNat
  rw [← hs] at hsl
  refine ⟨fun hi => ?_, fun hi => by have hi := of_decide_eq_false hi; rw [hs, show i = m by omega]⟩
  have hi := of_decide_eq_true hi
  have hnx : F5 raw fr kinds (i.toNat + 1) = (s ++ N2 (FB (atF raw (fr + 1 + i)) kinds)) ++ [10] := by
   rw [F5, ← hs, show ((i.toNat : Nat) : Int) = i by omega]
  have hll := Nv (FB (atF raw (fr + 1 + i)) kinds)
  refine Ai.mid (fun d => d = F5 raw fr kinds (i.toNat + 1)) ?_ fun d hd => ?_
  ·rw [w64 (by omega) (by omega)]
   refine hA.at (by omega) (hM.at k0 (by omega) ((hL _).to ?_))
   rintro (ln : Bs) _ hln
   have hln : ln = _ := hln
   subst hln
   refine ⟨by omega, by rw [List.length_append]; simp only [List.length_cons, List.length_nil]; omega, hnx.symm⟩
  ·rw [w64 (by omega) (by omega)]
   exact ⟨⟨⟨by omega, by omega⟩, by rw [hd, show (i + 1).toNat = i.toNat + 1 by omega]⟩, by omega⟩
 ·subst hd
  have hbl := H4 raw fr kinds m.toNat
  generalize F5 raw fr kinds m.toNat = d at hbl ⊢
  refine hA.at (by omega) ⟨by decide, fun hc => ?_, ?_⟩
  ·rw [Bool.cond_eq_ite] at hc
   split at hc
   ·have h1 := of_decide_eq_true hc
    rw [w64 (by omega) (by omega)]
    omega
   ·cases hc
  ·refine Ai.mid (fun e => e = if QZ d (atF raw (fr + 90)) = true then d.take (d.length - 1) else d) ⟨fun hc => ?_, fun hc => ?_⟩ fun _ h => h
   ·have h1 : 1 < d.length := by
     rw [Bool.cond_eq_ite] at hc
     split at hc
     ·rename_i h2
      rw [Bool.cond_eq_ite] at h2
      split at h2
      ·have := of_decide_eq_true h2; omega
      ·cases h2
     ·cases hc
    rw [w64 (by omega) (by omega)]
    refine ⟨⟨by omega, by omega⟩, ?_⟩
    have hc : QZ d (atF raw (fr + 90)) = true := by unfold QZ; exact hc
    rw [if_pos hc, show (((d.length : Nat) : Int) - 1).toNat = d.length - 1 by omega]
   ·have hc : QZ d (atF raw (fr + 90)) = false := by unfold QZ; exact hc
    rw [if_neg (by rw [hc]; exact Bool.false_ne_true)]
theorem OH : ∀ (s acc : Bs), (lnN acc s).length ≤ s.length
 | [], acc => by rw [lnN]; exact Nat.le_refl _
 | b :: r, acc => by
  rw [lnN]
  split
  ·have := OH r []; simp only [List.length_cons]; omega
  ·have := OH r (acc ++ [b]); simp only [List.length_cons]; omega
theorem VO {s : Bs} (h : s.length ≤ 4000) : Jg s = 0 := by
 have h1 : (lnF s).length ≤ s.length := OH s []
 unfold Jg
 rw [if_neg (by omega)]
abbrev Bu : List Bs := [([97] : List UInt8), ([98, 47, 120] : List UInt8), ([98, 47, 121] : List UInt8), ([99, 32, 100] : List UInt8)]
def X0 (raw : List Int) (fr lines : Int) (i : Nat) : Option AA := if atF raw (fr + (i : Int)) % 3 > 0 then some (Bu.getD i [], LX raw (fr + 10 + 20 * (i : Int)) lines 4) else none
def Og (raw : List Int) (fr lines : Int) (k : Nat) : List AA := (List.range k).filterMap (X0 raw fr lines)
def GY (raw : List Int) (fr lines : Int) : List AA := Og raw fr lines 4
theorem X1 (raw : List Int) (fr lines : Int) (k : Nat) : Og raw fr lines (k + 1) = Og raw fr lines k ++ (X0 raw fr lines k).toList := by
 unfold Og
 rw [List.range_succ, List.filterMap_append]
 cases h : X0 raw fr lines k with
 | none => simp [h]
 | some v => simp [h]
def Ab8 (l : List AA) : Prop := ∃ q : Nat → Option Bs, (∀ i v, q i = some v → v.length ≤ 4000) ∧ l = (List.range 4).filterMap fun i => (q i).map fun v => (Bu.getD i [], v)
theorem TO {raw : List Int} {fr lines : Int} (h0 : 0 ≤ lines) (h1 : lines ≤ 100) : Ab8 (GY raw fr lines) := by
 refine ⟨fun i => if atF raw (fr + (i : Int)) % 3 > 0 then some (LX raw (fr + 10 + 20 * (i : Int)) lines 4) else none, fun i v hv => ?_, ?_⟩
 ·dsimp only at hv
  split at hv
  ·cases hv; have := XQ (raw := raw) (fr := fr + 10 + 20 * (i : Int)) (kinds := 4) h0 h1; omega
  ·cases hv
 ·unfold GY Og
  congr 1
  funext i
  unfold X0
  dsimp only
  split <;> rfl
theorem Vh {l : List AA} (h : Ab8 l) : ∃ a b c d : Option Bs, (∀ v, a = some v ∨ b = some v ∨ c = some v ∨ d = some v → v.length ≤ 4000) ∧ l = (a.map fun v => (Bu.getD 0 [], v)).toList ++ ((b.map fun v => (Bu.getD 1 [], v)).toList ++ ((c.map fun v => (Bu.getD 2 [], v)).toList ++ (d.map fun v => (Bu.getD 3 [], v)).toList)) := by
 obtain ⟨q, hq, rfl⟩ := h
 refine ⟨q 0, q 1, q 2, q 3, fun v hv => ?_, ?_⟩
 ·rcases hv with h | h | h | h
  ·exact hq _ _ h
  ·exact hq _ _ h
  ·exact hq _ _ h
  ·exact hq _ _ h
 ·show (List.range 4).filterMap _ = _
  rw [show List.range 4 = [0, 1, 2, 3] from rfl]
  cases h0 : q 0 <;> cases h1 : q 1 <;> cases h2 : q 2 <;> cases h3 : q 3 <;> simp [h0, h1, h2, h3, List.filterMap]
end Go.VS

/- Trees made of raw numbers; lists that are compared. -/
set_option linter.unusedVariables false
set_option linter.unusedSimpArgs false
namespace Go.VS
variable {P : Pg}
def HY (P : Pg) : Prop := ∀ x : List Int × (Int × Int), (0 ≤ x.2.1 ∧ x.2.1 ≤ 100000) → (0 ≤ x.2.2 ∧ x.2.2 ≤ 100) → Fn P zS8 CI x fun (d : List AA) _ => d = GY x.1 x.2.1 x.2.2
theorem Aam (h : Has P Ht) (hA : KV P) (hB : OM P) : HY P := by
 rintro ⟨raw, fr, lines⟩ ⟨f0, f1⟩ ⟨l0, l1⟩
 dsimp only at f0 f1 l0 l1
 refine Si h ?_
 unfold NK
 dsimp only
 refine Ai.mid (fun d => d = GY raw fr lines) ?_ fun _ h => h
 have hlen4 : (Bu : List Bs).length = 4 := rfl
 unfold GY
 have hsl : ∀ k, (Og raw fr lines k).length ≤ k := fun k => by unfold Og; exact Nat.le_trans (List.length_filterMap_le ..) (by rw [List.length_range]; exact Nat.le_refl _)
 refine Bl.of (fun q => (0 ≤ q.2 ∧ q.2 ≤ 4) ∧ q.1 = Og raw fr lines q.2.toNat) (fun q => (4 - q.2).toNat) ⟨⟨Int.le_refl _, by decide⟩, rfl⟩ ?_
 rintro ⟨o, i⟩ ⟨⟨i0, i1⟩, ho⟩
 dsimp only at i0 i1 ho ⊢
 refine ⟨fun hi => ?_, fun hi => by have hi := of_decide_eq_false hi; rw [ho, show i = 4 by omega]; rfl⟩
 have hi := of_decide_eq_true hi
 have hnx := X1 raw fr lines i.toNat
 have hol := hsl i.toNat
 rw [← ho] at hnx hol
 unfold X0 at hnx
 rw [show ((i.toNat : Nat) : Int) = i by omega] at hnx
 have hr := XH raw (fr + i)
 have hi4 : i < ((List.length (Bu : List Bs) : Nat) : Int) := by rw [hlen4]; omega
 have hi5 : i.toNat < List.length (Bu : List Bs) := by rw [hlen4]; omega
 have hsz : ∀ v : Bs, (o.length + ([(Bu.getD i.toNat [], v)] : List AA).length) * 32 ≤ 140737488355328 := fun v => by
  simp only [List.length_cons, List.length_nil]; omega
 refine Ai.mid (fun d => d = Og raw fr lines (i.toNat + 1)) ?_ fun d hd => ?_
 ·rw [w64 (n := fr + i) (by omega) (by omega), w64 (n := fr + 10) (by omega) (by omega), w64 (n := 20 * i) (by omega) (by omega), w64 (n := fr + 10 + 20 * i) (by omega) (by omega)]
  refine hA.at (by omega) ⟨by decide, ?_⟩
  rw [Int.tmod_eq_emod_of_nonneg hr.1]
  refine Ai.mid (fun d => d = Og raw fr lines (i.toNat + 1)) ⟨fun hc => ?_, fun hc => ?_⟩ fun _ h => h
  ·have hc := of_decide_eq_true hc
   rw [if_pos hc] at hnx
   have hbl : ∀ {K : Bs → Unit → Prop}, K (LX raw (fr + 10 + 20 * i) lines 4) () → Fn P zS7 Dg (raw, (fr + 10 + 20 * i, (lines, (4 : Int)))) K := fun {K} hk => (hB (raw, (fr + 10 + 20 * i, (lines, (4 : Int)))) ⟨by dsimp only; omega, by dsimp only; omega⟩ ⟨l0, l1⟩ ⟨(by decide : (1 : Int) ≤ 4), (by decide : (4 : Int) ≤ 100000)⟩).to fun (d : Bs) _ hd => by
    have hd : d = _ := hd
    subst hd
    exact hk
   refine Ai.mid (fun d => d = Og raw fr lines (i.toNat + 1)) (by repeat' (first | exact trivial | exact i0 | exact hi4 | exact hi5 | exact hsz _ | exact hnx.symm | apply And.intro | (refine hbl ?_))) fun _ h => h
  ·have hc := of_decide_eq_false hc
   rw [if_neg hc] at hnx
   rw [hnx]
   exact (List.append_nil o).symm
 ·subst hd
  rw [w64 (by omega) (by omega)]
  exact ⟨⟨⟨by omega, by omega⟩, by rw [show (i + 1).toNat = i.toNat + 1 by omega]⟩, by omega⟩
theorem HY.at (h : HY P) {raw : List Int} {fr lines : Int} (f0 : 0 ≤ fr) (f1 : fr ≤ 100000) (l0 : 0 ≤ lines) (l1 : lines ≤ 100) {K : List AA → Unit → Prop} (hk : K (GY raw fr lines) ()) : Fn P zS8 CI (raw, (fr, lines)) K :=
 (h (raw, (fr, lines)) ⟨f0, f1⟩ ⟨l0, l1⟩).to fun (d : List AA) _ hd => by
  have hd : d = GY raw fr lines := hd
  subst hd
  exact hk
end Go.VS

/- changes: the lists of a commit. -/
set_option linter.unusedVariables false
set_option linter.unusedSimpArgs false
namespace Go.VS
variable {P : Pg}
theorem Ep {g : List Aq} (h : DF g 0) : Ia g ∧ HN g ∧ ¬L8 g ∧ Oe g ∧ HF g = 0 := by
 have k1 : Ia g := Classical.byContradiction fun k => by have := h.1 k; omega
 have k2 : HN g := Classical.byContradiction fun k => by have := h.2.1 k1 k; omega
 have k3 : ¬L8 g := fun k => by have := h.2.2.1 k1 k2 k; omega
 have k4 : Oe g := Classical.byContradiction fun k => by have := h.2.2.2.1 k1 k2 k3 k; omega
 exact ⟨k1, k2, k3, k4, (h.2.2.2.2 k1 k2 k3 k4).symm⟩
theorem AcH (g : List Aq) (c : Int) : (cond (decide (c ≥ (0 : Int))) (decide (c < ((List.length g : Nat) : Int))) false) = true ↔ inR g c := by
 unfold inR
 rw [Bool.cond_eq_ite]
 by_cases h : c ≥ 0
 ·rw [if_pos (decide_eq_true h)]
  exact ⟨fun k => ⟨h, of_decide_eq_true k⟩, fun k => decide_eq_true k.2⟩
 ·rw [if_neg (by simpa using h)]
  exact ⟨fun k => (by cases k), fun k => absurd k.1 h⟩
theorem Ke {α : Type} {l : List α} {k : Nat} {d : α} (h : k < l.length) : l.take (k + 1) = l.take k ++ [l.getD k d] := by
 rw [List.take_add_one, List.getD_eq_getElem?_getD, List.getElem?_eq_getElem h]
 rfl
theorem ZM {α : Type} {q r : List α} {k : Nat} {d : α} (h : k < q.length) : (q ++ r).getD k d = q.getD k d := by
 rw [List.getD_eq_getElem?_getD, List.getElem?_append_left h, ← List.getD_eq_getElem?_getD]
theorem ZN {α : Type} {q : List α} {v d : α} : (q ++ [v]).getD q.length d = v := by
 rw [List.getD_eq_getElem?_getD, List.getElem?_append_right (Nat.le_refl _), Nat.sub_self]
 rfl
end Go.VS

/- Ancestors: who is left of a list of commits. -/
set_option linter.unusedVariables false
set_option linter.unusedSimpArgs false
namespace Go.VS
variable {P : Pg}
def Cov (g : List Aq) (l : List Int) (x : Int) : Prop := ∃ f ∈ l, f ≠ x ∧ Rch g f x
def AeF (g : List Aq) (l d : List Int) : Prop := ∃ b : Int → Bool, (∀ x ∈ l, (b x = true ↔ ¬Cov g l x)) ∧ d = l.filter b
theorem AeZ {g : List Aq} {l d e : List Int} (h : AeF g l d) (k : AeF g l e) : d = e := by
 obtain ⟨b, hb, rfl⟩ := h
 obtain ⟨c, hc, rfl⟩ := k
 refine List.filter_congr fun x hx => ?_
 have := (hb x hx).trans (hc x hx).symm
 cases h1 : b x <;> cases h2 : c x <;> simp_all
theorem Afr : ∀ {l m : List Int}, (l.Pairwise fun x y => x < y) → (m.Pairwise fun x y => x < y) → (∀ t, t ∈ l ↔ t ∈ m) → l = m
 | [], [], _, _, _ => rfl
 | [], b :: m, _, _, h => nomatch (h b).2 (List.mem_cons_self ..)
 | a :: l, [], _, _, h => nomatch (h a).1 (List.mem_cons_self ..)
 | a :: l, b :: m, hl, hm, h => by
  have hl2 := List.pairwise_cons.1 hl
  have hm2 := List.pairwise_cons.1 hm
  have e : a = b := by
   rcases List.mem_cons.1 ((h a).1 (List.mem_cons_self ..)) with e | h1
   ·exact e
   ·rcases List.mem_cons.1 ((h b).2 (List.mem_cons_self ..)) with e | h2
    ·exact e.symm
    ·have := hm2.1 a h1
     have := hl2.1 b h2
     omega
  subst e
  rw [Afr hl2.2 hm2.2 fun t => ⟨fun ht => ?_, fun ht => ?_⟩]
  ·rcases List.mem_cons.1 ((h t).1 (List.mem_cons_of_mem _ ht)) with e | h1
   ·have := hl2.1 t ht
    omega
   ·exact h1
  ·rcases List.mem_cons.1 ((h t).2 (List.mem_cons_of_mem _ ht)) with e | h1
   ·have := hm2.1 t ht
    omega
   ·exact h1
def AeB (g : List Aq) (p : Int → Prop) (d : List Int) : Prop := ∃ b : Int → Bool, (∀ x, inR g x → (b x = true ↔ p x)) ∧ d = (rng g.length).filter b
theorem Ae0 {g : List Aq} {p q : Int → Prop} {d e : List Int} (h : AeB g p d) (k : AeB g q e) (hpq : ∀ x, inR g x → (p x ↔ q x)) : d = e := by
 obtain ⟨b, hb, rfl⟩ := h
 obtain ⟨c, hc, rfl⟩ := k
 refine List.filter_congr fun x hx => ?_
 have hx : inR g x := EV.1 hx
 have := ((hb x hx).trans (hpq x hx)).trans (hc x hx).symm
 cases h1 : b x <;> cases h2 : c x <;> simp_all
theorem AeB.mem {g : List Aq} {p : Int → Prop} {d : List Int} (h : AeB g p d) {x : Int} : x ∈ d ↔ inR g x ∧ p x := by
 obtain ⟨b, hb, rfl⟩ := h
 rw [List.mem_filter, EV]
 exact ⟨fun k => ⟨k.1, (hb x k.1).1 k.2⟩, fun k => ⟨k.1, (hb x k.1).2 k.2⟩⟩
theorem Agi (n : Nat) : (rng n).Pairwise fun x y => x < y := by
 unfold rng
 rw [List.pairwise_map]
 exact (List.pairwise_lt_range).imp fun h => by omega
theorem AeB.len {g : List Aq} {p : Int → Prop} {d : List Int} (h : AeB g p d) : d.length ≤ g.length := by
 obtain ⟨b, _, rfl⟩ := h
 exact Nat.le_trans (List.length_filter_le _ _) (by rw [IL]; exact Nat.le_refl _)
theorem Afn {g : List Aq} {p : Int → Prop} {d : List Int} (hs : d.Pairwise fun x y => x < y) (hm : ∀ x, x ∈ d ↔ inR g x ∧ p x) : AeB g p d := by
 refine ⟨fun x => decide (x ∈ d), fun x hx => ?_, ?_⟩
 ·rw [decide_eq_true_eq, hm]
  exact ⟨fun h => h.2, fun h => ⟨hx, h⟩⟩
 ·refine Afr hs ((Agi _).sublist List.filter_sublist) fun x => ?_
  rw [List.mem_filter, EV, decide_eq_true_eq]
  exact ⟨fun h => ⟨((hm x).1 h).1, h⟩, fun h => h.2⟩
theorem AeF.sub {g : List Aq} {l d : List Int} (h : AeF g l d) : d.Sublist l := by
 obtain ⟨b, _, rfl⟩ := h
 exact List.filter_sublist
theorem AeF.mem {g : List Aq} {l d : List Int} (h : AeF g l d) {x : Int} : x ∈ d ↔ x ∈ l ∧ ¬Cov g l x := by
 obtain ⟨b, hb, rfl⟩ := h
 rw [List.mem_filter]
 exact ⟨fun k => ⟨k.1, (hb x k.1).1 k.2⟩, fun k => ⟨k.1, (hb x k.1).2 k.2⟩⟩
theorem AfV {g : List Aq} (hv : Vl g) (hc : ¬L8 g) {a b : Int} (ha : inR g a) (h : Rch g a b) (k : Rch g b a) : a = b := by
 cases h with
 | refl => rfl
 | step h t => exact (hc ⟨a, ha, _, h, t.trans k⟩).elim
def Afi {α : Type} (g : List Aq) (ok : Prop) (z : α) (good : α → Prop) (d : α × Int) : Prop := ∃ e, DF g e ∧ (e ≠ 0 → d = (z, e)) ∧ (e = 0 → ¬ok → d = (z, 5)) ∧ (e = 0 → ok → good d.1 ∧ d.2 = 0)
def Aiw (g : List Aq) (c : Int) (d : List Int × Int) : Prop := Afi g (inR g c) [] (AeB g (Rch g c)) d
def AiE (g : List Aq) (a c : Int) (d : Bool × Int) : Prop := Afi g (inR g a ∧ inR g c) false (fun b => b = true ↔ Rch g c a) d
def Aev (g : List Aq) (a b : Int) (d : List Int × Int) : Prop := Afi g (inR g a ∧ inR g b) [] (fun d => ∃ L, AeB g (fun x => Rch g a x ∧ Rch g b x) L ∧ AeF g L d) d
def Afz (g : List Aq) (l : List Int) (d : List Int × Int) : Prop := Afi g (∀ x ∈ l, inR g x) [] (fun d => ∃ L, AeB g (fun x => x ∈ l) L ∧ AeF g L d) d
end Go.VS

/- Near: how long a changed text is, and how many lines it has. -/
set_option linter.unusedVariables false
set_option linter.unusedSimpArgs false
namespace Go.VS
variable {P : Pg}
theorem Nw : ∀ (s acc : Bs), s ≠ [] → (lnN acc s).flatten = acc ++ s
 | [], _, h => absurd rfl h
 | b :: r, acc, _ => by
  rw [lnN]
  split
  ·by_cases hr : r = []
   ·subst hr; simp [lnN]
   ·rw [List.flatten_cons, Nw r [] hr]; simp
  ·rename_i h
   have hr : r ≠ [] := fun e => h (Or.inr e)
   rw [Nw r (acc ++ [b]) hr]; simp
theorem Yh (s : Bs) : (lnF s).flatten = s := by
 by_cases h : s = []
 ·subst h; rfl
 ·exact Nw s [] h
theorem Ur (k : Int) : (N2 k).count 10 = 0 := by
 have hr := DV (a := k) (n := 10) (by decide) (by decide)
 unfold N2
 generalize FB k 10 = m at *
 have : m = 0 ∨ m = 1 ∨ m = 2 ∨ m = 3 ∨ m = 4 ∨ m = 5 ∨ m = 6 ∨ m = 7 ∨ m = 8 ∨ m = 9 := by omega
 rcases this with rfl | rfl | rfl | rfl | rfl | rfl | rfl | rfl | rfl | rfl <;> decide
def OQ (P : Pg) : Prop := ∀ x : Bs × (List Int × Int), x.1.length ≤ 4000 → (0 ≤ x.2.2 ∧ x.2.2 ≤ 1000000) → Fn P YU Ej x fun (d : Bs) _ => d.length ≤ x.1.length + 4 * (x.1.count 10 + 1) ∧ d.count 10 ≤ 2 * x.1.count 10 + 1
theorem Aap (h : Has P Ir) (hA : KV P) (hL : LM P) (hN : Ld P) : OQ P := by
 rintro ⟨s, raw, fr⟩ hs ⟨f0, f1⟩
 dsimp only at hs f0 f1
 refine T2 h ?_
 unfold OW
 dsimp only
 refine (hN s (by omega)).to ?_
 rintro (l : List Bs) _ hl
 have hl : l = lnF s := hl
 have hlen : l.length ≤ s.count 10 + 1 := by
  have := Xj s
  rw [hl]
  split at this <;> omega
 have hlen2 : l.length ≤ s.length := by rw [hl]; exact OH s []
 have hfl : l.flatten = s := by rw [hl]; exact Yh s
 clear hl
 have hpre : ∀ k, k < l.length → (l.take (k + 1)).flatten = (l.take k).flatten ++ l.getD k [] := fun k hk => by
  rw [List.take_add_one, List.getElem?_eq_getElem hk, List.flatten_append, List.getD_eq_getElem?_getD, List.getElem?_eq_getElem hk]
  simp
 have hle : ∀ k, (l.take k).flatten.length ≤ s.length ∧ (l.take k).flatten.count 10 ≤ s.count 10 := fun k => by
  have : l.flatten = (l.take k).flatten ++ (l.drop k).flatten := by rw [← List.flatten_append, List.take_append_drop]
  rw [hfl] at this
  have h1 := congrArg List.length this
  have h2 := congrArg (List.count (10 : UInt8)) this
  rw [List.length_append] at h1
  rw [List.count_append] at h2
  omega
 rw [w64 (n := fr + 40) (by omega) (by omega)]
 refine Ai.mid (fun d => d.length ≤ s.length + 4 * (s.count 10 + 1) ∧ d.count 10 ≤ 2 * s.count 10 + 1) ?_ fun _ h => h
 refine Bl.of (fun q => (0 ≤ q.2 ∧ q.2 ≤ l.length) ∧ (q.1.length : Int) ≤ 4 * q.2 + ((l.take q.2.toNat).flatten.length : Nat) ∧ (q.1.count 10 : Int) ≤ q.2 + ((l.take q.2.toNat).flatten.count 10 : Nat)) (fun q => (l.length - q.2).toNat) ⟨⟨Int.le_refl _, Int.natCast_nonneg _⟩, by simp, by simp⟩ ?_
 rintro ⟨d, i⟩ ⟨⟨i0, i1⟩, hd, hc⟩
 dsimp only at i0 i1 hd hc ⊢
 have hti := hle i.toNat
 refine ⟨fun hi => ?_, fun hi => by have hi := of_decide_eq_false hi; omega⟩
 have hi := of_decide_eq_true hi
 have hi2 : i.toNat < l.length := by omega
 have hp := congrArg List.length (hpre i.toNat hi2)
 have hp2 := congrArg (List.count (10 : UInt8)) (hpre i.toNat hi2)
 rw [List.length_append] at hp
 rw [List.count_append] at hp2
 have htj := hle (i.toNat + 1)
 refine Ai.mid (fun d => (d.length : Int) ≤ 4 * (i + 1) + ((l.take (i.toNat + 1)).flatten.length : Nat) ∧ (d.count 10 : Int) ≤ i + 1 + ((l.take (i.toNat + 1)).flatten.count 10 : Nat)) ?_ fun d hd => ?_
 ·rw [w64 (n := fr + i) (by omega) (by omega), w64 (n := fr + 40 + i) (by omega) (by omega)]
  refine hA.at (by omega) ⟨by decide, ?_⟩
  refine Ai.mid (fun e => (e.length : Int) ≤ 4 * i + ((l.take i.toNat).flatten.length : Nat) + 4 ∧ (e.count 10 : Int) ≤ i + ((l.take i.toNat).flatten.count 10 : Nat) + 1) ⟨fun _ => by omega, fun _ => ?_⟩ fun e he => ?_
  ·refine Ai.mid (fun e => (e.length : Int) ≤ 4 * i + ((l.take i.toNat).flatten.length : Nat) + 4 ∧ (e.count 10 : Int) ≤ i + ((l.take i.toNat).flatten.count 10 : Nat) + 1) ⟨fun _ => ?_, fun _ => by omega⟩ fun _ h => h
   refine hA.at (by omega) ((hL _).to ?_)
   rintro (ln : Bs) _ hln
   have hln : ln = N2 _ := hln
   have hl1 := Nv (atF raw (fr + 40 + i))
   have hl2 := Ur (atF raw (fr + 40 + i))
   rw [← hln] at hl1 hl2
   refine ⟨by omega, by rw [List.length_append]; simp only [List.length_cons, List.length_nil]; omega, ?_⟩
   try dsimp only
   rw [List.length_append, List.length_append, List.count_append, List.count_append, hl2]
   simp only [List.length_cons, List.length_nil, List.count_singleton_self]
   omega
  ·refine ⟨⟨i0, hi⟩, hi2, by omega, ?_⟩
   try dsimp only
   rw [List.length_append, List.count_append]
   omega
 ·rw [w64 (by omega) (by omega), show (i + 1).toNat = i.toNat + 1 by omega]
  exact ⟨⟨⟨by omega, by omega⟩, hd.1, hd.2⟩, by omega⟩
end Go.VS

/- Trees made of raw numbers, and changed ones. -/
set_option linter.unusedVariables false
set_option linter.unusedSimpArgs false
namespace Go.VS
variable {P : Pg}
def O5 (B : Nat) (v : Bs) : Prop := v.count 10 + 1 ≤ B ∧ v.length + 4 ≤ 4 * B
def EH (B : Nat) (l : List AA) : Prop := (l.map (·.1)).Sublist Bu ∧ ∀ f ∈ l, O5 B f.2
theorem EH.mono {B C : Nat} {l : List AA} (h : EH B l) (hB : B ≤ C) : EH C l := ⟨h.1, fun f hf => by have := h.2 f hf; unfold O5 at *; omega⟩
theorem V7 : ∀ p ∈ Bu, EF p = 0 := by decide
theorem Rp : Bu.Pairwise fun p q => Op.bytesLess p q = true ∧ RX p q = false := by decide
theorem LG {B : Nat} {l : List AA} (h : EH B l) : l.length ≤ 4 := by
 have := h.1.length_le
 rw [List.length_map] at this
 exact this
theorem YR {B : Nat} {l : List AA} (h : EH B l) (hB : B ≤ 1000) : Ex l = 0 := by
 have hl := LG h
 have hp : l.all (fun f => EF f.1 == 0) = true := by
  rw [List.all_eq_true]
  intro f hf
  rw [V7 f.1 (h.1.subset (List.mem_map.2 ⟨f, hf, rfl⟩))]
  rfl
 have ho : PR l = true := by
  rw [UG]
  have hpw := Rp.sublist h.1
  rw [List.pairwise_map, List.pairwise_iff_getElem] at hpw
  intro i hi k hk
  have := hpw k i (by omega) hi hk
  unfold pth
  rw [List.getD_eq_getElem?_getD, List.getD_eq_getElem?_getD, List.getElem?_eq_getElem hi, List.getElem?_eq_getElem (Nat.lt_trans hk hi)]
  exact this
 have hc : l.all (fun f => Jg f.2 == 0) = true := by
  rw [List.all_eq_true]
  intro f hf
  have := (h.2 f hf).2
  rw [VO (by omega)]
  rfl
 unfold Ex
 rw [if_neg (by omega), if_neg (by rw [hp]; simp), if_neg (by rw [ho]; simp), if_neg (by rw [hc]; simp)]
theorem Yk : ∀ p ∈ Bu, p.length ≤ 3 := by decide
theorem Aax {B : Nat} {l : List AA} (h : EH B l) (hB : B ≤ 1000) : Fk l := ⟨by have := LG h; omega, fun f hf => by
 have h1 := Yk f.1 (h.1.subset (List.mem_map.2 ⟨f, hf, rfl⟩))
 have h2 := (h.2 f hf).2
 omega⟩
theorem Tw (raw : List Int) (fr kinds : Int) : ∀ k, (F5 raw fr kinds k).count 10 = k
 | 0 => rfl
 | k + 1 => by
  rw [F5, List.count_append, List.count_append, Tw raw fr kinds k, Ur]
  rfl
theorem Aa1 {raw : List Int} {fr mx kinds : Int} (h0 : 0 ≤ mx) (h1 : mx ≤ 100) : O5 (mx.toNat + 1) (LX raw fr mx kinds) := by
 have hr := DV (a := atF raw fr) (n := mx + 1) (by omega) (by omega)
 have h2 := H4 raw fr kinds (FB (atF raw fr) (mx + 1)).toNat
 have h3 := Tw raw fr kinds (FB (atF raw fr) (mx + 1)).toNat
 unfold LX O5
 split
 ·have h4 := (List.take_sublist ((F5 raw fr kinds (FB (atF raw fr) (mx + 1)).toNat).length - 1) (F5 raw fr kinds (FB (atF raw fr) (mx + 1)).toNat)).count_le (10 : UInt8)
  rw [List.length_take]
  omega
 ·omega
theorem OJ (p : Bs) (o : Option Bs) : (((o.map fun v => (p, v)).toList).map (·.1)).Sublist [p] := by cases o <;> simp
theorem TN {raw : List Int} {fr lines : Int} (h0 : 0 ≤ lines) (h1 : lines ≤ 100) : EH (lines.toNat + 1) (GY raw fr lines) := by
 refine ⟨?_, fun f hf => ?_⟩
 ·obtain ⟨a, b, c, d, _, hl⟩ := Vh (TO (raw := raw) (fr := fr) h0 h1)
  rw [hl, List.map_append, List.map_append, List.map_append]
  exact (OJ (Bu.getD 0 []) a).append ((OJ (Bu.getD 1 []) b).append ((OJ (Bu.getD 2 []) c).append (OJ (Bu.getD 3 []) d)))
 ·unfold GY Og at hf
  obtain ⟨i, _, hi⟩ := List.mem_filterMap.1 hf
  unfold X0 at hi
  split at hi
  ·have := Option.some.inj hi
   rw [← this]
   exact Aa1 h0 h1
  ·cases hi
theorem Uu {l : List AA} {i : Nat} (h : i < l.length) : (l.take (i + 1)).map (·.1) = (l.take i).map (·.1) ++ [(l.getD i ([], [])).1] := by
 rw [Ke (d := ([], [])) h, List.map_append]
 rfl
def Tk (B : Nat) (l : List AA) (i : Nat) (d : List AA) : Prop := (d.map (·.1)).Sublist ((l.take i).map (·.1)) ∧ ∀ f ∈ d, O5 B f.2
theorem XU {B : Nat} {l d : List AA} {i : Nat} (h : Tk B l i d) (hi : i < l.length) : Tk B l (i + 1) d := ⟨by rw [Uu hi]; exact h.1.trans (List.sublist_append_left _ _), h.2⟩
theorem Zo {B : Nat} {l d : List AA} {i : Nat} {v : Bs} (h : Tk B l i d) (hi : i < l.length) (hv : O5 B v) : Tk B l (i + 1) (d ++ [((l.getD i ([], [])).1, v)]) := by
 refine ⟨?_, fun f hf => ?_⟩
 ·rw [Uu hi, List.map_append]
  exact h.1.append (List.Sublist.refl _)
 ·rcases List.mem_append.1 hf with hf | hf
  ·exact h.2 f hf
  ·rw [List.mem_singleton.1 hf]
   exact hv
theorem Zp {B : Nat} {l d : List AA} {i : Nat} (h : Tk B l i d) (hl : l.length ≤ 4) : d.length ≤ 4 := by
 have := h.1.length_le
 rw [List.length_map, List.length_map, List.length_take] at this
 omega
def M3 (P : Pg) : Prop := ∀ (B : Nat) (x : List AA × (List Int × (Int × Int))), EH B x.1 → x.2.2.2.toNat + 1 ≤ B → B ≤ 900 → (0 ≤ x.2.2.1 ∧ x.2.2.1 ≤ 90000) → (0 ≤ x.2.2.2 ∧ x.2.2.2 ≤ 100) → Fn P AaC Du x fun (d : List AA) _ => EH (2 * B) d
theorem YF (h : Has P Gp) (hA : KV P) (hM : Iu P) (hN : OQ P) (hF : HY P) : M3 P := by
 rintro B ⟨l, raw, fr, lines⟩ hl hB hB2 ⟨f0, f1⟩ ⟨l0, l1⟩
 dsimp only at hl hB f0 f1 l0 l1
 have hl4 := LG hl
 refine Qz h ?_
 unfold LR
 dsimp only
 rw [w64 (n := fr + 3) (by omega) (by omega), w64 (n := fr + 5) (by omega) (by omega), w64 (n := fr + 7) (by omega) (by omega)]
 refine hA.at (by omega) (hM.at (by decide) (by decide) ?_)
 generalize FB (atF raw (fr + 3)) 4 = k
 refine Ai.mid (fun d => Tk (2 * B) l l.length d) ?_ fun d hd => ⟨fun _ => ?_, fun _ => ?_⟩
 ·refine Bl.of (fun q => (0 ≤ q.2 ∧ q.2 ≤ l.length) ∧ Tk (2 * B) l q.2.toNat q.1) (fun q => (l.length - q.2).toNat) ⟨⟨Int.le_refl _, Int.natCast_nonneg _⟩, by exact ⟨by simp, fun f hf => nomatch hf⟩⟩ ?_
  rintro ⟨d, i⟩ ⟨⟨i0, i1⟩, hd⟩
  dsimp only at i0 i1 hd ⊢
  refine ⟨fun hi => ?_, fun hi => by have hi := of_decide_eq_false hi; rw [show i.toNat = l.length by omega] at hd; exact hd⟩
  have hi := of_decide_eq_true hi
  have hi2 : i.toNat < l.length := by omega
  have hb := hl.2 _ (BK (d := ([], [])) hi2)
  have hb0 := hb
  unfold O5 at hb0
  have hdl := Zp hd hl4
  refine Ai.mid (fun d => Tk (2 * B) l (i.toNat + 1) d) ⟨⟨i0, hi⟩, hi2, ?_⟩ fun d hn => ?_
  ·refine Ai.mid (fun f => f.1 = (l.getD i.toNat ([], [])).1 ∧ O5 (2 * B) f.2) ⟨fun _ => ?_, fun _ => ⟨rfl, by unfold O5; omega⟩⟩ fun f hf => ⟨by simp only [List.length_cons, List.length_nil]; omega, ?_⟩
   ·refine (hN ((l.getD i.toNat ([], [])).2, (raw, fr + 7)) (by dsimp only; omega) ⟨by dsimp only; omega, by dsimp only; omega⟩).to ?_
    rintro (v : Bs) _ hv
    have hv : v.length ≤ (l.getD i.toNat ([], [])).2.length + 4 * ((l.getD i.toNat ([], [])).2.count 10 + 1) ∧ v.count 10 ≤ 2 * (l.getD i.toNat ([], [])).2.count 10 + 1 := hv
    have hvb : O5 (2 * B) v := by unfold O5; omega
    exact hA.at (by omega) ⟨by decide, fun _ => XU hd hi2, fun _ => ⟨rfl, hvb⟩⟩
   ·obtain ⟨a, b⟩ := f
    have e : a = (l.getD i.toNat ([], [])).1 := hf.1
    subst e
    exact Zo hd hi2 hf.2
  ·rw [w64 (by omega) (by omega)]
   exact ⟨⟨⟨by omega, by omega⟩, by rw [show (i + 1).toNat = i.toNat + 1 by omega]; exact hn⟩, by omega⟩
 ·refine (hF (raw, (fr, lines)) ⟨by dsimp only; omega, by dsimp only; omega⟩ ⟨l0, l1⟩).to ?_
  rintro (e : List AA) _ he
  have he : e = GY raw fr lines := he
  rw [he]
  exact (TN l0 l1).mono (by omega)
 ·refine ⟨?_, hd.2⟩
  have := hd.1
  rw [List.take_length] at this
  exact this.trans hl.1
end Go.VS

/- Graphs made of raw numbers: commits after their parents, and turned ones. -/
set_option linter.unusedVariables false
set_option linter.unusedSimpArgs false
namespace Go.VS
variable {P : Pg}
def HX (i : Int) (l : List Int) : Prop := l.length ≤ 3 ∧ l.Nodup ∧ ∀ p ∈ l, 0 ≤ p ∧ p < i
def OkC (B : Nat) (i : Nat) (c : Aq) : Prop := HX (i : Int) c.1 ∧ (0 ≤ c.2.1 ∧ c.2.1 < 5) ∧ EH (B * 2 ^ i) c.2.2
def GU (B : Nat) (g : List Aq) : Prop := ∀ j, j < g.length → OkC B j (g.getD j ([], (0, [])))
theorem HX.mono {i k : Int} {l : List Int} (h : HX i l) (hk : i ≤ k) : HX k l := ⟨h.1, h.2.1, fun p hp => by have := h.2.2 p hp; omega⟩
theorem HX.app {i : Int} {l : List Int} (h : HX i l) (h0 : 0 ≤ i) (hl : l.length < 3) : HX (i + 1) (l ++ [i]) := by
 refine ⟨by rw [List.length_append]; simp only [List.length_cons, List.length_nil]; omega, ?_, fun p hp => ?_⟩
 ·rw [List.nodup_append]
  refine ⟨h.2.1, by simp, fun a ha b hb => ?_⟩
  rw [List.mem_singleton.1 hb]
  have := h.2.2 a ha
  omega
 ·rcases List.mem_append.1 hp with hp | hp
  ·have := h.2.2 p hp
   omega
  ·rw [List.mem_singleton.1 hp]
   omega
theorem GU.app {B : Nat} {g : List Aq} {c : Aq} (h : GU B g) (hc : OkC B g.length c) : GU B (g ++ [c]) := by
 intro j hj
 rw [List.length_append, List.length_singleton] at hj
 by_cases hjg : j < g.length
 ·rw [ZM hjg]; exact h j hjg
 ·have e : j = g.length := by omega
  subst e
  rw [ZN]; exact hc
theorem Z5 {B i : Nat} (hB : B ≤ 3) (hi : i ≤ 8) : B * 2 ^ i ≤ 768 := Nat.mul_le_mul hB (Nat.pow_le_pow_right (by decide) hi : 2 ^ i ≤ 2 ^ 8)
theorem AcS {B i p : Nat} (h : p < i) : 2 * (B * 2 ^ p) ≤ B * 2 ^ i := by
 have h1 : 2 ^ (p + 1) ≤ 2 ^ i := Nat.pow_le_pow_right (by decide) h
 have h2 : 2 * (B * 2 ^ p) = B * 2 ^ (p + 1) := by rw [Nat.pow_succ, Nat.mul_comm 2, Nat.mul_assoc]
 rw [h2]
 exact Nat.mul_le_mul_left _ h1
theorem pow_one (B i : Nat) : B ≤ B * 2 ^ i := Nat.le_mul_of_pos_right _ (Nat.pow_pos (by decide))
theorem Sc {a b : Bool} (h : (cond a b false) = true) : a = true ∧ b = true := by cases a <;> simp_all
def Qr (n : Nat) (c : Aq) : Aq := (c.1.map fun p => (n : Int) - 1 - p, c.2)
def YZ (g d : List Aq) : Prop := d = g ∨ (d.length = g.length ∧ ∀ c, c < g.length → d.getD (g.length - 1 - c) ([], (0, [])) = Qr g.length (g.getD c ([], (0, []))))
theorem T9 {α : Type} {l : List α} {i : Nat} {v d : α} (h : i < l.length) : (l.set i v).getD i d = v := by
 rw [List.getD_eq_getElem?_getD, List.getElem?_set_self h]
 rfl
theorem getD_set_ne {α : Type} {l : List α} {i j : Nat} {v d : α} (h : i ≠ j) : (l.set i v).getD j d = l.getD j d := by
 rw [List.getD_eq_getElem?_getD, List.getElem?_set_ne h, ← List.getD_eq_getElem?_getD]
def M6 (P : Pg) : Prop := ∀ x : List Aq × List Int, x.1.length ≤ 1000 → (∀ j, j < x.1.length → (x.1.getD j ([], (0, []))).1.length ≤ 1000 ∧ ∀ p ∈ (x.1.getD j ([], (0, []))).1, 0 ≤ p ∧ p < (x.1.length : Int)) → Fn P AaD Dt x fun (d : List Aq) _ => YZ x.1 d
theorem YJ (h : Has P Gn) (hA : KV P) : M6 P := by
 rintro ⟨g, raw⟩ hg hp
 dsimp only at hg hp
 refine Qy h ?_
 unfold LQ
 dsimp only
 refine hA.at (by decide) ⟨by decide, fun _ => Or.inl rfl, fun _ => ⟨⟨by omega, by omega, by omega⟩, ?_⟩⟩
 refine Ai.mid (fun d => d.length = g.length ∧ ∀ c, c < g.length → d.getD (g.length - 1 - c) ([], (0, [])) = Qr g.length (g.getD c ([], (0, [])))) ?_ fun _ h => Or.inr h
 refine Bl.of (fun q => (0 ≤ q.2 ∧ q.2 ≤ g.length) ∧ q.1.length = g.length ∧ ∀ c, c < q.2.toNat → q.1.getD (g.length - 1 - c) ([], (0, [])) = Qr g.length (g.getD c ([], (0, [])))) (fun q => (g.length - q.2).toNat) ⟨⟨Int.le_refl _, Int.natCast_nonneg _⟩, by simp, fun c hc => absurd hc (by simp)⟩ ?_
 rintro ⟨d, i⟩ ⟨⟨i0, i1⟩, hdl, hd⟩
 dsimp only at i0 i1 hdl hd ⊢
 refine ⟨fun hi => ?_, fun hi => by have hi := of_decide_eq_false hi; exact ⟨hdl, fun c hc => hd c (by omega)⟩⟩
 have hi := of_decide_eq_true hi
 have hi2 : i.toNat < g.length := by omega
 obtain ⟨hpl, hpp⟩ := hp i.toNat hi2
 refine Ai.mid (fun d => d.length = g.length ∧ ∀ c, c < i.toNat + 1 → d.getD (g.length - 1 - c) ([], (0, [])) = Qr g.length (g.getD c ([], (0, [])))) ⟨⟨i0, hi⟩, hi2, ?_⟩ fun d2 hn => ?_
 ·have ez : g.getD i.toNat Ak = g.getD i.toNat ([], (0, [])) := rfl
  rw [ez]
  refine Ai.mid (fun y => y = Qr g.length (g.getD i.toNat ([], (0, [])))) ?_ fun y hy => ?_
  ·generalize g.getD i.toNat ([], (0, [])) = cm at hpl hpp ⊢
   obtain ⟨l, r⟩ := cm
   dsimp only at hpl hpp ⊢
   refine Bl.of (fun q => (0 ≤ q.1 ∧ q.1 ≤ l.length) ∧ q.2 = ((l.take q.1.toNat).map (fun p => (g.length : Int) - 1 - p), r)) (fun q => (l.length - q.1).toNat) ⟨⟨Int.le_refl _, Int.natCast_nonneg _⟩, rfl⟩ ?_
   rintro ⟨k, x⟩ ⟨⟨k0, k1⟩, hx⟩
   dsimp only at k0 k1 hx ⊢
   subst hx
   refine ⟨⟨i0, hi⟩, hi2, fun hk => ?_, fun hk => ?_⟩
   ·have hk := of_decide_eq_true hk
    have hk2 : k.toNat < l.length := by omega
    have hb := hpp _ (BK (d := 0) hk2)
    have hnx : (l.take (k.toNat + 1)).map (fun p => (g.length : Int) - 1 - p) = (l.take k.toNat).map (fun p => (g.length : Int) - 1 - p) ++ [(g.length : Int) - 1 - l.getD k.toNat 0] := by
     rw [Ke (d := 0) hk2, List.map_append]
     rfl
    have hsz : (((l.take k.toNat).map (fun p => (g.length : Int) - 1 - p)).length + ([(g.length : Int) - 1 - l.getD k.toNat 0] : List Int).length) * 8 ≤ 140737488355328 := by
     rw [List.length_map, List.length_take]
     simp only [List.length_cons, List.length_nil]
     omega
    rw [w64 (n := (g.length : Int) - 1) (by omega) (by omega), w64 (n := (g.length : Int) - 1 - l.getD k.toNat 0) (by omega) (by omega)]
    refine Ai.mid (fun y => y = ((l.take (k.toNat + 1)).map (fun p => (g.length : Int) - 1 - p), r)) ?_ fun y hy => ?_
    ·refine Ai.mid (fun y => y = ((l.take (k.toNat + 1)).map (fun p => (g.length : Int) - 1 - p), r)) ?_ fun y hy => hy
     have hj : (((l.take k.toNat).map (fun p => (g.length : Int) - 1 - p) ++ ([(g.length : Int) - 1 - l.getD k.toNat 0] : List Int), r) : Aq) = ((l.take (k.toNat + 1)).map (fun p => (g.length : Int) - 1 - p), r) := by rw [hnx]
     exact ⟨⟨i0, hi⟩, hi2, ⟨k0, hk⟩, hk2, ⟨⟨⟨hsz, hj, trivial⟩, trivial⟩, trivial⟩, ⟨⟨hsz, hj, trivial⟩, trivial⟩, trivial⟩
    ·subst hy
     rw [w64 (by omega) (by omega)]
     exact ⟨⟨⟨by omega, by omega⟩, by rw [show (k + 1).toNat = k.toNat + 1 by omega]⟩, by omega⟩
   ·have hk := of_decide_eq_false hk
    show ((l.take k.toNat).map _, r) = Qr g.length (l, r)
    rw [List.take_of_length_le (by omega)]
    rfl
  ·rw [w64 (n := (g.length : Int) - 1) (by omega) (by omega), w64 (n := (g.length : Int) - 1 - i) (by omega) (by omega)]
   have e : ((g.length : Int) - 1 - i).toNat = g.length - 1 - i.toNat := by omega
   rw [e]
   refine ⟨⟨by omega, by omega⟩, by omega, ?_, fun c hc => ?_⟩
   ·rw [List.length_set]; exact hdl
   ·by_cases hci : c = i.toNat
    ·subst hci
     rw [T9 (by omega)]
     exact hy
    ·rw [getD_set_ne (by omega)]
     exact hd c (by omega)
 ·rw [w64 (by omega) (by omega)]
  exact ⟨⟨⟨by omega, by omega⟩, hn.1, by rw [show (i + 1).toNat = i.toNat + 1 by omega]; exact hn.2⟩, by omega⟩
end Go.VS

/- Graphs made of raw numbers are valid. -/
set_option linter.unusedVariables false
set_option linter.unusedSimpArgs false
namespace Go.VS
variable {P : Pg}
theorem Z9 {g : List Aq} (hv : Vl g) (f : Int → Int) (h : ∀ c, inR g c → ∀ p ∈ BF g c, f p < f c) {a b : Int} (hr : Rch g a b) : inR g a → f b ≤ f a := by
 induction hr with
 | refl c => exact fun _ => Int.le_refl _
 | step hm t ih =>
  intro ha
  have h1 := h _ ha _ hm
  have h2 := ih (hv _ ha _ hm)
  omega
theorem AcO {g : List Aq} (hv : Vl g) (f : Int → Int) (h : ∀ c, inR g c → ∀ p ∈ BF g c, f p < f c) : ¬L8 g := by
 rintro ⟨c, hc, p, hp, hr⟩
 have h1 := h c hc p hp
 have h2 := Z9 hv f h hr (hv c hc p hp)
 omega
theorem AbI {n : Nat} {l : List Int} (hn : l.Nodup) (h : ∀ p ∈ l, 0 ≤ p ∧ p < (n : Int)) : UZ n l := by
 intro j hj
 refine ⟨h _ (BK hj), fun hm => ?_⟩
 obtain ⟨i, hi⟩ := List.getElem?_of_mem hm
 have hi2 : i < (l.take j).length := (List.getElem?_eq_some_iff.1 hi).1
 rw [List.length_take] at hi2
 rw [List.getElem?_take_of_lt (by omega), List.getElem?_eq_getElem (by omega), List.getD_eq_getElem?_getD, List.getElem?_eq_getElem hj, Option.getD_some] at hi
 rw [List.nodup_iff_pairwise_ne, List.pairwise_iff_getElem] at hn
 exact hn i j (by omega) hj (by omega) (Option.some.inj hi)
def YX (n : Nat) (g : List Aq) : Prop := g.length ≤ n ∧ DF g 0 ∧ MR g ∧ ∀ c ∈ g, EH 768 c.2.2 ∧ c.1.length ≤ 3
theorem Qo : ∀ {g : List Aq}, (∀ c ∈ g, Ex c.2.2 = 0) → HF g = 0
 | [], _ => rfl
 | c :: g, h => by
  rw [HF, if_neg (by simpa using h c (List.mem_cons_self ..))]
  exact Qo fun x hx => h x (List.mem_cons_of_mem _ hx)
theorem Xb {n : Nat} {g : List Aq} (hn : g.length ≤ n) (hn2 : n ≤ 9) (f : Int → Int) (h : ∀ j, j < g.length → (g.getD j ([], (0, []))).1.length ≤ 3 ∧ (g.getD j ([], (0, []))).1.Nodup ∧ (∀ p ∈ (g.getD j ([], (0, []))).1, (0 ≤ p ∧ p < (g.length : Int)) ∧ f p < f j) ∧ (0 ≤ (g.getD j ([], (0, []))).2.1 ∧ (g.getD j ([], (0, []))).2.1 < 5) ∧ EH 768 (g.getD j ([], (0, []))).2.2) : YX n g := by
 have hT : ∀ c ∈ g, EH 768 c.2.2 ∧ c.1.length ≤ 3 := El (d := ([], (0, []))) fun j hj => ⟨(h j hj).2.2.2.2, (h j hj).1⟩
 have hrel : HN g := El (d := ([], (0, []))) (p := fun c => UZ g.length c.1) fun j hj => AbI (h j hj).2.1 fun p hp => ((h j hj).2.2.1 p hp).1
 have hv := Fq hrel
 refine ⟨hn, SB ⟨by omega, fun c hc => Nat.le_trans (hT c hc).2 (by decide)⟩ hrel (AcO hv f fun c hc p hp => ?_) (El (d := ([], (0, []))) (p := fun c => 0 ≤ c.2.1 ∧ c.2.1 ≤ 2147483647) fun j hj => by have := (h j hj).2.2.2.1; omega) (Qo fun c hc => YR (hT c hc).1 (by decide)).symm, fun c hc => (Aax (hT c hc).1 (by decide)).2, hT⟩
 have h0 := hc.1
 have h1 := hc.2
 have := ((h c.toNat (by omega)).2.2.1 p hp).2
 rw [show ((c.toNat : Nat) : Int) = c by omega] at this
 exact this
theorem Ady {B n : Nat} {g : List Aq} (hB : B ≤ 3) (hn : g.length ≤ n) (hn2 : n ≤ 9) (h : GU B g) : YX n g := Xb hn hn2 (fun x => x) fun j hj => by
 obtain ⟨⟨h1, h2, h3⟩, h4, h5⟩ := h j hj
 exact ⟨h1, h2, fun p hp => ⟨by have := h3 p hp; omega, (h3 p hp).2⟩, h4, h5.mono (Z5 hB (by omega))⟩
theorem Ym {α β : Type} {f : α → β} (hf : ∀ a b, f a = f b → a = b) {l : List α} (h : l.Nodup) : (l.map f).Nodup := by
 rw [List.nodup_iff_pairwise_ne] at *
 rw [List.pairwise_map]
 exact h.imp fun hne e => hne (hf _ _ e)
theorem AbW {B n : Nat} {g d : List Aq} (hB : B ≤ 3) (hn : g.length ≤ n) (hn2 : n ≤ 9) (h : GU B g) (ht : YZ g d) : YX n d := by
 rcases ht with rfl | ⟨hl, ht⟩
 ·exact Ady hB hn hn2 h
 ·refine Xb (by omega) hn2 (fun x => -x) fun j hj => ?_
  have e := ht (g.length - 1 - j) (by omega)
  rw [show g.length - 1 - (g.length - 1 - j) = j by omega] at e
  rw [e]
  obtain ⟨⟨h1, h2, h3⟩, h4, h5⟩ := h (g.length - 1 - j) (by omega)
  refine ⟨by unfold Qr; rw [List.length_map]; exact h1, Ym (fun a b e => by omega) h2, fun p hp => ?_, h4, h5.mono (Z5 hB (by omega))⟩
  obtain ⟨q, hq, rfl⟩ := List.mem_map.1 hp
  have := h3 q hq
  omega
def OP (P : Pg) : Prop := ∀ x : List Int × (Int × Int), (0 ≤ x.2.1 ∧ x.2.1 ≤ 9) → (0 ≤ x.2.2 ∧ x.2.2 ≤ 2) → Fn P AaE DQ x fun (d : List Aq) _ => YX x.2.1.toNat d
theorem Aan (h : Has P Hu) (hA : KV P) (hM : Iu P) (hF : HY P) (hC : M3 P) (hT : M6 P) : OP P := by
 rintro ⟨raw, n, lines⟩ ⟨n0, n1⟩ ⟨l0, l1⟩
 dsimp only at n0 n1 l0 l1
 refine Sj h ?_
 unfold NL
 dsimp only
 rw [w64 (n := n + 1) (by omega) (by omega)]
 refine hA.at (by decide) (hM.at (by omega) (by omega) ?_)
 have hr := DV (a := atF raw 0) (n := n + 1) (by omega) (by omega)
 generalize FB (atF raw 0) (n + 1) = m at hr ⊢
 have hB : lines.toNat + 1 ≤ 3 := by omega
 refine Ai.mid (fun g => g.length = m.toNat ∧ GU (lines.toNat + 1) g) ?_ fun g hg => ?_
 ·refine Bl.of (fun q => (0 ≤ q.2 ∧ q.2 ≤ m) ∧ q.1.length = q.2.toNat ∧ GU (lines.toNat + 1) q.1) (fun q => (m - q.2).toNat) ⟨⟨Int.le_refl _, hr.1⟩, rfl, fun j hj => absurd hj (by simp)⟩ ?_
  rintro ⟨g, i⟩ ⟨⟨i0, i1⟩, hgl, hg⟩
  dsimp only at i0 i1 hgl hg ⊢
  refine ⟨fun hi => ?_, fun hi => by have hi := of_decide_eq_false hi; exact ⟨by omega, hg⟩⟩
  have hi := of_decide_eq_true hi
  refine Ai.mid (fun g => g.length = i.toNat + 1 ∧ GU (lines.toNat + 1) g) ?_ fun g2 hn => ?_
  ·rw [w64 (n := 1000 + i) (by omega) (by omega), w64 (n := 40 * i) (by omega) (by omega), w64 (n := 1100 + 40 * i) (by omega) (by omega), w64 (n := 1500 + i) (by omega) (by omega), w64 (n := 200 * i) (by omega) (by omega), w64 (n := 2000 + 200 * i) (by omega) (by omega), w64 (n := 1600 + i) (by omega) (by omega), w64 (n := i - 1) (by omega) (by omega)]
   refine hA.at (by omega) (hM.at (by decide) (by decide) ?_)
   have hdr := DV (a := atF raw (1000 + i)) (n := 5) (by decide) (by decide)
   generalize FB (atF raw (1000 + i)) 5 = dt at hdr ⊢
   refine Ai.mid (fun x => HX i x.1 ∧ x.2 = (dt, [])) ?_ fun x hx => ?_
   ·refine Bl.of (fun q => (0 ≤ q.1 ∧ q.1 ≤ i) ∧ HX q.1 q.2.1 ∧ q.2.2 = (dt, [])) (fun q => (i - q.1).toNat) ⟨⟨Int.le_refl _, i0⟩, ⟨Nat.zero_le _, List.nodup_nil, fun p hp => nomatch hp⟩, rfl⟩ ?_
    rintro ⟨p, ⟨l, r⟩⟩ ⟨⟨p0, p1⟩, hl, hrr⟩
    dsimp only at p0 p1 hl hrr ⊢
    refine ⟨fun hp => ?_, fun hp => by have hp := of_decide_eq_false hp; exact ⟨hl.mono (by omega), hrr⟩⟩
    have hp := of_decide_eq_true hp
    refine Ai.mid (fun x => HX (p + 1) x.1 ∧ x.2 = (dt, [])) ?_ fun x hx => ?_
    ·rw [w64 (n := 1100 + 40 * i + p) (by omega) (by omega)]
     refine hA.at (by omega) ⟨by decide, ?_⟩
     refine Ai.mid (fun x => HX (p + 1) x.1 ∧ x.2 = (dt, [])) ⟨fun hb => ?_, fun _ => ⟨hl.mono (by omega), hrr⟩⟩ fun _ h => h
     have hb2 := of_decide_eq_true (Sc hb).2
     exact ⟨by simp only [List.length_cons, List.length_nil]; omega, hl.app p0 (by omega), hrr⟩
    ·rw [w64 (by omega) (by omega)]
     exact ⟨⟨⟨by omega, by omega⟩, hx.1, hx.2⟩, by omega⟩
   ·refine Ai.mid (fun _ => True) ⟨fun _ => hA.at (by omega) trivial, fun _ => trivial, trivial⟩ fun d27 _ => ⟨fun _ => by decide, ?_⟩
    refine Ai.mid (fun y => HX i y.1 ∧ y.2 = (dt, [])) ⟨fun hb => ?_, fun _ => hx⟩ fun y hy => ?_
    ·have hi0 := of_decide_eq_true (Sc (Sc hb).1).2
     exact ⟨⟨Nat.succ_le_succ (Nat.zero_le _), by simp, fun p hp => by rw [List.mem_singleton.1 hp]; omega⟩, hx.2⟩
    ·obtain ⟨hy1, hy2⟩ := hy
     refine (hF (raw, (2000 + 200 * i, lines)) ⟨by dsimp only; omega, by dsimp only; omega⟩ ⟨l0, by dsimp only; omega⟩).to ?_
     rintro (fl : List AA) _ hfl
     have hfl : fl = GY raw (2000 + 200 * i) lines := hfl
     have hfs : EH (lines.toNat + 1) fl := by rw [hfl]; exact TN l0 (by omega)
     refine Ai.mid (fun _ => True) ⟨fun _ => hA.at (by omega) trivial, fun _ => trivial, trivial⟩ fun d34 _ => ⟨fun _ => by decide, ?_⟩
     have hii : ((i.toNat : Nat) : Int) = i := by omega
     have hy1' : HX ((i.toNat : Nat) : Int) y.1 := by rw [hii]; exact hy1
     have hdt : 0 ≤ y.2.1 ∧ y.2.1 < 5 := by rw [hy2]; exact hdr
     refine Ai.mid (fun z => OkC (lines.toNat + 1) i.toNat z) ⟨fun hb => ?_, fun _ => ?_⟩ fun z hz => ⟨by simp only [List.length_cons, List.length_nil]; omega, ?_, hg.app (by rw [hgl]; exact hz)⟩
     ·have hpos := of_decide_eq_true (Sc hb).1
      have hpos2 : 0 < y.1.length := by omega
      have hp := hy1.2.2 _ (BK (d := 0) hpos2)
      refine ⟨⟨by decide, by omega⟩, hpos2, ⟨hp.1, by rw [hgl]; exact (show y.1.getD 0 0 < ((i.toNat : Nat) : Int) by rw [hii]; exact hp.2)⟩, by have := hp.1; have := hp.2; show (y.1.getD 0 0).toNat < g.length; omega, ?_⟩
      have hpn : (y.1.getD 0 0).toNat < i.toNat := by omega
      have hog := hg (y.1.getD 0 0).toNat (by omega)
      have hpb := Z5 (B := lines.toNat + 1) (i := (y.1.getD 0 0).toNat) hB (by omega)
      have hpo := pow_one (lines.toNat + 1) (y.1.getD 0 0).toNat
      have hup := AcS (B := lines.toNat + 1) hpn
      refine (hC ((lines.toNat + 1) * 2 ^ (y.1.getD 0 0).toNat) ((g.getD (y.1.getD 0 0).toNat ([], (0, []))).2.2, (raw, (2000 + 200 * i, lines))) hog.2.2 hpo (by omega) ⟨by dsimp only; omega, by dsimp only; omega⟩ ⟨l0, by dsimp only; omega⟩).to ?_
      rintro (fl2 : List AA) _ hfl2
      exact ⟨hy1', hdt, EH.mono hfl2 hup⟩
     ·exact ⟨hy1', hdt, hfs.mono (pow_one _ _)⟩
     ·rw [List.length_append, hgl]; rfl
  ·rw [w64 (by omega) (by omega)]
   exact ⟨⟨⟨by omega, by omega⟩, by rw [hn.1]; omega, hn.2⟩, by omega⟩
 ·refine (hT (g, raw) (by dsimp only; omega) fun j hj => ?_).to ?_
  ·have := (hg.2 j hj).1
   exact ⟨Nat.le_trans this.1 (by decide), fun p hp => by have h3 := this.2.2 p hp; have hj : j < g.length := hj; dsimp only; omega⟩
  ·rintro (d : List Aq) _ hd
   exact AbW hB (by omega) (by omega) hg.2 hd
end Go.VS
