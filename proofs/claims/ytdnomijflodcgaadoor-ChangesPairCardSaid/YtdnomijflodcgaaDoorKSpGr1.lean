/- Trees made of raw numbers, and changed ones. -/
import Derived.Test.YtdnomijflodcgaaDoorKSpChg
import Derived.Test.YtdnomijflodcgaaDoorKSpNear
import Derived.Test.YtdnomijflodcgaaDoorKSpEq
set_option linter.unusedVariables false
set_option linter.unusedSimpArgs false
namespace Go.VS
variable {P : Pg}
def Adq (B : Nat) (v : Bs) : Prop := v.count 10 + 1 ≤ B ∧ v.length + 4 ≤ 4 * B
def AcB (B : Nat) (l : List AJ) : Prop := (l.map (·.1)).Sublist Ack ∧ ∀ f ∈ l, Adq B f.2
theorem AcB.mono {B C : Nat} {l : List AJ} (h : AcB B l) (hB : B ≤ C) : AcB C l := ⟨h.1, fun f hf => by have := h.2 f hf; unfold Adq at *; omega⟩
theorem Ad3 : ∀ p ∈ Ack, CI p = 0 := by decide
theorem Aej : Ack.Pairwise fun p q => Op.bytesLess p q = true ∧ F6 p q = false := by decide
theorem AcY {B : Nat} {l : List AJ} (h : AcB B l) : l.length ≤ 4 := by
 have := h.1.length_le
 rw [List.length_map] at this
 exact this
theorem Aer {B : Nat} {l : List AJ} (h : AcB B l) (hB : B ≤ 1000) : Du l = 0 := by
 have hl := AcY h
 have hp : l.all (fun f => CI f.1 == 0) = true := by
  rw [List.all_eq_true]
  intro f hf
  rw [Ad3 f.1 (h.1.subset (List.mem_map.2 ⟨f, hf, rfl⟩))]
  rfl
 have ho : P6 l = true := by
  rw [O7]
  have hpw := Aej.sublist h.1
  rw [List.pairwise_map, List.pairwise_iff_getElem] at hpw
  intro i hi k hk
  have := hpw k i (by omega) hi hk
  unfold pth
  rw [List.getD_eq_getElem?_getD, List.getD_eq_getElem?_getD, List.getElem?_eq_getElem hi, List.getElem?_eq_getElem (Nat.lt_trans hk hi)]
  exact this
 have hc : l.all (fun f => He f.2 == 0) = true := by
  rw [List.all_eq_true]
  intro f hf
  have := (h.2 f hf).2
  rw [AdX (by omega)]
  rfl
 unfold Du
 rw [if_neg (by omega), if_neg (by rw [hp]; simp), if_neg (by rw [ho]; simp), if_neg (by rw [hc]; simp)]
theorem Aei : ∀ p ∈ Ack, p.length ≤ 3 := by decide
theorem AeF {B : Nat} {l : List AJ} (h : AcB B l) (hB : B ≤ 1000) : ER l := ⟨by have := AcY h; omega, fun f hf => by
 have h1 := Aei f.1 (h.1.subset (List.mem_map.2 ⟨f, hf, rfl⟩))
 have h2 := (h.2 f hf).2
 omega⟩
theorem AdK (raw : List Int) (fr kinds : Int) : ∀ k, (Acx raw fr kinds k).count 10 = k
 | 0 => rfl
 | k + 1 => by
  rw [Acx, List.count_append, List.count_append, AdK raw fr kinds k, AdU]
  rfl
theorem AeG {raw : List Int} {fr mx kinds : Int} (h0 : 0 ≤ mx) (h1 : mx ≤ 100) : Adq (mx.toNat + 1) (Ac3 raw fr mx kinds) := by
 have hr := Acp (a := atF raw fr) (n := mx + 1) (by omega) (by omega)
 have h2 := AcH raw fr kinds (Acw (atF raw fr) (mx + 1)).toNat
 have h3 := AdK raw fr kinds (Acw (atF raw fr) (mx + 1)).toNat
 unfold Ac3 Adq
 split
 ·have h4 := (List.take_sublist ((Acx raw fr kinds (Acw (atF raw fr) (mx + 1)).toNat).length - 1) (Acx raw fr kinds (Acw (atF raw fr) (mx + 1)).toNat)).count_le (10 : UInt8)
  rw [List.length_take]
  omega
 ·omega
theorem Adh (p : Bs) (o : Option Bs) : (((o.map fun v => (p, v)).toList).map (·.1)).Sublist [p] := by cases o <;> simp
theorem AdL {raw : List Int} {fr lines : Int} (h0 : 0 ≤ lines) (h1 : lines ≤ 100) : AcB (lines.toNat + 1) (AcC raw fr lines) := by
 refine ⟨?_, fun f hf => ?_⟩
 ·obtain ⟨a, b, c, d, _, hl⟩ := AdW (AdM (raw := raw) (fr := fr) h0 h1)
  rw [hl, List.map_append, List.map_append, List.map_append]
  exact (Adh (Ack.getD 0 []) a).append ((Adh (Ack.getD 1 []) b).append ((Adh (Ack.getD 2 []) c).append (Adh (Ack.getD 3 []) d)))
 ·unfold AcC Adf at hf
  obtain ⟨i, _, hi⟩ := List.mem_filterMap.1 hf
  unfold Aea at hi
  split at hi
  ·have := Option.some.inj hi
   rw [← this]
   exact AeG h0 h1
  ·cases hi
theorem AdV {l : List AJ} {i : Nat} (h : i < l.length) : (l.take (i + 1)).map (·.1) = (l.take i).map (·.1) ++ [(l.getD i ([], [])).1] := by
 rw [YH (d := ([], [])) h, List.map_append]
 rfl
def AdI (B : Nat) (l : List AJ) (i : Nat) (d : List AJ) : Prop := (d.map (·.1)).Sublist ((l.take i).map (·.1)) ∧ ∀ f ∈ d, Adq B f.2
theorem Ad9 {B : Nat} {l d : List AJ} {i : Nat} (h : AdI B l i d) (hi : i < l.length) : AdI B l (i + 1) d := ⟨by rw [AdV hi]; exact h.1.trans (List.sublist_append_left _ _), h.2⟩
theorem Aeu {B : Nat} {l d : List AJ} {i : Nat} {v : Bs} (h : AdI B l i d) (hi : i < l.length) (hv : Adq B v) : AdI B l (i + 1) (d ++ [((l.getD i ([], [])).1, v)]) := by
 refine ⟨?_, fun f hf => ?_⟩
 ·rw [AdV hi, List.map_append]
  exact h.1.append (List.Sublist.refl _)
 ·rcases List.mem_append.1 hf with hf | hf
  ·exact h.2 f hf
  ·rw [List.mem_singleton.1 hf]
   exact hv
theorem Aev {B : Nat} {l d : List AJ} {i : Nat} (h : AdI B l i d) (hl : l.length ≤ 4) : d.length ≤ 4 := by
 have := h.1.length_le
 rw [List.length_map, List.length_map, List.length_take] at this
 omega
def Ac5 (P : Pg) : Prop := ∀ (B : Nat) (x : List AJ × (List Int × (Int × Int))), AcB B x.1 → x.2.2.2.toNat + 1 ≤ B → B ≤ 900 → (0 ≤ x.2.2.1 ∧ x.2.2.1 ≤ 90000) → (0 ≤ x.2.2.2 ∧ x.2.2.2 ≤ 100) → Fn P YO Acn x fun (d : List AJ) _ => AcB (2 * B) d
theorem Aep (h : Has P AcA) (hA : AcU P) (hM : AcL P) (hN : Adl P) (hF : AcG P) : Ac5 P := by
 rintro B ⟨l, raw, fr, lines⟩ hl hB hB2 ⟨f0, f1⟩ ⟨l0, l1⟩
 dsimp only at hl hB f0 f1 l0 l1
 have hl4 := AcY hl
 refine Adw h ?_
 unfold Ac2
 dsimp only
 rw [w64 (n := fr + 3) (by omega) (by omega), w64 (n := fr + 5) (by omega) (by omega), w64 (n := fr + 7) (by omega) (by omega)]
 refine hA.at (by omega) (hM.at (by decide) (by decide) ?_)
 generalize Acw (atF raw (fr + 3)) 4 = k
 refine Aj.mid (fun d => AdI (2 * B) l l.length d) ?_ fun d hd => ⟨fun _ => ?_, fun _ => ?_⟩
 ·refine A3.of (fun q => (0 ≤ q.2 ∧ q.2 ≤ l.length) ∧ AdI (2 * B) l q.2.toNat q.1) (fun q => (l.length - q.2).toNat) ⟨⟨Int.le_refl _, Int.natCast_nonneg _⟩, by exact ⟨by simp, fun f hf => nomatch hf⟩⟩ ?_
  rintro ⟨d, i⟩ ⟨⟨i0, i1⟩, hd⟩
  dsimp only at i0 i1 hd ⊢
  refine ⟨fun hi => ?_, fun hi => by have hi := of_decide_eq_false hi; rw [show i.toNat = l.length by omega] at hd; exact hd⟩
  have hi := of_decide_eq_true hi
  have hi2 : i.toNat < l.length := by omega
  have hb := hl.2 _ (B3 (d := ([], [])) hi2)
  have hb0 := hb
  unfold Adq at hb0
  have hdl := Aev hd hl4
  refine Aj.mid (fun d => AdI (2 * B) l (i.toNat + 1) d) ⟨⟨i0, hi⟩, hi2, ?_⟩ fun d hn => ?_
  ·refine Aj.mid (fun f => f.1 = (l.getD i.toNat ([], [])).1 ∧ Adq (2 * B) f.2) ⟨fun _ => ?_, fun _ => ⟨rfl, by unfold Adq; omega⟩⟩ fun f hf => ⟨by simp only [List.length_cons, List.length_nil]; omega, ?_⟩
   ·refine (hN ((l.getD i.toNat ([], [])).2, (raw, fr + 7)) (by dsimp only; omega) ⟨by dsimp only; omega, by dsimp only; omega⟩).to ?_
    rintro (v : Bs) _ hv
    have hv : v.length ≤ (l.getD i.toNat ([], [])).2.length + 4 * ((l.getD i.toNat ([], [])).2.count 10 + 1) ∧ v.count 10 ≤ 2 * (l.getD i.toNat ([], [])).2.count 10 + 1 := hv
    have hvb : Adq (2 * B) v := by unfold Adq; omega
    exact hA.at (by omega) ⟨by decide, fun _ => Ad9 hd hi2, fun _ => ⟨rfl, hvb⟩⟩
   ·obtain ⟨a, b⟩ := f
    have e : a = (l.getD i.toNat ([], [])).1 := hf.1
    subst e
    exact Aeu hd hi2 hf.2
  ·rw [w64 (by omega) (by omega)]
   exact ⟨⟨⟨by omega, by omega⟩, by rw [show (i + 1).toNat = i.toNat + 1 by omega]; exact hn⟩, by omega⟩
 ·refine (hF (raw, (fr, lines)) ⟨by dsimp only; omega, by dsimp only; omega⟩ ⟨l0, l1⟩).to ?_
  rintro (e : List AJ) _ he
  have he : e = AcC raw fr lines := he
  rw [he]
  exact (AdL l0 l1).mono (by omega)
 ·refine ⟨?_, hd.2⟩
  have := hd.1
  rw [List.take_length] at this
  exact this.trans hl.1
end Go.VS
