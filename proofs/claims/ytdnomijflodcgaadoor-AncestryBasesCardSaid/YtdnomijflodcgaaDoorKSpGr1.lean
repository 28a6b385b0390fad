/- Trees made of raw numbers, and changed ones. -/
import Derived.Test.YtdnomijflodcgaaDoorKSpChg
import Derived.Test.YtdnomijflodcgaaDoorKSpNear
import Derived.Test.YtdnomijflodcgaaDoorKSpEq
set_option linter.unusedVariables false
set_option linter.unusedSimpArgs false
namespace Go.VS
variable {P : Pg}
def O5 (B : Nat) (v : Bs) : Prop := v.count 10 + 1 ≤ B ∧ v.length + 4 ≤ 4 * B
def EH (B : Nat) (l : List AA) : Prop := (l.map (·.1)).Sublist Bu ∧ ∀ f ∈ l, O5 B f.2
theorem EH.mono {B C : Nat} {l : List AA} (h : EH B l) (hB : B ≤ C) : EH C l := ⟨h.1, fun f hf => by have := h.2 f hf; unfold O5 at *; omega⟩
theorem V7 : ∀ p ∈ Bu, EF p = 0 := by decide
theorem Rp : Bu.Pairwise fun p q => Op.bytesLess p q = true ∧ RX p q = false := by decide
theorem LG {B : Nat} {l : List AA} (h : EH B l) : l.length ≤ 4 := by
 have := h.1.length_le
 rw [List.length_map] at this
 exact this
theorem YR {B : Nat} {l : List AA} (h : EH B l) (hB : B ≤ 1000) : Ex l = 0 := by
 have hl := LG h
 have hp : l.all (fun f => EF f.1 == 0) = true := by
  rw [List.all_eq_true]
  intro f hf
  rw [V7 f.1 (h.1.subset (List.mem_map.2 ⟨f, hf, rfl⟩))]
  rfl
 have ho : PR l = true := by
  rw [UG]
  have hpw := Rp.sublist h.1
  rw [List.pairwise_map, List.pairwise_iff_getElem] at hpw
  intro i hi k hk
  have := hpw k i (by omega) hi hk
  unfold pth
  rw [List.getD_eq_getElem?_getD, List.getD_eq_getElem?_getD, List.getElem?_eq_getElem hi, List.getElem?_eq_getElem (Nat.lt_trans hk hi)]
  exact this
 have hc : l.all (fun f => Jg f.2 == 0) = true := by
  rw [List.all_eq_true]
  intro f hf
  have := (h.2 f hf).2
  rw [VO (by omega)]
  rfl
 unfold Ex
 rw [if_neg (by omega), if_neg (by rw [hp]; simp), if_neg (by rw [ho]; simp), if_neg (by rw [hc]; simp)]
theorem Yk : ∀ p ∈ Bu, p.length ≤ 3 := by decide
theorem Aax {B : Nat} {l : List AA} (h : EH B l) (hB : B ≤ 1000) : Fk l := ⟨by have := LG h; omega, fun f hf => by
 have h1 := Yk f.1 (h.1.subset (List.mem_map.2 ⟨f, hf, rfl⟩))
 have h2 := (h.2 f hf).2
 omega⟩
theorem Tw (raw : List Int) (fr kinds : Int) : ∀ k, (F5 raw fr kinds k).count 10 = k
 | 0 => rfl
 | k + 1 => by
  rw [F5, List.count_append, List.count_append, Tw raw fr kinds k, Ur]
  rfl
theorem Aa1 {raw : List Int} {fr mx kinds : Int} (h0 : 0 ≤ mx) (h1 : mx ≤ 100) : O5 (mx.toNat + 1) (LX raw fr mx kinds) := by
 have hr := DV (a := atF raw fr) (n := mx + 1) (by omega) (by omega)
 have h2 := H4 raw fr kinds (FB (atF raw fr) (mx + 1)).toNat
 have h3 := Tw raw fr kinds (FB (atF raw fr) (mx + 1)).toNat
 unfold LX O5
 split
 ·have h4 := (List.take_sublist ((F5 raw fr kinds (FB (atF raw fr) (mx + 1)).toNat).length - 1) (F5 raw fr kinds (FB (atF raw fr) (mx + 1)).toNat)).count_le (10 : UInt8)
  rw [List.length_take]
  omega
 ·omega
theorem OJ (p : Bs) (o : Option Bs) : (((o.map fun v => (p, v)).toList).map (·.1)).Sublist [p] := by cases o <;> simp
theorem TN {raw : List Int} {fr lines : Int} (h0 : 0 ≤ lines) (h1 : lines ≤ 100) : EH (lines.toNat + 1) (GY raw fr lines) := by
 refine ⟨?_, fun f hf => ?_⟩
 ·obtain ⟨a, b, c, d, _, hl⟩ := Vh (TO (raw := raw) (fr := fr) h0 h1)
  rw [hl, List.map_append, List.map_append, List.map_append]
  exact (OJ (Bu.getD 0 []) a).append ((OJ (Bu.getD 1 []) b).append ((OJ (Bu.getD 2 []) c).append (OJ (Bu.getD 3 []) d)))
 ·unfold GY Og at hf
  obtain ⟨i, _, hi⟩ := List.mem_filterMap.1 hf
  unfold X0 at hi
  split at hi
  ·have := Option.some.inj hi
   rw [← this]
   exact Aa1 h0 h1
  ·cases hi
theorem Uu {l : List AA} {i : Nat} (h : i < l.length) : (l.take (i + 1)).map (·.1) = (l.take i).map (·.1) ++ [(l.getD i ([], [])).1] := by
 rw [Ke (d := ([], [])) h, List.map_append]
 rfl
def Tk (B : Nat) (l : List AA) (i : Nat) (d : List AA) : Prop := (d.map (·.1)).Sublist ((l.take i).map (·.1)) ∧ ∀ f ∈ d, O5 B f.2
theorem XU {B : Nat} {l d : List AA} {i : Nat} (h : Tk B l i d) (hi : i < l.length) : Tk B l (i + 1) d := ⟨by rw [Uu hi]; exact h.1.trans (List.sublist_append_left _ _), h.2⟩
theorem Zo {B : Nat} {l d : List AA} {i : Nat} {v : Bs} (h : Tk B l i d) (hi : i < l.length) (hv : O5 B v) : Tk B l (i + 1) (d ++ [((l.getD i ([], [])).1, v)]) := by
 refine ⟨?_, fun f hf => ?_⟩
 ·rw [Uu hi, List.map_append]
  exact h.1.append (List.Sublist.refl _)
 ·rcases List.mem_append.1 hf with hf | hf
  ·exact h.2 f hf
  ·rw [List.mem_singleton.1 hf]
   exact hv
theorem Zp {B : Nat} {l d : List AA} {i : Nat} (h : Tk B l i d) (hl : l.length ≤ 4) : d.length ≤ 4 := by
 have := h.1.length_le
 rw [List.length_map, List.length_map, List.length_take] at this
 omega
def M3 (P : Pg) : Prop := ∀ (B : Nat) (x : List AA × (List Int × (Int × Int))), EH B x.1 → x.2.2.2.toNat + 1 ≤ B → B ≤ 900 → (0 ≤ x.2.2.1 ∧ x.2.2.1 ≤ 90000) → (0 ≤ x.2.2.2 ∧ x.2.2.2 ≤ 100) → Fn P YU Du x fun (d : List AA) _ => EH (2 * B) d
theorem YF (h : Has P Gp) (hA : KV P) (hM : Iu P) (hN : OQ P) (hF : HY P) : M3 P := by
 rintro B ⟨l, raw, fr, lines⟩ hl hB hB2 ⟨f0, f1⟩ ⟨l0, l1⟩
 dsimp only at hl hB f0 f1 l0 l1
 have hl4 := LG hl
 refine Qz h ?_
 unfold LR
 dsimp only
 rw [w64 (n := fr + 3) (by omega) (by omega), w64 (n := fr + 5) (by omega) (by omega), w64 (n := fr + 7) (by omega) (by omega)]
 refine hA.at (by omega) (hM.at (by decide) (by decide) ?_)
 generalize FB (atF raw (fr + 3)) 4 = k
 refine Ai.mid (fun d => Tk (2 * B) l l.length d) ?_ fun d hd => ⟨fun _ => ?_, fun _ => ?_⟩
 ·refine Bl.of (fun q => (0 ≤ q.2 ∧ q.2 ≤ l.length) ∧ Tk (2 * B) l q.2.toNat q.1) (fun q => (l.length - q.2).toNat) ⟨⟨Int.le_refl _, Int.natCast_nonneg _⟩, by exact ⟨by simp, fun f hf => nomatch hf⟩⟩ ?_
  rintro ⟨d, i⟩ ⟨⟨i0, i1⟩, hd⟩
  dsimp only at i0 i1 hd ⊢
  refine ⟨fun hi => ?_, fun hi => by have hi := of_decide_eq_false hi; rw [show i.toNat = l.length by omega] at hd; exact hd⟩
  have hi := of_decide_eq_true hi
  have hi2 : i.toNat < l.length := by omega
  have hb := hl.2 _ (BK (d := ([], [])) hi2)
  have hb0 := hb
  unfold O5 at hb0
  have hdl := Zp hd hl4
  refine Ai.mid (fun d => Tk (2 * B) l (i.toNat + 1) d) ⟨⟨i0, hi⟩, hi2, ?_⟩ fun d hn => ?_
  ·refine Ai.mid (fun f => f.1 = (l.getD i.toNat ([], [])).1 ∧ O5 (2 * B) f.2) ⟨fun _ => ?_, fun _ => ⟨rfl, by unfold O5; omega⟩⟩ fun f hf => ⟨by simp only [List.length_cons, List.length_nil]; omega, ?_⟩
   ·refine (hN ((l.getD i.toNat ([], [])).2, (raw, fr + 7)) (by dsimp only; omega) ⟨by dsimp only; omega, by dsimp only; omega⟩).to ?_
    rintro (v : Bs) _ hv
    have hv : v.length ≤ (l.getD i.toNat ([], [])).2.length + 4 * ((l.getD i.toNat ([], [])).2.count 10 + 1) ∧ v.count 10 ≤ 2 * (l.getD i.toNat ([], [])).2.count 10 + 1 := hv
    have hvb : O5 (2 * B) v := by unfold O5; omega
    exact hA.at (by omega) ⟨by decide, fun _ => XU hd hi2, fun _ => ⟨rfl, hvb⟩⟩
   ·obtain ⟨a, b⟩ := f
    have e : a = (l.getD i.toNat ([], [])).1 := hf.1
    subst e
    exact Zo hd hi2 hf.2
  ·rw [w64 (by omega) (by omega)]
   exact ⟨⟨⟨by omega, by omega⟩, by rw [show (i + 1).toNat = i.toNat + 1 by omega]; exact hn⟩, by omega⟩
 ·refine (hF (raw, (fr, lines)) ⟨by dsimp only; omega, by dsimp only; omega⟩ ⟨l0, l1⟩).to ?_
  rintro (e : List AA) _ he
  have he : e = GY raw fr lines := he
  rw [he]
  exact (TN l0 l1).mono (by omega)
 ·refine ⟨?_, hd.2⟩
  have := hd.1
  rw [List.take_length] at this
  exact this.trans hl.1
end Go.VS
