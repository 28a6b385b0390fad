/- Trees made of raw numbers; lists that are compared. -/
import Derived.Test.YtdnomijflodcgaaDoorKSpFil
set_option linter.unusedVariables false
set_option linter.unusedSimpArgs false
namespace Go.VS
variable {P : Pg}
def AcG (P : Pg) : Prop := ∀ x : List Int × (Int × Int), (0 ≤ x.2.1 ∧ x.2.1 ≤ 100000) → (0 ≤ x.2.2 ∧ x.2.2 ≤ 100) → Fn P zS9 Acj x fun (d : List AJ) _ => d = AcC x.1 x.2.1 x.2.2
theorem AeA (h : Has P AcD) (hA : AcU P) (hB : Adj P) : AcG P := by
 rintro ⟨raw, fr, lines⟩ ⟨f0, f1⟩ ⟨l0, l1⟩
 dsimp only at f0 f1 l0 l1
 refine AdE h ?_
 unfold Adb
 dsimp only
 refine Aj.mid (fun d => d = AcC raw fr lines) ?_ fun _ h => h
 have hlen4 : (Ack : List Bs).length = 4 := rfl
 unfold AcC
 have hsl : ∀ k, (Adf raw fr lines k).length ≤ k := fun k => by unfold Adf; exact Nat.le_trans (List.length_filterMap_le ..) (by rw [List.length_range]; exact Nat.le_refl _)
 refine A3.of (fun q => (0 ≤ q.2 ∧ q.2 ≤ 4) ∧ q.1 = Adf raw fr lines q.2.toNat) (fun q => (4 - q.2).toNat) ⟨⟨Int.le_refl _, by decide⟩, rfl⟩ ?_
 rintro ⟨o, i⟩ ⟨⟨i0, i1⟩, ho⟩
 dsimp only at i0 i1 ho ⊢
 refine ⟨fun hi => ?_, fun hi => by have hi := of_decide_eq_false hi; rw [ho, show i = 4 by omega]; rfl⟩
 have hi := of_decide_eq_true hi
 have hnx := Aeb raw fr lines i.toNat
 have hol := hsl i.toNat
 rw [← ho] at hnx hol
 unfold Aea at hnx
 rw [show ((i.toNat : Nat) : Int) = i by omega] at hnx
 have hr := Ad7 raw (fr + i)
 have hi4 : i < ((List.length (Ack : List Bs) : Nat) : Int) := by rw [hlen4]; omega
 have hi5 : i.toNat < List.length (Ack : List Bs) := by rw [hlen4]; omega
 have hsz : ∀ v : Bs, (o.length + ([(Ack.getD i.toNat [], v)] : List AJ).length) * 32 ≤ 140737488355328 := fun v => by
  simp only [List.length_cons, List.length_nil]; omega
 refine Aj.mid (fun d => d = Adf raw fr lines (i.toNat + 1)) ?_ fun d hd => ?_
 ·rw [w64 (n := fr + i) (by omega) (by omega), w64 (n := fr + 10) (by omega) (by omega), w64 (n := 20 * i) (by omega) (by omega), w64 (n := fr + 10 + 20 * i) (by omega) (by omega)]
  refine hA.at (by omega) ⟨by decide, ?_⟩
  rw [Int.tmod_eq_emod_of_nonneg hr.1]
  refine Aj.mid (fun d => d = Adf raw fr lines (i.toNat + 1)) ⟨fun hc => ?_, fun hc => ?_⟩ fun _ h => h
  ·have hc := of_decide_eq_true hc
   rw [if_pos hc] at hnx
   have hbl : ∀ {K : Bs → Unit → Prop}, K (Ac3 raw (fr + 10 + 20 * i) lines 4) () → Fn P zS8 Acl (raw, (fr + 10 + 20 * i, (lines, (4 : Int)))) K := fun {K} hk => (hB (raw, (fr + 10 + 20 * i, (lines, (4 : Int)))) ⟨by dsimp only; omega, by dsimp only; omega⟩ ⟨l0, l1⟩ ⟨(by decide : (1 : Int) ≤ 4), (by decide : (4 : Int) ≤ 100000)⟩).to fun (d : Bs) _ hd => by
    have hd : d = _ := hd
    subst hd
    exact hk
   refine Aj.mid (fun d => d = Adf raw fr lines (i.toNat + 1)) (by repeat' (first | exact trivial | exact i0 | exact hi4 | exact hi5 | exact hsz _ | exact hnx.symm | apply And.intro | (refine hbl ?_))) fun _ h => h
  ·have hc := of_decide_eq_false hc
   rw [if_neg hc] at hnx
   rw [hnx]
   exact (List.append_nil o).symm
 ·subst hd
  rw [w64 (by omega) (by omega)]
  exact ⟨⟨⟨by omega, by omega⟩, by rw [show (i + 1).toNat = i.toNat + 1 by omega]⟩, by omega⟩
theorem AcG.at (h : AcG P) {raw : List Int} {fr lines : Int} (f0 : 0 ≤ fr) (f1 : fr ≤ 100000) (l0 : 0 ≤ lines) (l1 : lines ≤ 100) {K : List AJ → Unit → Prop} (hk : K (AcC raw fr lines) ()) : Fn P zS9 Acj (raw, (fr, lines)) K :=
 (h (raw, (fr, lines)) ⟨f0, f1⟩ ⟨l0, l1⟩).to fun (d : List AJ) _ hd => by
  have hd : d = AcC raw fr lines := hd
  subst hd
  exact hk
theorem Zh {α : Type} [DecidableEq α] {l m : List α} {d : α} (hl : l.length = m.length) (h : ∀ j, j < l.length → l.getD j d = m.getD j d) : decide (l = m) = true :=
 decide_eq_true (SF d hl h)
theorem AbA {α : Type} [DecidableEq α] {l m : List α} {d : α} (j : Nat) (h : l.getD j d ≠ m.getD j d) : decide (l = m) = false :=
 decide_eq_false fun e => h (by rw [e])
theorem AaM {α : Type} [DecidableEq α] {l m : List α} (h : ((l.length : Nat) : Int) ≠ ((m.length : Nat) : Int)) : decide (l = m) = false :=
 decide_eq_false fun e => h (by rw [e])
def GD (P : Pg) : Prop := ∀ x : List Bm × List Bm, x.1.length ≤ 1000000000 → Fn P YL CV x fun (d : Bool) _ => d = decide (x.1 = x.2)
theorem Vf (h : Has P Gg) : GD P := by
 rintro ⟨l, m⟩ hn
 dsimp only at hn
 refine PR h ?_
 unfold Lp
 dsimp only
 refine ⟨fun hc => (AaM (by simpa using hc)).symm, fun hc => ?_⟩
 have hlm : l.length = m.length := by
  have hc : ((l.length : Nat) : Int) = ((m.length : Nat) : Int) := by simpa using hc
  omega
 refine Aj.mid (fun _ => decide (l = m) = true) ?_ fun _ h => h.symm
 refine A3.of (fun q => (0 ≤ q.2 ∧ q.2 ≤ l.length) ∧ ∀ j, j < q.2.toNat → l.getD j ([], 0) = m.getD j ([], 0)) (fun q => (l.length - q.2).toNat) ⟨⟨Int.le_refl _, Int.natCast_nonneg _⟩, fun j hj => absurd hj (by simp)⟩ ?_
 rintro ⟨q, i⟩ ⟨⟨i0, i1⟩, hq⟩
 dsimp only at i0 i1 hq ⊢
 refine ⟨fun hi => ?_, fun hi => ?_⟩
 ·have hi := of_decide_eq_true hi
  have hi2 : i.toNat < l.length := by omega
  refine Aj.mid (fun _ => l.getD i.toNat ([], 0) = m.getD i.toNat ([], 0)) ⟨⟨i0, hi⟩, hi2, ⟨i0, by omega⟩, by omega, fun hb => ?_, fun hb => ?_⟩ fun d hd => ?_
  ·exact (AbA i.toNat (d := ([], 0)) fun e => by rw [e] at hb; simp at hb).symm
  ·simp only [Bool.not_eq_false', Bool.and_true, Bool.and_eq_true, beq_iff_eq] at hb
   exact Prod.ext hb.1 hb.2
  ·rw [w64 (by omega) (by omega)]
   refine ⟨⟨⟨by omega, by omega⟩, fun j hj => ?_⟩, by omega⟩
   by_cases hji : j = i.toNat
   ·subst hji; exact hd
   ·exact hq j (by omega)
 ·have hi := of_decide_eq_false hi
  exact Zh hlm fun j hj => hq j (by omega)
theorem GD.at (h : GD P) {l m : List Bm} (hl : l.length ≤ 1000000000) {K : Bool → Unit → Prop} (hk : K (decide (l = m)) ()) : Fn P YL CV (l, m) K :=
 (h (l, m) hl).to fun (d : Bool) _ hd => by
  have hd : d = decide (l = m) := hd
  subst hd
  exact hk
end Go.VS
