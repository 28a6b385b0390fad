/- Trees made of raw numbers; lists that are compared. -/
import Derived.Test.YtdnomijflodcgaaDoorKSpDiff4
import Derived.Test.YtdnomijflodcgaaDoorKSpLn
set_option linter.unusedVariables false
set_option linter.unusedSimpArgs false
namespace Go.VS
variable {P : Pg}
theorem Zh {α : Type} [DecidableEq α] {l m : List α} {d : α} (hl : l.length = m.length) (h : ∀ j, j < l.length → l.getD j d = m.getD j d) : decide (l = m) = true :=
 decide_eq_true (SF d hl h)
theorem AbA {α : Type} [DecidableEq α] {l m : List α} {d : α} (j : Nat) (h : l.getD j d ≠ m.getD j d) : decide (l = m) = false :=
 decide_eq_false fun e => h (by rw [e])
theorem AaM {α : Type} [DecidableEq α] {l m : List α} (h : ((l.length : Nat) : Int) ≠ ((m.length : Nat) : Int)) : decide (l = m) = false :=
 decide_eq_false fun e => h (by rw [e])
def GD (P : Pg) : Prop := ∀ x : List Bm × List Bm, x.1.length ≤ 1000000000 → Fn P Xg CV x fun (d : Bool) _ => d = decide (x.1 = x.2)
theorem Vf (h : Has P Gg) : GD P := by
 rintro ⟨l, m⟩ hn
 dsimp only at hn
 refine PR h ?_
 unfold Lp
 dsimp only
 refine ⟨fun hc => (AaM (by simpa using hc)).symm, fun hc => ?_⟩
 have hlm : l.length = m.length := by
  have hc : ((l.length : Nat) : Int) = ((m.length : Nat) : Int) := by simpa using hc
  omega
 refine Aj.mid (fun _ => decide (l = m) = true) ?_ fun _ h => h.symm
 refine A3.of (fun q => (0 ≤ q.2 ∧ q.2 ≤ l.length) ∧ ∀ j, j < q.2.toNat → l.getD j ([], 0) = m.getD j ([], 0)) (fun q => (l.length - q.2).toNat) ⟨⟨Int.le_refl _, Int.natCast_nonneg _⟩, fun j hj => absurd hj (by simp)⟩ ?_
 rintro ⟨q, i⟩ ⟨⟨i0, i1⟩, hq⟩
 dsimp only at i0 i1 hq ⊢
 refine ⟨fun hi => ?_, fun hi => ?_⟩
 ·have hi := of_decide_eq_true hi
  have hi2 : i.toNat < l.length := by omega
  refine Aj.mid (fun _ => l.getD i.toNat ([], 0) = m.getD i.toNat ([], 0)) ⟨⟨i0, hi⟩, hi2, ⟨i0, by omega⟩, by omega, fun hb => ?_, fun hb => ?_⟩ fun d hd => ?_
  ·exact (AbA i.toNat (d := ([], 0)) fun e => by rw [e] at hb; simp at hb).symm
  ·simp only [Bool.not_eq_false', Bool.and_true, Bool.and_eq_true, beq_iff_eq] at hb
   exact Prod.ext hb.1 hb.2
  ·rw [w64 (by omega) (by omega)]
   refine ⟨⟨⟨by omega, by omega⟩, fun j hj => ?_⟩, by omega⟩
   by_cases hji : j = i.toNat
   ·subst hji; exact hd
   ·exact hq j (by omega)
 ·have hi := of_decide_eq_false hi
  exact Zh hlm fun j hj => hq j (by omega)
theorem GD.at (h : GD P) {l m : List Bm} (hl : l.length ≤ 1000000000) {K : Bool → Unit → Prop} (hk : K (decide (l = m)) ()) : Fn P Xg CV (l, m) K :=
 (h (l, m) hl).to fun (d : Bool) _ hd => by
  have hd : d = decide (l = m) := hd
  subst hd
  exact hk
end Go.VS
