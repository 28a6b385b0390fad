/- Which trees are valid, and what lies in them. -/
import Derived.Test.YtbpbcfiodckhjaaDoorKSpL21
import Derived.Test.YtbpbcfiodckhjaaDoorKSpLn
set_option linter.unusedVariables false
set_option linter.unusedSimpArgs false
namespace Go.VS
variable {P : Pg}
def Ns (l : List Aw) : Prop := l.length ≤ 8 ∧ ∀ f ∈ l, f.1.length ≤ 250 ∧ f.2.length ≤ 60
theorem Ns.CH {l : List Aw} (h : Ns l) : CH l := ⟨by have := h.1; omega, fun f hf => by have := h.2 f hf; omega⟩
def IZ (P : Pg) : Prop := ∀ l : List Aw, Fn P SZ BC l fun (d : Bool) _ => d = true → Ns l
theorem SO (h : Has P EB) : IZ P := by
 intro l
 refine Mv h ?_
 unfold IB
 refine ⟨fun _ h => (nomatch h), fun hc => ?_⟩
 have hc := of_decide_eq_false hc
 refine Ar.mid (fun _ => Ns l) ?_ fun _ h _ => h
 refine BU.of (fun q => (0 ≤ q.2 ∧ q.2 ≤ l.length) ∧ ∀ j, j < q.2.toNat → (l.getD j ([], [])).1.length ≤ 250 ∧ (l.getD j ([], [])).2.length ≤ 60) (fun q => (l.length - q.2).toNat) ⟨⟨Int.le_refl _, Int.natCast_nonneg _⟩, fun j hj => absurd hj (by simp)⟩ ?_
 rintro ⟨q, i⟩ ⟨⟨i0, i1⟩, hq⟩
 dsimp only at i0 i1 hq ⊢
 refine ⟨fun hi => ?_, fun hi => ?_⟩
 ·have hi := of_decide_eq_true hi
  have hi2 : i.toNat < l.length := by omega
  refine Ar.mid (fun _ => (l.getD i.toNat ([], [])).1.length ≤ 250 ∧ (l.getD i.toNat ([], [])).2.length ≤ 60) ⟨⟨i0, hi⟩, hi2, fun _ => ⟨i0, hi⟩, fun _ => hi2, fun _ h => (nomatch h), fun hb => ?_⟩ fun _ hn => ?_
  ·rw [Bool.cond_eq_ite] at hb
   split at hb
   ·cases hb
   ·rename_i h1
    have h1 : ¬ ((((l.getD i.toNat ([], [])).1.length : Nat) : Int) > 250) := fun h => h1 (decide_eq_true h)
    have h2 := of_decide_eq_false hb
    omega
  ·rw [w64 (by omega) (by omega)]
   refine ⟨⟨⟨by omega, by omega⟩, fun j hj => ?_⟩, by omega⟩
   by_cases hji : j = i.toNat
   ·subst hji; exact hn
   ·exact hq j (by omega)
 ·have hi := of_decide_eq_false hi
  refine ⟨by omega, fun f hf => ?_⟩
  obtain ⟨j, hj⟩ := List.getElem?_of_mem hf
  have hl : j < l.length := (List.getElem?_eq_some_iff.1 hj).1
  have := hq j (by omega)
  rwa [List.getD_eq_getElem?_getD, hj, Option.getD_some] at this
end Go.VS
