/- Lists of nodes: which are valid; weights. -/
import Derived.Test.YtbandpkgjepklaaKSpGen
set_option linter.unusedVariables false
set_option linter.unusedSimpArgs false
namespace Go.VS
variable {P : Pg}
def R8 (n : Node) (at_ : Nat) : Prop := (∀ k, k < n.2.2.2.2.length → 0 ≤ n.2.2.2.2.getD k 0 ∧ n.2.2.2.2.getD k 0 < (at_ : Int)) ∧ 0 ≤ n.1 ∧ n.1 ≤ 6 ∧ (n.1 ≤ 3 → n.2.2.2.2.length = 0) ∧ (n.1 = 4 ∨ n.1 = 5 → 2 ≤ n.2.2.2.2.length) ∧ (n.1 = 6 → n.2.2.2.2.length = 1 ∧ 0 ≤ n.2.2.1 ∧ n.2.2.1 ≤ 100 ∧ (n.2.2.2.1 = -1 ∨ n.2.2.1 ≤ n.2.2.2.1 ∧ n.2.2.2.1 ≤ 100))
structure Aad (l : List Node) : Prop where
 lo : 1 ≤ l.length
 hi : l.length ≤ 4000
 ok : ∀ i, i < l.length → R8 (l.getD i Ak) i
def KB (l : List Node) : Prop := ∀ i, (l.getD i Ak).2.2.2.2.length ≤ 140737488351232
def Acg (P : Pg) : Prop := ∀ x : Node, Fn P XG AbD x fun (d : Bool) _ => d = true ↔ (0 ≤ x.2.2.1 ∧ x.2.2.1 ≤ 100 ∧ (x.2.2.2.1 = -1 ∨ x.2.2.1 ≤ x.2.2.2.1 ∧ x.2.2.2.1 ≤ 100))
theorem AcN (h : Has P AbM) : Acg P := by
 intro x
 refine Ab9 h ?_
 unfold AbY
 simp
 omega
def Acw (P : Pg) : Prop := ∀ x : Node × Int, 0 ≤ x.2 → x.1.2.2.2.2.length ≤ 140737488351232 → Fn P XH AbE x fun (d : Bool) _ => d = true ↔ R8 x.1 x.2.toNat
theorem AcS (h : Has P AbU) (hB : Acg P) : Acw P := by
 rintro ⟨⟨k, w, mn, mx, kids⟩, a⟩ ha hl
 dsimp only at ha hl
 refine Ack h ?_
 unfold Ab4
 dsimp only
 refine Ag.mid (fun _ => ∀ i, i < kids.length → 0 ≤ kids.getD i 0 ∧ kids.getD i 0 < a) ?_ fun d hd => ?_
 ·refine B0.of (fun d => 0 ≤ d.2 ∧ d.2 ≤ kids.length ∧ ∀ i : Nat, (i : Int) < d.2 → 0 ≤ kids.getD i 0 ∧ kids.getD i 0 < a) (fun d => (kids.length - d.2).toNat) ⟨Int.le_refl _, by dsimp only; omega, fun i hi => by dsimp only at hi; omega⟩ ?_
  rintro ⟨u, i⟩ ⟨i0, i1, hi⟩
  dsimp only at i0 i1 hi ⊢
  refine ⟨fun hc => Ag.of ⟨⟨i0, of_decide_eq_true hc⟩, ?_, fun hb => ?_, fun hb => ?_⟩, fun hc => ?_⟩
  ·have hc := of_decide_eq_true hc; omega
  ·have hc := of_decide_eq_true hc
   refine ⟨fun hh => (nomatch hh), fun ho => ?_⟩
   have := ho.1 i.toNat (by dsimp only; omega)
   simp [-List.getD_eq_getElem?_getD] at hb
   dsimp only at this
   omega
  ·have hc := of_decide_eq_true hc
   rw [w64 (by omega) (by omega)]
   simp [-List.getD_eq_getElem?_getD] at hb
   refine ⟨⟨by omega, by omega, fun j hj => ?_⟩, by omega⟩
   by_cases e : j = i.toNat
   ·subst e; exact hb
   ·exact hi j (by omega)
  ·have hc := of_decide_eq_false hc
   exact fun j hj => hi j (by omega)
 ·have hkk : ∀ k', k' < kids.length → 0 ≤ kids.getD k' 0 ∧ kids.getD k' 0 < (a.toNat : Int) := fun k' hk' => by have := hd k' hk'; omega
  refine Ag.of (Ag.mid (fun d => d = true ↔ (0 ≤ k ∧ k ≤ 3)) ?_ ?_)
  ·refine ⟨fun hc => ?_, fun hc => Ag.of ⟨fun hc2 => ?_, fun hc2 => Ag.of ⟨fun hc3 => ?_, fun hc3 => ?_⟩⟩⟩ <;> simp at * <;> omega
  ·intro d10 h10
   refine ⟨fun hc => ?_, fun hc => Ag.mid (fun d => d = true ↔ (k = 4 ∨ k = 5)) ?_ ?_⟩
   ·have := h10.1 hc
    simp [R8, -List.getD_eq_getElem?_getD]
    constructor
    ·intro e; subst e; simp; omega
    ·intro hh; have := hh.2.2.2.1 (by omega); exact this
   ·refine ⟨fun hc2 => ?_, fun hc2 => ?_⟩ <;> simp at * <;> omega
   ·intro d16 h16
    have hno : ¬ (0 ≤ k ∧ k ≤ 3) := by rw [← h10, hc]; simp
    refine ⟨fun hc2 => ?_, fun hc2 => ⟨fun hc3 => Ag.mid (fun d => d = true ↔ kids.length = 1 ∧ (0 ≤ mn ∧ mn ≤ 100 ∧ (mx = -1 ∨ mn ≤ mx ∧ mx ≤ 100))) ⟨fun hc4 => (hB _).to ?_, fun hc4 => ?_, trivial⟩ ?_, fun hc3 => ?_⟩⟩
    ·have := h16.1 hc2
     simp only [R8, decide_eq_true_eq]
     constructor
     ·intro e; exact ⟨hkk, by omega, by omega, by omega, by omega, by omega⟩
     ·intro hh; have := hh.2.2.2.2.1 (by omega); omega
    ·rintro (b : Bool) _ hb
     simp only [hb]
     simp at hc4
     exact ⟨fun e => ⟨by omega, e⟩, fun e => e.2⟩
    ·simp at hc4
     exact ⟨fun e => (nomatch e), fun e => by omega⟩
    ·rintro b hb
     have hc3 : k = 6 := by simpa using hc3
     simp only [R8]
     constructor
     ·intro e
      simp at e
      have := hb.1 e.2
      exact ⟨hkk, by omega, by omega, by omega, by omega, fun _ => ⟨this.1, this.2⟩⟩
     ·intro hh
      have := hh.2.2.2.2.2 hc3
      have e2 := hb.2 ⟨this.1, this.2⟩
      simp [this.1, e2]
    ·have : ¬ (k = 4 ∨ k = 5) := by rw [← h16, hc2]; simp
     simp at hc3
     simp only [R8]
     refine ⟨fun hh => (nomatch hh), fun hh => ?_⟩
     have := hh.2.1; have := hh.2.2.1; omega
def Ab6 (P : Pg) : Prop := ∀ x : List Node, KB x → x.length ≤ 140737488351232 → Fn P XD AbF x fun (d : Int) _ => (Aad x → d = 0) ∧ (¬ Aad x → d = 2)
theorem AcQ (h : Has P AbR) (hF : Acw P) : Ab6 P := by
 intro x hK hl
 refine Ach h ?_
 unfold Ab0
 refine ⟨fun hc => ⟨fun v => ?_, fun _ => rfl⟩, fun hc => Ag.mid (fun _ => Aad x) ?_ fun _ hv => ⟨fun _ => rfl, fun hn => (hn hv).elim⟩⟩
 ·have := v.lo; have := v.hi; simp at hc; rcases hc with hc | hc
  ·subst hc; exact absurd (by assumption) (show ¬ (1 ≤ ([] : List Node).length) by decide)
  ·omega
 have hc : 1 ≤ x.length ∧ x.length ≤ 4000 := by
  simp at hc
  have : x.length ≠ 0 := fun e => hc.1 (List.eq_nil_of_length_eq_zero e)
  omega
 refine B0.of (fun d => 0 ≤ d.2 ∧ d.2 ≤ x.length ∧ ∀ i : Nat, (i : Int) < d.2 → R8 (x.getD i Ak) i) (fun d => (x.length - d.2).toNat) ⟨Int.le_refl _, by dsimp only; omega, fun i hi => by dsimp only at hi; omega⟩ ?_
 rintro ⟨u, i⟩ ⟨i0, i1, hi⟩
 dsimp only at i0 i1 hi ⊢
 refine ⟨fun hb => Ag.of ?_, fun hb => ?_⟩
 ·have hb := of_decide_eq_true hb
  refine ⟨⟨i0, hb⟩, by omega, ?_⟩
  refine (hF (x.getD i.toNat Ak, i) i0 (hK _)).to ?_
  rintro (b : Bool) _ hbb
  dsimp only at hbb ⊢
  refine ⟨fun hn => ⟨fun v => ?_, fun _ => rfl⟩, fun hn => ?_⟩
  ·have := hbb.2 (v.ok i.toNat (by omega))
   rw [this] at hn; cases hn
  ·have hn : b = true := by simpa using hn
   rw [w64 (by omega) (by omega)]
   refine ⟨⟨by omega, by omega, fun j hj => ?_⟩, by omega⟩
   by_cases e : j = i.toNat
   ·subst e; exact hbb.1 hn
   ·exact hi j (by omega)
 ·have hb := of_decide_eq_false hb
  exact ⟨hc.1, hc.2, fun j hj => hi j (by omega)⟩
end Go.VS
