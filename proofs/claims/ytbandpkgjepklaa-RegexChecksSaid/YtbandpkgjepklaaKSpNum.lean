/- Sets of bytes of named classes. -/
import Derived.Test.YtbandpkgjepklaaKSpNb
import Derived.Test.YtbandpkgjepklaaKSpGen
set_option linter.unusedVariables false
set_option linter.unusedSimpArgs false
namespace Go.VS
variable {P : Pg}
def letterF (c : Int) : Bool := cond (cond (decide (c ≥ 97)) (decide (c ≤ 122)) false) true (cond (decide (c ≥ 65)) (decide (c ≤ 90)) false)
def NU (c : Int) : Bool := cond (decide (c ≥ 48)) (decide (c ≤ 57)) false
def NN : Bs := [97, 108, 112, 104, 97]
def NO : Bs := [100, 105, 103, 105, 116]
def NM : Bs := [97, 108, 110, 117, 109]
def NS : Bs := [117, 112, 112, 101, 114]
def NP : Bs := [108, 111, 119, 101, 114]
def NR : Bs := [115, 112, 97, 99, 101]
def NQ : Bs := [112, 117, 110, 99, 116]
def E6 (nm : Bs) (c : Int) : Bool × Bool :=
 if nm = NN then (letterF c, true)
 else if nm = NO then (NU c, true)
 else if nm = NM then (letterF c || NU c, true)
 else if nm = NS then (letterF c && decide (c ≤ 90), true)
 else if nm = NP then (letterF c && decide (c ≥ 97), true)
 else if nm = NR then ((decide (c ≥ 9) && decide (c ≤ 13)) || c == 32, true)
 else if nm = NQ then (((decide (c ≥ 33) && decide (c ≤ 126)) && !letterF c) && !NU c, true)
 else (false, false)
def NH (P : Pg) : Prop := ∀ x : Int, Fn P Oe A8 x fun (d : Bool) _ => d = letterF x
theorem Xr (h : Has P Fm) : NH P := by
 intro x
 refine OO h ?_
 unfold Kf
 rfl
def L3 (P : Pg) : Prop := ∀ x : Int, Fn P Um BR x fun (d : Bool) _ => d = NU x
theorem Vp (h : Has P Gm) : L3 P := by
 intro x
 refine PB h ?_
 unfold LU
 rfl
def MC (P : Pg) : Prop := ∀ x : Bs × Int, Fn P QB Bq x fun (d : Bool × Bool) _ => d = E6 x.1 x.2
theorem YO (h : Has P Gk) (hL : NH P) (hD : L3 P) : MC P := by
 rintro ⟨nm, c⟩
 refine Pz h ?_
 unfold LR
 dsimp only
 unfold E6
 refine Ag.of ⟨fun hc => ?_, fun hc => ⟨fun hc2 => ?_, fun hc2 => ⟨fun hc3 => ?_, fun hc3 => ⟨fun hc4 => ?_, fun hc4 => ⟨fun hc5 => ?_, fun hc5 => ⟨fun hc6 => ?_, fun hc6 => ⟨fun hc7 => ?_, fun hc7 => ?_⟩⟩⟩⟩⟩⟩⟩
 ·refine (hL c).to ?_
  rintro (d : Bool) _ rfl
  rw [if_pos (show nm = NN from eq_of_beq hc)]
 all_goals rw [if_neg (show ¬ nm = NN from ne_of_beq_false hc)]
 ·refine (hD c).to ?_
  rintro (d : Bool) _ rfl
  rw [if_pos (show nm = NO from eq_of_beq hc2)]
 all_goals rw [if_neg (show ¬ nm = NO from ne_of_beq_false hc2)]
 ·refine (hL c).to ?_
  rintro (d : Bool) _ rfl
  rw [if_pos (show nm = NM from eq_of_beq hc3)]
  refine Ag.mid (fun d => letterF c = false → d = NU c) ⟨fun h1 => (hD c).to ?_, fun h1 h2 => ?_, trivial⟩ ?_
  ·rintro (d : Bool) _ rfl _; rfl
  ·rw [h2] at h1; cases h1
  ·intro d hd
   cases hh : letterF c with
   | true => rfl
   | false => rw [hd hh]; rfl
 all_goals rw [if_neg (show ¬ nm = NM from ne_of_beq_false hc3)]
 ·refine (hL c).to ?_
  rintro (d : Bool) _ rfl
  rw [if_pos (show nm = NS from eq_of_beq hc4)]
  cases letterF c <;> rfl
 all_goals rw [if_neg (show ¬ nm = NS from ne_of_beq_false hc4)]
 ·refine (hL c).to ?_
  rintro (d : Bool) _ rfl
  rw [if_pos (show nm = NP from eq_of_beq hc5)]
  cases letterF c <;> rfl
 all_goals rw [if_neg (show ¬ nm = NP from ne_of_beq_false hc5)]
 ·rw [if_pos (show nm = NR from eq_of_beq hc6)]
  cases decide (c ≥ 9) <;> cases decide (c ≤ 13) <;> cases (c == 32) <;> rfl
 all_goals rw [if_neg (show ¬ nm = NR from ne_of_beq_false hc6)]
 ·rw [if_pos (show nm = NQ from eq_of_beq hc7)]
  refine Ag.mid (fun d => (decide (c ≥ 33) && decide (c ≤ 126)) = true → d = letterF c) ⟨fun h1 => (hL c).to ?_, fun h1 h2 => ?_, trivial⟩ ?_
  ·rintro (d : Bool) _ rfl _; rfl
  ·exfalso
   revert h1 h2
   cases decide (c ≥ 33) <;> cases decide (c ≤ 126) <;> simp
  ·intro d hd
   refine Ag.mid (fun e => ((decide (c ≥ 33) && decide (c ≤ 126)) && !d) = true → e = NU c) ⟨fun h1 => (hD c).to ?_, fun h1 h2 => ?_, trivial⟩ ?_
   ·rintro (d : Bool) _ rfl _; rfl
   ·exfalso
    revert h1 h2
    cases decide (c ≥ 33) <;> cases decide (c ≤ 126) <;> cases d <;> simp
   ·intro e he
    cases h1 : decide (c ≥ 33) with
    | false => rfl
    | true =>
    cases h2 : decide (c ≤ 126) with
    | false => rfl
    | true =>
    rw [h1, h2] at hd he
    have hd := hd rfl
    subst hd
    cases h3 : letterF c with
    | true => rfl
    | false =>
     rw [h3] at he
     rw [he rfl]; rfl
 ·rw [if_neg (show ¬ nm = NQ from ne_of_beq_false hc7)]
@[irreducible] def M9 (w : Int) : Int := IntKind.u64.wrap ((BitVec.toNat (BitVec.ofInt IntKind.u64.bits (if IntKind.u64.signed then -1 else IntKind.u64.max) ^^^ BitVec.ofInt IntKind.u64.bits w) : Nat) : Int)
theorem V8 (w : Int) : IntKind.u64.wrap ((BitVec.toNat (BitVec.ofInt IntKind.u64.bits (if IntKind.u64.signed then -1 else IntKind.u64.max) ^^^ BitVec.ofInt IntKind.u64.bits w) : Nat) : Int) = M9 w := by unfold M9; rfl
def GM (s : Bb) : Bb := (M9 s.1, (M9 s.2.1, (M9 s.2.2.1, M9 s.2.2.2)))
def CN (P : Pg) : Prop := ∀ x : Bb, Fn P VH Bj x fun (d : Bb) _ => d = GM x
theorem QS (h : Has P DD) : CN P := by
 rintro ⟨a, b, c, d⟩
 refine Lw h ?_
 unfold Hv
 dsimp only
 refine Ag.mid (fun q => q = GM (a, (b, (c, d)))) ?_ fun q hq => hq
 refine B0.of (fun q => ∃ i : Int, 0 ≤ i ∧ i ≤ 4 ∧ q = (i, ((if i < 1 then a else M9 a), ((if i < 2 then b else M9 b), ((if i < 3 then c else M9 c), (if i < 4 then d else M9 d)))))) (fun q => (4 - q.1).toNat) ⟨0, by decide, by decide, rfl⟩ ?_
 rintro _ ⟨i, i0, i1, rfl⟩
 dsimp only
 refine ⟨fun hc => Ag.of ?_, fun hc => ?_⟩
 ·have hc := of_decide_eq_true hc
  simp only [V8]
  rw [w64 (n := i + 1) (by omega) (by omega)]
  refine ⟨⟨i0, by omega⟩, by omega, ⟨i0, by omega⟩, by omega, ⟨i + 1, by omega, by omega, ?_⟩, by omega⟩
  have : i = 0 ∨ i = 1 ∨ i = 2 ∨ i = 3 := by omega
  rcases this with rfl | rfl | rfl | rfl <;> rfl
 ·have hc := of_decide_eq_false hc
  have : i = 4 := by omega
  subst this
  rfl
end Go.VS
