/- Contracts of the functions. -/
import Derived.Test.YtbandpkgjepklaaFwD
import Derived.IntWalk
import Derived.Test.YtbandpkgjepklaaKGf0
import Derived.Test.YtbandpkgjepklaaKGf1
import Derived.Test.YtbandpkgjepklaaKGf2
import Derived.Lib.IndexMore
import Derived.KernelRfl
set_option linter.unusedVariables false
set_option linter.unusedSimpArgs false
set_option linter.unusedSectionVars false
open List renaming getD_eq_getElem?_getD → Qa0, length_nil → Qa2, length_cons → Qa3, length_append → Qa4, length → Qa5, getD → Qb1, foldl_append → Qb3, replicate → Qb4, getElem_of_mem → Qb6, append_assoc → Qb7, take_succ_eq_append_getElem → Qb8, eq_nil_of_length_eq_zero → Qb9, count_le_length → Qc0, getD_cons_zero → Qc3, getElem?_replicate → Qc4, take_of_length_le → Qc5, getElem_mem → Qc6, getElem?_eq_none → Qc8, getElem?_append_right → Qd0, drop_eq_getElem_cons → Qd4, getElem?_eq_getElem → Qd5, mem_append → Qd7, foldl_cons → Qd8, count_replicate → Qd9
open BitVec renaming ofInt → Qa1, toNat → Qa6
open Int renaming le_refl → Qa7, toNat → Qb2, tmod_eq_emod_of_nonneg → Qc2, tmod → Qc7, mul_nonneg → Qc9, fdiv → Qd6
open Nat renaming le_refl → Qa8, zero_le → Qa9, lt_or_ge → Qb5, lt_trichotomy → Qd2
open Bool renaming and_eq_true → Qb0, not_true → Qd1
open Option renaming bind_some → Qc1
open Option.some renaming injEq → Qd3
namespace Go.VS
theorem Ag.of {D : Type} {body : (D → Prop) → Prop} {rest : D → Prop} (h : body rest) : Ag body rest := ⟨rest, h, fun _ h => h⟩
theorem Ag.mid {D : Type} {body : (D → Prop) → Prop} {rest : D → Prop} (J : D → Prop) (h : body J) (h2 : ∀ d, J d → rest d) : Ag body rest := ⟨J, h, h2⟩
theorem B0.of {D : Type} {x : D} {body : D → (D → Prop) → Prop} (I : D → Prop) (m : D → Nat) (h0 : I x) (hs : ∀ d, I d → body d fun d' => I d' ∧ m d' < m d) : B0 x body := by
 refine ⟨fun n d => I d ∧ m d = n, ⟨_, h0, rfl⟩, ?_⟩; rintro n d ⟨hI, rfl⟩
 have : (fun d' => ∃ k, k < m d ∧ I d' ∧ m d' = k) = fun d' => I d' ∧ m d' < m d := by
  funext d'
  exact propext ⟨fun ⟨k, h1, h2, h3⟩ => ⟨h2, by omega⟩, fun ⟨h1, h2⟩ => ⟨_, h2, h1, rfl⟩⟩
 rw [this]; exact hs d hI
theorem Fn.to {P : Pg} {nm : String} {S : Sig} {x : DP S.ps} {K K' : DP S.rs → DP (ptrs S.ps) → Prop} (h : Fn P nm S x K) (hk : ∀ d e, K d e → K' d e) : Fn P nm S x K' := h.mono hk
theorem w64 {n : Int} (h1 : -9223372036854775808 ≤ n) (h2 : n ≤ 9223372036854775807) : IntKind.i64.wrap n = n := by rw [IntKind.wrap_i64]; omega
theorem Abq {n : Int} (h1 : 0 ≤ n) (h2 : n ≤ 18446744073709551615) : IntKind.u64.wrap n = n := by rw [IntKind.wrap_u64]; omega
theorem wu8 {n : Int} (h1 : 0 ≤ n) (h2 : n ≤ 255) : IntKind.u8.wrap n = n := by rw [IntKind.wrap_u8]; omega
theorem getD_eq {α : Type} {l : List α} {i : Nat} {d : α} (h : i < l.length) : l.getD i d = l[i] := by simp [Qa0, Qd5 h]
theorem S7 {α : Type} {l : List α} {i : Nat} {d : α} (h : i < l.length) : l.getD i d ∈ l := by rw [getD_eq h]; exact Qc6 h
theorem AdI {α : Type} {l : List α} {i j : Nat} {x d : α} (h : i < l.length) : (l.set i x).getD j d = if i = j then x else l.getD j d := by
 simp only [Qa0, List.getElem?_set]; split
 ·rename_i e; subst e; simp [h]
 ·rfl
theorem Dx {α : Type} {l m : List α} {i : Nat} {d : α} (h : i < l.length) : (l ++ m).getD i d = l.getD i d := by
 simp [Qa0, List.getElem?_append_left h]
theorem HI {α : Type} {l : List α} {x d : α} : (l ++ [x]).getD l.length d = x := by
 simp [Qa0]
theorem AfA {α : Type} {n i : Nat} {x d : α} (h : i < n) : (Qb4 n x).getD i d = x := by
 simp [Qa0, h]
theorem Yf {α : Type} (d : α) {l m : List α} (h : l.length = m.length) (hi : ∀ i, i < l.length → l.getD i d = m.getD i d) : l = m := by
 refine List.ext_getElem h fun i h1 h2 => ?_
 have := hi i h1
 rwa [getD_eq h1, getD_eq h2] at this
theorem toNat_lt {i : Int} {n : Nat} (h0 : 0 ≤ i) (h : i < (n : Int)) : i.toNat < n := by omega
variable {P : Pg}
@[irreducible] def LL (a n : Int) : Int := IntKind.i64.wrap (Qc7 (IntKind.u64.wrap a) (IntKind.u64.wrap n))
theorem Xz (n : Int) : 0 ≤ IntKind.u64.wrap n ∧ IntKind.u64.wrap n ≤ 18446744073709551615 := by rw [IntKind.wrap_u64]; omega
theorem Jw {a n : Int} (h1 : 1 ≤ n) (h2 : n ≤ 9223372036854775807) : 0 ≤ LL a n ∧ LL a n < n := by
 unfold LL; rw [Abq (n := n) (by omega) (by omega)]; have h := Xz a; rw [Qc2 h.1]; have e1 := Int.emod_nonneg (IntKind.u64.wrap a) (show n ≠ 0 by omega); have e2 := Int.emod_lt_of_pos (IntKind.u64.wrap a) (show 0 < n by omega); rw [w64 (by omega) (by omega)]; exact ⟨e1, e2⟩
def NF (P : Pg) : Prop := ∀ x : Int × Int, 1 ≤ x.2 → x.2 ≤ 9223372036854775807 → Fn P zS2 BF x fun d _ => d = LL x.1 x.2
theorem AaP (h : Has P K8) : NF P := by
 intro x h1 h2; refine UP h ?_; unfold QZ; exact ⟨by rw [Abq (by omega) (by omega)]; omega, by unfold LL; rfl⟩
theorem NF.at (h : NF P) {a n : Int} (h1 : 1 ≤ n) (h2 : n ≤ 9223372036854775807) {K : Int → Unit → Prop} (hk : K (LL a n) ()) : Fn P zS2 BF (a, n) K := (h (a, n) h1 h2).to fun (d : Int) e hd => by
 have hd : d = LL a n := hd; subst hd; exact hk
@[irreducible] def atX (raw : List Int) (k : Int) : Int :=
 if ((Qa5 raw : Nat) : Int) > 0 then (IntKind.u64.wrap ((Qa6 (Qa1 IntKind.u64.bits (IntKind.u64.wrap ((IntKind.u64.wrap (IntKind.i64.wrap (k + (1 : Int)))) * (11400714819323198485 : Int))) ^^^ Qa1 IntKind.u64.bits (IntKind.u64.wrap (Qb1 raw (Qb2 (Qc7 k ((Qa5 raw : Nat) : Int))) (0 : Int)))) : Nat) : Int))
 else (IntKind.u64.wrap ((IntKind.u64.wrap (IntKind.i64.wrap (k + (1 : Int)))) * (11400714819323198485 : Int)))
@[irreducible] def atY (d2 : Int) : Int := IntKind.u64.wrap ((Qa6 (Qa1 IntKind.u64.bits (IntKind.u64.wrap ((IntKind.u64.wrap ((Qa6 (Qa1 IntKind.u64.bits d2 ^^^ Qa1 IntKind.u64.bits (Qd6 d2 (2 ^ (min (Qb2 (31 : Int)) IntKind.u64.bits)))) : Nat) : Int)) * (13787848793156543929 : Int))) ^^^ Qa1 IntKind.u64.bits (Qd6 (IntKind.u64.wrap ((IntKind.u64.wrap ((Qa6 (Qa1 IntKind.u64.bits d2 ^^^ Qa1 IntKind.u64.bits (Qd6 d2 (2 ^ (min (Qb2 (31 : Int)) IntKind.u64.bits)))) : Nat) : Int)) * (13787848793156543929 : Int))) (2 ^ (min (Qb2 (29 : Int)) IntKind.u64.bits)))) : Nat) : Int)
@[irreducible] def atF (raw : List Int) (k : Int) : Int := IntKind.i64.wrap (Qd6 (atY (atX raw k)) (2 ^ (min (Qb2 (1 : Int)) IntKind.u64.bits)))
def Sy (P : Pg) : Prop := ∀ x : List Int × Int, 0 ≤ x.2 → Fn P zS3 Ce x fun d _ => d = atF x.1 x.2
theorem Abk (h : Has P MA) : Sy P := by
 intro x h1; refine WI h ?_; unfold Sz
 refine Ag.mid (fun d => d = atX x.1 x.2) ⟨fun hc => ?_, fun hc => ?_⟩ fun d hd => ⟨by decide, by decide, by decide, ?_⟩
 ·have hc : ((Qa5 x.1 : Nat) : Int) > 0 := of_decide_eq_true hc; have e1 : (Qc7 x.2 ((Qa5 x.1 : Nat) : Int)) = x.2 % (Qa5 x.1 : Nat) := Qc2 h1; have e2 := Int.emod_nonneg x.2 (show ((Qa5 x.1 : Nat) : Int) ≠ 0 by omega); have e3 := Int.emod_lt_of_pos x.2 hc; refine ⟨by omega, by omega, by omega, ?_⟩; unfold atX; rw [if_pos hc]
 ·have hc : ¬ ((Qa5 x.1 : Nat) : Int) > 0 := of_decide_eq_false hc; unfold atX; rw [if_neg hc]
 ·subst hd; unfold atF atY; rfl
abbrev Bb := Int × (Int × (Int × Int))
@[irreducible] def orW (w c : Int) : Int := IntKind.u64.wrap ((Qa6 (Qa1 IntKind.u64.bits w ||| Qa1 IntKind.u64.bits (IntKind.u64.wrap ((1 : Int) * 2 ^ (min (Qb2 (Qc7 c (64 : Int))) IntKind.u64.bits)))) : Nat) : Int)
@[irreducible] def EG (s : Bb) (c : Int) : Bb :=
 let w := Qb1 [s.1, s.2.1, s.2.2.1, s.2.2.2] (c / 64).toNat 0
 let v := orW w c
 (if (c / 64).toNat = 0 then v else s.1, if (c / 64).toNat = 1 then v else s.2.1, if (c / 64).toNat = 2 then v else s.2.2.1, if (c / 64).toNat = 3 then v else s.2.2.2)
@[irreducible] def Afh (s : Bb) (c : Int) : Bool := (IntKind.u64.wrap ((Qa6 (Qa1 IntKind.u64.bits (Qd6 (Qb1 [s.1, s.2.1, s.2.2.1, s.2.2.2] (c / 64).toNat (0 : Int)) (2 ^ (min (Qb2 (Qc7 c (64 : Int))) IntKind.u64.bits))) &&& Qa1 IntKind.u64.bits (1 : Int)) : Nat) : Int)) == (1 : Int)
theorem Z0 {c : Int} (h1 : 0 ≤ c) (h2 : c ≤ 255) : IntKind.u8.wrap (Int.tdiv c 64) = c / 64 ∧ 0 ≤ c / 64 ∧ c / 64 < 4 ∧ 0 ≤ Qc7 c 64 := by
 have e : Int.tdiv c 64 = c / 64 := Int.tdiv_eq_ediv_of_nonneg h1; have e2 : Qc7 c 64 = c % 64 := Qc2 h1; rw [e, wu8 (by omega) (by omega)]; omega
def Hq (P : Pg) : Prop := ∀ x : Bb × Int, 0 ≤ x.2 → x.2 ≤ 255 → Fn P VL Br x fun d _ => d = EG x.1 x.2
theorem AaQ (h : Has P Ig) : Hq P := by
 intro x h1 h2; refine RS h ?_; unfold Og; obtain ⟨e1, e2, e3, e4⟩ := Z0 h1 h2; rw [e1]; exact ⟨by decide, by decide, ⟨e2, e3⟩, by omega, by decide, e4, ⟨e2, e3⟩, by omega, by unfold EG orW; rfl⟩
def Aic (P : Pg) : Prop := ∀ x : Bb × Int, 0 ≤ x.2 → x.2 ≤ 255 → Fn P VH Adu x fun d _ => d = Afh x.1 x.2
theorem AjY (h : Has P AeO) : Aic P := by
 intro x h1 h2; refine AhE h ?_; unfold Agv; obtain ⟨e1, e2, e3, e4⟩ := Z0 h1 h2; rw [e1]; exact ⟨by decide, ⟨e2, e3⟩, by omega, by decide, e4, by unfold Afh; rfl⟩
theorem Sy.at (h : Sy P) {raw : List Int} {k : Int} (h1 : 0 ≤ k) {K : Int → Unit → Prop} (hk : K (atF raw k) ()) : Fn P zS3 Ce (raw, k) K := (h (raw, k) h1).to fun (d : Int) e hd => by
 have hd : d = atF raw k := hd; subst hd; exact hk
theorem Hq.at (h : Hq P) {s : Bb} {c : Int} (h1 : 0 ≤ c) (h2 : c ≤ 255) {K : Bb → Unit → Prop} (hk : ∀ d, d = EG s c → K d ()) : Fn P VL Br (s, c) K := (h (s, c) h1 h2).to fun (d : Bb) e hd => hk d hd
abbrev Auto := List State × Int
def Adk (n : Nat) (s : State) : Prop := 0 ≤ s.1 ∧ s.1 ≤ 4 ∧ (s.1 ≠ 4 → 0 ≤ s.2.2.1 ∧ s.2.2.1 < (n : Int)) ∧ (s.1 = 1 → 0 ≤ s.2.2.2 ∧ s.2.2.2 < (n : Int))
structure Valid (a : Auto) : Prop where
 lo : 1 ≤ a.1.length
 hi : a.1.length ≤ 8000
 s0 : 0 ≤ a.2
 s1 : a.2 < (a.1.length : Int)
 ok : ∀ i, i < a.1.length → Adk a.1.length (a.1.getD i Aby)
def AgN (P : Pg) : Prop := ∀ x : Int × Int, Fn P QB AcV x fun (d : Bool) (e : Int) => (d = true ↔ 0 ≤ x.1 ∧ x.1 < x.2) ∧ e = x.2
theorem Ai0 (h : Has P AdJ) : AgN P := by
 intro x; refine Afz h ?_; unfold Aes; exact ⟨by simp, rfl⟩
def Ae7 (P : Pg) : Prop := ∀ x : Auto, Fn P QU Ac2 x fun (d : Int) _ => (Valid x → d = 0) ∧ (¬ Valid x → d = 2)
theorem AiI (h : Has P AdQ) (hI : AgN P) : Ae7 P := by
 intro x; refine AfZ h ?_; unfold AeS; refine ⟨fun hc => ⟨fun _ => ⟨fun v => ?_, fun _ => rfl⟩, fun h => nomatch h⟩, fun hc => ?_⟩
 ·exfalso; have := v.lo; have := v.hi; simp at hc; omega
 simp at hc; refine (hI _).to ?_; rintro (b : Bool) (e : Int) ⟨hb, rfl⟩; refine ⟨fun hn => ⟨fun v => ?_, fun _ => rfl⟩, fun hn => ?_⟩
 ·exfalso; have := v.s0; have := v.s1; simp at hn; subst hn; simp at hb; omega
 simp at hn; subst hn; simp only [true_iff] at hb; refine Ag.of (B0.of (fun d => 0 ≤ d.2.1 ∧ d.2.1 ≤ x.1.length ∧ d.2.2 = x.1.length ∧ ∀ i : Nat, (i : Int) < d.2.1 → Adk x.1.length (x.1.getD i Aby)) (fun d => (x.1.length - d.2.1).toNat) ?_ ?_)
 ·exact ⟨Qa7 _, by dsimp only; omega, rfl, fun i hi => by dsimp only at hi; omega⟩
 rintro ⟨d1, d2, d3⟩ ⟨h1, h2, h3, h4⟩; dsimp only at h1 h2 h3 h4 ⊢; subst h3; refine ⟨fun hd => Ag.of ?_, fun hd => ?_⟩
 ·have hd := of_decide_eq_true hd; refine ⟨⟨h1, hd⟩, by omega, ?_⟩
  have hok : Adk x.1.length (x.1.getD d2.toNat Aby) → ∀ i : Nat, (i : Int) < d2 + 1 → Adk x.1.length (x.1.getD i Aby) := by
   intro h i hi
   by_cases hi2 : (i : Int) < d2
   ·exact h4 i hi2
   ·have : i = d2.toNat := by omega
    subst this; exact h
  have hbad : Valid x → Adk x.1.length (x.1.getD d2.toNat Aby) := fun v => v.ok _ (by omega)
  generalize x.1.getD d2.toNat Aby = s at hok hbad ⊢; obtain ⟨k, st, nx, ot⟩ := s; dsimp only at hok hbad ⊢; refine (hI _).to ?_; rintro (b1 : Bool) (e1 : Int) ⟨hb1, rfl⟩; dsimp only at hb1 ⊢; refine Ag.mid (fun d => (d.1 = true ↔ Adk x.1.length (k, st, nx, ot)) ∧ d.2 = x.1.length) ?_ ?_
  ·refine Ag.mid (fun d => d = true ↔ (k = 0 ∨ k = 2 ∨ k = 3)) ?_ ?_
   ·refine ⟨fun hk => by simp at hk; simp [hk], fun hk => Ag.of ⟨fun hk2 => by simp at hk hk2; simp [hk2], fun hk2 => by simp at hk hk2; simp [hk, hk2]⟩⟩
   ·intro d12 h12; refine Ag.of ⟨fun hk => ?_, fun hk => Ag.of ?_⟩
    ·rw [h12] at hk; refine ⟨?_, rfl⟩; rw [hb1]; simp only [Adk]; omega
    ·have hk : ¬ (k = 0 ∨ k = 2 ∨ k = 3) := by rw [← h12]; simp [hk]
     refine ⟨fun hk1 => ⟨fun hb2 => (hI _).to ?_, fun hb2 => ⟨?_, rfl⟩⟩, fun hk1 => Ag.of ⟨fun hk4 => ⟨?_, rfl⟩, fun hk4 => ⟨?_, rfl⟩⟩⟩
     ·rintro (b2 : Bool) (e2 : Int) ⟨hb3, rfl⟩; refine ⟨?_, rfl⟩; simp at hk1; simp only [cond_true, hb3, Adk]; rw [hb1] at hb2; omega
     ·simp at hk1
      have : ¬ (0 ≤ nx ∧ nx < (x.1.length : Int)) := by rw [← hb1]; simp [hb2]
      simp only [cond_false, Adk, Bool.false_eq_true, false_iff]; omega
     ·simp at hk1 hk4; simp only [Adk, true_iff]; omega
     ·simp at hk1 hk4; simp only [Adk, Bool.false_eq_true, false_iff]; omega
  ·rintro ⟨q, e⟩ ⟨hq, he⟩; dsimp only at hq he ⊢; subst he; refine ⟨fun hn => ⟨fun v => ?_, fun _ => rfl⟩, fun hn => ?_⟩
   ·exfalso; have := hbad v; rw [← hq] at this; simp [this] at hn
   ·simp at hn; have e : IntKind.i64.wrap (d2 + 1) = d2 + 1 := w64 (by omega) (by omega); rw [e]; exact ⟨⟨by omega, by omega, rfl, hok (hq.1 hn)⟩, by omega⟩
 ·have hd := of_decide_eq_false hd; refine ⟨fun _ => rfl, fun nv => (nv ⟨by omega, by omega, by omega, by omega, fun i hi => h4 i (by omega)⟩).elim⟩
def Agb (A : List State) (st en : Bool) (i j : Nat) : Prop :=
 ((A.getD i Aby).1 = 1 ∧ (j = (A.getD i Aby).2.2.1.toNat ∨ j = (A.getD i Aby).2.2.2.toNat)) ∨ ((A.getD i Aby).1 = 2 ∧ st = true ∧ j = (A.getD i Aby).2.2.1.toNat) ∨ ((A.getD i Aby).1 = 3 ∧ en = true ∧ j = (A.getD i Aby).2.2.1.toNat)
inductive Rch (A : List State) (st en : Bool) : Nat → Nat → Prop
 | refl (i : Nat) : Rch A st en i i
 | tail {i j k : Nat} (h : Rch A st en i j) (e : Agb A st en j k) : Rch A st en i k
theorem Rch.trans {A : List State} {st en : Bool} {i j k : Nat} (h : Rch A st en i j) (h2 : Rch A st en j k) : Rch A st en i k := by
 induction h2 with
 | refl => exact h
 | tail _ e ih => exact ih.tail e
def OkL (A : List State) : Prop := ∀ i, i < A.length → Adk A.length (A.getD i Aby)
theorem AjT {A : List State} (h : OkL A) {st en : Bool} {i j : Nat} (hi : i < A.length) (e : Agb A st en i j) : j < A.length := by
 obtain ⟨h1, h2, h3, h4⟩ := h i hi
 rcases e with ⟨k, rfl | rfl⟩ | ⟨k, _, rfl⟩ | ⟨k, _, rfl⟩
 ·have := h3 (by omega); omega
 ·have := h4 k; omega
 ·have := h3 (by omega); omega
 ·have := h3 (by omega); omega
theorem AgV {l : List Bool} {i : Nat} (h : i < l.length) (hf : l.getD i false = false) : (l.set i true).count false + 1 = l.count false := by
 rw [getD_eq h] at hf; have hpos : 0 < l.count false := List.count_pos_iff.2 (hf ▸ Qc6 h); rw [List.count_set h, hf]; simp; omega
def rdR (A : List State) (c : UInt8) (i j : Nat) : Prop := (A.getD i Aby).1 = 0 ∧ Afh (A.getD i Aby).2.1 (c.toNat : Int) = true ∧ j = (A.getD i Aby).2.2.1.toNat
inductive On (a : Auto) (s : List UInt8) (i : Nat) : Nat → Nat → Prop
 | start : On a s i i a.2.toNat
 | eps {j p q : Nat} (h : On a s i j p) (e : Agb a.1 (j == 0) (j == s.length) p q) : On a s i j q
 | read {j p q : Nat} (h : On a s i j p) (hj : j < s.length) (r : rdR a.1 (s.getD j 0) p q) : On a s i (j + 1) q
def acc (a : Auto) (s : List UInt8) (i j : Nat) : Prop := ∃ q, On a s i j q ∧ (a.1.getD q Aby).1 = 4
theorem Valid.okl {a : Auto} (v : Valid a) : OkL a.1 := v.ok
theorem Aj2 {A : List State} (h : OkL A) {c : UInt8} {i j : Nat} (hi : i < A.length) (r : rdR A c i j) : j < A.length := by
 obtain ⟨k, _, rfl⟩ := r; obtain ⟨h1, h2, h3, h4⟩ := h i hi; have := h3 (by omega); omega
section
variable {a : Auto} {s : List UInt8} {i : Nat}
theorem On.lt (v : Valid a) {j q : Nat} (h : On a s i j q) : q < a.1.length := by
 induction h with
 | start => have := v.s0; have := v.s1; omega
 | eps _ e ih => exact AjT v.okl ih e
 | read _ _ r ih => exact Aj2 v.okl ih r
theorem On.le {j q : Nat} (h : On a s i j q) : i ≤ j := by
 induction h with
 | start => exact Qa8 _
 | eps _ _ ih => exact ih
 | read _ _ _ ih => omega
theorem On.Afi {j q : Nat} (hi : i ≤ s.length) (h : On a s i j q) : j ≤ s.length := by
 induction h with
 | start => exact hi
 | eps _ _ ih => exact ih
 | read _ hj _ _ => omega
theorem acc.le {j : Nat} (h : acc a s i j) : i ≤ j := by obtain ⟨q, h, _⟩ := h; exact h.le
theorem acc.Afi {j : Nat} (hi : i ≤ s.length) (h : acc a s i j) : j ≤ s.length := by obtain ⟨q, h, _⟩ := h; exact h.Afi hi
def Seed (a : Auto) (s : List UInt8) (i j q : Nat) : Prop := (j = i ∧ q = a.2.toNat) ∨ ∃ j' p, j = j' + 1 ∧ On a s i j' p ∧ j' < s.length ∧ rdR a.1 (s.getD j' 0) p q
theorem Seed.on {j q : Nat} (h : Seed a s i j q) : On a s i j q := by
 rcases h with ⟨rfl, rfl⟩ | ⟨j', p, rfl, h1, h2, h3⟩
 ·exact .start
 ·exact .read h1 h2 h3
theorem Seed.lt (v : Valid a) {j q : Nat} (h : Seed a s i j q) : q < a.1.length := h.on.lt v
theorem AiP {j q : Nat} : On a s i j q ↔ ∃ p, Seed a s i j p ∧ Rch a.1 (j == 0) (j == s.length) p q := by
 constructor
 ·intro h
  induction h with
  | start => exact ⟨_, .inl ⟨rfl, rfl⟩, .refl _⟩
  | eps _ e ih => obtain ⟨p, h1, h2⟩ := ih; exact ⟨p, h1, h2.tail e⟩
  | read h hj r _ => exact ⟨_, .inr ⟨_, _, rfl, h, hj, r⟩, .refl _⟩
 ·rintro ⟨p, h1, h2⟩
  induction h2 with
  | refl => exact h1.on
  | tail _ e ih => exact ih.eps e
end
end Go.VS
namespace Go.VS
variable {P : Pg}
structure Fnd (a : Auto) (s : List UInt8) (p i j : Nat) : Prop where
 ge : p ≤ i
 le : i ≤ s.length
 is : acc a s i j
 first : ∀ i' j', p ≤ i' → acc a s i' j' → i' ≤ s.length → i ≤ i'
 long : ∀ j', acc a s i j' → j' ≤ j
def Agl (a : Auto) (s : List UInt8) (p : Nat) : Prop := ∀ i j, p ≤ i → i ≤ s.length → ¬ acc a s i j
theorem Fnd.not {a : Auto} {s : List UInt8} {p i j : Nat} (h : Fnd a s p i j) : ¬ Agl a s p := fun n => n i j h.ge h.le h.is
theorem Fnd.uniq {a : Auto} {s : List UInt8} {p i j i' j' : Nat} (h : Fnd a s p i j) (k : Fnd a s p i' j') : i = i' ∧ j = j' := by
 have e : i = i' := Nat.le_antisymm (h.first _ _ k.ge k.is k.le) (k.first _ _ h.ge h.is h.le); subst e; exact ⟨rfl, Nat.le_antisymm (k.long _ h.is) (h.long _ k.is)⟩
def Af3 (a : Auto) (s : List UInt8) (p : Nat) (d : Int × Int) (ok : Bool) : Prop := (ok = true ∧ ∃ i j : Nat, d = ((i : Int), (j : Int)) ∧ Fnd a s p i j) ∨ (ok = false ∧ d = (0, 0) ∧ Agl a s p)
theorem Af3.uniq {a : Auto} {s : List UInt8} {p : Nat} {d d' : Int × Int} {ok ok' : Bool} (h : Af3 a s p d ok) (k : Af3 a s p d' ok') : d = d' ∧ ok = ok' := by
 rcases h with ⟨rfl, i, j, rfl, h⟩ | ⟨rfl, rfl, h⟩ <;> rcases k with ⟨rfl, i', j', rfl, k⟩ | ⟨rfl, rfl, k⟩
 ·obtain ⟨rfl, rfl⟩ := h.uniq k; exact ⟨rfl, rfl⟩
 ·exact (h.not k).elim
 ·exact (k.not h).elim
 ·exact ⟨rfl, rfl⟩
abbrev Ahx := Auto × (List UInt8 × Int)
def Aft (x : Ahx) (d : (Int × Int) × (Bool × Int)) : Prop :=
 (¬ Valid x.1 → d = ((0, 0), (false, 2))) ∧ (Valid x.1 → (¬ (0 ≤ x.2.2 ∧ x.2.2 ≤ x.2.1.length) → d = ((0, 0), (false, 3))) ∧ ((0 ≤ x.2.2 ∧ x.2.2 ≤ x.2.1.length) → d.2.2 = 0 ∧ Af3 x.1 x.2.1 x.2.2.toNat d.1 d.2.1))
theorem Aft.uniq {x : Ahx} {d d' : (Int × Int) × (Bool × Int)} (h : Aft x d) (k : Aft x d') : d = d' := by
 by_cases v : Valid x.1
 ·by_cases r : 0 ≤ x.2.2 ∧ x.2.2 ≤ x.2.1.length
  ·obtain ⟨h1, h2⟩ := (h.2 v).2 r; obtain ⟨k1, k2⟩ := (k.2 v).2 r; obtain ⟨e1, e2⟩ := h2.uniq k2; obtain ⟨d1, d2, d3⟩ := d; obtain ⟨d1', d2', d3'⟩ := d'; dsimp only at h1 k1 e1 e2; subst h1 k1 e1 e2; rfl
  ·rw [(h.2 v).1 r, (k.2 v).1 r]
 ·rw [h.1 v, k.1 v]
def AeX (x : State) (st en : Bool) : List Int :=
 if x.1 = 1 then [x.2.2.1, x.2.2.2] else if x.1 = 2 then (if st then [x.2.2.1] else []) else if x.1 = 3 then (if en then [x.2.2.1] else []) else []
theorem Ahc (x : State) (st en : Bool) : (AeX x st en).length ≤ 2 := by
 unfold AeX; split
 ·simp
 ·split
  ·split <;> simp
  ·split
   ·split <;> simp
   ·simp
theorem Aip {A : List State} (hA : OkL A) {i : Nat} (hi : i < A.length) (st en : Bool) : (∀ q ∈ AeX (A.getD i Aby) st en, 0 ≤ q ∧ q < A.length ∧ Agb A st en i q.toNat) ∧ ∀ j, Agb A st en i j → (j : Int) ∈ AeX (A.getD i Aby) st en := by
 obtain ⟨h1, h2, h3, h4⟩ := hA i hi; unfold AeX Agb; generalize A.getD i Aby = x at h1 h2 h3 h4 ⊢; obtain ⟨k, set, nx, ot⟩ := x; dsimp only at h1 h2 h3 h4 ⊢; constructor
 ·intro q hq; split at hq
  ·rename_i hk; simp at hq
   rcases hq with rfl | rfl
   ·have := h3 (by omega); exact ⟨this.1, this.2, .inl ⟨hk, .inl rfl⟩⟩
   ·have := h4 hk; exact ⟨this.1, this.2, .inl ⟨hk, .inr rfl⟩⟩
  ·split at hq
   ·rename_i hk; split at hq
    ·rename_i hs; simp at hq; subst hq; have := h3 (by omega); exact ⟨this.1, this.2, .inr (.inl ⟨hk, hs, rfl⟩)⟩
    ·simp at hq
   ·split at hq
    ·rename_i hk; split at hq
     ·rename_i hs; simp at hq; subst hq; have := h3 (by omega); exact ⟨this.1, this.2, .inr (.inr ⟨hk, hs, rfl⟩)⟩
     ·simp at hq
    ·simp at hq
 ·rintro j (⟨hk, rfl | rfl⟩ | ⟨hk, hs, rfl⟩ | ⟨hk, hs, rfl⟩)
  ·have := h3 (by omega); simp [hk]; omega
  ·have := h4 hk; simp [hk]; omega
  ·have := h3 (by omega); simp [hk, hs]; omega
  ·have := h3 (by omega); simp [hk, hs]; omega
def AgQ (P : Pg) : Prop := ∀ x : State × (Bool × Bool), Fn P Y0 Ade x fun (d : List Int) _ => d = AeX x.1 x.2.1 x.2.2
theorem Ai4 (h : Has P AdR) : AgQ P := by
 rintro ⟨⟨k, set, nx, ot⟩, st, en⟩; refine Af0 h ?_; unfold AeT AeX; dsimp only
 refine Ag.of ⟨fun h1 => ?_, fun h1 => Ag.of ⟨fun h2 => ⟨fun h3 => ?_, fun h3 => ?_⟩, fun h2 => Ag.of ⟨fun h3 => ⟨fun h4 => ?_, fun h4 => ?_⟩, fun h3 => ?_⟩⟩⟩ <;> simp_all
theorem pop {l : List Int} (h : ((Qa5 l : Nat) : Int) > 0) : ∃ m x, l = m ++ [x] := by
 rcases List.eq_nil_or_concat l with rfl | ⟨m, x, rfl⟩
 ·simp at h
 ·exact ⟨m, x, by simp⟩
def AhO (m : Qm) : Bool := m.2.2.1 == 0
def AhC (m : Qm) : Bool := m.2.2.1 == ((Qa5 m.2.1 : Nat) : Int)
def Closed (A : List State) (st en : Bool) (seen : List Bool) : Prop := ∀ q, seen.getD q false = true → ∀ q', Agb A st en q q' → seen.getD q' false = true
theorem AiH {l : List Bool} {i : Nat} (h : i < l.length) (hf : l.getD i false = false) : (l.set i true).count false + 1 = l.count false ∧ (l.set i true).count true = l.count true + 1 := by
 refine ⟨AgV h hf, ?_⟩; rw [getD_eq h] at hf; rw [List.count_set h, hf]; simp
structure Added (x : Qm × (Int × Int)) (m : Qm) (N : List Int) : Prop where
 a : m.1 = x.1.1
 s : m.2.1 = x.1.2.1
 at_ : m.2.2.1 = x.1.2.2.1
 th : m.2.2.2.1 = x.1.2.2.2.1 ++ N.map fun q => (q, x.2.2)
 nod : N.Nodup
 mem : ∀ q : Int, q ∈ N ↔ 0 ≤ q ∧ x.1.2.2.2.2.getD q.toNat false = false ∧ Rch x.1.1.1 (AhO x.1) (AhC x.1) x.2.1.toNat q.toNat
 len : m.2.2.2.2.length = x.1.2.2.2.2.length
 seen : ∀ q, m.2.2.2.2.getD q false = true ↔ x.1.2.2.2.2.getD q false = true ∨ Rch x.1.1.1 (AhO x.1) (AhC x.1) x.2.1.toNat q
 cnt : m.2.2.2.1.length = m.2.2.2.2.count true
def AgL (P : Pg) : Prop := ∀ x : Qm × (Int × Int), Valid x.1.1 → x.1.2.2.2.2.length = x.1.1.1.length → x.1.2.2.2.1.length = x.1.2.2.2.2.count true → 0 ≤ x.2.1 → x.2.1 < x.1.1.1.length → Closed x.1.1.1 (AhO x.1) (AhC x.1) x.1.2.2.2.2 →
 Fn P QV AcY x fun _ (m : Qm) => ∃ N, Added x m N
theorem AjW (h : Has P AdF) (hS : AgQ P) : AgL P := by
 rintro ⟨⟨a, s, at_, T, seen⟩, q0, fr⟩ hv hsl hcnt hq0 hq1 hcl; dsimp only at hv hsl hcnt hq0 hq1 hcl ⊢; refine Afq h ?_; unfold Aep; dsimp only; have hn := hv.hi
 let M : Qm := (a, (s, (at_, (T, seen))))
 generalize hst : AhO (a, (s, (at_, (T, seen)))) = st at hcl; generalize hen : AhC (a, (s, (at_, (T, seen)))) = en at hcl
 have hcs : ∀ l : List Bool, l.count true ≤ l.length := fun l => Qc0
 refine Ag.mid (fun m => ∃ N, Added ((a, (s, (at_, (T, seen)))), (q0, fr)) m N) ?_ fun m hm => hm
 refine B0.of (fun d => d.2.1 = a ∧ d.2.2.1 = s ∧ d.2.2.2.1 = at_ ∧ d.2.2.2.2.2.length = a.1.length ∧ d.2.2.2.2.1.length = d.2.2.2.2.2.count true ∧
   (∃ N : List Int, d.2.2.2.2.1 = T ++ N.map (fun q => (q, fr)) ∧ N.Nodup ∧ ∀ q : Int, q ∈ N ↔ 0 ≤ q ∧ seen.getD q.toNat false = false ∧ d.2.2.2.2.2.getD q.toNat false = true) ∧
   (∀ q, seen.getD q false = true → d.2.2.2.2.2.getD q false = true) ∧ (∀ q, d.2.2.2.2.2.getD q false = true → seen.getD q false = true ∨ Rch a.1 st en q0.toNat q) ∧
   (∀ q ∈ d.1, 0 ≤ q ∧ q < (a.1.length : Int) ∧ Rch a.1 st en q0.toNat q.toNat) ∧ (∀ q, d.2.2.2.2.2.getD q false = true → ∀ q', Agb a.1 st en q q' → d.2.2.2.2.2.getD q' false = true ∨ (q' : Int) ∈ d.1) ∧
   (d.2.2.2.2.2.getD q0.toNat false = true ∨ q0 ∈ d.1) ∧ d.1.length + 2 * d.2.2.2.2.2.count false ≤ 2 * a.1.length + 1) (fun d => d.1.length + 2 * d.2.2.2.2.2.count false) ?_ ?_
 ·refine ⟨rfl, rfl, rfl, hsl, hcnt, ⟨[], by simp, List.nodup_nil, fun q => ?_⟩, fun q h => h, fun q h => .inl h, fun q hq => ?_, fun q hq q' he => .inl (hcl q hq q' he), .inr (by simp), ?_⟩
  ·dsimp only; constructor
   ·intro h; cases h
   ·rintro ⟨_, h1, h2⟩; rw [h1] at h2; cases h2
  ·simp at hq; subst hq; exact ⟨hq0, hq1, .refl _⟩
  ·have : seen.count false ≤ seen.length := Qc0; simp; omega
 ·rintro ⟨op, a', s', at', T', sn⟩ ⟨ea, es, eat, l1, c1, ⟨N, eT, nN, mN⟩, g1, g2, g3, g4, g5, g6⟩; dsimp only at ea es eat l1 c1 eT mN g1 g2 g3 g4 g5 g6 ⊢; obtain rfl := ea.symm; obtain rfl := es.symm; obtain rfl := eat.symm; subst eT; refine ⟨fun hop => Ag.of ?_, fun hop => ?_⟩
  ·have hop := of_decide_eq_true hop; obtain ⟨op, x, rfl⟩ := pop hop
   have e1 : IntKind.i64.wrap (((Qa5 (op ++ [x]) : Nat) : Int) - 1) = op.length := by
    rw [w64 (by omega) (by omega)]; simp
   have e2 : (Qb2 ((op.length : Nat) : Int)) = op.length := by omega
   have e3 : Qb1 (op ++ [x]) op.length 0 = x := HI
   have e4 : List.take op.length (List.drop 0 (op ++ [x])) = op := by simp
   rw [e1, e2, e3, e4]; obtain ⟨x0, x1, x2⟩ := g3 x (by simp); refine ⟨⟨by omega, by simp; omega⟩, by simp, ⟨by omega, by simp; omega⟩, by simp, ⟨x0, by omega⟩, by omega, fun hb => ?_, fun hb => ?_⟩
   ·refine ⟨⟨rfl, rfl, rfl, l1, c1, ⟨N, rfl, nN, mN⟩, g1, g2, fun q hq => g3 q (by simp [hq]), fun q hq q' he => ?_, ?_, ?_⟩, by simp⟩
    ·rcases g4 q hq q' he with h | h
     ·exact .inl h
     ·rcases List.mem_append.1 h with h | h
      ·exact .inr h
      ·simp at h; left; rw [← h] at hb; simpa using hb
    ·rcases g5 with h | h
     ·exact .inl h
     ·rcases List.mem_append.1 h with h | h
      ·exact .inr h
      ·simp at h; subst h; exact .inl hb
    ·simp at g6 ⊢; omega
   ·have hxn : x.toNat < sn.length := by omega
    obtain ⟨k1, k2⟩ := AiH hxn hb
    have hns : seen.getD x.toNat false = false := by
     cases hh : seen.getD x.toNat false with
     | false => rfl
     | true => rw [g1 _ hh] at hb; cases hb
    have hxN : x ∉ N := fun hh => by have := ((mN x).1 hh).2.2; rw [hb] at this; cases this
    have hTl : (T ++ N.map fun q => (q, fr)).length ≤ a.1.length := by rw [c1]; have := hcs sn; omega
    refine ⟨⟨x0, by omega⟩, by omega, ?_⟩; refine Ag.mid (fun m => m = (a, (s, (at_, (T ++ N.map (fun q => (q, fr)) ++ [(x, fr)], sn.set x.toNat true))))) ?_ ?_
    ·simp only [and_true, and_self]; simp only [Qa3, Qa2]; omega
    ·rintro m rfl; dsimp only; refine Ag.mid (fun o => o = op ++ AeX (a.1.getD x.toNat Aby) st en) ?_ ?_
     ·refine ⟨⟨x0, x1⟩, by omega, ?_, trivial⟩; refine (hS (a.1.getD x.toNat Aby, (at_ == 0, at_ == ((Qa5 s : Nat) : Int)))).to ?_; rintro (d : List Int) _ hd
      have hd : d = AeX (a.1.getD x.toNat Aby) st en := by rw [hd, ← hst, ← hen]; rfl
      subst hd; have := Ahc (a.1.getD x.toNat Aby) st en; refine ⟨⟨?_, rfl, trivial⟩, trivial⟩; simp at g6; omega
     ·rintro o rfl; obtain ⟨p1, p2⟩ := Aip hv.okl (show x.toNat < a.1.length by omega) st en; have hsl2 := Ahc (a.1.getD x.toNat Aby) st en; generalize AeX (a.1.getD x.toNat Aby) st en = S at p1 p2 hsl2; refine ⟨⟨rfl, rfl, rfl, by simpa using l1, ?_, ⟨N ++ [x], by simp, ?_, fun q => ?_⟩, fun q hq => ?_, fun q hq => ?_, fun q hq => ?_, fun q hq q' he => ?_, ?_, ?_⟩, ?_⟩
      ·simp only [Qa4, Qa3, Qa2] at c1 ⊢; rw [k2]; omega
      ·exact List.nodup_append.2 ⟨nN, by simp, by rintro y hy z hz rfl; simp at hz; subst hz; exact hxN hy⟩
      ·rw [Qd7, mN, AdI hxn]; constructor
       ·rintro (⟨h1, h2, h3⟩ | h)
        ·refine ⟨h1, h2, ?_⟩; split
         ·rfl
         ·exact h3
        ·simp at h; subst h; exact ⟨x0, hns, by simp⟩
       ·rintro ⟨h1, h2, h3⟩; split at h3
        ·rename_i e; right; simp; omega
        ·exact .inl ⟨h1, h2, h3⟩
      ·rw [AdI hxn]; split
       ·rfl
       ·exact g1 q hq
      ·rw [AdI hxn] at hq; split at hq
       ·rename_i e; subst e; exact .inr x2
       ·exact g2 q hq
      ·rcases List.mem_append.1 hq with hq | hq
       ·exact g3 q (by simp [hq])
       ·obtain ⟨h1, h2, h3⟩ := p1 q hq; exact ⟨h1, h2, x2.tail h3⟩
      ·rw [AdI hxn] at hq ⊢; split at hq
       ·rename_i e; subst e; exact .inr (List.mem_append.2 (.inr (p2 q' he)))
       ·rcases g4 q hq q' he with h | h
        ·left; split
         ·rfl
         ·exact h
        ·rcases List.mem_append.1 h with h | h
         ·exact .inr (List.mem_append.2 (.inl h))
         ·simp at h; left; rw [if_pos (by omega)]
      ·rw [AdI hxn]
       rcases g5 with h | h
       ·left; split
        ·rfl
        ·exact h
       ·rcases List.mem_append.1 h with h | h
        ·exact .inr (List.mem_append.2 (.inl h))
        ·simp at h; left; rw [if_pos (by omega)]
      ·simp at g6 ⊢; omega
      ·simp at g6 ⊢; omega
  ·have hop := of_decide_eq_false hop
   have : op = [] := by
    cases op with
    | nil => rfl
    | cons => simp at hop
   subst this
   have hclo : ∀ q, sn.getD q false = true → ∀ q', Rch a.1 st en q q' → sn.getD q' false = true := by
    intro q hq q' hr
    induction hr with
    | refl => exact hq
    | tail _ e ih => exact (g4 _ ih _ e).elim id fun h => by cases h
   have h0 : sn.getD q0.toNat false = true := g5.elim id fun h => by cases h
   refine ⟨N, ⟨rfl, rfl, rfl, rfl, nN, fun q => ?_, by dsimp only; omega, fun q => ?_, c1⟩⟩
   ·rw [mN]; dsimp only; rw [hst, hen]; constructor
    ·rintro ⟨h1, h2, h3⟩; exact ⟨h1, h2, (g2 _ h3).elim (fun h => by rw [h2] at h; cases h) id⟩
    ·rintro ⟨h1, h2, h3⟩; exact ⟨h1, h2, hclo _ h0 _ h3⟩
   ·dsimp only; rw [hst, hen]; exact ⟨g2 q, fun h => h.elim (g1 q) (hclo _ h0 q)⟩
def kindOf (A : List State) (q : Int) : Int := (A.getD q.toNat Aby).1
def Af4 (P : Pg) : Prop := ∀ x : Auto × (List UInt8 × Int), x.1.1.length ≤ 8000 → Fn P XE Adf x fun (m : Qm) _ => m = (x.1, (x.2.1, (x.2.2, ([], Qb4 x.1.1.length false))))
theorem Ai3 (h : Has P Ad8) : Af4 P := by
 rintro ⟨a, s, at_⟩ hn; refine AgB h ?_; unfold Afy; dsimp only at hn ⊢
 have e3 : (Qb2 ((Qa5 a.1 : Nat) : Int)) = a.1.length := by omega
 rw [e3]
 refine Ag.mid (fun m => m = (a, (s, (at_, ([], Qb4 a.1.length false))))) ?_ fun m hm => hm
 simp only [and_true, and_self]; omega
def AeP (P : Pg) : Prop := ∀ x : Qm, (∀ t ∈ x.2.2.2.1, 0 ≤ t.1 ∧ t.1 < (x.1.1.length : Int)) → x.2.2.2.1.length ≤ 8000 →
 Fn P XG AcW x fun (d : Int) (m : Qm) => m = x ∧ ((d = -1 ∧ ∀ t ∈ x.2.2.2.1, kindOf x.1.1 t.1 ≠ 4) ∨ ∃ k, k < x.2.2.2.1.length ∧ d = (x.2.2.2.1.getD k ((0 : Int), (0 : Int))).2 ∧ kindOf x.1.1 (x.2.2.2.1.getD k ((0 : Int), (0 : Int))).1 = 4 ∧ ∀ k', k' < k → kindOf x.1.1 (x.2.2.2.1.getD k' ((0 : Int), (0 : Int))).1 ≠ 4)
theorem Ah6 (h : Has P Adi) : AeP P := by
 rintro ⟨a, s, at_, T, seen⟩ hT hl; refine AeC h ?_; unfold AdX; dsimp only at hT hl ⊢
 refine Ag.mid (fun _ => ∀ t ∈ T, kindOf a.1 t.1 ≠ 4) ?_ fun d hd => ⟨rfl, .inl ⟨rfl, hd⟩⟩
 refine B0.of (fun d => 0 ≤ d.2 ∧ d.2 ≤ T.length ∧ ∀ k : Nat, (k : Int) < d.2 → kindOf a.1 (T.getD k ((0 : Int), (0 : Int))).1 ≠ 4) (fun d => (T.length - d.2).toNat) ⟨Qa7 _, by dsimp only; omega, fun k hk => by dsimp only at hk; omega⟩ ?_
 rintro ⟨u, k⟩ ⟨k0, k1, hk⟩; dsimp only at k0 k1 hk ⊢; refine ⟨fun hc => Ag.of ?_, fun hc => ?_⟩
 ·have hc := of_decide_eq_true hc; have ek : IntKind.i64.wrap (k + 1) = k + 1 := w64 (by omega) (by omega); rw [ek]; have := hT _ (S7 (d := ((0 : Int), (0 : Int))) (show k.toNat < T.length by omega)); refine ⟨⟨k0, hc⟩, by omega, this, by omega, fun hb => ?_, fun hb => ?_⟩
  ·refine ⟨rfl, .inr ⟨k.toNat, by omega, rfl, by simpa [kindOf] using hb, fun k' hk' => hk k' (by omega)⟩⟩
  ·refine ⟨⟨by omega, by omega, fun k' hk' => ?_⟩, by omega⟩
   by_cases e : k' = k.toNat
   ·subst e; simpa [kindOf] using hb
   ·exact hk k' (by omega)
 ·have hc := of_decide_eq_false hc; intro t ht; obtain ⟨k', hk', rfl⟩ := Qb6 ht; have := hk k' (by omega)
  rwa [getD_eq hk'] at this
def AhA (P : Pg) : Prop := ∀ x : Qm × Int, x.1.2.2.2.1.length ≤ 8000 → x.1.2.2.2.1.Pairwise (fun t u => t.2 ≤ u.2) →
 Fn P Y1 Ac4 x fun _ (m : Qm) => m.1 = x.1.1 ∧ m.2.1 = x.1.2.1 ∧ m.2.2.1 = x.1.2.2.1 ∧ m.2.2.2.2 = x.1.2.2.2.2 ∧ m.2.2.2.1.Sublist x.1.2.2.2.1 ∧ ∀ t, t ∈ m.2.2.2.1 ↔ t ∈ x.1.2.2.2.1 ∧ t.2 ≤ x.2
theorem AjK (h : Has P AdB) : AhA P := by
 rintro ⟨⟨a, s, at_, T, seen⟩, fr⟩ hl hs; refine Afe h ?_; unfold Aed; dsimp only at hl hs ⊢; refine Ag.mid (fun m => m = (a, (s, (at_, (T, seen)))) ∧ ∀ t ∈ T, t.2 ≤ fr) ?_ ?_
 ·refine B0.of (fun d => d.1 = T.length ∧ d.2.2 = (a, (s, (at_, (T, seen)))) ∧ 0 ≤ d.2.1 ∧ d.2.1 ≤ T.length ∧ ∀ k : Nat, (k : Int) < d.2.1 → (T.getD k ((0 : Int), (0 : Int))).2 ≤ fr) (fun d => (T.length - d.2.1).toNat) ⟨rfl, rfl, Qa7 _, by dsimp only; omega, fun k hk => by dsimp only at hk; omega⟩ ?_
  rintro ⟨n, k, m⟩ ⟨hn, hm, k0, k1, hk⟩; dsimp only at hn hm k0 k1 hk ⊢; subst hm; dsimp only; refine ⟨fun hc => Ag.of ?_, fun hc => ?_⟩
  ·have hc := of_decide_eq_true hc; have ek : IntKind.i64.wrap (k + 1) = k + 1 := w64 (by omega) (by omega); rw [ek, Nat.zero_add]; refine ⟨⟨k0, by omega⟩, by omega, fun hb => ?_, fun hb => ?_⟩
   ·have hb := of_decide_eq_true hb; refine ⟨⟨k0, by omega⟩, by omega, rfl, rfl, rfl, rfl, by simpa using List.take_sublist _ _, fun t => ?_⟩; rw [List.drop_zero]
    have hkT : k.toNat < T.length := by omega
    rw [getD_eq hkT] at hb; constructor
    ·intro ht; obtain ⟨i, hi, rfl⟩ := Qb6 ht; simp at hi; rw [List.getElem_take]; have := hk i (by omega); rw [getD_eq (by omega)] at this; exact ⟨Qc6 _, this⟩
    ·rintro ⟨ht, hle⟩; obtain ⟨i, hi, rfl⟩ := Qb6 ht
     have hik : i < k.toNat := by
      rcases Qd2 i k.toNat with h | h | h
      ·exact h
      ·subst h; omega
      ·have := List.pairwise_iff_getElem.1 hs _ _ hkT hi h; omega
     exact List.mem_take_iff_getElem.2 ⟨i, by omega, rfl⟩
   ·have hb := of_decide_eq_false hb; refine ⟨⟨by simp [hn], rfl, by omega, by omega, fun k' hk' => ?_⟩, by omega⟩
    by_cases e : k' = k.toNat
    ·subst e; omega
    ·exact hk k' (by omega)
  ·have hc := of_decide_eq_false hc; refine ⟨rfl, fun t ht => ?_⟩; obtain ⟨k', hk', rfl⟩ := Qb6 ht; have := hk k' (by omega)
   rwa [getD_eq hk'] at this
 ·rintro m ⟨rfl, hm⟩; exact ⟨rfl, rfl, rfl, rfl, List.Sublist.refl _, fun t => ⟨fun ht => ⟨ht, hm t ht⟩, fun ht => ht.1⟩⟩
def RkL (A : List State) (c : UInt8) (st en : Bool) (L : List (Int × Int)) (f : Int) (q : Nat) : Prop := ∃ t ∈ L, t.2 = f ∧ ∃ q0, rdR A c t.1.toNat q0 ∧ Rch A st en q0 q
structure AiL (A : List State) (c : UInt8) (st en : Bool) (L T : List (Int × Int)) (seen : List Bool) : Prop where
 len : seen.length = A.length
 cnt : T.length = seen.count true
 mem : ∀ q f, (q, f) ∈ T ↔ 0 ≤ q ∧ RkL A c st en L f q.toNat ∧ ∀ f', f' < f → ¬ RkL A c st en L f' q.toNat
 seen : ∀ q, seen.getD q false = true ↔ ∃ f, RkL A c st en L f q
 sorted : T.Pairwise (fun t u => t.2 ≤ u.2)
theorem AjD {k0 w0 w1 w2 w3 : Int} {c : Int} (h1 : 0 ≤ c) (h2 : c ≤ 255) :
  (IntKind.u64.wrap ((Qa6 (Qa1 IntKind.u64.bits (Qd6 (Qb1 [w0, w1, w2, w3] (Qb2 (IntKind.u8.wrap (Int.tdiv c (64 : Int)))) (0 : Int)) (2 ^ (min (Qb2 (Qc7 c (64 : Int))) IntKind.u64.bits))) &&& Qa1 IntKind.u64.bits (1 : Int)) : Nat) : Int) == (1 : Int)) = Afh (w0, (w1, (w2, w3))) c := by
 rw [(Z0 h1 h2).1]; unfold Afh; rfl
def AgH (P : Pg) : Prop := ∀ x : Qm, Valid x.1 → x.2.1.length ≤ 1099511627776 → 0 ≤ x.2.2.1 → x.2.2.1 < x.2.1.length → x.2.2.2.1.length ≤ 8000 → (∀ t ∈ x.2.2.2.1, 0 ≤ t.1 ∧ t.1 < (x.1.1.length : Int)) → x.2.2.2.1.Pairwise (fun t u => t.2 ≤ u.2) →
 Fn P XF Ac1 x fun _ (m : Qm) => m.1 = x.1 ∧ m.2.1 = x.2.1 ∧ m.2.2.1 = x.2.2.1 + 1 ∧ AiL x.1.1 (x.2.1.getD x.2.2.1.toNat 0) (x.2.2.1 + 1 == 0) (x.2.2.1 + 1 == ((Qa5 x.2.1 : Nat) : Int)) x.2.2.2.1 m.2.2.2.1 m.2.2.2.2
theorem AjL (h : Has P AdC) (hAdd : AgL P) : AgH P := by
 rintro ⟨a, s, at_, T, seen⟩ hv hs hat0 hat1 hl hT hsort; refine Aff h ?_; unfold Aee; dsimp only at hv hs hat0 hat1 hl hT hsort ⊢; have hn := hv.hi; have ea : IntKind.i64.wrap (at_ + 1) = at_ + 1 := w64 (by omega) (by omega); rw [ea]
 have e3 : (Qb2 ((Qa5 a.1 : Nat) : Int)) = a.1.length := by omega
 rw [e3]; refine Ag.of ⟨⟨hat0, by omega⟩, ?_, trivial⟩; refine Ag.mid (fun m => m = (a, (s, (at_ + 1, ([], Qb4 a.1.length false))))) ?_ ?_
 ·simp only [and_true, and_self]; omega
 rintro m rfl
 try dsimp only
 generalize hc : s.getD at_.toNat 0 = c; generalize hst : (at_ + 1 == (0 : Int)) = st; generalize hen : (at_ + 1 == ((Qa5 s : Nat) : Int)) = en
 have hcr : 0 ≤ (c.toNat : Int) ∧ (c.toNat : Int) ≤ 255 := by have := c.toNat_lt; omega
 refine Ag.mid (fun m => m.1 = a ∧ m.2.1 = s ∧ m.2.2.1 = at_ + 1 ∧ AiL a.1 c st en T m.2.2.2.1 m.2.2.2.2) ?_ fun m hm => hm
 refine B0.of (fun d => 0 ≤ d.1 ∧ d.1 ≤ T.length ∧ d.2.1 = a ∧ d.2.2.1 = s ∧ d.2.2.2.1 = at_ + 1 ∧ AiL a.1 c st en (T.take d.1.toNat) d.2.2.2.2.1 d.2.2.2.2.2) (fun d => (T.length - d.1).toNat) ?_ ?_
 ·have hno : ∀ f q, ¬ RkL a.1 c st en (T.take (0 : Int).toNat) f q := by
   rintro f q ⟨t, ht, _⟩; simp at ht
  refine ⟨Qa7 _, by dsimp only; omega, rfl, rfl, rfl, ⟨by simp, ?_, fun q f => ⟨fun h => (nomatch h), fun h => (hno _ _ h.2.1).elim⟩, fun q => ⟨fun h => ?_, fun ⟨f, h⟩ => (hno _ _ h).elim⟩, List.Pairwise.nil⟩⟩
  ·simp [Qd9]
  ·exfalso; simp [Qa0, Qc4] at h
   split at h <;> simp at h
 ·rintro ⟨k, a', s', at', T', sn⟩ ⟨k0, k1, ea', es', eat', R⟩; dsimp only at k0 k1 ea' es' eat' R ⊢; obtain rfl := ea'.symm; obtain rfl := es'.symm; subst eat'; refine ⟨fun hk => Ag.of ?_, fun hk => ?_⟩
  ·have hk := of_decide_eq_true hk; have ek : IntKind.i64.wrap (k + 1) = k + 1 := w64 (by omega) (by omega); rw [ek]
   have hkT : k.toNat < T.length := by omega
   have htk := hT _ (S7 (d := ((0 : Int), (0 : Int))) hkT)
   have etake : T.take (k + 1).toNat = T.take k.toNat ++ [T.getD k.toNat ((0 : Int), (0 : Int))] := by
    rw [show (k + 1).toNat = k.toNat + 1 by omega, List.take_add_one, Qd5 hkT, getD_eq hkT]; rfl
   have hprev : ∀ f' q, RkL a.1 c st en (T.take k.toNat) f' q → f' ≤ (T.getD k.toNat ((0 : Int), (0 : Int))).2 := by
    rintro f' q ⟨t, ht, rfl, _⟩; obtain ⟨i, hi, rfl⟩ := Qb6 ht; simp at hi; rw [List.getElem_take, getD_eq hkT]; exact List.pairwise_iff_getElem.1 hsort _ _ (by omega) hkT (by omega)
   generalize T.getD k.toNat ((0 : Int), (0 : Int)) = t at htk etake hprev ⊢; obtain ⟨p, f⟩ := t; dsimp only at htk hprev ⊢; refine ⟨⟨k0, hk⟩, hkT, ?_⟩; refine Ag.mid (fun d => d = a.1.getD p.toNat Aby) ?_ ?_
   ·repeat' apply And.intro
    all_goals first | trivial | rfl | omega
   intro x hx; have hok := hv.ok p.toNat (by omega)
   have hrd : ∀ q0, rdR a.1 c p.toNat q0 ↔ x.1 = 0 ∧ Afh x.2.1 (c.toNat : Int) = true ∧ q0 = x.2.2.1.toNat := fun q0 => by unfold rdR; rw [← hx]
   rw [← hx] at hok; clear hx; obtain ⟨kd, ⟨w0, w1, w2, w3⟩, nx, ot⟩ := x; obtain ⟨o1, o2, o3, o4⟩ := hok; dsimp only at o1 o2 o3 o4 hrd ⊢; obtain ⟨g1, g2, g3, g4⟩ := Z0 hcr.1 hcr.2
   have hsp : ∀ f' q, RkL a.1 c st en (T.take (k + 1).toNat) f' q ↔ RkL a.1 c st en (T.take k.toNat) f' q ∨ (f' = f ∧ kd = 0 ∧ Afh (w0, (w1, (w2, w3))) (c.toNat : Int) = true ∧ Rch a.1 st en nx.toNat q) := by
    intro f' q; rw [etake]; constructor
    ·rintro ⟨t, ht, h1, q0, h2, h3⟩
     rcases List.mem_append.1 ht with ht | ht
     ·exact .inl ⟨t, ht, h1, q0, h2, h3⟩
     ·simp at ht; subst ht; obtain ⟨r1, r2, rfl⟩ := (hrd q0).1 h2; exact .inr ⟨h1.symm, r1, r2, h3⟩
    ·rintro (⟨t, ht, h1, q0, h2, h3⟩ | ⟨rfl, h1, h2, h3⟩)
     ·exact ⟨t, by simp [ht], h1, q0, h2, h3⟩
     ·exact ⟨(p, f'), by simp, rfl, nx.toNat, (hrd _).2 ⟨h1, h2, rfl⟩, h3⟩
   refine ⟨fun _ => by decide, fun _ => by rw [g1]; omega, fun _ => by rw [g1]; omega, fun _ => by decide, fun _ => g4, ?_⟩
   rw [AjD (k0 := 0) hcr.1 hcr.2]; refine Ag.mid (fun m => m.1 = a ∧ m.2.1 = s ∧ m.2.2.1 = at_ + 1 ∧ AiL a.1 c st en (T.take (k + 1).toNat) m.2.2.2.1 m.2.2.2.2) ?_ ?_
   ·refine ⟨fun hb => ?_, fun hb => ?_⟩
    ·simp at hb; obtain ⟨hb1, hb2⟩ := hb; have hnx := o3 (by omega); refine (hAdd ((a, (s, (at_ + 1, (T', sn)))), (nx, f)) hv R.len R.cnt hnx.1 hnx.2 ?_).to ?_
     ·show Closed a.1 (AhO _) (AhC _) sn; intro q hq q' he; obtain ⟨f', t, ht, h1, q0, h2, h3⟩ := (R.seen q).1 hq; refine (R.seen q').2 ⟨f', t, ht, h1, q0, h2, h3.tail ?_⟩; rw [← hst, ← hen]; exact he
     ·rintro _ (m : Qm) ⟨N, A⟩; have am := A.mem; have asn := A.seen; have hstm : AhO (a, (s, (at_ + 1, (T', sn)))) = st := hst; have henm : AhC (a, (s, (at_ + 1, (T', sn)))) = en := hen; dsimp only at am asn; rw [hstm, henm] at am asn; refine ⟨A.a, A.s, A.at_, ⟨by rw [A.len]; exact R.len, A.cnt, fun q f' => ?_, fun q => ?_, ?_⟩⟩
      ·rw [A.th, Qd7, R.mem, List.mem_map]; constructor
       ·rintro (⟨h1, h2, h3⟩ | ⟨q', hq', he⟩)
        ·refine ⟨h1, (hsp _ _).2 (.inl h2), fun f2 hf2 hh => ?_⟩
         rcases (hsp _ _).1 hh with hh | ⟨rfl, _⟩
         ·exact h3 f2 hf2 hh
         ·have := hprev _ _ h2; omega
        ·cases he; obtain ⟨h1, h2, h3⟩ := (am q).1 hq'; refine ⟨h1, (hsp _ _).2 (.inr ⟨rfl, hb1, hb2, h3⟩), fun f2 hf2 hh => ?_⟩
         rcases (hsp _ _).1 hh with hh | ⟨rfl, _⟩
         ·rw [(R.seen q.toNat).2 ⟨f2, hh⟩] at h2; cases h2
         ·dsimp only at hf2; omega
       ·rintro ⟨h1, h2, h3⟩
        rcases (hsp _ _).1 h2 with h2 | ⟨rfl, _, _, h2⟩
        ·exact .inl ⟨h1, h2, fun f2 hf2 hh => h3 f2 hf2 ((hsp _ _).2 (.inl hh))⟩
        ·by_cases hsn : sn.getD q.toNat false = true
         ·obtain ⟨f2, hf2⟩ := (R.seen _).1 hsn; have := hprev _ _ hf2
          by_cases e : f2 = f'
          ·subst e; exact .inl ⟨h1, hf2, fun f3 hf3 hh => h3 f3 hf3 ((hsp _ _).2 (.inl hh))⟩
          ·exact (h3 f2 (by omega) ((hsp _ _).2 (.inl hf2))).elim
         ·exact .inr ⟨q, (am q).2 ⟨h1, by simpa using hsn, h2⟩, rfl⟩
      ·rw [asn, R.seen]; constructor
       ·rintro (⟨f', h⟩ | h)
        ·exact ⟨f', (hsp _ _).2 (.inl h)⟩
        ·exact ⟨f, (hsp _ _).2 (.inr ⟨rfl, hb1, hb2, h⟩)⟩
       ·rintro ⟨f', h⟩
        rcases (hsp _ _).1 h with h | ⟨_, _, _, h⟩
        ·exact .inl ⟨f', h⟩
        ·exact .inr h
      ·rw [A.th]; refine List.pairwise_append.2 ⟨R.sorted, ?_, ?_⟩
       ·rw [List.pairwise_map]
        exact List.pairwise_iff_getElem.2 fun _ _ _ _ _ => Qa7 _
       ·rintro ⟨q1, f1⟩ h1 t2 h2; obtain ⟨q2, _, rfl⟩ := List.mem_map.1 h2; exact hprev _ _ ((R.mem _ _).1 h1).2.1
    ·have hno : ¬ (kd = 0 ∧ Afh (w0, (w1, (w2, w3))) (c.toNat : Int) = true) := by
      rintro ⟨h1, h2⟩; rw [h1, h2] at hb; simp at hb
     have hsp2 : ∀ f' q, RkL a.1 c st en (T.take (k + 1).toNat) f' q ↔ RkL a.1 c st en (T.take k.toNat) f' q := fun f' q => by
      rw [hsp]; exact ⟨fun h => h.elim id fun h => (hno ⟨h.2.1, h.2.2.1⟩).elim, .inl⟩
     exact ⟨rfl, rfl, rfl, ⟨R.len, R.cnt, fun q f' => by simp only [hsp2]; exact R.mem q f', fun q => by simp only [hsp2]; exact R.seen q, R.sorted⟩⟩
   ·rintro m ⟨m1, m2, m3, m4⟩; exact ⟨⟨by omega, by omega, m1, m2, m3, m4⟩, by omega⟩
  ·have hk := of_decide_eq_false hk; have : T.take k.toNat = T := Qc5 (by omega); rw [this] at R; exact ⟨rfl, rfl, rfl, R⟩
structure TI (a : Auto) (s : List UInt8) (lo hi at_ : Nat) (T : List (Int × Int)) : Prop where
 mem : ∀ q f : Int, (q, f) ∈ T ↔ 0 ≤ q ∧ (lo : Int) ≤ f ∧ f < (hi : Int) ∧ On a s f.toNat at_ q.toNat ∧ ∀ f' : Nat, lo ≤ f' → (f' : Int) < f → ¬ On a s f' at_ q.toNat
 sorted : T.Pairwise (fun t u => t.2 ≤ u.2)
 len : T.length ≤ a.1.length
structure SI (a : Auto) (s : List UInt8) (lo hi at_ : Nat) (T : List (Int × Int)) (seen : List Bool) : Prop where
 len : seen.length = a.1.length
 cnt : T.length = seen.count true
 is : ∀ q, seen.getD q false = true ↔ ∃ f : Nat, lo ≤ f ∧ f < hi ∧ On a s f at_ q
theorem Aha {m : Qm} {a : Auto} {s : List UInt8} {t : Int} (h1 : m.1 = a) (h2 : m.2.1 = s) (h3 : m.2.2.1 = t) : m = (a, (s, (t, (m.2.2.2.1, m.2.2.2.2)))) := by
 obtain ⟨m1, m2, m3, m4, m5⟩ := m; dsimp only at h1 h2 h3; subst h1 h2 h3; rfl
section
variable {a : Auto} {s : List UInt8} {lo hi at_ : Nat} {T T' : List (Int × Int)} {seen seen' : List Bool}
theorem Ag9 {Q : Nat → Prop} {lo f : Nat} (hf : lo ≤ f) (h : Q f) : ∃ g, lo ≤ g ∧ g ≤ f ∧ Q g ∧ ∀ k, lo ≤ k → k < g → ¬ Q k := by
 induction f using Nat.strongRecOn with
 | ind f ih =>
  by_cases e : ∃ k, lo ≤ k ∧ k < f ∧ Q k
  ·obtain ⟨k, h1, h2, h3⟩ := e; obtain ⟨g, g1, g2, g3, g4⟩ := ih k h2 h1 h3; exact ⟨g, g1, by omega, g3, g4⟩
  ·exact ⟨f, hf, Qa8 _, h, fun k h1 h2 h3 => e ⟨k, h1, h2, h3⟩⟩
theorem Ais {f j q : Nat} (hf : f ≤ j) : On a s f (j + 1) q ↔ ∃ p q0, On a s f j p ∧ j < s.length ∧ rdR a.1 (s.getD j 0) p q0 ∧ Rch a.1 (j + 1 == 0) (j + 1 == s.length) q0 q := by
 rw [AiP]; constructor
 ·rintro ⟨q0, (⟨h1, _⟩ | ⟨j', p, h1, h2, h3, h4⟩), h5⟩
  ·omega
  ·have : j' = j := by omega
   subst this; exact ⟨p, q0, h2, h3, h4, h5⟩
 ·rintro ⟨p, q0, h2, h3, h4, h5⟩; exact ⟨q0, .inr ⟨j, p, rfl, h2, h3, h4⟩, h5⟩
theorem AgK {f q : Nat} : On a s f f q ↔ Rch a.1 (f == 0) (f == s.length) a.2.toNat q := by
 rw [AiP]; constructor
 ·rintro ⟨q0, (⟨_, rfl⟩ | ⟨j', p, h1, h2, _, _⟩), h5⟩
  ·exact h5
  ·have := h2.le; omega
 ·intro h; exact ⟨_, .inl ⟨rfl, rfl⟩, h⟩
theorem AhK {f j k q : Nat} (h : On a s f k q) (h1 : f ≤ j) (h2 : j ≤ k) : ∃ q', On a s f j q' := by
 induction h with
 | start =>
  have : j = f := by omega
  subst this; exact ⟨_, .start⟩
 | eps _ _ ih => exact ih h2
 | read h hj r ih =>
  rename_i j0 p q
  by_cases e : j = j0 + 1
  ·subst e; exact ⟨_, .read h hj r⟩
  ·exact ih (by omega)
theorem TI.range (h : TI a s lo hi at_ T) (v : Valid a) : ∀ t ∈ T, 0 ≤ t.1 ∧ t.1 < (a.1.length : Int) := by
 rintro ⟨q, f⟩ ht; obtain ⟨h1, _, _, h2, _⟩ := (h.mem q f).1 ht; have := h2.lt v; exact ⟨h1, by dsimp only at h1 ⊢; omega⟩
theorem SI.closed (h : SI a s lo hi at_ T seen) : Closed a.1 (at_ == 0) (at_ == s.length) seen := by
 intro q hq q' he; obtain ⟨f, h1, h2, h3⟩ := (h.is q).1 hq; exact (h.is q').2 ⟨f, h1, h2, h3.eps he⟩
theorem Agw {n : Nat} {m : Int} (h : m = n) (k : Nat) : (m == (k : Int)) = (n == k) := by
 subst h; rw [Bool.eq_iff_iff]; simp; omega
theorem Ait (h : TI a s lo hi at_ T) (hh : hi ≤ at_ + 1) (hlen : at_ < s.length) {atI : Int} (hat : atI = at_) (R : AiL a.1 (s.getD atI.toNat 0) (atI + 1 == 0) (atI + 1 == ((Qa5 s : Nat) : Int)) T T' seen') :
  TI a s lo hi (at_ + 1) T' ∧ SI a s lo hi (at_ + 1) T' seen' := by
 subst hat; have b1 : ((at_ : Int) + 1 == 0) = (at_ + 1 == 0) := Agw (n := at_ + 1) (by omega) 0; have b2 : ((at_ : Int) + 1 == ((Qa5 s : Nat) : Int)) = (at_ + 1 == s.length) := Agw (n := at_ + 1) (by omega) _; rw [b1, b2, show ((at_ : Int)).toNat = at_ by omega] at R
 have A : ∀ f : Nat, lo ≤ f → f < hi → ∀ q, On a s f (at_ + 1) q → ∃ g : Nat, lo ≤ g ∧ g ≤ f ∧ RkL a.1 (s.getD at_ 0) (at_ + 1 == 0) (at_ + 1 == s.length) T (g : Int) q := by
  intro f h1 h2 q hq; obtain ⟨p, q0, k1, _, k2, k3⟩ := (Ais (by omega)).1 hq; obtain ⟨g, g1, g2, g3, g4⟩ := Ag9 (Q := fun f => On a s f at_ p) h1 k1; refine ⟨g, g1, g2, ((p : Int), (g : Int)), ?_, rfl, q0, by simpa using k2, k3⟩; refine (h.mem _ _).2 ⟨by omega, by omega, by omega, by simpa using g3, fun f' w1 w2 => ?_⟩; have := g4 f' w1 (by omega); simpa using this
 have B : ∀ (f : Int) q, RkL a.1 (s.getD at_ 0) (at_ + 1 == 0) (at_ + 1 == s.length) T f q → (lo : Int) ≤ f ∧ f < (hi : Int) ∧ On a s f.toNat (at_ + 1) q := by
  rintro f q ⟨⟨p, f'⟩, ht, rfl, q0, k2, k3⟩; obtain ⟨h1, h2, h3, h4, _⟩ := (h.mem _ _).1 ht; dsimp only at h2 h3 h4 k2 ⊢; exact ⟨h2, h3, (Ais (by omega)).2 ⟨_, q0, h4, hlen, k2, k3⟩⟩
 have hcs : seen'.count true ≤ seen'.length := Qc0; refine ⟨⟨fun q f => ?_, R.sorted, by rw [R.cnt]; have := R.len; omega⟩, ⟨R.len, R.cnt, fun q => ?_⟩⟩
 ·rw [R.mem]; constructor
  ·rintro ⟨h1, h2, h3⟩; obtain ⟨b1, b2, b3⟩ := B _ _ h2; refine ⟨h1, b1, b2, b3, fun f' w1 w2 w3 => ?_⟩; obtain ⟨g, g1, g2, g3⟩ := A f' w1 (by omega) _ w3; exact h3 g (by omega) g3
  ·rintro ⟨h1, h2, h3, h4, h5⟩; obtain ⟨g, g1, g2, g3⟩ := A f.toNat (by omega) (by omega) _ h4; obtain ⟨_, _, b3⟩ := B _ _ g3
   have : (g : Int) = f := by
    apply Classical.byContradiction; intro hne; exact h5 g g1 (by omega) (by simpa using b3)
   rw [this] at g3; refine ⟨h1, g3, fun f' w1 w2 => ?_⟩; obtain ⟨c1, c2, c3⟩ := B _ _ w2; exact h5 f'.toNat (by omega) (by omega) c3
 ·rw [R.seen]; constructor
  ·rintro ⟨f, hf⟩; obtain ⟨b1, b2, b3⟩ := B _ _ hf; exact ⟨f.toNat, by omega, by omega, b3⟩
  ·rintro ⟨f, h1, h2, h3⟩; obtain ⟨g, _, _, g3⟩ := A f h1 h2 _ h3; exact ⟨g, g3⟩
theorem AiM {x : Qm × (Int × Int)} {m : Qm} {N : List Int} (A : Added x m N) (hx : x = ((a, (s, ((at_ : Int), (T, seen)))), (a.2, (at_ : Int)))) (hl : lo ≤ at_) (h : TI a s lo at_ at_ T) (k : SI a s lo at_ at_ T seen) :
  TI a s lo (at_ + 1) at_ m.2.2.2.1 ∧ SI a s lo (at_ + 1) at_ m.2.2.2.1 m.2.2.2.2 := by
 subst hx; have b1 : AhO (a, (s, ((at_ : Int), (T, seen)))) = (at_ == 0) := Agw rfl 0; have b2 : AhC (a, (s, ((at_ : Int), (T, seen)))) = (at_ == s.length) := Agw rfl _; have am := A.mem; have asn := A.seen; dsimp only at am asn; rw [b1, b2] at am asn; have hlen := A.len; have hcnt := A.cnt; dsimp only at hlen; have hcs : m.2.2.2.2.count true ≤ m.2.2.2.2.length := Qc0
 refine ⟨⟨fun q f => ?_, ?_, by rw [hcnt]; have := k.len; omega⟩, ⟨by rw [hlen]; exact k.len, hcnt, fun q => ?_⟩⟩
 ·rw [A.th, Qd7, h.mem, List.mem_map]; constructor
  ·rintro (⟨h1, h2, h3, h4, h5⟩ | ⟨q', hq', he⟩)
   ·exact ⟨h1, h2, by omega, h4, h5⟩
   ·cases he; obtain ⟨h1, h2, h3⟩ := (am q).1 hq'; dsimp only; refine ⟨h1, by omega, by omega, ?_, fun f' w1 w2 w3 => ?_⟩
    ·rw [show ((at_ : Int)).toNat = at_ by omega]; exact AgK.2 h3
    ·rw [(k.is q.toNat).2 ⟨f', w1, by omega, w3⟩] at h2; cases h2
  ·rintro ⟨h1, h2, h3, h4, h5⟩
   by_cases e : f < (at_ : Int)
   ·exact .inl ⟨h1, h2, e, h4, h5⟩
   ·have : f = (at_ : Int) := by omega
    subst this; refine .inr ⟨q, (am q).2 ⟨h1, ?_, ?_⟩, rfl⟩
    ·cases hh : seen.getD q.toNat false with
     | false => rfl
     | true =>
      obtain ⟨f, w1, w2, w3⟩ := (k.is _).1 hh; exact (h5 f w1 (by omega) w3).elim
    ·rw [show ((at_ : Int)).toNat = at_ by omega] at h4; exact AgK.1 h4
 ·rw [A.th]; refine List.pairwise_append.2 ⟨h.sorted, ?_, ?_⟩
  ·rw [List.pairwise_map]
   exact List.pairwise_iff_getElem.2 fun _ _ _ _ _ => Qa7 _
  ·rintro ⟨q1, f1⟩ h1 t2 h2; obtain ⟨q2, _, rfl⟩ := List.mem_map.1 h2; have := ((h.mem _ _).1 h1).2.2.1; dsimp only; omega
 ·rw [asn, k.is]; constructor
  ·rintro (⟨f, h1, h2, h3⟩ | h)
   ·exact ⟨f, h1, by omega, h3⟩
   ·exact ⟨at_, hl, by omega, AgK.2 h⟩
  ·rintro ⟨f, h1, h2, h3⟩
   by_cases e : f < at_
   ·exact .inl ⟨f, h1, e, h3⟩
   ·have : f = at_ := by omega
    subst this; exact .inr (AgK.1 h3)
theorem Ahb : TI a s lo lo at_ [] ∧ SI a s lo lo at_ [] (Qb4 a.1.length false) := by
 refine ⟨⟨fun q f => ⟨fun h => (nomatch h), fun ⟨_, h1, h2, _⟩ => by omega⟩, List.Pairwise.nil, Qa9 _⟩, ⟨by simp, by simp [Qd9], fun q => ⟨fun h => ?_, fun ⟨f, h1, h2, _⟩ => by omega⟩⟩⟩; exfalso; simp [Qa0, Qc4] at h
 split at h <;> simp at h
theorem Af8 (h : TI a s lo hi at_ T) (hn : ∀ t ∈ T, kindOf a.1 t.1 ≠ 4) {f : Nat} (h1 : lo ≤ f) (h2 : f < hi) : ¬ acc a s f at_ := by
 rintro ⟨q, h3, h4⟩; obtain ⟨g, g1, g2, g3, g4⟩ := Ag9 (Q := fun f => On a s f at_ q) h1 h3; refine hn ((q : Int), (g : Int)) ((h.mem _ _).2 ⟨by omega, by omega, by omega, by simpa using g3, fun f' w1 w2 => ?_⟩) ?_
 ·have := g4 f' w1 (by omega); simpa using this
 ·simpa [kindOf] using h4
theorem Agp (h : TI a s lo hi at_ T) {k : Nat} (hk : k < T.length) (ha : kindOf a.1 (T.getD k ((0 : Int), (0 : Int))).1 = 4) (hb : ∀ k', k' < k → kindOf a.1 (T.getD k' ((0 : Int), (0 : Int))).1 ≠ 4) :
  ∃ i : Nat, (T.getD k ((0 : Int), (0 : Int))).2 = i ∧ lo ≤ i ∧ i < hi ∧ acc a s i at_ ∧ ∀ f, lo ≤ f → f < i → ¬ acc a s f at_ := by
 rw [getD_eq hk] at ha ⊢; have hm : T[k] ∈ T := Qc6 hk; obtain ⟨h1, h2, h3, h4, h5⟩ := (h.mem T[k].1 T[k].2).1 hm; refine ⟨T[k].2.toNat, by omega, by omega, by omega, ⟨_, h4, ha⟩, ?_⟩; rintro f w1 w2 ⟨q, w3, w4⟩; obtain ⟨g, g1, g2, g3, g4⟩ := Ag9 (Q := fun f => On a s f at_ q) w1 w3
 have hg : ((q : Int), (g : Int)) ∈ T := (h.mem _ _).2 ⟨by omega, by omega, by omega, by simpa using g3, fun f' w1 w2 => by have := g4 f' w1 (by omega); simpa using this⟩
 obtain ⟨k', hk', he⟩ := Qb6 hg
 have hlt : k' < k := by
  rcases Qd2 k' k with e | e | e
  ·exact e
  ·subst e; rw [he] at w2; dsimp only at w2; omega
  ·have := List.pairwise_iff_getElem.1 h.sorted _ _ hk hk' e; rw [he] at this; dsimp only at this; omega
 have := hb k' hlt; rw [getD_eq hk', he] at this; exact this (by simpa [kindOf] using w4)
theorem AjE (h : TI a s lo hi at_ T) (hs : T'.Sublist T) {i : Nat} (hi1 : i < hi) (hm : ∀ t, t ∈ T' ↔ t ∈ T ∧ t.2 ≤ (i : Int)) : TI a s lo (i + 1) at_ T' := by
 refine ⟨fun q f => ?_, h.sorted.sublist hs, Nat.le_trans hs.length_le h.len⟩; rw [hm, h.mem]; constructor
 ·rintro ⟨⟨h1, h2, h3, h4, h5⟩, h6⟩; exact ⟨h1, h2, by dsimp only at h6; omega, h4, h5⟩
 ·rintro ⟨h1, h2, h3, h4, h5⟩; exact ⟨⟨h1, h2, by omega, h4, h5⟩, by dsimp only; omega⟩
end
def AgI (P : Pg) : Prop := ∀ x : Ahx, Valid x.1 → x.2.1.length ≤ 1099511627776 → 0 ≤ x.2.2 → x.2.2 ≤ x.2.1.length →
 Fn P XH Adh x fun (d : (Int × Int) × Bool) _ => Af3 x.1 x.2.1 x.2.2.toNat d.1 d.2
theorem AjM (h : Has P Aeo) (hSt : Af4 P) (hAdd : AgL P) (hAc : AeP P) (hK : AhA P) (hR : AgH P) : AgI P := by
 rintro ⟨a, s, p⟩ hv hs hp0 hp1; refine Ag3 h ?_; unfold AfR; dsimp only at hv hs hp0 hp1 ⊢; have hn := hv.hi
 obtain ⟨p, rfl⟩ : ∃ n : Nat, p = n := ⟨p.toNat, by omega⟩
 rw [show ((p : Int)).toNat = p by omega]; refine (hSt (a, (s, (p : Int))) hn).to ?_; rintro (m0 : Qm) _ rfl; dsimp only
 refine B0.of (fun d => ∃ (at_ : Nat) (T : List (Int × Int)) (seen : List Bool), d.2.2.2.2 = (a, (s, ((at_ : Int), (T, seen)))) ∧ p ≤ at_ ∧ at_ ≤ s.length ∧
   ((d.2.1 = false ∧ d.2.2.2.1 = ((0 : Int), (0 : Int)) ∧ TI a s p at_ at_ T ∧ SI a s p at_ at_ T seen ∧ ∀ f j, p ≤ f → f < at_ → j < at_ → ¬ acc a s f j) ∨
    (d.2.1 = true ∧ ∃ i j : Nat, d.2.2.2.1 = ((i : Int), (j : Int)) ∧ p ≤ i ∧ i < at_ ∧ j < at_ ∧ TI a s p (i + 1) at_ T ∧ acc a s i j ∧ (∀ f j', p ≤ f → f < i → j' < at_ → ¬ acc a s f j') ∧ ∀ j', j' < at_ → acc a s i j' → j' ≤ j))) (fun d => ((s.length : Int) - d.2.2.2.2.2.2.1).toNat) ?_ ?_
 ·refine ⟨p, [], Qb4 a.1.length false, rfl, Qa8 _, by omega, .inl ⟨rfl, rfl, Ahb.1, Ahb.2, fun f j h1 h2 => by omega⟩⟩
 ·rintro ⟨u1, found, u3, best, m⟩ ⟨at_, T, seen, hm, hp, hat, hI⟩; dsimp only at hm hI ⊢; subst hm; dsimp only; refine Ag.of ?_
  refine Ag.mid (fun m => ∃ (hi : Nat) (T : List (Int × Int)) (seen : List Bool), m = (a, (s, ((at_ : Int), (T, seen)))) ∧ TI a s p hi at_ T ∧ hi ≤ at_ + 1 ∧
   ((found = false ∧ best = ((0 : Int), (0 : Int)) ∧ hi = at_ + 1 ∧ ∀ f j, p ≤ f → f < at_ → j < at_ → ¬ acc a s f j) ∨
    (found = true ∧ ∃ i j : Nat, best = ((i : Int), (j : Int)) ∧ p ≤ i ∧ i < at_ ∧ j < at_ ∧ hi = i + 1 ∧ acc a s i j ∧ (∀ f j', p ≤ f → f < i → j' < at_ → ¬ acc a s f j') ∧ ∀ j', j' < at_ → acc a s i j' → j' ≤ j))) ?_ ?_
  ·refine ⟨fun hf => Ag.of ⟨?_, trivial⟩, fun hf => ?_⟩
   ·simp at hf; subst hf
    rcases hI with ⟨_, hb, hT, hS, hno⟩ | ⟨h1, _⟩
    ·refine (hAdd ((a, (s, ((at_ : Int), (T, seen)))), (a.2, (at_ : Int))) hv hS.len hS.cnt hv.s0 hv.s1 ?_).to ?_
     ·have b1 : AhO (a, (s, ((at_ : Int), (T, seen)))) = (at_ == 0) := Agw rfl 0; have b2 : AhC (a, (s, ((at_ : Int), (T, seen)))) = (at_ == s.length) := Agw rfl _; dsimp only; rw [b1, b2]; exact hS.closed
     ·rintro _ (m : Qm) ⟨N, A⟩; obtain ⟨t1, t2⟩ := AiM A rfl hp hT hS; exact ⟨at_ + 1, m.2.2.2.1, m.2.2.2.2, Aha A.a A.s A.at_, t1, Qa8 _, .inl ⟨rfl, hb, rfl, hno⟩⟩
    ·cases h1
   ·simp at hf; subst hf
    rcases hI with ⟨h1, _⟩ | ⟨_, i, j, hb, h1, h2, h3, h4, h5, h6, h7⟩
    ·cases h1
    ·exact ⟨i + 1, T, seen, rfl, h4, by omega, .inr ⟨rfl, i, j, hb, h1, h2, h3, rfl, h5, h6, h7⟩⟩
  ·rintro m ⟨hi, T, seen, rfl, hT, hhi, hI⟩; dsimp only; refine (hAc (a, (s, ((at_ : Int), (T, seen)))) (hT.range hv) (by dsimp only; have := hT.len; omega)).to ?_
   rintro (d : Int) (m2 : Qm) ⟨rfl, hd⟩; dsimp only at hd ⊢
   refine Ag.mid (fun r => ∃ (hi : Nat) (T : List (Int × Int)) (seen : List Bool), r.2.2 = (a, (s, ((at_ : Int), (T, seen)))) ∧ TI a s p hi at_ T ∧ hi ≤ at_ + 1 ∧
    ((r.1 = false ∧ r.2.1 = ((0 : Int), (0 : Int)) ∧ hi = at_ + 1 ∧ ∀ f j, p ≤ f → f < at_ + 1 → j < at_ + 1 → ¬ acc a s f j) ∨
     (r.1 = true ∧ ∃ i j : Nat, r.2.1 = ((i : Int), (j : Int)) ∧ p ≤ i ∧ i < at_ + 1 ∧ j < at_ + 1 ∧ hi = i + 1 ∧ acc a s i j ∧ (∀ f j', p ≤ f → f < i → j' < at_ + 1 → ¬ acc a s f j') ∧ ∀ j', j' < at_ + 1 → acc a s i j' → j' ≤ j))) ?_ ?_
   ·refine ⟨fun hc => ?_, fun hc => ?_⟩
    ·have hc := of_decide_eq_true hc
     rcases hd with ⟨rfl, _⟩ | ⟨k, hk, rfl, ha, hb⟩
     ·omega
     ·obtain ⟨i, ei, i1, i2, i3, i4⟩ := Agp hT hk ha hb; rw [ei]; refine (hK ((a, (s, ((at_ : Int), (T, seen)))), (i : Int)) (by dsimp only; have := hT.len; omega) hT.sorted).to ?_
      rintro _ (m : Qm) ⟨m1, m2, m3, m4, m5, m6⟩; dsimp only at m1 m2 m3 m4 m5 m6 ⊢; refine ⟨i + 1, m.2.2.2.1, m.2.2.2.2, Aha m1 m2 m3, AjE hT m5 i2 m6, by omega, .inr ⟨rfl, i, at_, rfl, i1, by omega, by omega, rfl, i3, fun f j' w1 w2 w3 w4 => ?_, fun j' w1 w2 => by omega⟩⟩
      ·by_cases e : j' = at_
       ·subst e; exact i4 f w1 w2 w4
       ·rcases hI with ⟨_, _, e2, hno⟩ | ⟨_, i', j2, _, z1, z2, z3, z4, z5, z6, z7⟩
        ·exact hno f j' w1 (by omega) (by omega) w4
        ·exact z6 f j' w1 (by omega) (by omega) w4
    ·have hc := of_decide_eq_false hc
     rcases hd with ⟨rfl, hn⟩ | ⟨k, hk, rfl, ha, hb⟩
     ·refine ⟨hi, T, seen, rfl, hT, hhi, ?_⟩
      rcases hI with ⟨w1, w2, w3, hno⟩ | ⟨w1, i', j2, w2, z1, z2, z3, z4, z5, z6, z7⟩
      ·refine .inl ⟨w1, w2, w3, fun f j h1 h2 h3 h4 => ?_⟩
       by_cases e : j = at_
       ·subst e; exact Af8 hT hn h1 (by omega) h4
       ·by_cases e2 : f = at_
        ·subst e2; have := h4.le; omega
        ·exact hno f j h1 (by omega) (by omega) h4
      ·refine .inr ⟨w1, i', j2, w2, z1, by omega, by omega, z4, z5, fun f j' h1 h2 h3 h4 => ?_, fun j' h1 h2 => ?_⟩
       ·by_cases e : j' = at_
        ·subst e; exact Af8 hT hn h1 (by omega) h4
        ·exact z6 f j' h1 h2 (by omega) h4
       ·by_cases e : j' = at_
        ·subst e; exact (Af8 hT hn z1 (by omega) h2).elim
        ·exact z7 j' (by omega) h2
     ·obtain ⟨i, ei, _⟩ := Agp hT hk ha hb; omega
   ·rintro ⟨fd, bs, m⟩ ⟨hi, T, seen, hm, hT, hhi, hI⟩; dsimp only at hm hI ⊢; subst hm; dsimp only; refine ⟨fun hc => ?_, fun hc => ?_⟩
    ·simp at hc
     rcases hI with ⟨rfl, rfl, rfl, hno⟩ | ⟨rfl, i, j, rfl, z1, z2, z3, rfl, z5, z6, z7⟩
     ·have hc : at_ = s.length := by
       rcases hc with hc | ⟨hc, _⟩
       ·omega
       ·cases hc
      refine .inr ⟨rfl, rfl, fun i j h1 h2 h3 => hno i j h1 (by omega) ?_ h3⟩; have := h3.Afi h2; omega
     ·refine .inl ⟨rfl, i, j, rfl, z1, by omega, z5, fun i' j' h1 h2 h3 => ?_, fun j' h1 => ?_⟩
      ·apply Classical.byContradiction; intro hlt
       by_cases e : j' < at_ + 1
       ·exact z6 i' j' h1 (by omega) e h2
       ·rcases hc with hc | ⟨_, hc⟩
        ·have := h2.Afi h3; omega
        ·obtain ⟨q, hq, _⟩ := h2; obtain ⟨q', hq'⟩ := AhK (j := at_) hq (by omega) (by omega); obtain ⟨g, g1, g2, g3, g4⟩ := Ag9 (Q := fun f => On a s f at_ q') h1 hq'; have : ((q' : Int), (g : Int)) ∈ T := (hT.mem _ _).2 ⟨by omega, by omega, by omega, by simpa using g3, fun f' w1 w2 => by have := g4 f' w1 (by omega); simpa using this⟩
         rw [hc] at this; cases this
      ·apply Classical.byContradiction; intro hlt
       by_cases e : j' < at_ + 1
       ·exact hlt (z7 j' e h1)
       ·rcases hc with hc | ⟨_, hc⟩
        ·have := h1.Afi (by omega); omega
        ·obtain ⟨q, hq, _⟩ := h1; obtain ⟨q', hq'⟩ := AhK (j := at_) hq (by omega) (by omega); obtain ⟨g, g1, g2, g3, g4⟩ := Ag9 (Q := fun f => On a s f at_ q') z1 hq'; have : ((q' : Int), (g : Int)) ∈ T := (hT.mem _ _).2 ⟨by omega, by omega, by omega, by simpa using g3, fun f' w1 w2 => by have := g4 f' w1 (by omega); simpa using this⟩
         rw [hc] at this; cases this
    ·simp at hc; obtain ⟨hc1, hc2⟩ := hc
     have hlt : at_ < s.length := by omega
     refine (hR (a, (s, ((at_ : Int), (T, seen)))) hv hs (by dsimp only; omega) (by dsimp only; omega) (by dsimp only; have := hT.len; omega) (hT.range hv) hT.sorted).to ?_
     rintro _ (m : Qm) ⟨m1, m2, m3, R⟩; dsimp only at m1 m2 m3 R ⊢; obtain ⟨t1, t2⟩ := Ait hT hhi hlt rfl R
     have em : m = (a, (s, (((at_ + 1 : Nat) : Int), (m.2.2.2.1, m.2.2.2.2)))) := by
      have e3 : m.2.2.1 = ((at_ + 1 : Nat) : Int) := by rw [m3]; omega
      exact Aha m1 m2 e3
     refine ⟨⟨at_ + 1, m.2.2.2.1, m.2.2.2.2, em, by omega, hlt, ?_⟩, by rw [m3]; omega⟩
     rcases hI with ⟨rfl, rfl, rfl, hno⟩ | ⟨rfl, i, j, rfl, z1, z2, z3, rfl, z5, z6, z7⟩
     ·exact .inl ⟨rfl, rfl, t1, t2, hno⟩
     ·exact .inr ⟨rfl, i, j, rfl, z1, z2, z3, t1, z5, z6, z7⟩
end Go.VS
namespace Go.VS
variable {P : Pg}
abbrev Afu := Auto × List UInt8
inductive AdZ (a : Auto) (s : List UInt8) : Nat → List (Int × Int) → Prop
 | stop {p : Nat} (h : s.length < p) : AdZ a s p []
 | none {p : Nat} (h : p ≤ s.length) (n : Agl a s p) : AdZ a s p []
 | next {p i j : Nat} {l : List (Int × Int)} (h : p ≤ s.length) (f : Fnd a s p i j) (t : AdZ a s (if j = i then j + 1 else j) l) : AdZ a s p (((i : Int), (j : Int)) :: l)
theorem AdZ.uniq {a : Auto} {s : List UInt8} {p : Nat} {l m : List (Int × Int)} (h : AdZ a s p l) (k : AdZ a s p m) : l = m := by
 induction h generalizing m with
 | stop h =>
  cases k with
  | stop => rfl
  | none => rfl
  | next h2 f t => omega
 | none h n =>
  cases k with
  | stop => rfl
  | none => rfl
  | next h2 f t => exact (f.not n).elim
 | next h f t ih =>
  cases k with
  | stop h2 => omega
  | none h2 n => exact (f.not n).elim
  | next h2 f2 t2 =>
   obtain ⟨rfl, rfl⟩ := f.uniq f2; rw [ih t2]
def AgG (x : Afu) (d : List (Int × Int) × Int) : Prop := (¬ Valid x.1 → d = ([], 2)) ∧ (Valid x.1 → d.2 = 0 ∧ AdZ x.1 x.2 0 d.1)
theorem AgG.uniq {x : Afu} {d d' : List (Int × Int) × Int} (h : AgG x d) (k : AgG x d') : d = d' := by
 by_cases v : Valid x.1
 ·obtain ⟨h1, h2⟩ := h.2 v; obtain ⟨k1, k2⟩ := k.2 v; obtain ⟨d1, d2⟩ := d; obtain ⟨d1', d2'⟩ := d'; dsimp only at h1 h2 k1 k2; subst h1 k1; rw [h2.uniq k2]
 ·rw [h.1 v, k.1 v]
def Aib (P : Pg) : Prop := ∀ x : Afu, x.2.length ≤ 1099511627776 → Fn P Y2 AdH x fun (d : List (Int × Int) × Int) _ => AgG x d
theorem AjX (h : Has P Aev) (hC : Ae7 P) (hF : AgI P) : Aib P := by
 rintro ⟨a, s⟩ hs; dsimp only at hs ⊢; refine Ahf h ?_; unfold Af7; dsimp only; refine (hC a).to ?_; rintro (e : Int) _ ⟨c1, c2⟩; refine ⟨fun hb => ⟨fun n => by rw [c2 n], fun v => by rw [c1 v] at hb; simp at hb⟩, fun hb => ?_⟩
 have hv : Valid a := Classical.byContradiction fun v => by rw [c2 v] at hb; simp at hb
 refine Ag.mid (fun l => AdZ a s 0 l) ?_ fun l hl => ⟨fun n => (n hv).elim, fun _ => ⟨rfl, hl⟩⟩
 refine B0.of (fun d => 0 ≤ d.2 ∧ d.2 ≤ s.length + 1 ∧ (d.1.length : Int) ≤ d.2 ∧ ∀ r, AdZ a s d.2.toNat r → AdZ a s 0 (d.1 ++ r)) (fun d => (s.length + 1 - d.2).toNat) ⟨Qa7 _, by dsimp only; omega, by simp, fun r hr => hr⟩ ?_
 rintro ⟨out, p⟩ ⟨p0, p1, hl, hr⟩; dsimp only at p0 p1 hl hr ⊢; refine ⟨fun hc => Ag.of ?_, fun hc => ?_⟩
 ·have hc := of_decide_eq_true hc; refine (hF (a, (s, p)) hv hs p0 hc).to ?_; rintro (d : (Int × Int) × Bool) _ hd2; dsimp only at hd2
  rcases hd2 with ⟨ok, i, j, hij, hf⟩ | ⟨ok, hij, hn⟩
  ·refine ⟨fun hh => by rw [ok] at hh; simp at hh, fun _ => ?_⟩
   rw [hij]; dsimp only; have := hf.ge; have hij2 := hf.is.le; have hjl := hf.is.Afi hf.le; rw [w64 (by omega) (by omega)]
   have eq : (if ((i : Int) + 1 > (j : Int)) then ((i : Int) + 1) else (j : Int)) = (((if j = i then j + 1 else j) : Nat) : Int) := by split <;> split <;> omega
   rw [eq]
   have hq : p < (((if j = i then j + 1 else j) : Nat) : Int) ∧ (((if j = i then j + 1 else j) : Nat) : Int) ≤ s.length + 1 := by split <;> omega
   refine ⟨by simp only [Qa3, Qa2]; omega, ⟨by omega, hq.2, by simp only [Qa4, Qa3, Qa2]; omega, fun r h2 => ?_⟩, by omega⟩
   rw [Qb7]; refine hr _ (.next (by omega) hf ?_); simpa using h2
  ·refine ⟨fun _ => ?_, fun hh => by rw [ok] at hh; simp at hh⟩
   have := hr [] (.none (by omega) hn); simpa using this
 ·have hc := of_decide_eq_false hc; have := hr [] (.stop (by omega)); simpa using this
def Ahz (P : Pg) : Prop := ∀ x : Ahx, x.2.1.length ≤ 1099511627776 → Fn P Ajc Ady x fun (d : (Int × Int) × (Bool × Int)) _ => Aft x d
theorem AjJ (h : Has P Aen) (hC : Ae7 P) (hF : AgI P) : Ahz P := by
 rintro ⟨a, s, p⟩ hs; dsimp only at hs ⊢; refine Ag2 h ?_; unfold AfQ; dsimp only; refine (hC a).to ?_; rintro (e : Int) _ ⟨c1, c2⟩; refine ⟨fun hb => ⟨fun n => by rw [c2 n], fun v => by rw [c1 v] at hb; simp at hb⟩, fun hb => ?_⟩
 have hv : Valid a := Classical.byContradiction fun v => by rw [c2 v] at hb; simp at hb
 have fv : ∀ {d : (Int × Int) × (Bool × Int)}, ((¬ (0 ≤ p ∧ p ≤ s.length) → d = ((0, 0), (false, 3))) ∧ ((0 ≤ p ∧ p ≤ s.length) → d.2.2 = 0 ∧ Af3 a s p.toNat d.1 d.2.1)) → Aft (a, s, p) d := fun h => ⟨fun n => (n hv).elim, fun _ => h⟩
 refine ⟨fun hr => fv ⟨fun _ => rfl, fun h => ?_⟩, fun hr => ?_⟩
 ·exfalso; simp at hr; omega
 simp at hr; refine (hF (a, (s, p)) hv hs hr.1 hr.2).to ?_; rintro (d : (Int × Int) × Bool) _ hd; exact fv ⟨fun h => by omega, fun _ => ⟨rfl, hd⟩⟩
theorem AhS {b c : Bool} {p : Prop} (h : b = true ↔ p) (k : c = true ↔ p) : b = c := by rw [Bool.eq_iff_iff]; exact h.trans k.symm
theorem Af3.any {a : Auto} {s : List UInt8} {p : Nat} {d : Int × Int} {ok : Bool} (h : Af3 a s p d ok) : ok = true ↔ ¬ Agl a s p := by
 rcases h with ⟨rfl, i, j, _, h⟩ | ⟨rfl, _, h⟩
 ·exact ⟨fun _ => h.not, fun _ => rfl⟩
 ·exact ⟨fun h => (nomatch h), fun n => (n h).elim⟩
def AfH (x : Afu) (d : Bool × Int) : Prop := (¬ Valid x.1 → d = (false, 2)) ∧ (Valid x.1 → d.2 = 0 ∧ (d.1 = true ↔ acc x.1 x.2 0 x.2.length))
theorem AfH.uniq {x : Afu} {d d' : Bool × Int} (h : AfH x d) (k : AfH x d') : d = d' := by
 by_cases v : Valid x.1
 ·obtain ⟨h1, h2⟩ := h.2 v; obtain ⟨k1, k2⟩ := k.2 v; obtain ⟨d1, d2⟩ := d; obtain ⟨d1', d2'⟩ := d'; dsimp only at h1 h2 k1 k2; subst h1 k1; rw [AhS h2 k2]
 ·rw [h.1 v, k.1 v]
def AgR (P : Pg) : Prop := ∀ x : Afu, x.2.length ≤ 1099511627776 → Fn P Y3 Adn x fun (d : Bool × Int) _ => AfH x d
theorem Ai5 (h : Has P Ad7) (hC : Ae7 P) (hSt : Af4 P) (hAdd : AgL P) (hAc : AeP P) (hR : AgH P) : AgR P := by
 rintro ⟨a, s⟩ hs; dsimp only at hs ⊢; refine AgA h ?_; unfold Afx; dsimp only; refine (hC a).to ?_; rintro (e : Int) _ ⟨c1, c2⟩; refine ⟨fun hb => ⟨fun n => by rw [c2 n], fun v => by rw [c1 v] at hb; simp at hb⟩, fun hb => ?_⟩
 have hv : Valid a := Classical.byContradiction fun v => by rw [c2 v] at hb; simp at hb
 have hn := hv.hi; refine (hSt (a, (s, (0 : Int))) hn).to ?_; rintro (m0 : Qm) _ rfl; dsimp only; obtain ⟨t1, t2⟩ := Ahb (a := a) (s := s) (lo := 0) (at_ := 0); refine (hAdd ((a, (s, ((0 : Int), ([], Qb4 a.1.length false)))), (a.2, (0 : Int))) hv t2.len t2.cnt hv.s0 hv.s1 ?_).to ?_
 ·have b1 : AhO (a, (s, ((0 : Int), ([], Qb4 a.1.length false)))) = ((0 : Nat) == 0) := Agw rfl 0; have b2 : AhC (a, (s, ((0 : Int), ([], Qb4 a.1.length false)))) = ((0 : Nat) == s.length) := Agw rfl _; dsimp only; rw [b1, b2]; exact t2.closed
 rintro _ (m : Qm) ⟨N, A⟩; obtain ⟨u1, u2⟩ := AiM (at_ := 0) (lo := 0) A rfl (Qa8 _) t1 t2; refine Ag.mid (fun m => ∃ (at_ : Nat) (T : List (Int × Int)) (seen : List Bool), m = (a, (s, ((at_ : Int), (T, seen)))) ∧ at_ ≤ s.length ∧ TI a s 0 1 at_ T ∧ (at_ = s.length ∨ T = [])) ?_ ?_
 ·refine B0.of (fun m => ∃ (at_ : Nat) (T : List (Int × Int)) (seen : List Bool), m = (a, (s, ((at_ : Int), (T, seen)))) ∧ at_ ≤ s.length ∧ TI a s 0 1 at_ T) (fun m => ((s.length : Int) - m.2.2.1).toNat) ?_ ?_
  ·exact ⟨0, m.2.2.2.1, m.2.2.2.2, Aha A.a A.s A.at_, Qa9 _, u1⟩
  ·rintro m ⟨at_, T, seen, rfl, hat, hT⟩; dsimp only; refine ⟨fun hc => Ag.of ?_, fun hc => ?_⟩
   ·simp at hc; refine (hR (a, (s, ((at_ : Int), (T, seen)))) hv hs (by dsimp only; omega) (by dsimp only; omega) (by dsimp only; have := hT.len; omega) (hT.range hv) hT.sorted).to ?_
    rintro _ (m : Qm) ⟨m1, m2, m3, R⟩; dsimp only at m1 m2 m3 R ⊢; obtain ⟨t1, t2⟩ := Ait hT (by omega) (by omega) rfl R
    have e3 : m.2.2.1 = ((at_ + 1 : Nat) : Int) := by rw [m3]; omega
    exact ⟨⟨at_ + 1, m.2.2.2.1, m.2.2.2.2, Aha m1 m2 e3, by omega, t1⟩, by rw [m3]; omega⟩
   ·refine ⟨at_, T, seen, rfl, hat, hT, ?_⟩; simp at hc
    by_cases e : at_ = s.length
    ·exact .inl e
    ·right; have := hc (by omega)
     cases T with
     | nil => rfl
     | cons => simp at this
 ·rintro m ⟨at_, T, seen, rfl, hat, hT, hend⟩
  try dsimp only
  refine (hAc (a, (s, ((at_ : Int), (T, seen)))) (hT.range hv) (by dsimp only; have := hT.len; omega)).to ?_
  rintro (d : Int) (m2 : Qm) ⟨rfl, hd⟩; dsimp only at hd ⊢; refine ⟨fun n => (n hv).elim, fun _ => ⟨rfl, ?_⟩⟩; simp only [decide_eq_true_eq, ge_iff_le]
  rcases hd with ⟨rfl, hno⟩ | ⟨k, hk, rfl, ha, hb⟩
  ·refine ⟨fun h => by omega, fun h => ?_⟩; exfalso
   rcases hend with rfl | rfl
   ·exact Af8 hT hno (Qa8 0) (by omega) h
   ·obtain ⟨q, hq, _⟩ := h; obtain ⟨q', hq'⟩ := AhK (j := at_) hq (Qa9 _) hat; have : ((q' : Int), ((0 : Nat) : Int)) ∈ ([] : List (Int × Int)) := (hT.mem _ _).2 ⟨by omega, by omega, by omega, by simpa using hq', fun f' w1 w2 => by omega⟩; cases this
  ·obtain ⟨i, ei, i1, i2, i3, i4⟩ := Agp hT hk ha hb
   have : i = 0 := by omega
   subst this; rw [ei]; refine ⟨fun _ => ?_, fun _ => by omega⟩
   rcases hend with rfl | rfl
   ·exact i3
   ·cases hk
def AgP (P : Pg) : Prop := ∀ x : List (Int × Int) × List (Int × Int), x.1.length ≤ 1099511627776 → Fn P Y4 AdL x fun (d : Bool) _ => d = true ↔ x.1 = x.2
theorem Ai2 (h : Has P AeN) : AgP P := by
 rintro ⟨l, m⟩ hl; refine AhD h ?_; unfold Agu; dsimp only at hl ⊢; refine ⟨fun hc => ?_, fun hc => ?_⟩
 ·simp at hc; exact ⟨fun h => (nomatch h), fun h => by rw [h] at hc; exact (hc rfl).elim⟩
 simp at hc
 refine Ag.mid (fun _ => l = m) ?_ fun d hd => ⟨fun _ => hd, fun _ => rfl⟩
 refine B0.of (fun d => 0 ≤ d.2 ∧ d.2 ≤ l.length ∧ ∀ k : Nat, (k : Int) < d.2 → l.getD k ((0 : Int), (0 : Int)) = m.getD k ((0 : Int), (0 : Int))) (fun d => (l.length - d.2).toNat) ⟨Qa7 _, by dsimp only; omega, fun k hk => by dsimp only at hk; omega⟩ ?_
 rintro ⟨u, k⟩ ⟨k0, k1, hk⟩; dsimp only at k0 k1 hk ⊢; refine ⟨fun hb => Ag.of ?_, fun hb => ?_⟩
 ·have hb := of_decide_eq_true hb; rw [w64 (by omega) (by omega)]; refine ⟨⟨k0, hb⟩, by omega, ⟨k0, by omega⟩, by omega, fun he => ?_, fun he => ?_⟩
  ·simp [-Qa0] at he; exact ⟨fun h => (nomatch h), fun h => by subst h; simp at he⟩
  ·simp [-Qa0] at he; refine ⟨⟨by omega, by omega, fun k' hk' => ?_⟩, by omega⟩
   by_cases e : k' = k.toNat
   ·subst e; exact Prod.ext he.1 he.2
   ·exact hk k' (by omega)
 ·have hb := of_decide_eq_false hb
  exact Yf ((0 : Int), (0 : Int)) (by omega) fun i hi => hk i (by omega)
def Ago (P : Pg) : Prop := ∀ x : List Int × Int, 0 ≤ x.2 → x.2 ≤ 1000000 → Fn P Y5 AdG x fun (d : List UInt8) _ => d.length ≤ 8
theorem AiK (h : Has P Aeu) (hA : Sy P) (hM : NF P) : Ago P := by
 rintro ⟨raw, fr⟩ h0 h1; refine Ahe h ?_; unfold Af6; dsimp only at h0 h1 ⊢
 refine Ag.mid (fun d => d.length ≤ 8) ?_ fun d hd => hd
 refine B0.of (fun d => 0 ≤ d.2 ∧ (d.1.length : Int) = d.2 ∧ d.2 ≤ 8) (fun d => (9 - d.2).toNat) ⟨Qa7 _, by simp, by dsimp only; omega⟩ ?_
 rintro ⟨s, i⟩ ⟨i0, i1, i2⟩; dsimp only at i0 i1 i2 ⊢; refine hA.at h0 (hM.at (by decide) (by decide) ?_); have hr := Jw (a := atF raw fr) (n := 9) (by decide) (by decide); refine ⟨fun hc => Ag.of ?_, fun hc => ?_⟩
 ·have hc := of_decide_eq_true hc; rw [w64 (n := fr + 1) (by omega) (by omega), w64 (n := fr + 1 + i) (by omega) (by omega), w64 (n := i + 1) (by omega) (by omega)]; refine hA.at (by omega) (hM.at (by decide) (by decide) ?_); have hr3 := Jw (a := atF raw (fr + 1 + i)) (n := 3) (by decide) (by decide); generalize LL (atF raw (fr + 1 + i)) 3 = k at hr3
  have hk : k = 0 ∨ k = 1 ∨ k = 2 := by omega
  have hlen : (Qb1 ([([97] : List UInt8), ([98] : List UInt8), ([120] : List UInt8)] : List (List UInt8)) k.toNat []).length = 1 := by
   rcases hk with rfl | rfl | rfl <;> rfl
  refine ⟨⟨hr3.1, by simp; omega⟩, by simp; omega, by omega, ⟨by omega, ?_, by omega⟩, by omega⟩
  rw [Qa4, hlen]; omega
 ·omega
abbrev S97 : Bb := EG ((0 : Int), ((0 : Int), ((0 : Int), (0 : Int)))) 97
def Afp : Auto := ([((1 : Int), (((0 : Int), ((0 : Int), ((0 : Int), (0 : Int)))), ((1 : Int), (2 : Int)))), ((0 : Int), (S97, ((0 : Int), (0 : Int)))), ((4 : Int), (((0 : Int), ((0 : Int), ((0 : Int), (0 : Int)))), ((0 : Int), (0 : Int))))], (0 : Int))
def AhB (P : Pg) : Prop := Fn P VF Adj () fun (d : Auto) _ => d = Afp
theorem AjN (h : Has P Aet) (hP : Hq P) : AhB P := by
 refine Ahd h ?_; unfold Af5
 refine hP.at (by decide) (by decide) fun d hd => ?_
 show ([_, ((0 : Int), (d, ((0 : Int), (0 : Int)))), _], (0 : Int)) = Afp; rw [hd]; rfl
theorem Af2 : Valid Afp := by
 refine ⟨by decide, by decide, by decide, by decide, fun i hi => ?_⟩; have hi : i < 3 := hi
 have : i = 0 ∨ i = 1 ∨ i = 2 := by omega
 rcases this with rfl | rfl | rfl <;> simp [Afp, Adk, Qa0]
theorem AfD {s : List UInt8} {i j : Nat} : acc Afp s i j ↔ i ≤ j ∧ ∀ k, i ≤ k → k < j → k < s.length ∧ Afh S97 ((s.getD k 0).toNat : Int) = true := by
 constructor
 ·rintro ⟨q, h, -⟩; refine ⟨h.le, ?_⟩
  induction h with
  | start => intro k h1 h2; omega
  | eps _ _ ih => exact ih
  | read h hj r ih =>
   rename_i j0 p q; intro k h1 h2
   by_cases e : j0 = k
   ·subst e; refine ⟨hj, ?_⟩; have hp := h.lt Af2; have hp : p < 3 := hp; obtain ⟨r1, r2, _⟩ := r
    have : p = 0 ∨ p = 1 ∨ p = 2 := by omega
    rcases this with rfl | rfl | rfl
    ·simp [Afp, Qa0] at r1
    ·exact r2
    ·simp [Afp, Qa0] at r1
   ·exact ih k h1 (by omega)
 ·rintro ⟨h1, h2⟩
  have h0 : On Afp s i j 0 := by
   induction j with
   | zero =>
    have : i = 0 := by omega
    subst this; exact .start
   | succ j ih =>
    by_cases e : i = j + 1
    ·subst e; exact .start
    ·have h3 := ih (by omega) fun k k1 k2 => h2 k k1 (by omega)
     obtain ⟨h4, h5⟩ := h2 j (by omega) (by omega); have h6 : On Afp s i j 1 := .eps h3 (.inl ⟨rfl, .inl rfl⟩); exact .read h6 h4 ⟨rfl, h5, rfl⟩
  exact ⟨2, .eps h0 (.inl ⟨rfl, .inr rfl⟩), rfl⟩
def AfU (P : Pg) : Prop := Fn P ND Ac8 () fun (d : Bool) _ => d = true
theorem Ail (h : Has P Aeh) (hS : AhB P) (hAll : Aib P) (hW : AgR P) (hSp : AgP P) : AfU P := by
 refine AgW h ?_; unfold AfK; refine Fn.to hS ?_; rintro (d : Auto) _ rfl; refine (hAll (Afp, [98, 97, 97]) (by simp)).to ?_; rintro (d3 : List (Int × Int) × Int) _ h3; refine Fn.to hS ?_; rintro (d : Auto) _ rfl; refine (hW (Afp, [97, 97]) (by simp)).to ?_; rintro (d7 : Bool × Int) _ h7; obtain ⟨a1, a2⟩ := h3.2 Af2; obtain ⟨b1, b2⟩ := h7.2 Af2
 have f97 : Afh S97 97 = true := by decide +kernel
 have f98 : Afh S97 98 = false := by decide +kernel
 have hw : d7.1 = true := by
  rw [b2, AfD]; refine ⟨Qa9 _, fun k _ hk => ⟨hk, ?_⟩⟩; have hk : k < 2 := hk
  have : k = 0 ∨ k = 1 := by omega
  rcases this with rfl | rfl <;> exact f97
 have g0 : Afh S97 ((([98, 97, 97] : List UInt8).getD 0 0).toNat : Int) = false := f98; have g1 : Afh S97 ((([98, 97, 97] : List UInt8).getD 1 0).toNat : Int) = true := f97; have g2 : Afh S97 ((([98, 97, 97] : List UInt8).getD 2 0).toNat : Int) = true := f97
 have hl : AdZ Afp [98, 97, 97] 0 [((0 : Int), (0 : Int)), ((1 : Int), (3 : Int)), ((3 : Int), (3 : Int))] := by
  refine .next (i := 0) (j := 0) (by simp) ⟨Qa8 _, by simp, AfD.2 ⟨Qa8 _, fun k _ hk => by omega⟩, fun _ _ _ _ _ => Qa9 _, fun j' hj => ?_⟩ ?_
  ·rcases Nat.eq_zero_or_pos j' with h | h
   ·omega
   ·have := ((AfD.1 hj).2 0 (Qa8 _) h).2; rw [g0] at this; cases this
  rw [if_pos rfl]; refine .next (i := 1) (j := 3) (by simp) ⟨Qa8 _, by simp, AfD.2 ⟨by decide, fun k h1 h2 => ?_⟩, fun i' _ h _ _ => h, fun j' hj => ?_⟩ ?_
  ·have : k = 1 ∨ k = 2 := by omega
   rcases this with rfl | rfl
   ·exact ⟨by simp, g1⟩
   ·exact ⟨by simp, g2⟩
  ·have := hj.Afi (by simp); simpa using this
  rw [if_neg (by decide)]; refine .next (i := 3) (j := 3) (by simp) ⟨Qa8 _, by simp, AfD.2 ⟨Qa8 _, fun k _ hk => by omega⟩, fun i' _ h _ _ => h, fun j' hj => ?_⟩ (.stop (by simp)); have := hj.Afi (by simp); simpa using this
 have e3 : d3.1 = _ := a2.uniq hl; refine ⟨fun hc => ?_, fun hc => ?_⟩
 ·refine (hSp (d3.1, _) (by rw [e3]; simp)).to ?_
  rintro (d9 : Bool) _ h9; dsimp only at h9; show (cond true d9 false) = true; rw [cond_true, h9, e3]
 ·simp [a1, b1, hw] at hc
def R8 (n : Node) (at_ : Nat) : Prop := (∀ k, k < n.2.2.2.2.length → 0 ≤ n.2.2.2.2.getD k 0 ∧ n.2.2.2.2.getD k 0 < (at_ : Int)) ∧ 0 ≤ n.1 ∧ n.1 ≤ 6 ∧ (n.1 ≤ 3 → n.2.2.2.2.length = 0) ∧ (n.1 = 4 ∨ n.1 = 5 → 2 ≤ n.2.2.2.2.length) ∧ (n.1 = 6 → n.2.2.2.2.length = 1 ∧ 0 ≤ n.2.2.1 ∧ n.2.2.1 ≤ 100 ∧ (n.2.2.2.1 = -1 ∨ n.2.2.1 ≤ n.2.2.2.1 ∧ n.2.2.2.1 ≤ 100))
structure Aad (l : List Node) : Prop where
 lo : 1 ≤ l.length
 hi : l.length ≤ 4000
 ok : ∀ i, i < l.length → R8 (l.getD i Ak) i
def KB (l : List Node) : Prop := ∀ i, (l.getD i Ak).2.2.2.2.length ≤ 140737488351232
def Acg (P : Pg) : Prop := ∀ x : Node, Fn P Y6 AbD x fun (d : Bool) _ => d = true ↔ (0 ≤ x.2.2.1 ∧ x.2.2.1 ≤ 100 ∧ (x.2.2.2.1 = -1 ∨ x.2.2.1 ≤ x.2.2.2.1 ∧ x.2.2.2.1 ≤ 100))
theorem AcN (h : Has P AbM) : Acg P := by
 intro x; refine Ab9 h ?_; unfold AbY; simp; omega
def Acw (P : Pg) : Prop := ∀ x : Node × Int, 0 ≤ x.2 → x.1.2.2.2.2.length ≤ 140737488351232 → Fn P Y7 AbE x fun (d : Bool) _ => d = true ↔ R8 x.1 x.2.toNat
theorem AcS (h : Has P AbU) (hB : Acg P) : Acw P := by
 rintro ⟨⟨k, w, mn, mx, kids⟩, a⟩ ha hl; dsimp only at ha hl; refine Ack h ?_; unfold Ab4; dsimp only
 refine Ag.mid (fun _ => ∀ i, i < kids.length → 0 ≤ kids.getD i 0 ∧ kids.getD i 0 < a) ?_ fun d hd => ?_
 ·refine B0.of (fun d => 0 ≤ d.2 ∧ d.2 ≤ kids.length ∧ ∀ i : Nat, (i : Int) < d.2 → 0 ≤ kids.getD i 0 ∧ kids.getD i 0 < a) (fun d => (kids.length - d.2).toNat) ⟨Qa7 _, by dsimp only; omega, fun i hi => by dsimp only at hi; omega⟩ ?_
  rintro ⟨u, i⟩ ⟨i0, i1, hi⟩; dsimp only at i0 i1 hi ⊢; refine ⟨fun hc => Ag.of ⟨⟨i0, of_decide_eq_true hc⟩, ?_, fun hb => ?_, fun hb => ?_⟩, fun hc => ?_⟩
  ·have hc := of_decide_eq_true hc; omega
  ·have hc := of_decide_eq_true hc; refine ⟨fun hh => (nomatch hh), fun ho => ?_⟩; have := ho.1 i.toNat (by dsimp only; omega)
   simp [-Qa0] at hb; dsimp only at this; omega
  ·have hc := of_decide_eq_true hc; rw [w64 (by omega) (by omega)]; simp [-Qa0] at hb; refine ⟨⟨by omega, by omega, fun j hj => ?_⟩, by omega⟩
   by_cases e : j = i.toNat
   ·subst e; exact hb
   ·exact hi j (by omega)
  ·have hc := of_decide_eq_false hc
   exact fun j hj => hi j (by omega)
 ·have hkk : ∀ k', k' < kids.length → 0 ≤ kids.getD k' 0 ∧ kids.getD k' 0 < (a.toNat : Int) := fun k' hk' => by have := hd k' hk'; omega
  refine Ag.of (Ag.mid (fun d => d = true ↔ (0 ≤ k ∧ k ≤ 3)) ?_ ?_)
  ·refine ⟨fun hc => ?_, fun hc => Ag.of ⟨fun hc2 => ?_, fun hc2 => Ag.of ⟨fun hc3 => ?_, fun hc3 => ?_⟩⟩⟩ <;> simp at * <;> omega
  ·intro d10 h10; refine ⟨fun hc => ?_, fun hc => Ag.mid (fun d => d = true ↔ (k = 4 ∨ k = 5)) ?_ ?_⟩
   ·have := h10.1 hc; simp [R8, -Qa0]; constructor
    ·intro e; subst e; simp; omega
    ·intro hh; have := hh.2.2.2.1 (by omega); exact this
   ·refine ⟨fun hc2 => ?_, fun hc2 => ?_⟩ <;> simp at * <;> omega
   ·intro d16 h16
    have hno : ¬ (0 ≤ k ∧ k ≤ 3) := by rw [← h10, hc]; simp
    refine ⟨fun hc2 => ?_, fun hc2 => ⟨fun hc3 => Ag.mid (fun d => d = true ↔ kids.length = 1 ∧ (0 ≤ mn ∧ mn ≤ 100 ∧ (mx = -1 ∨ mn ≤ mx ∧ mx ≤ 100))) ⟨fun hc4 => (hB _).to ?_, fun hc4 => ?_, trivial⟩ ?_, fun hc3 => ?_⟩⟩
    ·have := h16.1 hc2; simp only [R8, decide_eq_true_eq]; constructor
     ·intro e; exact ⟨hkk, by omega, by omega, by omega, by omega, by omega⟩
     ·intro hh; have := hh.2.2.2.2.1 (by omega); omega
    ·rintro (b : Bool) _ hb; simp only [hb]; simp at hc4; exact ⟨fun e => ⟨by omega, e⟩, fun e => e.2⟩
    ·simp at hc4; exact ⟨fun e => (nomatch e), fun e => by omega⟩
    ·rintro b hb
     have hc3 : k = 6 := by simpa using hc3
     simp only [R8]; constructor
     ·intro e; simp at e; have := hb.1 e.2; exact ⟨hkk, by omega, by omega, by omega, by omega, fun _ => ⟨this.1, this.2⟩⟩
     ·intro hh; have := hh.2.2.2.2.2 hc3; have e2 := hb.2 ⟨this.1, this.2⟩; simp [this.1, e2]
    ·have : ¬ (k = 4 ∨ k = 5) := by rw [← h16, hc2]; simp
     simp at hc3; simp only [R8]; refine ⟨fun hh => (nomatch hh), fun hh => ?_⟩; have := hh.2.1; have := hh.2.2.1; omega
def Ab6 (P : Pg) : Prop := ∀ x : List Node, KB x → x.length ≤ 140737488351232 → Fn P AaZ AbF x fun (d : Int) _ => (Aad x → d = 0) ∧ (¬ Aad x → d = 2)
theorem AcQ (h : Has P AbR) (hF : Acw P) : Ab6 P := by
 intro x hK hl; refine Ach h ?_; unfold Ab0; refine ⟨fun hc => ⟨fun v => ?_, fun _ => rfl⟩, fun hc => Ag.mid (fun _ => Aad x) ?_ fun _ hv => ⟨fun _ => rfl, fun hn => (hn hv).elim⟩⟩
 ·have := v.lo; have := v.hi; simp at hc; rcases hc with hc | hc
  ·subst hc; exact absurd (by assumption) (show ¬ (1 ≤ ([] : List Node).length) by decide)
  ·omega
 have hc : 1 ≤ x.length ∧ x.length ≤ 4000 := by
  simp at hc
  have : x.length ≠ 0 := fun e => hc.1 (Qb9 e)
  omega
 refine B0.of (fun d => 0 ≤ d.2 ∧ d.2 ≤ x.length ∧ ∀ i : Nat, (i : Int) < d.2 → R8 (x.getD i Ak) i) (fun d => (x.length - d.2).toNat) ⟨Qa7 _, by dsimp only; omega, fun i hi => by dsimp only at hi; omega⟩ ?_
 rintro ⟨u, i⟩ ⟨i0, i1, hi⟩; dsimp only at i0 i1 hi ⊢; refine ⟨fun hb => Ag.of ?_, fun hb => ?_⟩
 ·have hb := of_decide_eq_true hb; refine ⟨⟨i0, hb⟩, by omega, ?_⟩; refine (hF (x.getD i.toNat Ak, i) i0 (hK _)).to ?_; rintro (b : Bool) _ hbb; dsimp only at hbb ⊢; refine ⟨fun hn => ⟨fun v => ?_, fun _ => rfl⟩, fun hn => ?_⟩
  ·have := hbb.2 (v.ok i.toNat (by omega)); rw [this] at hn; cases hn
  ·have hn : b = true := by simpa using hn
   rw [w64 (by omega) (by omega)]; refine ⟨⟨by omega, by omega, fun j hj => ?_⟩, by omega⟩
   by_cases e : j = i.toNat
   ·subst e; exact hbb.1 hn
   ·exact hi j (by omega)
 ·have hb := of_decide_eq_false hb; exact ⟨hc.1, hc.2, fun j hj => hi j (by omega)⟩
def Agm (P : Pg) : Prop := ∀ x : List Node, KB x → x.length ≤ 140737488351232 → Fn P YZ Adt x fun (d : Int) _ => (Aad x → d = 0) ∧ (¬ Aad x → d = 2)
theorem AiJ (h : Has P Aei) : Agm P := by
 intro x hK hl; refine AgX h ?_; unfold AfL; refine ⟨fun hc => ⟨fun v => ?_, fun _ => rfl⟩, fun hc => Ag.mid (fun _ => Aad x) ?_ fun _ hv => ⟨fun _ => rfl, fun hn => (hn hv).elim⟩⟩
 ·have := v.lo; have := v.hi; simp at hc; rcases hc with hc | hc
  ·subst hc; exact absurd (by assumption) (show ¬ (1 ≤ ([] : List Node).length) by decide)
  ·omega
 have hc : 1 ≤ x.length ∧ x.length ≤ 4000 := by
  simp at hc
  have : x.length ≠ 0 := fun e => hc.1 (Qb9 e)
  omega
 refine B0.of (fun d => 0 ≤ d.2 ∧ d.2 ≤ x.length ∧ ∀ i : Nat, (i : Int) < d.2 → R8 (x.getD i Ak) i) (fun d => (x.length - d.2).toNat) ⟨Qa7 _, by dsimp only; omega, fun i hi => by dsimp only at hi; omega⟩ ?_
 rintro ⟨u, i⟩ ⟨i0, i1, hi⟩; dsimp only at i0 i1 hi ⊢; refine ⟨fun hb => Ag.of ?_, fun hb => ?_⟩
 ·have hb := of_decide_eq_true hb; refine ⟨⟨i0, hb⟩, by omega, ?_⟩
  have hbad : Aad x → R8 (x.getD i.toNat Ak) i.toNat := fun v => v.ok i.toNat (by omega)
  have hgood : R8 (x.getD i.toNat Ak) i.toNat → (0 ≤ i + 1 ∧ i + 1 ≤ (x.length : Int) ∧ ∀ (j : Nat), (j : Int) < i + 1 → R8 (x.getD j Ak) j) ∧ (x.length - (i + 1) : Int).toNat < (x.length - i : Int).toNat := by
   intro hn; refine ⟨⟨by omega, by omega, fun j hj => ?_⟩, by omega⟩
   by_cases e : j = i.toNat
   ·subst e; exact hn
   ·exact hi j (by omega)
  rw [w64 (n := i + 1) (by omega) (by omega)]; have hkl := hK i.toNat; generalize x.getD i.toNat Ak = n at hbad hgood hkl ⊢; obtain ⟨k, w, mn, mx, kids⟩ := n; dsimp only at hkl ⊢
  refine Ag.mid (fun _ => ∀ j, j < kids.length → 0 ≤ kids.getD j 0 ∧ kids.getD j 0 < i) ?_ fun d hd => ?_
  ·refine B0.of (fun d => 0 ≤ d.2 ∧ d.2 ≤ kids.length ∧ ∀ j : Nat, (j : Int) < d.2 → 0 ≤ kids.getD j 0 ∧ kids.getD j 0 < i) (fun d => (kids.length - d.2).toNat) ⟨Qa7 _, by dsimp only; omega, fun i hi => by dsimp only at hi; omega⟩ ?_
   rintro ⟨u2, j⟩ ⟨j0, j1, hj⟩; dsimp only at j0 j1 hj ⊢; refine ⟨fun hc => Ag.of ?_, fun hc => ?_⟩
   ·have hc := of_decide_eq_true hc; refine ⟨⟨j0, hc⟩, by omega, fun _ => ⟨j0, hc⟩, fun _ => by omega, fun hb => ?_, fun hb => ?_⟩
    ·refine ⟨fun v => ?_, fun _ => rfl⟩; have := (hbad v).1 j.toNat (by dsimp only; omega)
     simp [-Qa0] at hb; dsimp only at this; omega
    ·rw [w64 (by omega) (by omega)]; simp [-Qa0] at hb; refine ⟨⟨by omega, by omega, fun j2 hj2 => ?_⟩, by omega⟩
     by_cases e : j2 = j.toNat
     ·subst e; exact hb
     ·exact hj j2 (by omega)
   ·have hc := of_decide_eq_false hc
    exact fun j2 hj2 => hj j2 (by omega)
  ·have hkk : ∀ k', k' < kids.length → 0 ≤ kids.getD k' 0 ∧ kids.getD k' 0 < (i.toNat : Int) := fun k' hk' => by have := hd k' hk'; omega
   refine Ag.mid (fun d => d = true ∧ 0 ≤ k ∧ k ≤ 6 ↔ R8 (k, w, mn, mx, kids) i.toNat) (Ag.of ?_) ?_
   ·refine ⟨fun hc => ?_, fun hc => Ag.mid (fun d => d = true ↔ (k = 4 ∨ k = 5)) ?_ ?_⟩
    ·have hc : k = 6 := by simpa using hc
     simp [R8, -Qa0]; constructor
     ·intro hh; exact ⟨fun k' hk' => by have := hd k' hk'; omega, by omega⟩
     ·rintro ⟨_, hh⟩; omega
    ·refine ⟨fun hc2 => ?_, fun hc2 => ?_⟩ <;> simp at * <;> omega
    ·intro d18 h18
     have hc : k ≠ 6 := by simpa using hc
     refine Ag.of ⟨fun hc2 => ?_, fun hc2 => ?_⟩
     ·have := h18.1 hc2; simp only [R8, decide_eq_true_eq]; constructor
      ·intro e; exact ⟨hkk, by omega, by omega, by omega, by omega, by omega⟩
      ·intro hh; have := hh.2.2.2.2.1 (by omega); omega
     ·have : ¬ (k = 4 ∨ k = 5) := by rw [← h18, hc2]; simp
      simp only [R8, beq_iff_eq]; constructor
      ·intro e; exact ⟨hkk, by omega, by omega, by omega, by omega, by omega⟩
      ·intro hh; have := hh.2.2.2.1 (by omega); omega
   ·intro d14 h14; refine ⟨fun hn => ⟨fun v => ?_, fun _ => rfl⟩, fun hn => ?_⟩
    ·have := h14.2 (hbad v); rw [this.1] at hn; simp at hn; omega
    ·simp at hn; exact hgood (h14.1 ⟨hn.1.1, by omega, by omega⟩)
 ·have hb := of_decide_eq_false hb; exact ⟨hc.1, hc.2, fun j hj => hi j (by omega)⟩
def AdS (n : Int) : Int := if 4001 < n then 4001 else n
def Adq (w : List Int) (kids : List Int) : Int := kids.foldl (fun n k => AdS (n + w.getD k.toNat 0)) 0
def Ac7 (n : Node) (w : List Int) : Int :=
 if n.1 = 4 then Adq w n.2.2.2.2
 else if n.1 = 5 then AdS (Adq w n.2.2.2.2 + n.2.2.2.2.length - 1)
 else if n.1 = 6 then (if n.2.2.2.1 < 0 then AdS (n.2.2.1 * Adq w n.2.2.2.2 + Adq w n.2.2.2.2 + 1) else AdS (n.2.2.1 * Adq w n.2.2.2.2 + (n.2.2.2.1 - n.2.2.1) * (Adq w n.2.2.2.2 + 1)))
 else 1
def wts (l : List Node) : List Int := l.foldl (fun w n => w ++ [Ac7 n w]) []
theorem AfG (l : List Node) (n : Node) : wts (l ++ [n]) = wts l ++ [Ac7 n (wts l)] := by simp [wts, Qb3]
theorem Aeg (l : List Node) : (wts l).length = l.length := by
 have : ∀ (l : List Node) (w : List Int), (l.foldl (fun w n => w ++ [Ac7 n w]) w).length = w.length + l.length := by
  intro l
  induction l with
  | nil => intro w; rfl
  | cons n l ih => intro w; simp [ih]; omega
 have := this l []; rw [wts, this]; simp
def InW (w : List Int) : Prop := ∀ i, 0 ≤ w.getD i 0 ∧ w.getD i 0 ≤ 4001
theorem AeA {n : Int} (h : 0 ≤ n) : 0 ≤ AdS n ∧ AdS n ≤ 4001 := by unfold AdS; split <;> omega
theorem Agt (w : List Int) (l : List Int) (k : Int) : Adq w (l ++ [k]) = AdS (Adq w l + w.getD k.toNat 0) := by simp [Adq, Qb3]
theorem AeF {w : List Int} (h : InW w) (kids : List Int) : 0 ≤ Adq w kids ∧ Adq w kids ≤ 4001 := by
 have : ∀ (kids : List Int) (n : Int), 0 ≤ n ∧ n ≤ 4001 → 0 ≤ kids.foldl (fun n k => AdS (n + w.getD k.toNat 0)) n ∧ kids.foldl (fun n k => AdS (n + w.getD k.toNat 0)) n ≤ 4001 := by
  intro kids
  induction kids with
  | nil => exact fun n h => h
  | cons k kids ih => exact fun n hn => ih _ (AeA (by have := (h k.toNat).1; omega))
 exact this kids 0 (by omega)
theorem AhP {w : List Int} (h : InW w) {n : Node} {i : Nat} (ho : R8 n i) : 0 ≤ Ac7 n w ∧ Ac7 n w ≤ 4001 := by
 obtain ⟨k, st, mn, mx, kids⟩ := n; have hs := AeF h kids; obtain ⟨_, _, _, h3, h4, h5⟩ := ho; dsimp only at h3 h4 h5; unfold Ac7; dsimp only; split
 ·exact hs
 split
 ·have := h4 (by omega); exact AeA (by omega)
 split
 ·obtain ⟨h6, h7, h8, h9⟩ := h5 (by assumption); have hp := Qc9 h7 hs.1; split
  ·exact AeA (by omega)
  ·have : 0 ≤ (mx - mn) * (Adq w kids + 1) := Qc9 (by omega) (by omega); exact AeA (by omega)
 ·omega
theorem AhU {w : List Int} {x : Int} {i : Nat} : (w ++ [x]).getD i 0 = if i < w.length then w.getD i 0 else if i = w.length then x else 0 := by
 split
 ·rename_i h; exact Dx h
 split
 ·rename_i h; subst h; exact HI
 ·rename_i h1 h2; rw [Qa0, Qc8 (by simp; omega)]; rfl
theorem AhJ {l : List Node} (h : ∀ i, i < l.length → R8 (l.getD i Ak) i) : InW (wts l) := by
 induction h0 : l.length generalizing l with
 | zero =>
  have : l = [] := Qb9 h0; subst this; intro i; simp [wts]
 | succ m ih =>
  obtain ⟨l, n, rfl⟩ : ∃ l' n, l = l' ++ [n] := ⟨l.dropLast, l.getLast (by intro e; subst e; simp at h0), (List.dropLast_concat_getLast _).symm⟩
  have ih := fun h => ih (l := l) h (by simp at h0; exact h0)
  have ih := ih fun i hi => by have := h i (by simp; omega); rwa [Dx hi] at this
  have hn := h l.length (by simp); rw [HI] at hn; rw [AfG]; intro i; rw [AhU]; split
  ·exact ih i
  split
  ·exact AhP ih hn
  ·omega
theorem AiO {a b : Int} (h1 : 0 ≤ a) (h2 : a ≤ 100) (h3 : 0 ≤ b) (h4 : b ≤ 4002) : 0 ≤ a * b ∧ a * b ≤ 400200 :=
 ⟨Qc9 h1 h3, Int.le_trans (Int.mul_le_mul_of_nonneg_right h2 h3) (by omega)⟩
theorem AeK {l : List Int} {i : Int} (h0 : 0 ≤ i) (h : i < (l.length : Int)) : l.take (i + 1).toNat = l.take i.toNat ++ [l.getD i.toNat 0] := by
 rw [show (i + 1).toNat = i.toNat + 1 by omega, Qb8 (by omega), getD_eq (by omega)]
theorem Aiq {l : List Node} {i : Int} (h0 : 0 ≤ i) (h : i < (l.length : Int)) : l.take (i + 1).toNat = l.take i.toNat ++ [l.getD i.toNat Ak] := by
 rw [show (i + 1).toNat = i.toNat + 1 by omega, Qb8 (by omega), getD_eq (by omega)]
theorem Ai9 {n : Node} {i : Nat} (ho : R8 n i) {w : List Int} (hw : InW w) (hl : n.2.2.2.2.length ≤ 140737488351232) :
  0 ≤ Adq w n.2.2.2.2 ∧ Adq w n.2.2.2.2 ≤ 4001 ∧ (n.1 = 6 → 0 ≤ n.2.2.1 ∧ n.2.2.1 ≤ 100 ∧ 0 ≤ n.2.2.1 * Adq w n.2.2.2.2 ∧ n.2.2.1 * Adq w n.2.2.2.2 ≤ 400200 ∧ (0 ≤ n.2.2.2.1 → 0 ≤ n.2.2.2.1 - n.2.2.1 ∧ n.2.2.2.1 - n.2.2.1 ≤ 100 ∧ 0 ≤ (n.2.2.2.1 - n.2.2.1) * (Adq w n.2.2.2.2 + 1) ∧ (n.2.2.2.1 - n.2.2.1) * (Adq w n.2.2.2.2 + 1) ≤ 400200)) := by
 have hs := AeF hw n.2.2.2.2; refine ⟨hs.1, hs.2, fun h6 => ?_⟩; obtain ⟨_, h1, h2, h3⟩ := ho.2.2.2.2.2 h6; have := AiO h1 h2 hs.1 (by omega); refine ⟨h1, h2, this.1, this.2, fun h0 => ?_⟩; have := AiO (a := n.2.2.2.1 - n.2.2.1) (b := Adq w n.2.2.2.2 + 1) (by omega) (by omega) (by omega) (by omega); exact ⟨by omega, by omega, this.1, this.2⟩
def AfX (P : Pg) : Prop := ∀ x : Node × List Int, InW x.2 → R8 x.1 x.2.length → x.1.2.2.2.2.length ≤ 140737488351232 → Fn P AcJ Adm x fun (d : Int) _ => d = Ac7 x.1 x.2
theorem Aio (h : Has P Ad6) : AfX P := by
 rintro ⟨⟨k, st, mn, mx, kids⟩, w⟩ hw ho hl; have hc := Ai9 ho hw hl; dsimp only at hw ho hl hc; refine Agz h ?_; unfold Afw; dsimp only; refine Ag.mid (fun d => d = Adq w kids) ?_ ?_
 ·refine B0.of (fun d => 0 ≤ d.2 ∧ d.2 ≤ kids.length ∧ d.1 = Adq w (kids.take d.2.toNat)) (fun d => (kids.length - d.2).toNat) ⟨Qa7 _, by dsimp only; omega, rfl⟩ ?_
  rintro ⟨n, i⟩ ⟨i0, i1, hi⟩; dsimp only at i0 i1 hi ⊢; refine ⟨fun hb => Ag.of ?_, fun hb => ?_⟩
  ·have hb := of_decide_eq_true hb; have hk := ho.1 i.toNat (by dsimp only; omega)
   dsimp only at hk; have hn := AeF hw (kids.take i.toNat); have hg := hw (kids.getD i.toNat 0).toNat; have e1 : IntKind.i64.wrap (i + 1) = i + 1 := w64 (by omega) (by omega); rw [e1]; refine ⟨⟨i0, hb⟩, by omega, hk, by omega, ⟨by omega, by omega, ?_⟩, by omega⟩; rw [AeK i0 hb, Agt, ← hi, w64 (by omega) (by omega)]; rfl
  ·have hb := of_decide_eq_false hb; rw [hi, Qc5 (by omega)]
 ·rintro d rfl; generalize hS : Adq w kids = S at hc ⊢; unfold Ac7; dsimp only; rw [hS]; refine Ag.of ⟨fun h4 => ?_, fun h4 => ⟨fun h5 => ?_, fun h5 => ⟨fun h6 => ?_, fun h6 => ?_⟩⟩⟩
  ·simp at h4; rw [if_pos h4]
  ·simp at h4 h5; rw [if_neg h4, if_pos h5, w64 (n := S + _) (by omega) (by omega), w64 (by omega) (by omega)]; rfl
  ·simp at h4 h5 h6; rw [if_neg h4, if_neg h5, if_pos h6]; obtain ⟨c1, c2, c3, c4, c5⟩ := hc.2.2 h6; refine ⟨fun hm => ?_, fun hm => ?_⟩
   ·have hm := of_decide_eq_true hm; rw [if_pos hm, w64 (n := mn * S) (by omega) (by omega), w64 (n := mn * S + S) (by omega) (by omega), w64 (by omega) (by omega)]; rfl
   ·have hm := of_decide_eq_false hm; obtain ⟨e1, e2, e3, e4⟩ := c5 (by omega); rw [if_neg hm, w64 (n := mn * S) (by omega) (by omega), w64 (n := mx - mn) (by omega) (by omega), w64 (n := S + 1) (by omega) (by omega), w64 (n := (mx - mn) * (S + 1)) (by omega) (by omega), w64 (by omega) (by omega)]; rfl
  ·simp at h4 h5 h6; rw [if_neg h4, if_neg h5, if_neg h6]
theorem Ae6 (l : List Node) {i j : Nat} (h : j < i) (hi : i ≤ l.length) : (wts (l.take i)).getD j 0 = (wts l).getD j 0 := by
 have : ∀ (m : List Node) (l : List Node), j < l.length → (wts (l ++ m)).getD j 0 = (wts l).getD j 0 := by
  intro m
  induction m with
  | nil => intro l _; rw [List.append_nil]
  | cons n m ih =>
   intro l hl; have := ih (l ++ [n]) (by simp; omega)
   rw [Qb7] at this; rw [show l ++ n :: m = l ++ ([n] ++ m) from rfl, this, AfG, Dx (by rw [Aeg]; exact hl)]
 have := this (l.drop i) (l.take i) (by simp; omega)
 rw [List.take_append_drop] at this; exact this.symm
theorem Aad.inW {l : List Node} (v : Aad l) : InW (wts l) := AhJ v.ok
theorem Aad.Aj3 {l : List Node} (v : Aad l) (i : Nat) : InW (wts (l.take i)) := AhJ fun j hj => by
 have h1 : j < l.length := by simp at hj; omega
 have := v.ok j h1; rw [getD_eq h1] at this; rw [getD_eq hj]; simpa using this
theorem Ajb {l : List Node} (v : Aad l) {i : Nat} (h : i < l.length) : (wts l).getD i 0 = Ac7 (l.getD i Ak) (wts l) := by
 have e : l.take (i + 1) = l.take i ++ [l.getD i Ak] := by rw [Qb8 h, getD_eq h]
 rw [← Ae6 l (Nat.lt_succ_self i) (by omega), e, AfG]
 have hlen : (wts (l.take i)).length = i := by rw [Aeg]; simp; omega
 have : (wts (l.take i) ++ [Ac7 (l.getD i Ak) (wts (l.take i))]).getD i 0 = Ac7 (l.getD i Ak) (wts (l.take i)) := by
  have := @HI _ (wts (l.take i)) (Ac7 (l.getD i Ak) (wts (l.take i))) 0
  rwa [hlen] at this
 rw [this]
 have hs : Adq (wts (l.take i)) (l.getD i Ak).2.2.2.2 = Adq (wts l) (l.getD i Ak).2.2.2.2 := by
  have hk := (v.ok i h).1
  have : ∀ (kids : List Int) (n : Int), (∀ k, k < kids.length → 0 ≤ kids.getD k 0 ∧ kids.getD k 0 < (i : Int)) → kids.foldl (fun n k => AdS (n + (wts (l.take i)).getD k.toNat 0)) n = kids.foldl (fun n k => AdS (n + (wts l).getD k.toNat 0)) n := by
   intro kids
   induction kids with
   | nil => intros; rfl
   | cons k kids ih =>
    intro n hk; have h0 := hk 0 (by simp); simp only [Qc3] at h0; simp only [Qd8]; rw [Ae6 l (by omega) (by omega)]
    exact ih _ fun k' hk' => by have := hk (k' + 1) (by simp; omega); simpa using this
  exact this _ 0 hk
 unfold Ac7; rw [hs]
def AeQ (P : Pg) : Prop := ∀ x : List Node, Aad x → KB x → Fn P VG Ac9 x fun (d : List Int) _ => d = wts x
theorem Ah7 (h : Has P Ad1) (hW : AfX P) : AeQ P := by
 intro x v hK; have := v.lo; have := v.hi; refine Agr h ?_; unfold Afo; refine ⟨⟨by omega, by omega, by omega⟩, Ag.mid (fun d => d = wts x) ?_ fun d hd => hd⟩; refine B0.of (fun d => 0 ≤ d.2 ∧ d.2 ≤ x.length ∧ d.1 = wts (x.take d.2.toNat) ++ Qb4 (x.length - d.2.toNat) 0) (fun d => (x.length - d.2).toNat) ⟨Qa7 _, by dsimp only; omega, by simp [wts]⟩ ?_
 rintro ⟨w, i⟩ ⟨i0, i1, hi⟩; dsimp only at i0 i1 hi ⊢; refine ⟨fun hb => Ag.of ?_, fun hb => ?_⟩
 ·have hb := of_decide_eq_true hb; refine ⟨⟨i0, hb⟩, by omega, ?_⟩
  have hlen : (wts (x.take i.toNat)).length = i.toNat := by rw [Aeg]; simp; omega
  have hg : ∀ j, w.getD j 0 = (wts (x.take i.toNat)).getD j 0 := by
   intro j; rw [hi]
   rcases Qb5 j i.toNat with hj | hj
   ·rw [Dx (by omega)]
   ·rw [Qa0, Qd0 (by omega), Qa0, Qc8 (l := wts _) (by omega)]; rw [Qc4]
    split <;> rfl
  have hwl : w.length = x.length := by rw [hi]; simp [hlen]; omega
  refine (hW (x.getD i.toNat Ak, w) ?_ ?_ (hK _)).to ?_
  ·intro j; dsimp only; rw [hg]; exact v.Aj3 _ j
  ·have := v.ok i.toNat (by omega); exact ⟨fun k hk => by have := this.1 k hk; dsimp only; omega, this.2⟩
  ·rintro (d : Int) _ rfl; dsimp only; rw [w64 (by omega) (by omega)]
   have e : Ac7 (x.getD i.toNat Ak) w = Ac7 (x.getD i.toNat Ak) (wts (x.take i.toNat)) := by
    have : ∀ kids, Adq w kids = Adq (wts (x.take i.toNat)) kids := fun kids => by unfold Adq; simp only [hg]
    unfold Ac7; simp only [this]
   refine ⟨⟨i0, by omega⟩, by omega, ⟨by omega, by omega, ?_⟩, by omega⟩
   have : x.length - i.toNat = (x.length - (i + 1).toNat) + 1 := by omega
   rw [Aiq i0 hb, AfG, e, hi, this, List.replicate_succ, List.set_append_right _ _ (by omega), hlen, Nat.sub_self, List.set_cons_zero, Qb7]; rfl
 ·have hb := of_decide_eq_false hb; rw [hi, Qc5 (by omega), show x.length - i.toNat = 0 by omega]; simp
def AfT (P : Pg) : Prop := ∀ x : List Node, KB x → x.length ≤ 140737488351232 → Fn P AcK Adl x fun (d : Int × Int) _ => (Aad x → d = ((wts x).getD (x.length - 1) 0, 0)) ∧ (¬ Aad x → d = (0, 2))
theorem Aik (h : Has P Ad5) (hC : Ab6 P) (hW : AeQ P) : AfT P := by
 intro x hK hl; refine Agy h ?_; unfold Afv; refine (hC x hK hl).to ?_; rintro (d : Int) _ hd; refine ⟨fun hc => ⟨fun v => ?_, fun nv => ?_⟩, fun hc => ?_⟩
 ·rw [hd.1 v] at hc; simp at hc
 ·rw [hd.2 nv]
 ·have v : Aad x := by
   apply Classical.byContradiction; intro nv; rw [hd.2 nv] at hc; simp at hc
  have := v.lo; refine (hW x v hK).to ?_; rintro (w : List Int) _ rfl; have hlen := Aeg x; rw [w64 (by omega) (by omega)]; refine ⟨⟨by omega, by omega⟩, by omega, fun _ => ?_, fun nv => (nv v).elim⟩; rw [show (((x.length : Nat) : Int) - 1).toNat = x.length - 1 by omega]
abbrev Bs := List UInt8
def byt (s : Bs) (a : Nat) : Int := ((UInt8.toNat (Qb1 s a 0) : Nat) : Int)
theorem CQ (s : Bs) (a : Nat) : 0 ≤ byt s a ∧ byt s a ≤ 255 := by
 unfold byt; have := UInt8.toNat_lt (Qb1 s a 0); omega
def isc (s : Bs) (a : Nat) (c : Int) : Bool := decide (a < s.length) && (byt s a == c)
theorem Bi {s : Bs} {a : Nat} {c : Int} : isc s a c = true ↔ a < s.length ∧ byt s a = c := by simp [isc]
theorem I3 {s : Bs} {a : Nat} {c : Int} : isc s a c = false ↔ ¬ (a < s.length ∧ byt s a = c) := by
 rw [← Bi]; simp
def isD (s : Bs) (a : Nat) : Bool := decide (a < s.length) && (decide (48 ≤ byt s a) && decide (byt s a ≤ 57))
def OP (s : Bs) (a0 : Nat) : Nat → Int → Nat → Option (Int × Nat)
 | 0, _, _ => none
 | f + 1, n, i => if isD s i = true then (if i > a0 ∧ byt s a0 = 48 then none else if 10 * n + (byt s i - 48) > 2147483647 then none else OP s a0 f (10 * n + (byt s i - 48)) (i + 1)) else if i = a0 then none else some (n, i)
def EW (s : Bs) (a : Nat) : Option (Int × Nat) := if a ≤ s.length then OP s a (s.length + 1) 0 a else none
def OQ : Option (Int × Nat) → Int × (Int × Bool)
 | none => (0, (0, false))
 | some (n, i) => (n, ((i : Int), true))
theorem V9 {s : Bs} {a0 : Nat} : ∀ {f : Nat} {n : Int} {i : Nat} {m : Int} {j : Nat}, OP s a0 f n i = some (m, j) → 0 ≤ n → n ≤ 2147483647 → a0 ≤ i → i ≤ s.length → 0 ≤ m ∧ m ≤ 2147483647 ∧ a0 < j ∧ i ≤ j ∧ j ≤ s.length
 | 0, _, _, _, _, h, _, _, _, _ => by simp [OP] at h
 | f + 1, n, i, m, j, h, n0, n1, hi, hl => by
  rw [OP] at h; have hb := CQ s i; split at h
  ·rename_i hd; simp only [isD, Qb0, decide_eq_true_eq] at hd; split at h
   ·cases h
   split at h
   ·cases h
   have := V9 h (by omega) (by omega) (by omega) (by omega); omega
  ·split at h
   ·cases h
   cases h; omega
theorem Lp {s : Bs} {a : Nat} {m : Int} {j : Nat} (h : EW s a = some (m, j)) : 0 ≤ m ∧ m ≤ 2147483647 ∧ a < j ∧ j ≤ s.length := by
 unfold EW at h; split at h
 ·have := V9 h (by omega) (by omega) (by omega) (by assumption); omega
 ·cases h
def letterF (c : Int) : Bool := cond (cond (decide (c ≥ 97)) (decide (c ≤ 122)) false) true (cond (decide (c ≥ 65)) (decide (c ≤ 90)) false)
def NU (c : Int) : Bool := cond (decide (c ≥ 48)) (decide (c ≤ 57)) false
def NN : Bs := [97, 108, 112, 104, 97]
def NO : Bs := [100, 105, 103, 105, 116]
def NM : Bs := [97, 108, 110, 117, 109]
def NS : Bs := [117, 112, 112, 101, 114]
def NP : Bs := [108, 111, 119, 101, 114]
def NR : Bs := [115, 112, 97, 99, 101]
def NQ : Bs := [112, 117, 110, 99, 116]
def E6 (nm : Bs) (c : Int) : Bool × Bool :=
 if nm = NN then (letterF c, true)
 else if nm = NO then (NU c, true)
 else if nm = NM then (letterF c || NU c, true)
 else if nm = NS then (letterF c && decide (c ≤ 90), true)
 else if nm = NP then (letterF c && decide (c ≥ 97), true)
 else if nm = NR then ((decide (c ≥ 9) && decide (c ≤ 13)) || c == 32, true)
 else if nm = NQ then (((decide (c ≥ 33) && decide (c ≤ 126)) && !letterF c) && !NU c, true)
 else (false, false)
@[irreducible] def M9 (w : Int) : Int := IntKind.u64.wrap ((Qa6 (Qa1 IntKind.u64.bits (if IntKind.u64.signed then -1 else IntKind.u64.max) ^^^ Qa1 IntKind.u64.bits w) : Nat) : Int)
theorem V8 (w : Int) : IntKind.u64.wrap ((Qa6 (Qa1 IntKind.u64.bits (if IntKind.u64.signed then -1 else IntKind.u64.max) ^^^ Qa1 IntKind.u64.bits w) : Nat) : Int) = M9 w := by unfold M9; rfl
def GM (s : Bb) : Bb := (M9 s.1, (M9 s.2.1, (M9 s.2.2.1, M9 s.2.2.2)))
def Ct (s : Bs) : Nat → Nat → Nat
 | 0, i => i
 | f + 1, i => if i + 1 < s.length ∧ ¬ (byt s i = 58 ∧ byt s (i + 1) = 93) then Ct s f (i + 1) else i
def CH (s : Bs) (a : Nat) : Nat := Ct s s.length a
theorem Lg (s : Bs) : ∀ f i, i ≤ Ct s f i
 | 0, i => Qa8 _
 | f + 1, i => by
  rw [Ct]; split
  ·have := Lg s f (i + 1); omega
  ·exact Qa8 _
def EH : Nat → Int → Bb → Bb
 | 0, _, w => w
 | n + 1, c, w => EH n (c + 1) (EG w c)
def Bp (lo hi : Int) (w : Bb) : Bb := EH (hi + 1 - lo).toNat lo w
def N3 (nm : Bs) : Nat → Int → Bb → Bb
 | 0, _, w => w
 | n + 1, c, w => N3 nm n (c + 1) (if (E6 nm c).1 = true then EG w c else w)
def Cq (nm : Bs) (w : Bb) : Bb := N3 nm 256 0 w
def G5 (rec : Bb → Nat → Option (Bb × Nat)) (s : Bs) (set : Bb) (a : Nat) : Option (Bb × Nat) :=
 if s.length ≤ a then none
 else if (isc s a 91 && isc s (a + 1) 58) = true then
  if (E6 ((s.take (CH s (a + 2))).drop (a + 2)) 0).2 = false ∨ s.length ≤ CH s (a + 2) + 1 then none
  else rec (Cq ((s.take (CH s (a + 2))).drop (a + 2)) set) (CH s (a + 2) + 2)
 else if a + 2 < s.length ∧ byt s (a + 1) = 45 ∧ byt s (a + 2) ≠ 93 then (if byt s (a + 2) < byt s a then none else rec (Bp (byt s a) (byt s (a + 2)) set) (a + 3))
 else rec (Bp (byt s a) (byt s a) set) (a + 1)
def Dh (s : Bs) : Nat → Bool → Bb → Nat → Option (Bb × Nat)
 | 0, _, _, _ => none
 | f + 1, first, set, a => if first = true ∨ isc s a 93 = false then G5 (Dh s f false) s set a else some (set, a)
def z4 : Bb := ((0 : Int), ((0 : Int), ((0 : Int), (0 : Int))))
def HE (s : Bs) (a : Nat) : Option (Bb × Nat) :=
 match Dh s (s.length + 2) true z4 (if isc s a 94 = true then a + 1 else a) with
 | none => none
 | some (set, b) => some (if isc s a 94 = true then GM set else set, b + 1)
theorem Lf {s : Bs} : ∀ {f : Nat} {first : Bool} {set : Bb} {a : Nat} {set' : Bb} {b : Nat}, Dh s f first set a = some (set', b) → a ≤ s.length → a ≤ b ∧ b < s.length
 | 0, _, _, _, _, _, h, _ => by simp [Dh] at h
 | f + 1, first, set, a, set', b, h, hl => by
  rw [Dh] at h; split at h
  ·unfold G5 at h; split at h
   ·cases h
   rename_i h1; have hge := Lg s s.length (a + 2); split at h
   ·split at h
    ·cases h
    rename_i h2; have hge : a + 2 ≤ CH s (a + 2) := hge; have := Lf h (by omega); omega
   ·split at h
    ·split at h
     ·cases h
     have := Lf h (by omega); omega
    ·have := Lf h (by omega); omega
  ·rename_i h1; cases h
   have h1 : isc s a 93 = true := by
    cases hh : isc s a 93 with
    | true => rfl
    | false => exact absurd (.inr hh) h1
   have := (Bi.1 h1).1; omega
theorem WD {s : Bs} {a : Nat} {w : Bb} {b : Nat} (h : HE s a = some (w, b)) (ha : a ≤ s.length) : a < b ∧ b ≤ s.length := by
 unfold HE at h; split at h
 ·cases h
 rename_i set b' e; cases h
 have h1 : (if isc s a 94 = true then a + 1 else a) ≤ s.length := by
  split
  ·rename_i h; have := (Bi.1 h).1; omega
  ·exact ha
 have := Lf e h1
 split at this <;> omega
def setNode (w : Bb) : Node := ((1 : Int), (w, ((0 : Int), ((0 : Int), []))))
abbrev Eh := Except Int (Int × (Nat × List Node))
def B4 (s : Bs) (a : Nat) : Option (Int × (Int × Nat)) :=
 match EW s (a + 1) with
 | none => none
 | some (lo, nx) =>
  match (if isc s nx 44 = true then (if nx + 1 < s.length ∧ byt s (nx + 1) ≠ 125 then EW s (nx + 1) else some ((-1 : Int), nx + 1)) else some (lo, nx)) with
  | none => none
  | some (hi, e) => if isc s e 125 = true ∧ lo ≤ 100 ∧ hi ≤ 100 ∧ ¬ (0 ≤ hi ∧ hi < lo) then some (lo, (hi, e)) else none
theorem Pm {s : Bs} {a : Nat} {lo hi : Int} {e : Nat} (h : B4 s a = some (lo, (hi, e))) : a < e ∧ e < s.length ∧ 0 ≤ lo ∧ lo ≤ 100 ∧ (hi = -1 ∨ lo ≤ hi ∧ hi ≤ 100) := by
 unfold B4 at h; split at h
 ·cases h
 rename_i lo' nx h1; have k1 := Lp h1; split at h
 ·cases h
 rename_i hi' e' h2; split at h
 ·rename_i h3; cases h; have h4 := (Bi.1 h3.1).1; split at h2
  ·split at h2
   ·have := Lp h2; omega
   ·cases h2; omega
  ·cases h2; omega
 ·cases h
def HM (k : Int) : Node := (k, (z4, ((0 : Int), ((0 : Int), []))))
def EV (k : Int) (kids : List Int) : Node := (k, (z4, ((0 : Int), ((0 : Int), kids))))
def Hf (lo hi k : Int) : Node := ((6 : Int), (z4, (lo, (hi, [k]))))
def El (rec : Int → Nat → List Node → Eh) (s : Bs) (d : Int) (a : Nat) (l : List Node) : Eh :=
 let c := byt s a
 if c = 40 then (if d ≥ 50 then .error 1 else match rec (d + 1) (a + 1) l with
  | .error e => .error e
  | .ok (k, (b, l1)) => if isc s b 41 = true then .ok (k, (b + 1, l1)) else .error 40)
 else if c = 91 then (match HE s (a + 1) with
  | none => .error 40
  | some (w, b) => .ok ((l.length : Int), (b, l ++ [setNode w])))
 else if c = 46 then .ok ((l.length : Int), (a + 1, l ++ [setNode (GM z4)]))
 else if c = 94 then .ok ((l.length : Int), (a + 1, l ++ [HM 2]))
 else if c = 36 then .ok ((l.length : Int), (a + 1, l ++ [HM 3]))
 else if c = 41 ∨ c = 124 ∨ c = 42 ∨ c = 43 ∨ c = 63 ∨ c = 123 then .error 40
 else if c = 92 then (if s.length ≤ a + 1 then .error 40 else .ok ((l.length : Int), (a + 2, l ++ [setNode (EG z4 (byt s (a + 1)))])))
 else .ok ((l.length : Int), (a + 1, l ++ [setNode (EG z4 c)]))
def D5 (s : Bs) (b : Nat) : Option (Option (Int × (Int × Nat))) :=
 if byt s b = 42 then some (some (0, (-1, b))) else if byt s b = 43 then some (some (1, (-1, b))) else if byt s b = 63 then some (some (0, (1, b))) else if byt s b = 123 then some (B4 s b) else none
def CI (rec : Int → Nat → List Node → Eh) (s : Bs) (d : Int) (a : Nat) (l : List Node) : Eh :=
 match El rec s d a l with
 | .error e => .error e
 | .ok (k, (b, l1)) => if s.length ≤ b then .ok (k, (b, l1)) else
  match D5 s b with
  | none => .ok (k, (b, l1))
  | some none => .error 40
  | some (some (lo, (hi, e))) => if byt s a = 94 ∨ byt s a = 36 then .error 40 else .ok ((l1.length : Int), (e + 1, l1 ++ [Hf lo hi k]))
def E0 (rec : Int → Nat → List Node → Eh) (s : Bs) (d : Int) : Nat → List Int → Nat → List Node → Except Int (List Int × (Nat × List Node))
 | 0, _, _, _ => .error 99
 | f + 1, kids, a, l => if a < s.length ∧ byt s a ≠ 124 ∧ ¬ (byt s a = 41 ∧ d > 0) then (match CI rec s d a l with
  | .error e => .error e
  | .ok (k, (b, l1)) => E0 rec s d f (kids ++ [k]) b l1) else .ok (kids, (a, l))
def Kh (rec : Int → Nat → List Node → Eh) (s : Bs) (d : Int) (a : Nat) (l : List Node) : Eh :=
 match E0 rec s d (s.length + 1) [] a l with
 | .error e => .error e
 | .ok (kids, (b, l1)) => if kids.length = 0 then .ok ((l1.length : Int), (b, l1 ++ [HM 0])) else if kids.length = 1 then .ok (kids.getD 0 0, (b, l1)) else .ok ((l1.length : Int), (b, l1 ++ [EV 4 kids]))
def Eg (rec : Int → Nat → List Node → Eh) (s : Bs) (d : Int) : Nat → List Int → Nat → List Node → Except Int (List Int × (Nat × List Node))
 | 0, _, _, _ => .error 99
 | f + 1, kids, a, l => if isc s a 124 = true then (match Kh rec s d (a + 1) l with
  | .error e => .error e
  | .ok (k, (b, l1)) => Eg rec s d f (kids ++ [k]) b l1) else .ok (kids, (a, l))
def Sb (rec : Int → Nat → List Node → Eh) (s : Bs) (d : Int) (a : Nat) (l : List Node) : Eh :=
 match Kh rec s d a l with
 | .error e => .error e
 | .ok (k, (b, l1)) => match Eg rec s d (s.length + 1) [k] b l1 with
  | .error e => .error e
  | .ok (kids, (b2, l2)) => if kids.length = 1 then .ok (kids.getD 0 0, (b2, l2)) else .ok ((l2.length : Int), (b2, l2 ++ [EV 5 kids]))
def Fj (s : Bs) : Nat → Int → Nat → List Node → Eh
 | 0 => fun _ _ _ => .error 99
 | n + 1 => Sb (Fj s n) s
def Dy (s : Bs) : List Node × Int :=
 if s.length > 256 then ([], 1) else match Fj s 51 0 0 [] with
  | .error e => ([], e)
  | .ok (_, (b, l)) => if b < s.length then ([], 40) else (l, 0)
def Lq (s : Bs) (n : Node) (i : Nat) : Prop := R8 n i ∧ n.2.2.2.2.length ≤ 2 * s.length + 2
structure Grow (s : Bs) (a : Nat) (l : List Node) (x : Nat) (k : Int) (b : Nat) (l' : List Node) : Prop where
 lo : a ≤ b
 hi : b ≤ s.length
 len : l'.length + x ≤ l.length + 2 * (b - a) + 1
 more : l.length < l'.length
 root : k + 1 = l'.length
 pre : ∃ m, l' = l ++ m
 ok : ∀ i, l.length ≤ i → i < l'.length → Lq s (l'.getD i Ak) i
def Fo (s : Bs) (a : Nat) (l : List Node) (x : Nat) (R : Eh) : Prop := match R with
 | .error e => e ≠ 0
 | .ok (k, (b, l')) => Grow s a l x k b l'
theorem HR {s : Bs} {k : Int} {i : Nat} (h0 : 0 ≤ k) (h3 : k ≤ 3) (w : Bb) : Lq s (k, (w, ((0 : Int), ((0 : Int), [])))) i :=
 ⟨⟨fun j hj => by simp at hj, h0, by dsimp only; omega, fun _ => rfl, fun h => by dsimp only at h; omega, fun h => by dsimp only at h; omega⟩, by simp⟩
theorem I2 {s : Bs} {a b : Nat} {l : List Node} {n : Node} (hab : a < b) (hb : b ≤ s.length) (hn : Lq s n l.length) : Grow s a l 2 (l.length : Int) b (l ++ [n]) := by
 refine ⟨by omega, hb, by simp; omega, by simp, by simp, ⟨[n], rfl⟩, fun i h1 h2 => ?_⟩
 have : i = l.length := by simp at h2; omega
 subst this; rw [HI]; exact hn
theorem Grow.snoc {s : Bs} {a b e : Nat} {l l1 : List Node} {k : Int} {x : Nat} {n : Node} {y : Nat} (g : Grow s a l x k b l1) (h1 : b ≤ e) (h2 : e ≤ s.length) (hy : 1 + y ≤ x + 2 * (e - b)) (hn : Lq s n l1.length) : Grow s a l y (l1.length : Int) e (l1 ++ [n]) := by
 obtain ⟨m, hm⟩ := g.pre; have := g.lo; have := g.hi; have := g.len; have := g.more; refine ⟨by omega, h2, by simp; omega, by simp; omega, by simp, ⟨m ++ [n], by rw [hm, Qb7]⟩, fun i i1 i2 => ?_⟩
 rcases Qb5 i l1.length with h | h
 ·rw [Dx h]; exact g.ok i i1 h
 ·have : i = l1.length := by simp at i2; omega
  subst this; rw [HI]; exact hn
section
variable {rec : Int → Nat → List Node → Eh} {s : Bs} {d : Int}
theorem L5 (hrec : ∀ d a l, a ≤ s.length → Fo s a l 0 (rec d a l)) {a : Nat} {l : List Node} (ha : a < s.length) : Fo s a l 2 (El rec s d a l) := by
 unfold El; dsimp only; split
 ·split
  ·exact (by decide : (1 : Int) ≠ 0)
  ·have g := hrec (d + 1) (a + 1) l ha; split
   ·rename_i e; rw [e] at g; exact g
   ·rename_i k b l1 e; rw [e] at g; split
    ·rename_i hb; have hb := (Bi.1 hb).1; have := g.lo; have := g.len; exact ⟨by omega, by omega, by omega, g.more, g.root, g.pre, g.ok⟩
    ·exact (by decide : (40 : Int) ≠ 0)
 split
 ·split
  ·exact (by decide : (40 : Int) ≠ 0)
  ·rename_i w b e; have := WD e (by omega); exact I2 (by omega) (by omega) (HR (by decide) (by decide) _)
 split
 ·exact I2 (by omega) (by omega) (HR (by decide) (by decide) _)
 split
 ·exact I2 (by omega) (by omega) (HR (by decide) (by decide) _)
 split
 ·exact I2 (by omega) (by omega) (HR (by decide) (by decide) _)
 split
 ·exact (by decide : (40 : Int) ≠ 0)
 split
 ·split
  ·exact (by decide : (40 : Int) ≠ 0)
  ·exact I2 (by omega) (by omega) (HR (by decide) (by decide) _)
 ·exact I2 (by omega) (by omega) (HR (by decide) (by decide) _)
theorem Xi {b : Nat} {lo hi : Int} {e : Nat} (h : D5 s b = some (some (lo, (hi, e)))) (hb : b < s.length) : b ≤ e ∧ e < s.length ∧ 0 ≤ lo ∧ lo ≤ 100 ∧ (hi = -1 ∨ lo ≤ hi ∧ hi ≤ 100) := by
 unfold D5 at h; split at h
 ·cases h; omega
 split at h
 ·cases h; omega
 split at h
 ·cases h; omega
 split at h
 ·simp only [Qd3] at h; have := Pm h; omega
 ·cases h
theorem KU (hrec : ∀ d a l, a ≤ s.length → Fo s a l 0 (rec d a l)) {a : Nat} {l : List Node} (ha : a < s.length) : Fo s a l 2 (CI rec s d a l) := by
 unfold CI; have g := L5 (d := d) hrec (l := l) ha; split
 ·rename_i e; rw [e] at g; exact g
 rename_i k b l1 e; rw [e] at g; have g : Grow s a l 2 k b l1 := g; split
 ·exact g
 rename_i hb; split
 ·exact g
 ·exact (by decide : (40 : Int) ≠ 0)
 ·rename_i lo hi e' hq; have := Xi hq (by omega); split
  ·exact (by decide : (40 : Int) ≠ 0)
  ·refine g.snoc (by omega) (by omega) (by omega) ⟨⟨fun j hj => ?_, show (0 : Int) ≤ 6 by decide, show (6 : Int) ≤ 6 by decide, fun h => absurd h (show ¬ (6 : Int) ≤ 3 by decide), fun h => absurd h (show ¬ ((6 : Int) = 4 ∨ (6 : Int) = 5) by decide), fun _ => ⟨rfl, by dsimp only [Hf]; omega, by dsimp only [Hf]; omega, ?_⟩⟩, by simp [Hf]⟩
   ·have : j = 0 := by simp [Hf] at hj; omega
    subst this; have := g.root; have := g.more; simp only [Hf, Qc3]; omega
   ·dsimp only [Hf]; omega
structure Run (s : Bs) (a : Nat) (l : List Node) (x : Nat) (kids : List Int) (b : Nat) (l' : List Node) : Prop where
 lo : a ≤ b
 hi : b ≤ s.length
 len : l'.length + x ≤ l.length + 2 * (b - a) + 1
 pre : ∃ m, l' = l ++ m
 ok : ∀ i, l.length ≤ i → i < l'.length → Lq s (l'.getD i Ak) i
 mem : ∀ k ∈ kids, 0 ≤ k ∧ k < (l'.length : Int)
 root : ∀ k, kids = [k] → k + 1 = l'.length ∧ l.length < l'.length
def Abr (s : Bs) (a : Nat) (l : List Node) : Except Int (List Int × (Nat × List Node)) → Prop
 | .error e => e ≠ 0
 | .ok (kids, (b, l')) => Run s a l (kids.length + 1) kids b l'
def Abs (s : Bs) (a : Nat) (l : List Node) : Except Int (List Int × (Nat × List Node)) → Prop
 | .error e => e ≠ 0
 | .ok (kids, (b, l')) => kids ≠ [] ∧ ∃ x, Run s a l x kids b l' ∧ kids.length ≤ x + 1
theorem Run.step {a b e : Nat} {l l1 l2 : List Node} {x y z : Nat} {kids : List Int} {k : Int} (r : Run s a l x kids b l1) (g : Grow s b l1 y k e l2) (hz : z + 1 ≤ x + y) (hk : kids = [] ∨ 0 < kids.length) : Run s a l z (kids ++ [k]) e l2 := by
 obtain ⟨m, hm⟩ := r.pre; obtain ⟨m2, hm2⟩ := g.pre; have h1 := r.lo; have h2 := r.len; have h3 := g.lo; have h4 := g.len; have h5 := g.more; have h6 := g.root
 have hl1 : l.length ≤ l1.length := by rw [hm]; simp
 refine ⟨by omega, g.hi, by omega, ⟨m ++ m2, by rw [hm2, hm, Qb7]⟩, fun i i1 i2 => ?_, fun q hq => ?_, fun q hq => ?_⟩
 ·rcases Qb5 i l1.length with h | h
  ·rw [hm2, Dx h]; exact r.ok i i1 h
  ·exact g.ok i h i2
 ·rcases List.mem_append.1 hq with hq | hq
  ·have := r.mem q hq; omega
  ·simp at hq; subst hq; omega
 ·rcases hk with rfl | hk
  ·simp at hq; subst hq; omega
  ·have := congrArg Qa5 hq; rw [Qa4] at this; simp only [Qa3, Qa2] at this; omega
theorem Oh (hrec : ∀ d a l, a ≤ s.length → Fo s a l 0 (rec d a l)) {a0 : Nat} {l0 : List Node} : ∀ {f : Nat} {kids : List Int} {a : Nat} {l : List Node}, s.length + 1 - a ≤ f → Run s a0 l0 (kids.length + 1) kids a l → Abr s a0 l0 (E0 rec s d f kids a l)
 | 0, _, a, _, hf, r => by have := r.hi; omega
 | f + 1, kids, a, l, hf, r => by
  rw [E0]; split
  ·rename_i hc; have g := KU (d := d) hrec (l := l) hc.1; split
   ·rename_i e; rw [e] at g; exact g
   ·rename_i k b l1 e; rw [e] at g; have g : Grow s a l 2 k b l1 := g
    have hab : a < b := by have := g.len; have := g.more; omega
    exact Oh hrec (by omega) (r.step g (by rw [Qa4]; simp only [Qa3, Qa2]; omega) (by cases kids <;> simp))
  ·exact r
theorem Run.snoc {a b : Nat} {l l1 : List Node} {x : Nat} {kids : List Int} {n : Node} (h : Run s a l x kids b l1) (hx : 1 ≤ x) (hn : Lq s n l1.length) : Grow s a l (x - 1) (l1.length : Int) b (l1 ++ [n]) := by
 obtain ⟨m, hm⟩ := h.pre; have hlo := h.lo; have hlen := h.len
 have hl1 : l.length ≤ l1.length := by rw [hm]; simp
 refine ⟨hlo, h.hi, by simp; omega, by simp; omega, by simp, ⟨m ++ [n], by rw [hm, Qb7]⟩, fun i i1 i2 => ?_⟩
 rcases Qb5 i l1.length with hi | hi
 ·rw [Dx hi]; exact h.ok i i1 hi
 ·have : i = l1.length := by simp at i2; omega
  subst this; rw [HI]; exact hn
theorem Grow.less {a b : Nat} {l l' : List Node} {x y : Nat} {k : Int} (g : Grow s a l x k b l') (h : y ≤ x) : Grow s a l y k b l' :=
 ⟨g.lo, g.hi, by have := g.len; omega, g.more, g.root, g.pre, g.ok⟩
theorem F6 (hrec : ∀ d a l, a ≤ s.length → Fo s a l 0 (rec d a l)) {a : Nat} {l : List Node} (ha : a ≤ s.length) : Fo s a l 0 (Kh rec s d a l) := by
 unfold Kh; have h := Oh (d := d) hrec (a0 := a) (l0 := l) (f := s.length + 1) (kids := []) (a := a) (l := l) (by omega) ⟨Qa8 _, ha, by simp, ⟨[], by simp⟩, fun i h1 h2 => by omega, fun k hk => by simp at hk, fun k hk => by simp at hk⟩; split
 ·rename_i e; rw [e] at h; exact h
 ·rename_i kids b l1 e; rw [e] at h; have h : Run s a l (kids.length + 1) kids b l1 := h; obtain ⟨m, hm⟩ := h.pre; have hlo := h.lo; have hlen := h.len
  have hl1 : l.length ≤ l1.length := by rw [hm]; simp
  split
  ·exact (h.snoc (by omega) (HR (by decide) (by decide) _)).less (Qa9 _)
  ·split
   ·rename_i h1; obtain ⟨k, rfl⟩ := List.length_eq_one_iff.1 h1; have := h.root k rfl; exact ⟨hlo, h.hi, by simp at hlen; omega, this.2, this.1, h.pre, h.ok⟩
   ·refine (h.snoc (by omega) ⟨⟨fun j hj => ?_, show (0 : Int) ≤ 4 by decide, show (4 : Int) ≤ 6 by decide, fun h => absurd h (show ¬ (4 : Int) ≤ 3 by decide), fun _ => ?_, fun h => absurd h (show ¬ (4 : Int) = 6 by decide)⟩, by show kids.length ≤ _; have := h.len; have := h.hi; omega⟩).less (Qa9 _)
    ·dsimp only [EV] at hj ⊢; have := h.mem _ (S7 (d := 0) hj); exact this
    ·dsimp only [EV]; omega
theorem OD (hrec : ∀ d a l, a ≤ s.length → Fo s a l 0 (rec d a l)) {a0 : Nat} {l0 : List Node} : ∀ {f : Nat} {kids : List Int} {a : Nat} {l : List Node}, s.length + 1 - a ≤ f → (∃ x, Run s a0 l0 x kids a (l) ∧ kids.length ≤ x + 1) → kids ≠ [] → Abs s a0 l0 (Eg rec s d f kids a l)
 | 0, _, a, _, hf, ⟨x, r, hx⟩, _ => by have := r.hi; omega
 | f + 1, kids, a, l, hf, ⟨x, r, hx⟩, hk => by
  rw [Eg]; split
  ·rename_i hc; have hc := (Bi.1 hc).1; have g := F6 (d := d) hrec (a := a + 1) (l := l) hc; split
   ·rename_i e; rw [e] at g; exact g
   ·rename_i k b l1 e; rw [e] at g; have g : Grow s (a + 1) l 0 k b l1 := g; have hab := g.lo
    have g2 : Grow s a l 2 k b l1 := ⟨by omega, g.hi, by have := g.len; omega, g.more, g.root, g.pre, g.ok⟩
    refine OD hrec (by omega) ⟨x + 1, r.step g2 (by omega) ?_, by simp; omega⟩ (by simp)
    cases kids <;> simp
  ·exact ⟨hk, x, r, hx⟩
theorem Xd (hrec : ∀ d a l, a ≤ s.length → Fo s a l 0 (rec d a l)) {a : Nat} {l : List Node} (ha : a ≤ s.length) : Fo s a l 0 (Sb rec s d a l) := by
 unfold Sb; have g := F6 (d := d) hrec (l := l) ha; split
 ·rename_i e; rw [e] at g; exact g
 rename_i k b l1 e; rw [e] at g; have g : Grow s a l 0 k b l1 := g; have hroot := g.root; have hmore := g.more; have h := OD (d := d) hrec (a0 := a) (l0 := l) (f := s.length + 1) (kids := [k]) (a := b) (l := l1) (by omega) ⟨0, ⟨g.lo, g.hi, g.len, g.pre, g.ok, fun q hq => by simp at hq; subst hq; omega, fun q hq => by simp at hq; subst hq; omega⟩, by simp⟩ (by simp)
 split
 ·rename_i e2; rw [e2] at h; exact h
 ·rename_i kids b2 l2 e2; rw [e2] at h; obtain ⟨hk, x, h, hx⟩ := h; split
  ·rename_i h1; obtain ⟨q, rfl⟩ := List.length_eq_one_iff.1 h1; have := h.root q rfl; exact ⟨h.lo, h.hi, by have := h.len; omega, this.2, this.1, h.pre, h.ok⟩
  ·rename_i h1
   have h2 : 2 ≤ kids.length := by
    cases kids with
    | nil => exact absurd rfl hk
    | cons q r => cases r <;> simp at h1 ⊢
   have hkl : kids.length ≤ 2 * s.length + 2 := by
    have h3 := h.len; have h4 := h.hi; obtain ⟨m, hm⟩ := h.pre
    have hl : l2.length = l.length + m.length := by rw [hm]; simp
    omega
   refine (h.snoc (by omega) ⟨⟨fun j hj => ?_, show (0 : Int) ≤ 5 by decide, show (5 : Int) ≤ 6 by decide, fun h => absurd h (show ¬ (5 : Int) ≤ 3 by decide), fun _ => h2, fun h => absurd h (show ¬ (5 : Int) = 6 by decide)⟩, hkl⟩).less (Qa9 _); dsimp only [EV] at hj ⊢; exact h.mem _ (S7 (d := 0) hj)
end
theorem C7 (s : Bs) : ∀ n d a l, a ≤ s.length → Fo s a l 0 (Fj s n d a l)
 | 0, d, a, l, _ => (by decide : (99 : Int) ≠ 0)
 | n + 1, d, a, l, h => Xd (C7 s n) h
end Go.VS
namespace Go.VS
variable {P : Pg}
def wtl (l : List Node) (k : Int) : Int := (wts l).getD k.toNat 0
def NOk (l : List Node) : Prop := ∀ i, i < l.length → R8 (l.getD i Ak) i
theorem Af9 (n : Int) : AdS n ≤ n := by unfold AdS; split <;> omega
theorem AjP {l m : List Node} {k : Int} (h : k < (l.length : Int)) (h0 : 0 ≤ k) : wtl (l ++ m) k = wtl l k := by
 unfold wtl; have := Ae6 (l ++ m) (i := l.length) (j := k.toNat) (by omega) (by simp); rw [← this, List.take_left]
theorem Afd {l : List Node} {n : Node} : wtl (l ++ [n]) (l.length : Int) = Ac7 n (wts l) := by
 unfold wtl; rw [AfG]; have := @HI _ (wts l) (Ac7 n (wts l)) 0; rw [Aeg] at this; exact this
theorem Aia {l m : List Node} {kids : List Int} (h : ∀ k ∈ kids, 0 ≤ k ∧ k < (l.length : Int)) : Adq (wts (l ++ m)) kids = Adq (wts l) kids := by
 have : ∀ (kids : List Int) (n : Int), (∀ k ∈ kids, 0 ≤ k ∧ k < (l.length : Int)) → kids.foldl (fun n k => AdS (n + (wts (l ++ m)).getD k.toNat 0)) n = kids.foldl (fun n k => AdS (n + (wts l).getD k.toNat 0)) n := by
  intro kids
  induction kids with
  | nil => intro n _; rfl
  | cons k kids ih =>
   intro n h; simp only [Qd8]; have hk := h k (by simp); have e : (wts (l ++ m)).getD k.toNat 0 = (wts l).getD k.toNat 0 := AjP hk.2 hk.1; rw [e]
   exact ih _ fun q hq => h q (by simp [hq])
 exact this kids 0 h
theorem NOk.ext {s : Bs} {a b x : Nat} {l l' : List Node} (h : NOk l) (hp : ∃ m, l' = l ++ m) (hn : ∀ i, l.length ≤ i → i < l'.length → R8 (l'.getD i Ak) i) : NOk l' := by
 intro i hi
 rcases Qb5 i l.length with h1 | h1
 ·obtain ⟨m, rfl⟩ := hp; rw [Dx h1]; exact h i h1
 ·exact hn i h1 hi
theorem Air {k : Int} (h : k ≤ 3) (w : Bb) (ws : List Int) : Ac7 (k, (w, ((0 : Int), ((0 : Int), [])))) ws = 1 := by
 unfold Ac7; dsimp only; rw [if_neg (by omega), if_neg (by omega), if_neg (by omega)]
theorem Agj {l : List Node} (h : NOk l) (k : Int) : Adq (wts l) [k] = wtl l k := by
 have h1 := AhJ h k.toNat; show AdS (0 + (wts l).getD k.toNat 0) = _; unfold AdS wtl
 split <;> omega
def Ahq (s : Bs) (d : Int) (a : Nat) : Prop := a < s.length ∧ byt s a ≠ 124 ∧ ¬ (byt s a = 41 ∧ d > 0)
section
variable {rec : Int → Nat → List Node → Eh} {s : Bs} {d : Int} {I : Nat → Prop} {c : Int}
def Ahy (rec : Int → Nat → List Node → Eh) (s : Bs) (d : Int) (I : Nat → Prop) (c : Int) : Prop := ∀ (a : Nat) (l : List Node) (k : Int) (b : Nat) (l' : List Node), I a → Ahq s d a → NOk l → CI rec s d a l = .ok (k, (b, l')) → I b ∧ wtl l' k ≤ c * ((b : Int) - a)
theorem Ahr (hrec : ∀ d a l, a ≤ s.length → Fo s a l 0 (rec d a l)) (hp : Ahy rec s d I c) : ∀ {f : Nat} {kids : List Int} {a : Nat} {l : List Node} {kids' : List Int} {b : Nat} {l' : List Node}, I a → a ≤ s.length → NOk l → (∀ k ∈ kids, 0 ≤ k ∧ k < (l.length : Int)) → E0 rec s d f kids a l = .ok (kids', (b, l')) →
  I b ∧ ¬ Ahq s d b ∧ a ≤ b ∧ NOk l' ∧ (∀ k ∈ kids', 0 ≤ k ∧ k < (l'.length : Int)) ∧ Adq (wts l') kids' ≤ Adq (wts l) kids + c * ((b : Int) - a)
 | 0, _, _, _, _, _, _, _, _, _, _, h => by simp [E0] at h
 | f + 1, kids, a, l, kids', b, l', hI, ha, hl, hk, h => by
  rw [E0] at h; split at h
  ·rename_i hc; have g := KU (d := d) hrec (l := l) hc.1; split at h
   ·cases h
   ·rename_i k b1 l1 e; rw [e] at g; have g : Grow s a l 2 k b1 l1 := g; obtain ⟨i1, i2⟩ := hp a l k b1 l1 hI hc hl e; have hl1 : NOk l1 := hl.ext (s := s) (a := a) (b := b1) (x := 2) g.pre (fun i h1 h2 => (g.ok i h1 h2).1); obtain ⟨m, hm⟩ := g.pre
    have hlen : l.length ≤ l1.length := by have := g.more; omega
    obtain ⟨j1, j2, j3, j4, j5, j6⟩ := Ahr hrec hp i1 g.hi hl1 (fun q hq => by
     rcases List.mem_append.1 hq with hq | hq
     ·have := hk q hq; omega
     ·simp at hq; subst hq; have := g.root; have := g.more; omega) h
    refine ⟨j1, j2, by have := g.lo; omega, j4, j5, ?_⟩
    rw [Agt] at j6
    have e1 : Adq (wts l1) kids = Adq (wts l) kids := by rw [hm]; exact Aia hk
    have e2 := Af9 (Adq (wts l1) kids + (wts l1).getD k.toNat 0); have e3 : (wts l1).getD k.toNat 0 ≤ c * ((b1 : Int) - a) := i2
    have e4 : c * ((b : Int) - a) = c * ((b : Int) - b1) + c * ((b1 : Int) - a) := by rw [← Int.mul_add]; congr 1; omega
    omega
  ·rename_i hc; cases h; exact ⟨hI, hc, Qa8 _, hl, hk, by simp⟩
theorem AiN (hrec : ∀ d a l, a ≤ s.length → Fo s a l 0 (rec d a l)) (hp : Ahy rec s d I c) (hc : 0 ≤ c) {a : Nat} {l : List Node} {k : Int} {b : Nat} {l' : List Node} (hI : I a) (ha : a ≤ s.length) (hl : NOk l) (h : Kh rec s d a l = .ok (k, (b, l'))) :
  I b ∧ ¬ Ahq s d b ∧ a ≤ b ∧ wtl l' k ≤ c * ((b : Int) - a) + 1 := by
 unfold Kh at h; split at h
 ·cases h
 rename_i kids b1 l1 e; obtain ⟨j1, j2, j3, j4, j5, j6⟩ := Ahr hrec hp hI ha hl (fun q hq => by simp at hq) e; have e0 : Adq (wts l) [] = 0 := rfl; rw [e0] at j6; have h0 : 0 ≤ c * ((b1 : Int) - a) := Qc9 hc (by omega); split at h
 ·cases h; refine ⟨j1, j2, j3, ?_⟩; rw [Afd]; have : Ac7 (HM 0) (wts l1) = 1 := Air (by decide) _ _; omega
 split at h
 ·rename_i h1; cases h; obtain ⟨q, rfl⟩ := List.length_eq_one_iff.1 h1; refine ⟨j1, j2, j3, ?_⟩; rw [Agj j4] at j6; simp only [Qc3]; omega
 ·cases h; refine ⟨j1, j2, j3, ?_⟩; rw [Afd]
  have : Ac7 (EV 4 kids) (wts l1) = Adq (wts l1) kids := by unfold Ac7 EV; dsimp only; rw [if_pos rfl]
  omega
theorem Ahs (hrec : ∀ d a l, a ≤ s.length → Fo s a l 0 (rec d a l)) (hp : Ahy rec s d I c) (hc : 2 ≤ c) (hbar : ∀ a, I a → isc s a 124 = true → I (a + 1)) {a0 : Nat} : ∀ {f : Nat} {kids : List Int} {a : Nat} {l : List Node} {kids' : List Int} {b : Nat} {l' : List Node}, I a → ¬ Ahq s d a → a0 ≤ a → a ≤ s.length → NOk l → (∀ k ∈ kids, 0 ≤ k ∧ k < (l.length : Int)) →
  Adq (wts l) kids + kids.length - 1 ≤ c * ((a : Int) - a0) + 1 → Eg rec s d f kids a l = .ok (kids', (b, l')) →
  I b ∧ ¬ Ahq s d b ∧ isc s b 124 = false ∧ a0 ≤ b ∧ NOk l' ∧ (∀ k ∈ kids', 0 ≤ k ∧ k < (l'.length : Int)) ∧ Adq (wts l') kids' + kids'.length - 1 ≤ c * ((b : Int) - a0) + 1
 | 0, _, _, _, _, _, _, _, _, _, _, _, _, _, h => by simp [Eg] at h
 | f + 1, kids, a, l, kids', b, l', hI, hn, h0, ha, hl, hk, hw, h => by
  rw [Eg] at h; split at h
  ·rename_i hb; have hlt := (Bi.1 hb).1; have g := F6 (d := d) hrec (a := a + 1) (l := l) hlt; split at h
   ·cases h
   ·rename_i k b1 l1 e; rw [e] at g; have g : Grow s (a + 1) l 0 k b1 l1 := g; obtain ⟨i1, i2, i3, i4⟩ := AiN hrec hp (by omega) (hbar a hI hb) hlt hl e; have hl1 : NOk l1 := hl.ext (s := s) (a := a) (b := b1) (x := 2) g.pre (fun i h1 h2 => (g.ok i h1 h2).1); obtain ⟨m, hm⟩ := g.pre
    have hlen : l.length ≤ l1.length := by have := g.more; omega
    refine Ahs hrec hp hc hbar i1 i2 (by omega) g.hi hl1 (fun q hq => ?_) ?_ h
    ·rcases List.mem_append.1 hq with hq | hq
     ·have := hk q hq; omega
     ·simp at hq; subst hq; have := g.root; have := g.more; omega
    ·rw [Agt]
     have e1 : Adq (wts l1) kids = Adq (wts l) kids := by rw [hm]; exact Aia hk
     have e2 := Af9 (Adq (wts l1) kids + (wts l1).getD k.toNat 0); have e3 : (wts l1).getD k.toNat 0 ≤ c * ((b1 : Int) - ((a + 1 : Nat) : Int)) + 1 := i4
     have e4 : c * ((b1 : Int) - a0) = c * ((b1 : Int) - ((a + 1 : Nat) : Int)) + c * ((a : Int) - a0) + c := by
      rw [← Int.mul_add]
      have : c = c * 1 := by simp
      conv => rhs; rhs; rw [this]
      rw [← Int.mul_add]; congr 1; omega
     rw [Qa4]; simp only [Qa3, Qa2]; omega
  ·rename_i hb; cases h
   exact ⟨hI, hn, by cases hh : isc s a 124 with
    | true => exact absurd hh hb
    | false => rfl, h0, hl, hk, hw⟩
theorem AiQ (hrec : ∀ d a l, a ≤ s.length → Fo s a l 0 (rec d a l)) (hp : Ahy rec s d I c) (hc : 2 ≤ c) (hbar : ∀ a, I a → isc s a 124 = true → I (a + 1)) {a : Nat} {l : List Node} {k : Int} {b : Nat} {l' : List Node} (hI : I a) (ha : a ≤ s.length) (hl : NOk l) (h : Sb rec s d a l = .ok (k, (b, l'))) :
  I b ∧ ¬ Ahq s d b ∧ isc s b 124 = false ∧ a ≤ b ∧ wtl l' k ≤ c * ((b : Int) - a) + 1 := by
 unfold Sb at h; have g := F6 (d := d) hrec (l := l) ha; split at h
 ·cases h
 rename_i k1 b1 l1 e; rw [e] at g; have g : Grow s a l 0 k1 b1 l1 := g; obtain ⟨i1, i2, i3, i4⟩ := AiN hrec hp (by omega) hI ha hl e; have hl1 : NOk l1 := hl.ext (s := s) (a := a) (b := b1) (x := 2) g.pre (fun i h1 h2 => (g.ok i h1 h2).1); split at h
 ·cases h
 rename_i kids b2 l2 e2; have hr := g.root; have hm := g.more; obtain ⟨j1, j2, j3, j4, j5, j6, j7⟩ := Ahs hrec hp hc hbar i1 i2 g.lo g.hi hl1 (fun q hq => by simp at hq; subst hq; omega) (by rw [Agj hl1]; simp only [Qa3, Qa2]; omega) e2
 split at h
 ·rename_i h1; cases h; obtain ⟨q, rfl⟩ := List.length_eq_one_iff.1 h1; refine ⟨j1, j2, j3, j4, ?_⟩; rw [Agj j5] at j7; simp only [Qa3, Qa2] at j7; simp only [Qc3]; omega
 ·cases h; refine ⟨j1, j2, j3, j4, ?_⟩; rw [Afd]
  have : Ac7 (EV 5 kids) (wts l2) = AdS (Adq (wts l2) kids + kids.length - 1) := by unfold Ac7 EV; dsimp only; rw [if_neg (by decide), if_pos rfl]
  have := Af9 (Adq (wts l2) kids + kids.length - 1); omega
end
structure Mild (s : Bs) : Prop where
 dig : ∀ p, p < s.length → 48 ≤ byt s p → byt s p ≤ 57 → byt s p ≤ 50 ∧ p + 1 < s.length ∧ ¬ (48 ≤ byt s (p + 1) ∧ byt s (p + 1) ≤ 57)
 grp : ∀ p, p < s.length → byt s p = 40 → ∃ q, q < p + 5 ∧ (p < q ∧ q < s.length ∧ byt s q = 41 ∧ ∀ i, i < q → p < i → (byt s i = 97 ∨ byt s i = 98 ∨ byt s i = 124))
theorem Mild.num {s : Bs} (h : Mild s) {a : Nat} {v : Int} {e : Nat} (hn : EW s a = some (v, e)) : v ≤ 2 := by
 unfold EW at hn; split at hn
 ·rw [OP] at hn; split at hn
  ·rename_i hd; simp only [isD, Qb0, decide_eq_true_eq] at hd; obtain ⟨h1, h2, h3⟩ := h.dig a hd.1 hd.2.1 hd.2.2; rw [if_neg (by omega)] at hn; split at hn
   ·cases hn
   obtain ⟨f, hf⟩ : ∃ f, s.length = f + 1 := ⟨s.length - 1, by omega⟩
   rw [hf, OP] at hn; rw [if_neg, if_neg (by omega)] at hn
   ·simp only [Qd3, Prod.mk.injEq] at hn; omega
   ·simp only [isD, Qb0, decide_eq_true_eq]; rintro ⟨_, h4, h5⟩; exact h3 ⟨h4, h5⟩
  ·rw [if_pos rfl] at hn; cases hn
 ·cases hn
theorem Mild.bounds {s : Bs} (h : Mild s) {a : Nat} {lo hi : Int} {e : Nat} (hb : B4 s a = some (lo, (hi, e))) : lo ≤ 2 ∧ hi ≤ 2 := by
 unfold B4 at hb; split at hb
 ·cases hb
 rename_i lo' nx h1; have k1 := h.num h1; split at hb
 ·cases hb
 rename_i hi' e' h2; split at hb
 ·cases hb; refine ⟨k1, ?_⟩; split at h2
  ·split at h2
   ·exact h.num h2
   ·cases h2; decide
  ·cases h2; exact k1
 ·cases hb
theorem Mild.quant {s : Bs} (h : Mild s) {b : Nat} {lo hi : Int} {e : Nat} (hq : D5 s b = some (some (lo, (hi, e)))) : lo ≤ 2 ∧ hi ≤ 2 := by
 unfold D5 at hq; split at hq
 ·cases hq; decide
 split at hq
 ·cases hq; decide
 split at hq
 ·cases hq; decide
 split at hq
 ·simp only [Qd3] at hq; exact h.bounds hq
 ·cases hq
theorem AjU {W B lo hi : Int} (hW : W ≤ B) (hB : 0 ≤ B) (h0 : 0 ≤ lo) (h2 : lo ≤ 2) (hh : hi = -1 ∨ lo ≤ hi) (hh2 : hi ≤ 2) : (if hi < 0 then AdS (lo * W + W + 1) else AdS (lo * W + (hi - lo) * (W + 1))) ≤ 3 * B + 2 := by
 have c1 := Af9 (lo * W + W + 1); have c2 := Af9 (lo * W + (hi - lo) * (W + 1))
 have hl : lo = 0 ∨ lo = 1 ∨ lo = 2 := by omega
 split
 ·rcases hl with rfl | rfl | rfl <;> omega
 ·have hd : hi - lo = 0 ∨ hi - lo = 1 ∨ hi - lo = 2 := by omega
  rcases hl with rfl | rfl | rfl <;> rcases hd with e | e | e <;> rw [e] at c2 ⊢ <;> omega
theorem AjC {s : Bs} {n : Nat} {d : Int} (hd : d > 0) {p q : Nat} (hq : q < s.length) (hq41 : byt s q = 41) (hin : ∀ i, i < q → p < i → (byt s i = 97 ∨ byt s i = 98 ∨ byt s i = 124)) (hpq : p < q) {l : List Node} (hl : NOk l) {k : Int} {b : Nat} {l' : List Node} (h : Fj s n d (p + 1) l = .ok (k, (b, l'))) : wtl l' k ≤ 2 * ((b : Int) - (p + 1 : Nat)) + 1 := by
 cases n with
 | zero => cases h
 | succ n =>
  have hrec := fun d a l h => C7 s n d a l h
  have h : Sb (Fj s n) s d (p + 1) l = .ok (k, (b, l')) := h; refine (AiQ (I := fun a => p < a ∧ a ≤ q) (c := 2) hrec ?_ (by decide) ?_ (by omega) (by omega) hl h).2.2.2.2
  ·rintro a l k b l' ⟨a0, a1⟩ ⟨c1, c2, c3⟩ hl hp
   have haq : a < q := by
    rcases Qb5 a q with h | h
    ·exact h
    ·have : a = q := by omega
     subst this; exact absurd ⟨hq41, hd⟩ c3
   have hb := hin a haq a0
   have hnx : byt s (a + 1) = 97 ∨ byt s (a + 1) = 98 ∨ byt s (a + 1) = 124 ∨ byt s (a + 1) = 41 := by
    rcases Qb5 (a + 1) q with h | h
    ·have := hin (a + 1) h (by omega); omega
    ·have : a + 1 = q := by omega
     rw [this]; omega
   unfold CI at hp
   have hat : El (Fj s n) s d a l = .ok ((l.length : Int), (a + 1, l ++ [setNode (EG z4 (byt s a))])) := by
    unfold El; dsimp only; rw [if_neg (by omega), if_neg (by omega), if_neg (by omega), if_neg (by omega), if_neg (by omega), if_neg (by omega), if_neg (by omega)]
   rw [hat] at hp; dsimp only at hp; rw [if_neg (by omega)] at hp
   have hqn : D5 s (a + 1) = none := by
    unfold D5; rw [if_neg (by omega), if_neg (by omega), if_neg (by omega), if_neg (by omega)]
   rw [hqn] at hp; cases hp; refine ⟨⟨by omega, by omega⟩, ?_⟩; rw [Afd]; have : Ac7 (setNode (EG z4 (byt s a))) (wts l) = 1 := Air (by decide) _ _; omega
  ·rintro a ⟨a0, a1⟩ hb; have := (Bi.1 hb).2; refine ⟨by omega, ?_⟩
   rcases Qb5 a q with h | h
   ·omega
   ·have : a = q := by omega
    subst this; omega
theorem YC {s : Bs} {l : List Node} (h : Dy s = (l, 0)) : Aad l ∧ KB l ∧ s.length ≤ 256 := by
 unfold Dy at h; split at h
 ·cases h
 rename_i hs; have hg := C7 s 51 0 0 [] (Qa9 _); split at h
 ·rename_i e he; rw [he] at hg; cases h; exact absurd rfl hg
 rename_i k b l1 he; rw [he] at hg; have hg : Grow s 0 [] 0 k b l1 := hg; split at h
 ·cases h
 cases h; have hlen := hg.len; have hmore := hg.more; have hhi := hg.hi; simp only [Qa2] at hlen hmore; refine ⟨⟨by omega, by omega, fun i hi => (hg.ok i (Qa9 _) hi).1⟩, fun i => ?_, by omega⟩
 rcases Qb5 i l.length with h1 | h1
 ·have := (hg.ok i (Qa9 _) h1).2; omega
 ·have : l.getD i Ak = Ak := by simp [Qa0, Qc8 h1]
  rw [this]; simp [Ak]
theorem AjF {s : Bs} (hm : Mild s) {l : List Node} (h : Dy s = (l, 0)) : Aad l ∧ (wts l).getD (l.length - 1) 0 ≤ 4000 ∧ s.length ≤ 256 := by
 unfold Dy at h; split at h
 ·cases h
 rename_i hs; have hg := C7 s 51 0 0 [] (Qa9 _); split at h
 ·rename_i e he; rw [he] at hg; cases h; exact absurd rfl hg
 rename_i k b l1 he; rw [he] at hg; have hg : Grow s 0 [] 0 k b l1 := hg; split at h
 ·cases h
 cases h
 have w0 : NOk [] := fun i hi => by simp at hi
 have wl : NOk l := w0.ext (s := s) (a := 0) (b := b) (x := 0) hg.pre (fun i h1 h2 => (hg.ok i h1 h2).1); have hlen := hg.len; have hmore := hg.more; have hhi := hg.hi; have hroot := hg.root; simp only [Qa2] at hlen hmore; refine ⟨⟨by omega, by omega, wl⟩, ?_, by omega⟩
 have hrec := fun d a l h => C7 s 50 d a l h
 have he : Sb (Fj s 50) s 0 0 [] = .ok (k, (b, l)) := he; have hw := (AiQ (I := fun a => True) (c := 6) hrec ?_ (by decide) (fun _ _ _ => trivial) trivial (Qa9 _) w0 he).2.2.2.2
 ·unfold wtl at hw
  have : k.toNat = l.length - 1 := by omega
  rw [this] at hw; omega
 rintro a l k b l' - ⟨c1, c2, c3⟩ hl hp; refine ⟨trivial, ?_⟩
 have ha : ∀ k b l', El (Fj s 50) s 0 a l = .ok (k, (b, l')) → wtl l' k ≤ 2 * ((b : Int) - a) - 1 ∧ a < b := by
  intro k b l' h; unfold El at h; dsimp only at h
  have one : ∀ (w : Bb) (kd : Int) (e : Nat), kd ≤ 3 → a < e → wtl (l ++ [(kd, (w, ((0 : Int), ((0 : Int), []))))]) (l.length : Int) ≤ 2 * ((e : Int) - a) - 1 ∧ a < e := fun w kd e hk he => by
   rw [Afd, Air hk]; omega
  split at h
  ·rename_i h40; split at h
   ·cases h
   have hg := hrec (0 + 1) (a + 1) l (by omega); split at h
   ·cases h
   rename_i k1 b1 l1 e; rw [e] at hg; have hg : Grow s (a + 1) l 0 k1 b1 l1 := hg; split at h
   ·cases h; obtain ⟨q, _, q1, q2, q3, q4⟩ := hm.grp a c1 h40; have := AjC (d := 0 + 1) (by decide) q2 q3 q4 q1 hl e; have := hg.lo; omega
   ·cases h
  split at h
  ·split at h
   ·cases h
   ·rename_i w b1 e; cases h; have := WD e (by omega); exact one _ _ _ (by decide) (by omega)
  split at h
  ·cases h; exact one _ _ _ (by decide) (by omega)
  split at h
  ·cases h; exact one _ _ _ (by decide) (by omega)
  split at h
  ·cases h; exact one _ _ _ (by decide) (by omega)
  split at h
  ·cases h
  split at h
  ·split at h
   ·cases h
   ·cases h; exact one _ _ _ (by decide) (by omega)
  ·cases h; exact one _ _ _ (by decide) (by omega)
 unfold CI at hp; split at hp
 ·cases hp
 rename_i k1 b1 l1 e; have h1 := ha k1 b1 l1 e; split at hp
 ·cases hp; omega
 rename_i hb1; split at hp
 ·cases hp; omega
 ·cases hp
 ·rename_i lo hi e' hq; have q1 := Xi hq (by omega); have q2 := hm.quant hq; split at hp
  ·cases hp
  ·cases hp; have hg1 := L5 (d := 0) hrec (l := l) c1; rw [e] at hg1; have hg1 : Grow s a l 2 k1 b1 l1 := hg1; have wl1 : NOk l1 := hl.ext (s := s) (a := a) (b := b1) (x := 0) hg1.pre (fun i h1 h2 => (hg1.ok i h1 h2).1); rw [Afd]
   have : Ac7 (Hf lo hi k1) (wts l1) = if hi < 0 then AdS (lo * wtl l1 k1 + wtl l1 k1 + 1) else AdS (lo * wtl l1 k1 + (hi - lo) * (wtl l1 k1 + 1)) := by
    unfold Ac7 Hf; dsimp only; rw [if_neg (by decide), if_neg (by decide), if_pos rfl, Agj wl1]
   rw [this]; have := AjU (W := wtl l1 k1) (B := 2 * ((b1 : Int) - a) - 1) h1.1 (by omega) q1.2.2.1 q2.1 (by omega) q2.2; omega
end Go.VS
namespace Go.VS
variable {P : Pg}
theorem Eo (x y : Bs) (p : Nat) : byt (x ++ y) p = if p < x.length then byt x p else byt y (p - x.length) := by
 unfold byt; split
 ·rename_i h; rw [Dx h]
 ·rename_i h; simp only [Qa0]; rw [Qd0 (by omega)]
theorem Mild.app {x y : Bs} (hx : Mild x) (hy : Mild y) : Mild (x ++ y) := by
 constructor
 ·intro p hp h1 h2; rw [Eo] at h1 h2 ⊢; rw [Qa4] at hp ⊢
  by_cases h : p < x.length
  ·rw [if_pos h] at h1 h2 ⊢; obtain ⟨k1, k2, k3⟩ := hx.dig p h h1 h2; refine ⟨k1, by omega, ?_⟩; rw [Eo, if_pos k2]; exact k3
  ·rw [if_neg h] at h1 h2 ⊢; obtain ⟨k1, k2, k3⟩ := hy.dig (p - x.length) (by omega) h1 h2; refine ⟨k1, by omega, ?_⟩; rw [Eo, if_neg (by omega), show p + 1 - x.length = p - x.length + 1 by omega]; exact k3
 ·intro p hp h1; rw [Eo] at h1; rw [Qa4] at hp ⊢
  by_cases h : p < x.length
  ·rw [if_pos h] at h1; obtain ⟨q, k1, k2, k3, k4, k5⟩ := hx.grp p h h1; refine ⟨q, k1, k2, by omega, by rw [Eo, if_pos k3]; exact k4, fun i i1 i2 => ?_⟩
   rw [Eo, if_pos (by omega)]; exact k5 i i1 i2
  ·rw [if_neg h] at h1; obtain ⟨q, k1, k2, k3, k4, k5⟩ := hy.grp (p - x.length) (by omega) h1; refine ⟨q + x.length, by omega, by omega, by omega, ?_, fun i i1 i2 => ?_⟩
   ·rw [Eo, if_neg (by omega), show q + x.length - x.length = q by omega]; exact k4
   ·rw [Eo, if_neg (by omega)]; exact k5 (i - x.length) (by omega) (by omega)
def Z5 (s : Bs) : Bool := (List.range s.length).all fun p =>
 (!(decide (48 ≤ byt s p) && decide (byt s p ≤ 57)) || (decide (byt s p ≤ 50) && (decide (p + 1 < s.length) && !(decide (48 ≤ byt s (p + 1)) && decide (byt s (p + 1) ≤ 57))))) &&
 (!(byt s p == 40) || (List.range 5).any fun r => decide (0 < r) && (decide (p + r < s.length) && (byt s (p + r) == 41 && (List.range (p + r)).all fun i => !(decide (p < i)) || (byt s i == 97 || (byt s i == 98 || byt s i == 124)))))
abbrev MB (s : Bs) : Prop := Z5 s = true
theorem MB.mild {s : Bs} (h : MB s) : Mild s := by
 unfold MB Z5 at h; rw [List.all_eq_true] at h; refine ⟨fun p hp h1 h2 => ?_, fun p hp h1 => ?_⟩
 ·have h3 := h p (by simpa using hp); rw [Qb0] at h3; have h3 := h3.1; rw [decide_eq_true h1, decide_eq_true h2] at h3; simp only [Bool.and_self, Qd1, Bool.false_or, Qb0, decide_eq_true_eq, Bool.not_eq_true', Bool.and_eq_false_iff, decide_eq_false_iff_not] at h3; refine ⟨h3.1, h3.2.1, ?_⟩; rintro ⟨h4, h5⟩
  rcases h3.2.2 with h6 | h6
  ·exact h6 h4
  ·exact h6 h5
 ·have h3 := h p (by simpa using hp); rw [Qb0] at h3; have h3 := h3.2; rw [h1] at h3; simp only [beq_self_eq_true, Qd1, Bool.false_or, List.any_eq_true, List.mem_range, Qb0, decide_eq_true_eq, List.all_eq_true, Bool.or_eq_true, Bool.not_eq_true', decide_eq_false_iff_not, beq_iff_eq] at h3; obtain ⟨r, r5, r0, r1, r2, r3⟩ := h3
  refine ⟨p + r, by omega, by omega, r1, r2, fun i i1 i2 => ?_⟩
  rcases r3 i i1 with h4 | h4
  ·exact absurd i2 h4
  ·exact h4
abbrev GK : List Bs := [[97], [98], [46], [91, 97, 98, 93], [91, 94, 97, 93], [40, 97, 124, 98, 41], [40, 97, 98, 41], [91, 91, 58, 97, 108, 112, 104, 97, 58, 93, 120, 93], [92, 43], [40, 41], [40, 98, 124, 41], [91, 97, 45, 99, 93], [93], [120]]
abbrev HT : List Bs := [[], [], [], [42], [43], [63], [123, 50, 125], [123, 49, 44, 50, 125], [123, 48, 44, 49, 125], [123, 50, 44, 125]]
theorem UF : ∀ k, k < 14 → MB (GK.getD k []) ∧ (GK.getD k []).length ≤ 12 := by decide
theorem UZ : ∀ k, k < 10 → MB (HT.getD k []) ∧ (HT.getD k []).length ≤ 5 := by decide
def L0 (P : Pg) : Prop := ∀ x : List Int × Int, Fn P XK CJ x fun (d : Bs) _ => Mild d ∧ d.length ≤ 160
theorem Vl (h : Has P Gh) (hA : Sy P) (hM : NF P) : L0 P := by
 rintro ⟨raw, n⟩; refine Pw h ?_; unfold LO; dsimp only; refine hA.at (by decide) ⟨by decide, ?_⟩; refine Ag.mid (fun d => Mild d ∧ d.length ≤ 1) ⟨fun _ => ⟨(MB.mild (by decide)), by decide⟩, fun _ => ⟨(MB.mild (by decide)), by decide⟩⟩ ?_; rintro s0 ⟨m0, l0⟩; refine Ag.mid (fun d => Mild d ∧ d.length ≤ 150) ?_ ?_
 ·refine B0.of (fun q => 0 ≤ q.2 ∧ q.2 ≤ 7 ∧ Mild q.1 ∧ (q.1.length : Int) ≤ 18 * q.2 + 1) (fun q => (8 - q.2).toNat) ⟨Qa7 _, by dsimp only; omega, m0, by dsimp only; omega⟩ ?_
  rintro ⟨s, i⟩ ⟨i0, i1, hm, hl⟩; dsimp only at i0 i1 hm hl ⊢; have hr := Jw (a := n) (n := 8) (by decide) (by decide); refine hM.at (by decide) (by decide) ⟨fun hc => ?_, fun hc => ⟨hm, by omega⟩⟩; have hc := of_decide_eq_true hc; rw [w64 (n := 10 + i) (by omega) (by omega), w64 (n := 30 + i) (by omega) (by omega), w64 (n := 50 + i) (by omega) (by omega), w64 (n := i + 1) (by omega) (by omega)]
  refine Ag.mid (fun d => Mild d ∧ (d.length : Int) ≤ s.length + 18) (Ag.mid (fun d => Mild d ∧ (d.length : Int) ≤ s.length + 17) ?_ ?_) ?_
  ·have ha := Jw (a := atF raw (10 + i)) (n := 14) (by decide) (by decide); have hb := Jw (a := atF raw (30 + i)) (n := 10) (by decide) (by decide); refine ⟨hA.at (by omega) ⟨hM.at (by decide) (by decide) ?_, trivial⟩, trivial⟩; generalize LL (atF raw (10 + i)) 14 = a at ha ⊢; obtain ⟨a1, a2⟩ := UF a.toNat (by omega); obtain ⟨b1, b2⟩ := UZ (LL (atF raw (30 + i)) 10).toNat (by omega)
   have a3 : a.toNat < GK.length := by show a.toNat < 14; omega
   have a4 : a < ((GK.length : Nat) : Int) := by show a < 14; omega
   have b3 : (LL (atF raw (30 + i)) 10).toNat < HT.length := by show _ < 10; omega
   have b4 : LL (atF raw (30 + i)) 10 < ((HT.length : Nat) : Int) := by show _ < (10 : Int); omega
   have c1 : s.length + (GK.getD a.toNat []).length ≤ 9223372036854775807 := by omega
   have c2 : (s ++ GK.getD a.toNat []).length + (HT.getD (LL (atF raw (30 + i)) 10).toNat []).length ≤ 9223372036854775807 := by rw [Qa4]; omega
   have fin : Mild ((s ++ GK.getD a.toNat []) ++ HT.getD (LL (atF raw (30 + i)) 10).toNat []) ∧ ((((s ++ GK.getD a.toNat []) ++ HT.getD (LL (atF raw (30 + i)) 10).toNat []).length : Nat) : Int) ≤ s.length + 17 :=
    ⟨(hm.app a1.mild).app b1.mild, by rw [Qa4, Qa4]; omega⟩
   refine ⟨⟨ha.1, a4⟩, ⟨a3, c1, hA.at (by omega) ⟨hM.at (by decide) (by decide) ⟨⟨hb.1, b4⟩, b3, c2, fin, trivial⟩, trivial⟩, trivial⟩, hA.at (by omega) ⟨⟨a3, c1, hM.at (by decide) (by decide) ⟨⟨hb.1, b4⟩, b3, c2, fin, trivial⟩, trivial⟩, hM.at (by decide) (by decide) ⟨a3, c1, ⟨hb.1, b4⟩, b3, c2, fin, trivial⟩, trivial⟩, trivial⟩
  ·rintro s1 ⟨m1, l1⟩; refine hA.at (by omega) ⟨by decide, ?_⟩; refine Ag.of ⟨fun _ => ⟨by simp only [Qa3, Qa2]; omega, m1.app (MB.mild (by decide)), ?_⟩, fun _ => ⟨m1, by omega⟩⟩
   rw [Qa4]; simp only [Qa3, Qa2]; omega
  ·rintro s1 ⟨m1, l1⟩; exact ⟨⟨by omega, by omega, m1, by omega⟩, by omega⟩
 ·rintro s1 ⟨m1, l1⟩; refine hA.at (by decide) ⟨by decide, ?_⟩
  refine Ag.mid (fun d => Mild d ∧ d.length ≤ 160) ⟨fun _ => ⟨by simp only [Qa3, Qa2]; omega, m1.app (MB.mild (by decide)), ?_⟩, fun _ => ⟨m1, by omega⟩⟩ fun d hd => hd
  rw [Qa4]; simp only [Qa3, Qa2]; omega
def ET (rec : Int → Nat → List Node → Eh) (s : Bs) (d : Int) : Nat → List Int → Nat → List Node → Except Int (List Int × (Nat × List Node))
 | 0, _, _, _ => .error 99
 | f + 1, kids, a, l => if a < s.length ∧ byt s a ≠ 124 ∧ byt s a ≠ 41 then (match CI rec s d a l with
  | .error e => .error e
  | .ok (k, (b, l1)) => ET rec s d f (kids ++ [k]) b l1) else .ok (kids, (a, l))
def C5 (kind : Int) (kids : List Int) (b : Nat) (l : List Node) : Int × (Nat × List Node) :=
 if kids.length = 0 then ((l.length : Int), (b, l ++ [HM 0])) else if kids.length = 1 then (kids.getD 0 0, (b, l)) else ((l.length : Int), (b, l ++ [EV kind kids]))
def Pf (rec : Int → Nat → List Node → Eh) (s : Bs) (d : Int) (a : Nat) (l : List Node) : Eh :=
 match ET rec s d (s.length + 1) [] a l with
 | .error e => .error e
 | .ok (kids, (b, l1)) => .ok (C5 4 kids b l1)
def Db (rec : Int → Nat → List Node → Eh) (s : Bs) (d : Int) : Nat → List Int → Nat → List Node → Except Int (List Int × (Nat × List Node))
 | 0, kids, a, l => if isc s a 124 = true then .error 99 else .ok (kids, (a, l))
 | f + 1, kids, a, l => if isc s a 124 = true then (match Pf rec s d (a + 1) l with
  | .error e => .error e
  | .ok (k, (b, l1)) => Db rec s d f (kids ++ [k]) b l1) else .ok (kids, (a, l))
def Rt (rec : Int → Nat → List Node → Eh) (s : Bs) (d : Int) (a : Nat) (l : List Node) : Eh :=
 match Pf rec s d a l with
 | .error e => .error e
 | .ok (k, (b, l1)) => match Db rec s d (s.length + 1) [k] b l1 with
  | .error e => .error e
  | .ok (kids, (b2, l2)) => .ok (C5 5 kids b2 l2)
def CP (s : Bs) : Nat → Int → Nat → List Node → Eh
 | 0 => fun _ _ _ => .error 99
 | n + 1 => Rt (CP s n) s
def D4 (s : Bs) : List Node × Int :=
 if s.length > 256 then ([], 1) else match CP s 51 0 0 [] with
  | .error e => ([], e)
  | .ok (_, (b, l)) => if b < s.length then ([], 40) else (l, 0)
section
variable {r r' : Int → Nat → List Node → Eh} {s : Bs} {d : Int}
theorem Oq (h : ∀ a l, a ≤ s.length → r (d + 1) a l = r' (d + 1) a l) {a : Nat} (ha : a < s.length) (l : List Node) : El r s d a l = El r' s d a l := by
 unfold El; dsimp only; rw [h (a + 1) l ha]
theorem JA (h : ∀ a l, a ≤ s.length → r (d + 1) a l = r' (d + 1) a l) {a : Nat} (ha : a < s.length) (l : List Node) : CI r s d a l = CI r' s d a l := by
 unfold CI; rw [Oq h ha]
theorem MF (hd : d > 0) (h : ∀ a l, a ≤ s.length → r (d + 1) a l = r' (d + 1) a l) : ∀ (f : Nat) (kids : List Int) (a : Nat) (l : List Node), ET r s d f kids a l = E0 r' s d f kids a l
 | 0, _, _, _ => rfl
 | f + 1, kids, a, l => by
  have e : (a < s.length ∧ byt s a ≠ 124 ∧ byt s a ≠ 41) ↔ (a < s.length ∧ byt s a ≠ 124 ∧ ¬ (byt s a = 41 ∧ d > 0)) := by
   simp [hd]
  rw [ET, E0]
  by_cases hc : a < s.length ∧ byt s a ≠ 124 ∧ byt s a ≠ 41
  ·rw [if_pos hc, if_pos (e.1 hc), JA h hc.1]
   cases CI r' s d a l with
   | error e => rfl
   | ok x => exact MF hd h f _ _ _
  ·rw [if_neg hc, if_neg (fun x => hc (e.2 x))]
theorem MU (kind : Int) (kids : List Int) (b : Nat) (l : List Node) : (.ok (C5 kind kids b l) : Eh) = (if kids.length = 0 then .ok ((l.length : Int), (b, l ++ [HM 0])) else if kids.length = 1 then .ok (kids.getD 0 0, (b, l)) else .ok ((l.length : Int), (b, l ++ [EV kind kids]))) := by
 unfold C5; split
 ·rfl
 ·split <;> rfl
theorem Q0 (hd : d > 0) (h : ∀ a l, a ≤ s.length → r (d + 1) a l = r' (d + 1) a l) (a : Nat) (l : List Node) : Pf r s d a l = Kh r' s d a l := by
 unfold Pf Kh; rw [MF hd h]
 cases E0 r' s d (s.length + 1) [] a l with
 | error e => rfl
 | ok x => exact MU 4 _ _ _
theorem Nh (hd : d > 0) (hg : ∀ d a l, a ≤ s.length → Fo s a l 0 (r' d a l)) (h : ∀ a l, a ≤ s.length → r (d + 1) a l = r' (d + 1) a l) : ∀ (f : Nat) (kids : List Int) (a : Nat) (l : List Node), a ≤ s.length → s.length + 1 - a ≤ f → Db r s d f kids a l = Eg r' s d f kids a l
 | 0, _, _, _, h1, h2 => absurd h2 (by omega)
 | f + 1, kids, a, l, h1, h2 => by
  rw [Db, Eg]
  by_cases hc : isc s a 124 = true
  ·have hlt := (Bi.1 hc).1; rw [if_pos hc, if_pos hc, Q0 hd h]; have g := F6 (d := d) hg (a := a + 1) (l := l) hlt
   cases he : Kh r' s d (a + 1) l with
   | error e => rfl
   | ok x =>
    obtain ⟨k, b, l1⟩ := x; rw [he] at g; have := g.lo; exact Nh hd hg h f _ _ _ g.hi (by omega)
  ·rw [if_neg hc, if_neg hc]
theorem Jy : ∀ (f : Nat) (kids : List Int) (a : Nat) (l : List Node) {ks : List Int} {b : Nat} {l1 : List Node}, Eg r' s d f kids a l = .ok (ks, (b, l1)) → kids.length ≤ ks.length
 | 0, _, _, _, _, _, _, h => by cases h
 | f + 1, kids, a, l, ks, b, l1, h => by
  rw [Eg] at h; split at h
  ·split at h
   ·cases h
   ·have := Jy f _ _ _ h; simp at this; omega
  ·cases h; exact Qa8 _
theorem Xc (hd : d > 0) (hg : ∀ d a l, a ≤ s.length → Fo s a l 0 (r' d a l)) (h : ∀ a l, a ≤ s.length → r (d + 1) a l = r' (d + 1) a l) {a : Nat} (ha : a ≤ s.length) (l : List Node) : Rt r s d a l = Sb r' s d a l := by
 unfold Rt Sb; rw [Q0 hd h]; have g := F6 (d := d) hg (a := a) (l := l) ha
 cases he : Kh r' s d a l with
 | error e => rfl
 | ok x =>
  obtain ⟨k, b, l1⟩ := x; rw [he] at g; dsimp only; rw [Nh hd hg h (s.length + 1) [k] b l1 g.hi (by omega)]
  cases he2 : Eg r' s d (s.length + 1) [k] b l1 with
  | error e => rfl
  | ok y =>
   obtain ⟨ks, b2, l2⟩ := y; have := Jy _ _ _ _ he2; dsimp only; rw [MU, if_neg (by simp at this; omega)]
def VB (R : Eh) (s : Bs) : Eh := match R with
 | .error e => .error e
 | .ok (k, (b, l)) => if isc s b 41 = true then .error 40 else .ok (k, (b, l))
theorem Oi (h : ∀ a l, a ≤ s.length → r (0 + 1) a l = r' (0 + 1) a l) : ∀ (f : Nat) (kids : List Int) (a : Nat) (l : List Node), E0 r' s 0 f kids a l = match ET r s 0 f kids a l with
  | .error e => .error e
  | .ok (ks, (b, l1)) => if isc s b 41 = true then .error 40 else .ok (ks, (b, l1))
 | 0, _, _, _ => rfl
 | f + 1, kids, a, l => by
  rw [E0, ET]
  by_cases hc : a < s.length ∧ byt s a ≠ 124
  ·rw [if_pos ⟨hc.1, hc.2, fun x => absurd x.2 (by decide)⟩]
   by_cases h41 : byt s a = 41
   ·rw [if_neg (fun x => x.2.2 h41)]; dsimp only; rw [if_pos (Bi.2 ⟨hc.1, h41⟩)]
    have : CI r' s 0 a l = .error 40 := by
     unfold CI El; dsimp only; rw [if_neg (by omega), if_neg (by omega), if_neg (by omega), if_neg (by omega), if_neg (by omega), if_pos (.inl h41)]
    rw [this]
   ·rw [if_pos ⟨hc.1, hc.2, h41⟩, JA h hc.1]
    cases CI r' s 0 a l with
    | error e => rfl
    | ok x => exact Oi h f _ _ _
  ·rw [if_neg (fun x => hc ⟨x.1, x.2.1⟩), if_neg (fun x => hc ⟨x.1, x.2.1⟩)]; dsimp only; rw [if_neg]; intro x; have := Bi.1 x; exact hc ⟨this.1, by omega⟩
theorem GI (kind : Int) (kids : List Int) (b : Nat) (l : List Node) : (C5 kind kids b l).2.1 = b := by
 unfold C5; split
 ·rfl
 ·split <;> rfl
theorem SB (h : ∀ a l, a ≤ s.length → r (0 + 1) a l = r' (0 + 1) a l) (a : Nat) (l : List Node) : Kh r' s 0 a l = VB (Pf r s 0 a l) s := by
 unfold Pf Kh VB; rw [Oi h]
 cases ET r s 0 (s.length + 1) [] a l with
 | error e => rfl
 | ok x =>
  obtain ⟨ks, b, l1⟩ := x; dsimp only; rw [GI]
  cases isc s b 41 with
  | true => rfl
  | false =>
   rw [if_neg (by simp), if_neg (by simp)]; dsimp only; have := GI 4 ks b l1; rw [← MU 4 ks b l1]; generalize C5 4 ks b l1 = g at this; obtain ⟨g1, g2, g3⟩ := g; dsimp only at this; rw [this]
theorem KP (h : ∀ a l, a ≤ s.length → r (0 + 1) a l = r' (0 + 1) a l) (hg : ∀ d a l, a ≤ s.length → Fo s a l 0 (r' d a l)) : ∀ (f : Nat) (kids : List Int) (a : Nat) (l : List Node), a ≤ s.length → s.length + 1 - a ≤ f → isc s a 41 = false → Eg r' s 0 f kids a l = match Db r s 0 f kids a l with
  | .error e => .error e
  | .ok (ks, (b, l1)) => if isc s b 41 = true then .error 40 else .ok (ks, (b, l1))
 | 0, _, _, _, h1, h2, _ => absurd h2 (by omega)
 | f + 1, kids, a, l, h1, h2, h3 => by
  rw [Eg, Db]
  by_cases hc : isc s a 124 = true
  ·have hlt := (Bi.1 hc).1; rw [if_pos hc, if_pos hc]; have g := F6 (d := 0) hg (a := a + 1) (l := l) hlt; rw [SB h] at g ⊢
   cases hA : Pf r s 0 (a + 1) l with
   | error e => rfl
   | ok x =>
    obtain ⟨k, b, l1⟩ := x; rw [hA] at g; dsimp only [VB] at g ⊢
    cases hb : isc s b 41 with
    | true =>
     rw [if_pos rfl]; dsimp only
     have h124 : ¬ isc s b 124 = true := by
      intro x; have := Bi.1 x; have := Bi.1 hb; omega
     have e : Db r s 0 f (kids ++ [k]) b l1 = .ok (kids ++ [k], (b, l1)) := by
      cases f with
      | zero => rw [Db, if_neg h124]
      | succ f => rw [Db, if_neg h124]
     rw [e]; dsimp only; rw [hb, if_pos rfl]
    | false =>
     rw [hb, if_neg (by simp)] at g; rw [if_neg (by simp)]; dsimp only; have := g.lo; exact KP h hg f _ _ _ g.hi (by omega) hb
  ·rw [if_neg hc, if_neg hc]; dsimp only; rw [h3, if_neg (by simp)]
theorem YD (h : ∀ a l, a ≤ s.length → r (0 + 1) a l = r' (0 + 1) a l) (hg : ∀ d a l, a ≤ s.length → Fo s a l 0 (r' d a l)) {a : Nat} (ha : a ≤ s.length) (l : List Node) : Sb r' s 0 a l = VB (Rt r s 0 a l) s := by
 unfold Rt Sb; have g := F6 (d := 0) hg (a := a) (l := l) ha; rw [SB h] at g ⊢
 cases hA : Pf r s 0 a l with
 | error e => rfl
 | ok x =>
  obtain ⟨k, b, l1⟩ := x; rw [hA] at g; dsimp only [VB] at g ⊢
  cases hb : isc s b 41 with
  | true =>
   rw [if_pos rfl]; dsimp only
   have h124 : ¬ isc s b 124 = true := by
    intro x; have := Bi.1 x; have := Bi.1 hb; omega
   rw [Db, if_neg h124]; dsimp only; rw [GI, hb, if_pos rfl]
  | false =>
   rw [hb, if_neg (by simp)] at g; rw [if_neg (by simp)]; dsimp only; rw [KP h hg (s.length + 1) [k] b l1 g.hi (by omega) hb]
   cases hL : Db r s 0 (s.length + 1) [k] b l1 with
   | error e => rfl
   | ok y =>
    obtain ⟨ks, b2, l2⟩ := y; dsimp only; rw [GI]
    cases hb2 : isc s b2 41 with
    | true => rfl
    | false =>
     rw [if_neg (by simp), if_neg (by simp)]; dsimp only; have hgb := GI 5 ks b2 l2
     rw [show (.ok ((C5 5 ks b2 l2).1, b2, (C5 5 ks b2 l2).2.2) : Eh) = .ok (C5 5 ks b2 l2) from by
      generalize C5 5 ks b2 l2 = g at hgb; obtain ⟨g1, g2, g3⟩ := g; dsimp only at hgb
      rw [hgb], MU]
     have hk : 1 ≤ ks.length := by
      have := KP h hg (s.length + 1) [k] b l1 g.hi (by omega) hb; rw [hL] at this; dsimp only at this; rw [hb2, if_neg (by simp)] at this; have := Jy _ _ _ _ this; simpa using this
     rw [if_neg (show ¬ ks.length = 0 by omega)]
end
theorem Mn (s : Bs) : ∀ (n : Nat) (d : Int), d > 0 → ∀ (a : Nat) (l : List Node), a ≤ s.length → CP s n d a l = Fj s n d a l
 | 0, _, _, _, _, _ => rfl
 | n + 1, d, hd, a, l, ha => Xc hd (C7 s n) (fun a l ha => Mn s n (d + 1) (by omega) a l ha) ha l
theorem W8 (s : Bs) : D4 s = Dy s := by
 unfold D4 Dy; split
 ·rfl
 ·have e : Fj s 51 0 0 [] = VB (CP s 51 0 0 []) s := YD (fun a l ha => Mn s 50 (0 + 1) (by omega) a l ha) (C7 s 50) (Qa9 _) []; rw [e]
  cases CP s 51 0 0 [] with
  | error e => rfl
  | ok x =>
   obtain ⟨k, b, l⟩ := x; dsimp only [VB]
   cases hb : isc s b 41 with
   | true =>
    have := (Bi.1 hb).1; rw [if_pos (by omega), if_pos rfl]
   | false => rfl
end Go.VS
namespace Go.VS
variable {P : Pg}
def Kl (c : Int) : Value := .iface 26 (.int .i64 c)
abbrev PSt (s : Bs) (a : Nat) (d : Int) (l : List Node) : Aa := (s, (((a : Nat) : Int), (d, l)))
def Fp (P : Pg) : Prop := ∀ (s : Bs) (a : Nat) (d : Int) (l : List Node), a ≤ s.length → Fn P zS7 AF (PSt s a d l) fun (q : Int × Bool) (e : Aa) => e = PSt s a d l ∧ q = if a = s.length then ((0 : Int), false) else (byt s a, true)
theorem ZN (h : Has P Dn) : Fp P := by
 intro s a d l ha; refine Ku h ?_; unfold GV; dsimp only; refine ⟨fun hc => ⟨rfl, ?_⟩, fun hc => Ag.mid (fun q => q = (byt s a, true)) ⟨⟨by omega, ?_⟩, ⟨rfl, trivial⟩, trivial⟩ ?_⟩
 ·have h9 : (a : Int) = s.length := by simpa using hc
  rw [if_pos (by omega)]
 ·have : ¬ (a : Int) = s.length := by simpa using hc
  omega
 ·rintro q rfl
  have : ¬ (a : Int) = s.length := by simpa using hc
  exact ⟨rfl, by rw [if_neg (by omega)]⟩
theorem Fp.at (h : Fp P) {s : Bs} {a : Nat} {d : Int} {l : List Node} (ha : a ≤ s.length) {K : Int × Bool → Aa → Prop} (hk : K (if a = s.length then ((0 : Int), false) else (byt s a, true)) (PSt s a d l)) : Fn P zS7 AF (PSt s a d l) K :=
 (h s a d l ha).to fun (q : Int × Bool) (e : Aa) hq => by
  obtain ⟨rfl, rfl⟩ := hq; exact hk
def FY (P : Pg) : Prop := ∀ (s : Bs) (a : Nat) (d : Int) (l : List Node) (c : Int), a ≤ s.length → s.length ≤ 1000000 → Fn P zS1 As (PSt s a d l, c) fun (q : Bool) (e : Aa) => q = isc s a c ∧ e = PSt s (if isc s a c = true then a + 1 else a) d l
theorem AaR (h : Has P DG) (hM : Fp P) : FY P := by
 intro s a d l c ha hs; refine Lz h ?_; unfold Hy; dsimp only; refine hM.at ha ?_
 have e1 : IntKind.i64.wrap ((a : Int) + 1) = ((a + 1 : Nat) : Int) := by rw [w64 (by omega) (by omega)]; omega
 by_cases hl : a = s.length
 ·rw [if_pos hl]
  have hf : isc s a c = false := I3.2 fun x => by omega
  rw [hf]; exact ⟨fun _ => ⟨rfl, rfl⟩, fun hc => absurd hc (by simp)⟩
 ·rw [if_neg hl]; dsimp only; refine ⟨fun hc => ?_, fun hc => ?_⟩
  ·have : byt s a ≠ c := by simpa using hc
   have hf : isc s a c = false := I3.2 fun x => this x.2
   rw [hf]; exact ⟨rfl, rfl⟩
  ·have : byt s a = c := by simpa using hc
   have hf : isc s a c = true := Bi.2 ⟨by omega, this⟩; rw [hf, if_pos rfl]; refine ⟨rfl, ?_⟩; show (s, (IntKind.i64.wrap ((a : Int) + 1), (d, l))) = _; rw [e1]
theorem FY.at (h : FY P) {s : Bs} {a : Nat} {d : Int} {l : List Node} {c : Int} (ha : a ≤ s.length) (hs : s.length ≤ 1000000) {K : Bool → Aa → Prop} (hk : K (isc s a c) (PSt s (if isc s a c = true then a + 1 else a) d l)) : Fn P zS1 As (PSt s a d l, c) K :=
 (h s a d l c ha hs).to fun (q : Bool) (e : Aa) hq => by
  obtain ⟨rfl, rfl⟩ := hq; exact hk
def Jh (P : Pg) : Prop := ∀ (s : Bs) (a : Nat) (d : Int) (l : List Node), a ≤ s.length → s.length ≤ 1000000 → (a = s.length → P.kp (Kl 40)) → Fn P OV AS (PSt s a d l) fun (q : Int) (e : Aa) => a < s.length ∧ q = byt s a ∧ e = PSt s (a + 1) d l
theorem ZS (h : Has P Dq) (hM : Fp P) : Jh P := by
 intro s a d l ha hs hp; refine Kw h ?_; unfold GX; dsimp only; refine hM.at ha ?_
 have e1 : IntKind.i64.wrap ((a : Int) + 1) = ((a + 1 : Nat) : Int) := by rw [w64 (by omega) (by omega)]; omega
 by_cases hl : a = s.length
 ·rw [if_pos hl]; exact Ag.mid (fun _ => False) ⟨fun _ => hp hl, fun hc => absurd hc (by simp)⟩ (fun _ h => h.elim)
 ·rw [if_neg hl]; refine Ag.of ⟨fun hc => absurd hc (by simp), fun _ => ⟨by omega, rfl, ?_⟩⟩; show (s, (IntKind.i64.wrap ((a : Int) + 1), (d, l))) = _; rw [e1]
theorem Jh.at (h : Jh P) {s : Bs} {a : Nat} {d : Int} {l : List Node} (ha : a ≤ s.length) (hs : s.length ≤ 1000000) (hp : a = s.length → P.kp (Kl 40)) {K : Int → Aa → Prop} (hk : a < s.length → K (byt s a) (PSt s (a + 1) d l)) : Fn P OV AS (PSt s a d l) K :=
 (h s a d l ha hs hp).to fun (q : Int) (e : Aa) hq => by
  obtain ⟨h1, rfl, rfl⟩ := hq; exact hk h1
def Gq (P : Pg) : Prop := ∀ (s : Bs) (a : Nat) (d : Int) (l : List Node) (n : Node), l.length ≤ 1000000000 → Fn P zS6 AG (PSt s a d l, n) fun (q : Int) (e : Aa) => q = (l.length : Int) ∧ e = PSt s a d (l ++ [n])
theorem ZP (h : Has P DE) : Gq P := by
 intro s a d l n hl; refine Lx h ?_; unfold Hw; dsimp only; refine Ag.mid (fun q => q = PSt s a d (l ++ [n])) ?_ ?_
 ·simp only [Qa3, Qa2, and_true, and_self]; omega
 ·rintro q rfl; dsimp only
  have hlen : (l ++ [n]).length = l.length + 1 := by simp
  rw [hlen, w64 (by omega) (by omega)]; exact ⟨by omega, rfl⟩
theorem Gq.at (h : Gq P) {s : Bs} {a : Nat} {d : Int} {l : List Node} {n : Node} (hl : l.length ≤ 1000000000) {K : Int → Aa → Prop} (hk : K (l.length : Int) (PSt s a d (l ++ [n]))) : Fn P zS6 AG (PSt s a d l, n) K :=
 (h s a d l n hl).to fun (q : Int) (e : Aa) hq => by
  obtain ⟨rfl, rfl⟩ := hq; exact hk
def Gx (P : Pg) : Prop := ∀ (s : Bs) (a : Nat) (d : Int) (l : List Node) (kind : Int) (kids : List Int), l.length ≤ 1000000000 → Fn P Su A5 (PSt s a d l, (kind, kids)) fun (q : Int) (e : Aa) => q = (C5 kind kids a l).1 ∧ e = PSt s a d (C5 kind kids a l).2.2
theorem YS (h : Has P Da) (hA : Gq P) : Gx P := by
 intro s a d l kind kids hl; refine JR h ?_; unfold GB C5; dsimp only; refine Ag.mid (fun q => q.2 = PSt s a d l ∧ kids.length ≠ 0 ∧ kids.length ≠ 1) ⟨fun hc => ?_, fun hc => ⟨fun hc2 => ?_, fun hc2 => ?_⟩⟩ ?_
 ·have hc : ((kids.length : Nat) : Int) = 0 := by simpa using hc
  refine hA.at hl ?_; rw [if_pos (by omega)]; exact ⟨rfl, rfl⟩
 ·have hc : ¬ ((kids.length : Nat) : Int) = 0 := by simpa using hc
  have hc2 : ((kids.length : Nat) : Int) = 1 := by simpa using hc2
  rw [if_neg (by omega), if_pos (by omega)]; exact ⟨⟨by omega, by omega⟩, by omega, rfl, rfl⟩
 ·have hc : ¬ ((kids.length : Nat) : Int) = 0 := by simpa using hc
  have hc2 : ¬ ((kids.length : Nat) : Int) = 1 := by simpa using hc2
  exact ⟨rfl, by omega, by omega⟩
 ·rintro ⟨q1, q2⟩ ⟨hq, h0, h1⟩; dsimp only at hq ⊢; subst hq; refine hA.at hl ?_; rw [if_neg h0, if_neg h1]; exact ⟨rfl, rfl⟩
theorem Gx.at (h : Gx P) {s : Bs} {a : Nat} {d : Int} {l : List Node} {kind : Int} {kids : List Int} (hl : l.length ≤ 1000000000) {K : Int → Aa → Prop} (hk : K (C5 kind kids a l).1 (PSt s a d (C5 kind kids a l).2.2)) : Fn P Su A5 (PSt s a d l, (kind, kids)) K :=
 (h s a d l kind kids hl).to fun (q : Int) (e : Aa) hq => by
  obtain ⟨rfl, rfl⟩ := hq; exact hk
def Kd (P : Pg) : Prop := ∀ (s : Bs) (a : Nat) (d : Int) (l : List Node) (w : Bb), l.length ≤ 1000000000 → Fn P zS9 AM (PSt s a d l, w) fun (q : Int) (e : Aa) => q = (l.length : Int) ∧ e = PSt s a d (l ++ [setNode w])
theorem AaS (h : Has P DH) (hA : Gq P) : Kd P := by
 intro s a d l w hl; refine LA h ?_; unfold Hz; exact hA.at hl ⟨rfl, rfl⟩
theorem Kd.at (h : Kd P) {s : Bs} {a : Nat} {d : Int} {l : List Node} {w : Bb} (hl : l.length ≤ 1000000000) {K : Int → Aa → Prop} (hk : K (l.length : Int) (PSt s a d (l ++ [setNode w]))) : Fn P zS9 AM (PSt s a d l, w) K :=
 (h s a d l w hl).to fun (q : Int) (e : Aa) hq => by
  obtain ⟨rfl, rfl⟩ := hq; exact hk
def G2 (P : Pg) : Prop := ∀ x : Bb × Int, 0 ≤ x.2 → x.2 ≤ 255 → Fn P zS8 AO x fun (d : Bb) _ => d = EG x.1 x.2
theorem ZT (h : Has P Ey) : G2 P := by
 intro x h1 h2; refine MQ h ?_; unfold IV; obtain ⟨e1, e2, e3, e4⟩ := Z0 h1 h2; rw [e1]; exact ⟨by decide, ⟨e2, e3⟩, by omega, by decide, e4, ⟨e2, e3⟩, by omega, by unfold EG orW; rfl⟩
theorem G2.at (h : G2 P) {w : Bb} {c : Int} (h1 : 0 ≤ c) (h2 : c ≤ 255) {K : Bb → Unit → Prop} (hk : K (EG w c) ()) : Fn P zS8 AO (w, c) K :=
 (h (w, c) h1 h2).to fun (q : Bb) _ hq => by
  have hq : q = EG w c := hq; subst hq; exact hk
theorem OI : ∀ (n : Nat) (c : Int) (w : Bb), EH (n + 1) c w = EG (EH n c w) (c + n)
 | 0, c, w => by simp [EH]
 | n + 1, c, w => by
  rw [EH, OI n (c + 1) (EG w c), EH]
  congr 1
  omega
def F5 (P : Pg) : Prop := ∀ x : Bb × (Int × Int), 0 ≤ x.2.1 → x.2.1 ≤ 255 → 0 ≤ x.2.2 → x.2.2 ≤ 255 → Fn P zS0 Ao x fun (d : Bb) _ => d = Bp x.2.1 x.2.2 x.1
theorem Vw (h : Has P Dr) (hW : G2 P) : F5 P := by
 rintro ⟨w, a, b⟩ h1 h2 h3 h4; dsimp only at h1 h2 h3 h4; refine Kx h ?_; unfold GY; dsimp only; rw [w64 (n := a) (by omega) (by omega), w64 (n := b) (by omega) (by omega)]
 refine Ag.mid (fun q => q = Bp a b w) ?_ fun q hq => hq
 refine B0.of (fun q => a ≤ q.1 ∧ (q.1 ≤ b + 1 ∨ q.1 = a) ∧ q.2 = EH (q.1 - a).toNat a w) (fun q => (b + 1 - q.1).toNat) ⟨Qa7 _, .inr rfl, by simp [EH]⟩ ?_; rintro ⟨i, v⟩ ⟨i0, i1, hv⟩; dsimp only at i0 i1 hv ⊢; subst hv; refine ⟨fun hc => ?_, fun hc => ?_⟩
 ·have hc := of_decide_eq_true hc; rw [wu8 (by omega) (by omega), w64 (n := i + 1) (by omega) (by omega)]; refine Ag.of (hW.at (by omega) (by omega) ⟨⟨by omega, .inl (by omega), ?_⟩, by omega⟩); rw [show (i + 1 - a).toNat = (i - a).toNat + 1 by omega, OI, show a + (((i - a).toNat : Nat) : Int) = i by omega]
 ·have hc := of_decide_eq_false hc; unfold Bp
  congr 1
  omega
theorem F5.at (h : F5 P) {w : Bb} {a b : Int} (h1 : 0 ≤ a) (h2 : a ≤ 255) (h3 : 0 ≤ b) (h4 : b ≤ 255) {K : Bb → Unit → Prop} (hk : K (Bp a b w) ()) : Fn P zS0 Ao (w, (a, b)) K :=
 (h (w, (a, b)) h1 h2 h3 h4).to fun (q : Bb) _ hq => by
  have hq : q = Bp a b w := hq; subst hq; exact hk
def IQ (P : Pg) : Prop := ∀ x : Bb, Fn P Up AR x fun (d : Bb) _ => d = GM x
theorem YQ (h : Has P CG) : IQ P := by
 rintro ⟨a, b, c, d⟩; refine I1 h ?_; unfold Fu; dsimp only
 refine Ag.mid (fun q => q = GM (a, (b, (c, d)))) ?_ fun q hq => hq
 refine B0.of (fun q => ∃ i : Int, 0 ≤ i ∧ i ≤ 4 ∧ q = (i, ((if i < 1 then a else M9 a), ((if i < 2 then b else M9 b), ((if i < 3 then c else M9 c), (if i < 4 then d else M9 d)))))) (fun q => (4 - q.1).toNat) ⟨0, by decide, by decide, rfl⟩ ?_; rintro _ ⟨i, i0, i1, rfl⟩; dsimp only; refine ⟨fun hc => Ag.of ?_, fun hc => ?_⟩
 ·have hc := of_decide_eq_true hc; simp only [V8]; rw [w64 (n := i + 1) (by omega) (by omega)]; refine ⟨⟨i0, by omega⟩, by omega, ⟨i0, by omega⟩, by omega, ⟨i + 1, by omega, by omega, ?_⟩, by omega⟩
  have : i = 0 ∨ i = 1 ∨ i = 2 ∨ i = 3 := by omega
  rcases this with rfl | rfl | rfl | rfl <;> rfl
 ·have hc := of_decide_eq_false hc
  have : i = 4 := by omega
  subst this; rfl
theorem IQ.at (h : IQ P) {w : Bb} {K : Bb → Unit → Prop} (hk : K (GM w) ()) : Fn P Up AR w K :=
 (h w).to fun (q : Bb) _ hq => by
  have hq : q = GM w := hq; subst hq; exact hk
def Pb (P : Pg) : Prop := ∀ x : Bs × Int, 0 ≤ x.2 → Fn P VJ Cy x fun (d : Bool) _ => d = isD x.1 x.2.toNat
theorem YR (h : Has P G0) : Pb P := by
 rintro ⟨s, a⟩ ha; dsimp only at ha ⊢; refine QD h ?_; unfold ME; dsimp only; have hba : ((UInt8.toNat (Qb1 s (Qb2 a) 0) : Nat) : Int) = byt s a.toNat := rfl; rw [hba]; refine ⟨fun hc => ⟨ha, of_decide_eq_true hc⟩, fun hc => ?_, ?_⟩
 ·rw [Bool.cond_eq_ite] at hc; split at hc
  ·rename_i h1; exact ⟨ha, of_decide_eq_true h1⟩
  ·cases hc
 ·unfold isD
  by_cases h1 : a < (s.length : Int)
  ·have h2 : a.toNat < s.length := by omega
   simp [h1, h2]
  ·have h2 : ¬ a.toNat < s.length := by omega
   simp [h1, h2]
def Zx (x : Bs × Int) : Int × (Int × Bool) := if x.2 < 0 then (0, (0, false)) else OQ (EW x.1 x.2.toNat)
theorem Yx {s : Bs} {a : Nat} (h : isD s a = false) : EW s a = none := by
 unfold EW; split
 ·rw [OP, h, if_neg (by simp), if_pos rfl]
 ·rfl
def NG (P : Pg) : Prop := ∀ x : Bs × Int, x.1.length ≤ 140737488351232 → Fn P Ajh CM x fun d _ => d = Zx x
theorem Xo (h : Has P Gn) (hD : Pb P) : NG P := by
 rintro ⟨s, a⟩ hl; dsimp only at hl; refine PC h ?_; unfold LV Zx; dsimp only; refine Ag.mid (fun d => 0 ≤ a → d = isD s a.toNat) ⟨fun hc => ?_, fun hc => ?_, trivial⟩ ?_
 ·have := of_decide_eq_false hc; refine (hD (s, a) (by dsimp only; omega)).to ?_
  rintro (d : Bool) _ hd _; exact hd
 ·have := of_decide_eq_true hc; intro h0; omega
 intro d hd; refine ⟨fun hc => ?_, fun hc => ?_⟩
 ·by_cases h0 : a < 0
  ·rw [if_pos h0]
  ·rw [if_neg h0, Yx]
   ·rfl
   ·rw [← hd (by omega)]; simpa [h0] using hc
 have h0 : 0 ≤ a := by
  by_cases h0 : a < 0
  ·simp [h0] at hc
  ·omega
 have hd := hd h0
 have hda : isD s a.toNat = true := by
  rw [← hd]
  cases d with
  | true => rfl
  | false => simp at hc
 rw [if_neg (by omega)]
 have hlt : a.toNat < s.length := by
  simp only [isD, Qb0, decide_eq_true_eq] at hda; exact hda.1
 refine Ag.mid (fun d => 0 ≤ d.1 ∧ a < d.2 ∧ d.2 ≤ s.length ∧ EW s a.toNat = if d.1 > 2147483647 ∨ byt s a.toNat = 48 ∧ d.2 > a + 1 then none else some (d.1, d.2.toNat)) ?_ ?_
 ·refine B0.of (fun d => a ≤ d.2 ∧ d.2 ≤ s.length ∧ 0 ≤ d.1 ∧ d.1 ≤ 2147483648 ∧ ∃ f, s.length + 1 - d.2.toNat ≤ f ∧ EW s a.toNat = if d.1 > 2147483647 ∨ byt s a.toNat = 48 ∧ d.2 > a + 1 then none else OP s a.toNat f d.1 d.2.toNat) (fun d => (s.length - d.2).toNat) ?_ ?_
  ·dsimp only; refine ⟨Qa7 _, by omega, by omega, by omega, s.length + 1, by omega, ?_⟩; unfold EW; rw [if_pos (by omega), if_neg (by omega)]
  ·rintro ⟨n, i⟩ ⟨i0, i1, n0, n1, f, hf, e⟩; dsimp only at i0 i1 n0 n1 hf e ⊢; refine (hD (s, i) (by dsimp only; omega)).to ?_
   rintro (d : Bool) _ hd; dsimp only at hd
   cases f with
   | zero => omega
   | succ f =>
   rw [OP] at e; have hb := CQ s i.toNat; have hbi : ((UInt8.toNat (Qb1 s (Qb2 i) 0) : Nat) : Int) = byt s i.toNat := rfl; rw [hbi]; refine ⟨fun hc => Ag.of ?_, fun hc => ?_⟩
   ·rw [hc] at hd; rw [← hd, if_pos rfl] at e; have hd := hd.symm; simp only [isD, Qb0, decide_eq_true_eq] at hd; have ew : IntKind.u8.wrap (byt s i.toNat - 48) = byt s i.toNat - 48 := wu8 (by omega) (by omega)
    rw [ew, w64 (n := byt s i.toNat - 48) (by omega) (by omega), w64 (n := 10 * n) (by omega) (by omega), w64 (n := 10 * n + (byt s i.toNat - 48)) (by omega) (by omega), w64 (n := i + 1) (by omega) (by omega)]; refine ⟨⟨by omega, by omega⟩, ⟨by omega, by omega, ?_, ?_, f, by omega, ?_⟩, by omega⟩
    ·split <;> omega
    ·split <;> omega
    ·rw [e]
     by_cases g1 : n > 2147483647 ∨ byt s a.toNat = 48 ∧ i > a + 1
     ·rw [if_pos g1, if_pos ?_]
      rcases g1 with g1 | g1
      ·left; split <;> omega
      ·right; exact ⟨g1.1, by omega⟩
     ·rw [if_neg g1]
      by_cases g2 : i.toNat > a.toNat ∧ byt s a.toNat = 48
      ·rw [if_pos g2, if_pos (.inr ⟨g2.2, by omega⟩)]
      ·rw [if_neg g2]
       by_cases g3 : 10 * n + (byt s i.toNat - 48) > 2147483647
       ·rw [if_pos g3, if_pos (.inl (by split <;> omega))]
       ·have e3 : ¬ 2147483648 < 10 * n + (byt s i.toNat - 48) := by omega
        rw [if_neg g3, if_neg e3, if_neg (by omega), show (i + 1).toNat = i.toNat + 1 by omega]
   ·rw [hc] at hd
    have hnd : ¬ isD s i.toNat = true := by rw [← hd]; simp
    rw [if_neg hnd] at e
    have hia : i ≠ a := fun hia => by
     rw [hia, hda] at hd; cases hd
    refine ⟨n0, by omega, i1, ?_⟩; rw [e, if_neg (show ¬ i.toNat = a.toNat by omega)]
 ·rintro ⟨n, i⟩ ⟨n0, hi, hil, e⟩; dsimp only at n0 hi hil e ⊢; have hba : ((UInt8.toNat (Qb1 s (Qb2 a) 0) : Nat) : Int) = byt s a.toNat := rfl; rw [hba, w64 (n := a + 1) (by omega) (by omega), e]
  have hcc : (cond (decide (n > 2147483647)) true (cond (byt s a.toNat == 48) (decide (i > a + 1)) false)) = decide (n > 2147483647 ∨ byt s a.toNat = 48 ∧ i > a + 1) := by
   by_cases g1 : n > 2147483647
   ·simp [g1]
   ·by_cases g2 : byt s a.toNat = 48
    ·simp [g1, g2]
    ·simp [g1, g2]
  rw [hcc]; refine ⟨fun _ => ⟨h0, by omega⟩, fun hc => ?_, fun hc => ?_⟩
  ·rw [if_pos (of_decide_eq_true hc)]; rfl
  ·rw [if_neg (of_decide_eq_false hc)]; show _ = (n, ((i.toNat : Int), true)); rw [show (i.toNat : Int) = i by omega]
theorem RX {s : Bs} {a : Nat} {c : Int} (h : isc s a c = true) : a < s.length ∧ byt s a = c := Bi.1 h
theorem wp1 {s : Bs} {a : Nat} (ha : a ≤ s.length) (hs : s.length ≤ 1000000) : IntKind.i64.wrap ((a : Int) + 1) = ((a + 1 : Nat) : Int) := by rw [w64 (by omega) (by omega)]; omega
theorem wp2 {s : Bs} {a : Nat} (ha : a ≤ s.length) (hs : s.length ≤ 1000000) : IntKind.i64.wrap ((a : Int) + 2) = ((a + 2 : Nat) : Int) := by rw [w64 (by omega) (by omega)]; omega
def R7 (s : Bs) (a : Nat) : Option (Int × Nat) := match EW s a with
 | none => none
 | some (n, b) => if n > 100 then none else some (n, b)
def Hu (P : Pg) : Prop := ∀ (s : Bs) (a : Nat) (d : Int) (l : List Node), a ≤ s.length → s.length ≤ 1000000 → (R7 s a = none → P.kp (Kl 40)) → Fn P Um AZ (PSt s a d l) fun (q : Int) (e : Aa) => ∃ b : Nat, R7 s a = some (q, b) ∧ b ≤ s.length ∧ e = PSt s b d l
theorem Vu (h : Has P C0) (hN : NG P) : Hu P := by
 intro s a d l ha hs hp; refine Jo h ?_; unfold FR; dsimp only; refine Ag.mid (fun q => q = OQ (EW s a)) ⟨(hN (s, (a : Int)) (by dsimp only; omega)).to ?_, trivial⟩ ?_
 ·rintro (q : Int × (Int × Bool)) _ hq
  have hq : q = OQ (EW s a) := by
   have hq : q = Zx (s, (a : Int)) := hq; rw [hq]; unfold Zx; dsimp only; rw [if_neg (by omega)]; rfl
  simp only [hq, and_true, and_self]
 ·rintro q rfl; unfold R7 at hp ⊢
  cases hn : EW s a with
  | none =>
   rw [hn] at hp; exact Ag.mid (fun _ => False) ⟨fun _ => hp rfl, fun hc => absurd hc (by simp [OQ])⟩ (fun _ h => h.elim)
  | some x =>
   obtain ⟨n, b⟩ := x; rw [hn] at hp; dsimp only [OQ] at hp ⊢; have := Lp hn; refine Ag.of ⟨fun hc => hp ?_, fun hc => ?_⟩
   ·have : n > 100 := by simpa using hc
    rw [if_pos this]
   ·have : ¬ n > 100 := by simpa using hc
    rw [if_neg this]; exact ⟨b, rfl, by omega, rfl⟩
theorem Hu.at (h : Hu P) {s : Bs} {a : Nat} {d : Int} {l : List Node} (ha : a ≤ s.length) (hs : s.length ≤ 1000000) (hp : R7 s a = none → P.kp (Kl 40)) {K : Int → Aa → Prop} (hk : ∀ n b, R7 s a = some (n, b) → b ≤ s.length → K n (PSt s b d l)) : Fn P Um AZ (PSt s a d l) K :=
 (h s a d l ha hs hp).to fun (q : Int) (e : Aa) hq => by
  obtain ⟨b, h1, h2, rfl⟩ := hq; exact hk q b h1 h2
theorem Rp {s : Bs} {a : Nat} {n : Int} {b : Nat} (h : R7 s a = some (n, b)) : EW s a = some (n, b) ∧ n ≤ 100 := by
 unfold R7 at h; split at h
 ·cases h
 ·rename_i n' b' e; split at h
  ·cases h
  ·cases h; exact ⟨e, by omega⟩
theorem Ro {s : Bs} {a : Nat} (h : R7 s a = none) : ∀ n b, EW s a = some (n, b) → n > 100 := by
 intro n b e; unfold R7 at h; rw [e] at h; dsimp only at h; split at h
 ·assumption
 ·cases h
def Ht (P : Pg) : Prop := ∀ (s : Bs) (a : Nat) (d : Int) (l : List Node), a < s.length → s.length ≤ 1000000 → (B4 s a = none → P.kp (Kl 40)) → Fn P XJ Bf (PSt s (a + 1) d l) fun (q : Int × Int) (e : Aa) => ∃ b : Nat, B4 s a = some (q.1, (q.2, b)) ∧ e = PSt s (b + 1) d l
theorem Vs (h : Has P CY) (hN : Hu P) (hH : FY P) (hM : Fp P) : Ht P := by
 intro s a d l ha hs hp; refine Jm h ?_; unfold FP; dsimp only; refine hN.at (by omega) hs ?_ ?_
 ·intro hn; refine hp ?_; unfold B4
  cases e : EW s (a + 1) with
  | none => rfl
  | some x =>
   obtain ⟨n, b⟩ := x; have := Ro hn _ _ e; dsimp only; split
   ·rfl
   ·rw [if_neg (by omega)]
 intro lo nx hn hnx; obtain ⟨hn, hlo⟩ := Rp hn; have hlo0 := (Lp hn).1; unfold B4 at hp ⊢; rw [hn] at hp ⊢; dsimp only at hp ⊢; refine hH.at hnx hs ?_
 refine Ag.mid (fun q => ∃ e : Nat, (if isc s nx 44 = true then (if nx + 1 < s.length ∧ byt s (nx + 1) ≠ 125 then EW s (nx + 1) else some ((-1 : Int), nx + 1)) else some (lo, nx)) = some (q.1, e) ∧ e ≤ s.length ∧ q.1 ≤ 100 ∧ q.2 = PSt s e d l) ⟨fun hc => ?_, fun hc => ?_⟩ ?_
 ·have h44 := RX hc; rw [if_pos hc, if_pos hc]; refine hM.at (by omega) (Ag.of ?_)
  by_cases hl : nx + 1 = s.length
  ·rw [if_pos hl]; refine ⟨fun hc => absurd hc (by simp), fun _ => ⟨nx + 1, ?_, by omega, show (-1 : Int) ≤ 100 by decide, rfl⟩⟩; rw [if_neg (by omega)]
  ·rw [if_neg hl]; refine ⟨fun hc2 => ?_, fun hc2 => ⟨nx + 1, ?_, by omega, show (-1 : Int) ≤ 100 by decide, rfl⟩⟩
   ·have hc2 : byt s (nx + 1) ≠ 125 := by simpa using hc2
    rw [if_pos hc, if_pos ⟨by omega, hc2⟩] at hp; rw [if_pos ⟨by omega, hc2⟩]; refine hN.at (by omega) hs (fun hq => hp ?_) ?_
    ·split
     ·rfl
     ·rename_i n b e; have := Ro hq _ _ e; rw [if_neg (by omega)]
    ·intro n b hq hb; obtain ⟨hq, h100⟩ := Rp hq; exact ⟨b, hq, hb, h100, rfl⟩
   ·have hc2 : byt s (nx + 1) = 125 := by simpa using hc2
    rw [if_neg (fun x => x.2 hc2)]
 ·rw [hc, if_neg (by simp)]; exact ⟨nx, rfl, hnx, hlo, rfl⟩
 ·rintro ⟨hi, r⟩ ⟨e, he, hel, h100, hr⟩; dsimp only at he h100 hr ⊢; subst hr; rw [he] at hp ⊢; dsimp only at hp ⊢; refine hH.at hel hs (Ag.of ⟨fun hc => hp ?_, fun hc => ?_⟩)
  ·rw [if_neg]; rintro ⟨g1, g2, g3, g4⟩; rw [g1] at hc
   by_cases g5 : hi ≥ 0
   ·simp [g5] at hc; omega
   ·simp [g5] at hc
  ·have g1 : isc s e 125 = true := by
    cases g : isc s e 125 with
    | true => rfl
    | false => rw [g] at hc; simp at hc
   rw [if_pos]
   ·rw [if_pos g1]; exact ⟨e, rfl, rfl⟩
   ·refine ⟨g1, hlo, h100, ?_⟩; rintro ⟨g2, g3⟩; rw [g1] at hc; simp [g2] at hc; omega
theorem Ht.at (h : Ht P) {s : Bs} {a : Nat} {d : Int} {l : List Node} (ha : a < s.length) (hs : s.length ≤ 1000000) (hp : B4 s a = none → P.kp (Kl 40)) {K : Int × Int → Aa → Prop} (hk : ∀ lo hi b, B4 s a = some (lo, (hi, b)) → K (lo, hi) (PSt s (b + 1) d l)) : Fn P XJ Bf (PSt s (a + 1) d l) K :=
 (h s a d l ha hs hp).to fun (q : Int × Int) (e : Aa) hq => by
  obtain ⟨b, h1, rfl⟩ := hq; exact hk q.1 q.2 b h1
def Qa (s : Bs) (b : Nat) : Option (Option (Int × (Int × Nat))) := if s.length ≤ b then none else D5 s b
def IU (P : Pg) : Prop := ∀ (s : Bs) (a : Nat) (d : Int) (l : List Node), a ≤ s.length → s.length ≤ 1000000 → (Qa s a = some none → P.kp (Kl 40)) → Fn P Aji A7 (PSt s a d l) fun (q : Int × (Int × Bool)) (e : Aa) => match Qa s a with
 | none => q.2.2 = false ∧ e = PSt s a d l
 | some none => False
 | some (some (lo, (hi, b))) => q = (lo, (hi, true)) ∧ e = PSt s (b + 1) d l
theorem Xu (h : Has P Cn) (hH : FY P) (hB : Ht P) : IU P := by
 intro s a d l ha hs hp; refine HH h ?_; unfold EF; dsimp only; unfold Qa at hp ⊢
 by_cases hl : s.length ≤ a
 ·have hf : ∀ c, isc s a c = false := fun c => I3.2 fun x => by omega
  rw [if_pos hl]; refine Ag.of (hH.at ha hs ?_); rw [hf]; refine ⟨fun hc => absurd hc (by simp), fun _ => hH.at ha hs ?_⟩; rw [hf]; refine ⟨fun hc => absurd hc (by simp), fun _ => hH.at ha hs ?_⟩; rw [hf]; refine ⟨fun hc => absurd hc (by simp), fun _ => hH.at ha hs ?_⟩; rw [hf]; exact ⟨fun hc => absurd hc (by simp), fun _ => ⟨rfl, rfl⟩⟩
 ·rw [if_neg hl] at hp ⊢
  have no : ∀ {c : Int}, isc s a c = false → ¬ byt s a = c := fun h x => (I3.1 h) ⟨by omega, x⟩
  unfold D5 at hp ⊢; refine Ag.of (hH.at ha hs ⟨fun hc => ?_, fun hc => ?_⟩)
  ·rw [if_pos hc, if_pos (RX hc).2]; exact ⟨rfl, rfl⟩
  rw [if_neg (no hc)] at hp ⊢; rw [hc, if_neg (by simp)]; refine hH.at ha hs ⟨fun hc => ?_, fun hc => ?_⟩
  ·rw [if_pos hc, if_pos (RX hc).2]; exact ⟨rfl, rfl⟩
  rw [if_neg (no hc)] at hp ⊢; rw [hc, if_neg (by simp)]; refine hH.at ha hs ⟨fun hc => ?_, fun hc => ?_⟩
  ·rw [if_pos hc, if_pos (RX hc).2]; exact ⟨rfl, rfl⟩
  rw [if_neg (no hc)] at hp ⊢; rw [hc, if_neg (by simp)]; refine hH.at ha hs ⟨fun hc => ?_, fun hc => ?_⟩
  ·rw [if_pos (RX hc).2] at hp ⊢; rw [if_pos hc]; refine hB.at (by omega) hs (fun hn => hp (by rw [hn])) ?_; intro lo hi b hb; rw [hb]; exact ⟨rfl, rfl⟩
  ·rw [if_neg (no hc), hc, if_neg (by simp)]; exact ⟨rfl, rfl⟩
def Jg (P : Pg) : Prop := ∀ x : Bs × Int, 0 ≤ x.2 → x.2 ≤ 255 → Fn P "strings.IndexByte" Dt x fun (d : Int) _ => (d ≥ 0 ↔ ∃ b ∈ x.1, ((b.toNat : Nat) : Int) = x.2)
def isQ (c : Int) : Prop := c = 42 ∨ c = 43 ∨ c = 63 ∨ c = 123
instance (c : Int) : Decidable (isQ c) := by unfold isQ; infer_instance
def FZ (P : Pg) : Prop := ∀ (s : Bs) (a : Nat) (d : Int) (l : List Node) (k : Int), a < s.length → s.length ≤ 1000000 → l.length ≤ 1000000000 → (a + 1 < s.length ∧ isQ (byt s (a + 1)) → P.kp (Kl 40)) → Fn P Sv AY (PSt s a d l, k) fun (q : Int) (e : Aa) => ¬ (a + 1 < s.length ∧ isQ (byt s (a + 1))) ∧ q = (l.length : Int) ∧ e = PSt s (a + 1) d (l ++ [HM k])
theorem Vq (h : Has P CX) (hA : Gq P) (hM : Fp P) (hI : Jg P) : FZ P := by
 intro s a d l k ha hs hl hp; refine Jl h ?_; unfold FO; dsimp only; rw [wp1 (by omega) hs]; refine hA.at hl (hM.at (by omega) ?_)
 by_cases he : a + 1 = s.length
 ·rw [if_pos he]
  refine Ag.mid (fun _ => True) ⟨fun hc => absurd hc (by simp), fun _ => trivial, trivial⟩ fun q _ => Ag.of ⟨fun hc => absurd hc (by simp), fun _ => ⟨fun x => by omega, rfl, rfl⟩⟩
 ·rw [if_neg he]; refine Ag.mid (fun q => q ≥ 0 ↔ isQ (byt s (a + 1))) ⟨fun _ => (hI (([42, 43, 63, 123] : Bs), byt s (a + 1)) (CQ s (a + 1)).1 (CQ s (a + 1)).2).to ?_, fun hc => absurd hc (by simp), trivial⟩ ?_
  ·rintro (q : Int) _ hq; have hq : q ≥ 0 ↔ ∃ b ∈ ([42, 43, 63, 123] : Bs), ((b.toNat : Nat) : Int) = byt s (a + 1) := hq; show q ≥ 0 ↔ isQ (byt s (a + 1)); rw [hq]; unfold isQ; simp only [List.mem_cons, List.not_mem_nil, or_false, exists_eq_or_imp, exists_eq_left]; constructor
   ·rintro (g | g | g | g)
    ·exact .inl g.symm
    ·exact .inr (.inl g.symm)
    ·exact .inr (.inr (.inl g.symm))
    ·exact .inr (.inr (.inr g.symm))
   ·rintro (g | g | g | g)
    ·exact .inl g.symm
    ·exact .inr (.inl g.symm)
    ·exact .inr (.inr (.inl g.symm))
    ·exact .inr (.inr (.inr g.symm))
  ·intro q hq; refine Ag.of ⟨fun hc => hp ⟨by omega, hq.1 (by simpa using hc)⟩, fun hc => ⟨fun x => ?_, rfl, rfl⟩⟩; have := hq.2 x.2
   have hc : ¬ q ≥ 0 := by simpa using hc
   exact hc this
def K9 (P : Pg) : Prop := ∀ (s : Bs) (a : Nat) (d : Int) (l : List Node), a < s.length → s.length ≤ 1000000 → l.length ≤ 1000000000 → Fn P Us Cs (PSt s a d l) fun (q : Int) (e : Aa) => q = (l.length : Int) ∧ e = PSt s (a + 1) d (l ++ [setNode (GM z4)])
theorem ZR (h : Has P DF) (hC : IQ P) (hS : Kd P) : K9 P := by
 intro s a d l ha hs hl; refine Ly h ?_; unfold Hx; dsimp only; rw [wp1 (by omega) hs]; exact hC.at (hS.at hl ⟨rfl, rfl⟩)
def F0 (P : Pg) : Prop := ∀ (s : Bs) (a : Nat) (d : Int) (l : List Node), a < s.length → s.length ≤ 1000000 → l.length ≤ 1000000000 → (s.length ≤ a + 1 → P.kp (Kl 40)) → Fn P Ut BX (PSt s a d l) fun (q : Int) (e : Aa) => ¬ s.length ≤ a + 1 ∧ q = (l.length : Int) ∧ e = PSt s (a + 2) d (l ++ [setNode (EG z4 (byt s (a + 1)))])
theorem Vt (h : Has P CZ) (hT : Jh P) (hW : G2 P) (hS : Kd P) : F0 P := by
 intro s a d l ha hs hl hp; refine Jn h ?_; unfold FQ; dsimp only; rw [wp1 (by omega) hs]; have hb := CQ s (a + 1)
 exact hT.at (by omega) hs (fun x => hp (by omega)) fun hlt => hW.at hb.1 hb.2 (hS.at hl ⟨by omega, rfl, rfl⟩)
def F4 (P : Pg) : Prop := ∀ (s : Bs) (a : Nat) (d : Int) (l : List Node), a < s.length → s.length ≤ 1000000 → l.length ≤ 1000000000 → Fn P XD BZ (PSt s a d l) fun (q : Int) (e : Aa) => q = (l.length : Int) ∧ e = PSt s (a + 1) d (l ++ [setNode (EG z4 (byt s a))])
theorem Vv (h : Has P C1) (hT : Jh P) (hW : G2 P) (hS : Kd P) : F4 P := by
 intro s a d l ha hs hl; refine Jp h ?_; unfold FT; dsimp only; have hb := CQ s a
 exact hT.at (by omega) hs (fun x => by omega) fun hlt => hW.at hb.1 hb.2 (hS.at hl ⟨rfl, rfl⟩)
def Nt (c : Int) : Int := if c = 40 then 0 else if c = 91 then 1 else if c = 46 then 2 else if c = 92 then 3 else 4
def Kc (P : Pg) : Prop := ∀ (s : Bs) (a : Nat) (d : Int) (l : List Node) (c : Int), (isQ c → P.kp (Kl 40)) → Fn P Ajg BH (PSt s a d l, c) fun (q : Int) (e : Aa) => ¬ isQ c ∧ q = Nt c ∧ e = PSt s a d l
theorem YU (h : Has P Dp) : Kc P := by
 intro s a d l c hp; refine Kv h ?_; unfold GW Nt isQ at *; dsimp only; refine Ag.mid (fun _ => c ≠ 40 ∧ c ≠ 91 ∧ c ≠ 46 ∧ c ≠ 92 ∧ ¬ (c = 42 ∨ c = 43 ∨ c = 63 ∨ c = 123)) ⟨fun hc => ?_, fun h1 => ⟨fun hc => ?_, fun h2 => ⟨fun hc => ?_, fun h3 => ⟨fun hc => ?_, fun h4 => ?_⟩⟩⟩⟩ ?_
 ·have hc : c = 40 := by simpa using hc
  subst hc; exact ⟨by decide, rfl, rfl⟩
 ·have hc : c = 91 := by simpa using hc
  subst hc; exact ⟨by decide, rfl, rfl⟩
 ·have hc : c = 46 := by simpa using hc
  subst hc; exact ⟨by decide, rfl, rfl⟩
 ·have hc : c = 92 := by simpa using hc
  subst hc; exact ⟨by decide, rfl, rfl⟩
 ·have h1 : c ≠ 40 := by simpa using h1
  have h2 : c ≠ 91 := by simpa using h2
  have h3 : c ≠ 46 := by simpa using h3
  have h4 : c ≠ 92 := by simpa using h4
  refine Ag.mid (fun q => q = true ↔ (c = 42 ∨ c = 43 ∨ c = 63 ∨ c = 123)) ⟨fun hc => ?_, fun g1 => Ag.of ⟨fun hc => ?_, fun g2 => Ag.of ⟨fun hc => ?_, fun g3 => ?_⟩⟩⟩ ?_
  ·simp at hc; simp [hc]
  ·simp at hc; simp [hc]
  ·simp at hc; simp [hc]
  ·simp at g1 g2 g3; simp [g1, g2, g3]
  ·intro q hq; refine Ag.of ⟨fun hc => hp (hq.1 hc), fun hc => ⟨h1, h2, h3, h4, fun x => ?_⟩⟩; rw [hq.2 x] at hc; cases hc
 ·rintro _ ⟨h1, h2, h3, h4, h5⟩; exact ⟨h5, by rw [if_neg h1, if_neg h2, if_neg h3, if_neg h4], rfl⟩
theorem ofInt_u64 (x : BitVec 64) : Qa1 64 (IntKind.u64.wrap ((Qa6 x : Nat) : Int)) = x := by
 have e : IntKind.u64.wrap ((Qa6 x : Nat) : Int) = ((Qa6 x : Nat) : Int) := by
  have := x.isLt; unfold IntKind.wrap; simp only [IntKind.signed, IntKind.bits, Bool.false_and]; show ((Qa6 x : Nat) : Int) % 2 ^ 64 = _; omega
 rw [e]; apply BitVec.eq_of_toNat_eq; rw [BitVec.toNat_ofInt]; have := x.isLt; omega
theorem Zz (w : Int) (A B : BitVec 64) : IntKind.u64.wrap ((Qa6 (Qa1 64 (IntKind.u64.wrap ((Qa6 (Qa1 64 w ||| A) : Nat) : Int)) ||| B) : Nat) : Int) = IntKind.u64.wrap ((Qa6 (Qa1 64 (IntKind.u64.wrap ((Qa6 (Qa1 64 w ||| B) : Nat) : Int)) ||| A) : Nat) : Int) := by
 rw [ofInt_u64, ofInt_u64, BitVec.or_assoc, BitVec.or_comm A, ← BitVec.or_assoc]
theorem Nc (w a b : Int) : orW (orW w a) b = orW (orW w b) a := by
 unfold orW; exact Zz w _ _
theorem Xe (w : Bb) (a b : Int) : EG (EG w a) b = EG (EG w b) a := by
 obtain ⟨x, y, z, t⟩ := w; unfold EG; dsimp only; generalize (a / 64).toNat = i; generalize (b / 64).toNat = j
 match i, j with
 | 0, 0 => simp [Nc]
 | 0, 1 => simp
 | 0, 2 => simp
 | 0, 3 => simp
 | 0, j + 4 => simp
 | 1, 0 => simp
 | 1, 1 => simp [Nc]
 | 1, 2 => simp
 | 1, 3 => simp
 | 1, j + 4 => simp
 | 2, 0 => simp
 | 2, 1 => simp
 | 2, 2 => simp [Nc]
 | 2, 3 => simp
 | 2, j + 4 => simp
 | 3, 0 => simp
 | 3, 1 => simp
 | 3, 2 => simp
 | 3, 3 => simp [Nc]
 | 3, j + 4 => simp
 | i + 4, 0 => simp
 | i + 4, 1 => simp
 | i + 4, 2 => simp
 | i + 4, 3 => simp
 | i + 4, j + 4 => simp
def XA : Nat → Int → List Int
 | 0, _ => []
 | n + 1, c => c :: XA n (c + 1)
theorem RA : ∀ (n : Nat) (c : Int) (w : Bb), EH n c w = (XA n c).foldl EG w
 | 0, _, _ => rfl
 | n + 1, c, w => by rw [EH, XA, Qd8, RA n]
theorem Ff (nm : Bs) : ∀ (n : Nat) (c : Int) (w : Bb), N3 nm n c w = ((XA n c).filter fun c => (E6 nm c).1).foldl EG w
 | 0, _, _ => rfl
 | n + 1, c, w => by
  rw [N3, XA, List.filter_cons, Ff nm n]
  split <;> rfl
theorem Ge {l m : List Int} (h : l.isPerm m = true) (w : Bb) : l.foldl EG w = m.foldl EG w := (List.isPerm_iff.1 h).foldl_eq' (fun _ _ _ _ _ => Xe ..) w
theorem Ca (a b : Int) (w : Bb) : Bp a b w = (XA (b + 1 - a).toNat a).foldl EG w := RA ..
theorem Tw (w : Bb) : Bp 65 90 (Bp 97 122 w) = Cq NN w := by
 unfold Cq; rw [Ff, Ca, Ca, ← Qb3]; exact Ge (by decide +kernel) w
theorem Tx (w : Bb) : Bp 48 57 w = Cq NO w := by
 unfold Cq; rw [Ff, Ca]; exact Ge (by decide +kernel) w
theorem Tv (w : Bb) : Bp 48 57 (Bp 65 90 (Bp 97 122 w)) = Cq NM w := by
 unfold Cq; rw [Ff, Ca, Ca, Ca, ← Qb3, ← Qb3]; exact Ge (by decide +kernel) w
theorem TD (w : Bb) : Bp 65 90 w = Cq NS w := by
 unfold Cq; rw [Ff, Ca]; exact Ge (by decide +kernel) w
theorem Ty (w : Bb) : Bp 97 122 w = Cq NP w := by
 unfold Cq; rw [Ff, Ca]; exact Ge (by decide +kernel) w
theorem TA (w : Bb) : EG (Bp 9 13 w) 32 = Cq NR w := by
 have e : ∀ v : Bb, EG v 32 = ([32] : List Int).foldl EG v := fun _ => rfl
 unfold Cq; rw [Ff, Ca, e, ← Qb3]; exact Ge (by decide +kernel) w
theorem Tz (w : Bb) : Bp 123 126 (Bp 91 96 (Bp 58 64 (Bp 33 47 w))) = Cq NQ w := by
 unfold Cq; rw [Ff, Ca, Ca, Ca, Ca, ← Qb3, ← Qb3, ← Qb3]; exact Ge (by decide +kernel) w
def NI (P : Pg) : Prop := ∀ (w : Bb) (nm : Bs), ((E6 nm 0).2 = false → P.kp (Kl 40)) → Fn P Ajj BV (w, nm) fun (q : Bb) _ => (E6 nm 0).2 = true ∧ q = Cq nm w
theorem Xt (h : Has P Ee) (hT : F5 P) (hW : G2 P) : NI P := by
 intro w nm hp; refine Mc h ?_; unfold Ik; dsimp only; refine Ag.mid (fun _ => nm ≠ NN ∧ nm ≠ NO ∧ nm ≠ NM ∧ nm ≠ NS ∧ nm ≠ NP ∧ nm ≠ NR ∧ nm ≠ NQ) ⟨fun hc => ?_, fun h1 => ⟨fun hc => ?_, fun h2 => ⟨fun hc => ?_, fun h3 => ⟨fun hc => ?_, fun h4 => ⟨fun hc => ?_, fun h5 => ⟨fun hc => ?_, fun h6 => ⟨fun hc => ?_, fun h7 => ?_⟩⟩⟩⟩⟩⟩⟩ ?_
 ·have hc : nm = NN := eq_of_beq hc; subst hc; exact hT.at (by decide) (by decide) (by decide) (by decide) (hT.at (by decide) (by decide) (by decide) (by decide) ⟨rfl, Tw w⟩)
 ·have hc : nm = NO := eq_of_beq hc; subst hc; exact hT.at (by decide) (by decide) (by decide) (by decide) ⟨rfl, Tx w⟩
 ·have hc : nm = NM := eq_of_beq hc; subst hc; exact hT.at (by decide) (by decide) (by decide) (by decide) (hT.at (by decide) (by decide) (by decide) (by decide) (hT.at (by decide) (by decide) (by decide) (by decide) ⟨rfl, Tv w⟩))
 ·have hc : nm = NS := eq_of_beq hc; subst hc; exact hT.at (by decide) (by decide) (by decide) (by decide) ⟨rfl, TD w⟩
 ·have hc : nm = NP := eq_of_beq hc; subst hc; exact hT.at (by decide) (by decide) (by decide) (by decide) ⟨rfl, Ty w⟩
 ·have hc : nm = NR := eq_of_beq hc; subst hc; exact hT.at (by decide) (by decide) (by decide) (by decide) (hW.at (by decide) (by decide) ⟨rfl, TA w⟩)
 ·have hc : nm = NQ := eq_of_beq hc; subst hc; exact hT.at (by decide) (by decide) (by decide) (by decide) (hT.at (by decide) (by decide) (by decide) (by decide) (hT.at (by decide) (by decide) (by decide) (by decide) (hT.at (by decide) (by decide) (by decide) (by decide) ⟨rfl, Tz w⟩)))
 ·have f : ∀ {b : Bs}, (nm == b) = false → nm ≠ b := fun h x => by rw [x] at h; simp at h
  exact ⟨f h1, f h2, f h3, f h4, f h5, f h6, f h7⟩
 ·rintro _ ⟨h1, h2, h3, h4, h5, h6, h7⟩; refine hp ?_; unfold E6; rw [if_neg h1, if_neg h2, if_neg h3, if_neg h4, if_neg h5, if_neg h6, if_neg h7]
def Jf (P : Pg) : Prop := ∀ x : Bs × Bs, Fn P "strings.CutPrefix" Ds x fun (d : Bs × Bool) _ => d = (Lib.trimPrefix x.1 x.2, Lib.hasPrefix x.1 x.2)
def Uy (P : Pg) : Prop := ∀ x : Bs × Bs, x.1.length < 4294967281 → Fn P "strings.Cut" Gp x fun (d : Bs × (Bs × Bool)) _ => d = Lib.cut x.1 x.2
theorem Aa6 {s : Bs} {i : Nat} {x y : UInt8} : ([x, y] : Bs).isPrefixOf (s.drop i) = true ↔ i + 1 < s.length ∧ byt s i = ((x.toNat : Nat) : Int) ∧ byt s (i + 1) = ((y.toNat : Nat) : Int) := by
 by_cases h : i + 1 < s.length
 ·have e1 : byt s i = (((s[i]'(by omega)).toNat : Nat) : Int) := by unfold byt; simp [Qb1, show i < s.length by omega]
  have e2 : byt s (i + 1) = (((s[i + 1]'h).toNat : Nat) : Int) := by unfold byt; simp [Qb1, h]
  rw [Qd4 (show i < s.length by omega), Qd4 h, e1, e2]; simp only [List.isPrefixOf, Qb0, beq_iff_eq, and_true]; constructor
  ·rintro ⟨rfl, rfl⟩; exact ⟨h, rfl, rfl⟩
  ·rintro ⟨_, h1, h2⟩; exact ⟨UInt8.toNat_inj.1 (by omega), UInt8.toNat_inj.1 (by omega)⟩
 ·constructor
  ·intro h2; have := (List.isPrefixOf_iff_prefix.1 h2).length_le; simp at this; omega
  ·intro x; exact absurd x.1 h
def Zc (s : Bs) (i : Nat) : Prop := i + 1 < s.length ∧ byt s i = 58 ∧ byt s (i + 1) = 93
theorem Ow {s : Bs} : ∀ (f i : Nat), s.length - i ≤ f → (s.length ≤ Ct s f i + 1 ∨ Zc s (Ct s f i)) ∧ ∀ j, i ≤ j → j < Ct s f i → ¬ Zc s j ∧ j + 1 < s.length
 | 0, i, h => ⟨.inl (by rw [Ct]; omega), fun j h1 h2 => by rw [Ct] at h2; omega⟩
 | f + 1, i, h => by
  rw [Ct]; split
  ·rename_i hc; obtain ⟨h1, h2⟩ := Ow (s := s) f (i + 1) (by omega); refine ⟨h1, fun j j1 j2 => ?_⟩
   rcases Qb5 i j with g | g
   ·exact h2 j g j2
   ·have : j = i := by omega
    subst this; exact ⟨fun x => hc.2 x.2, hc.1⟩
  ·rename_i hc; refine ⟨?_, fun j h1 h2 => by omega⟩
   by_cases g : i + 1 < s.length
   ·refine .inr ⟨g, ?_⟩
    by_cases g2 : byt s i = 58 ∧ byt s (i + 1) = 93
    ·exact g2
    ·exact absurd ⟨g, g2⟩ hc
   ·exact .inl (by omega)
theorem WE {s : Bs} {a : Nat} (ha : a ≤ s.length) : (Lib.cut (s.drop a) [58, 93]).2.2 = decide (CH s a + 1 < s.length) ∧ (CH s a + 1 < s.length → (Lib.cut (s.drop a) [58, 93]).1 = (s.take (CH s a)).drop a ∧ a ≤ CH s a) := by
 have hge := Lg s s.length a; obtain ⟨c1, c2⟩ := Ow (s := s) s.length a (by omega)
 have ho : ∀ j, Lib.occAt (s.drop a) [58, 93] j = true ↔ Zc s (a + j) := by
  intro j; unfold Lib.occAt Zc; rw [List.drop_drop, Aa6]; rfl
 unfold CH; unfold Lib.cut
 rcases Lib.index_spec (s.drop a) [58, 93] with ⟨h1, h2⟩ | ⟨i, h1, h2, h3, h4⟩
 ·have hn : ¬ Ct s s.length a + 1 < s.length := by
   intro x; have hocc := c1.resolve_left (by omega); have := (ho (Ct s s.length a - a)).2 (by rw [show a + (Ct s s.length a - a) = Ct s s.length a by omega]; exact hocc)
   have h2 := h2 (Ct s s.length a - a) (by simp; omega)
   rw [this] at h2; cases h2
  rw [h1, if_neg (by decide)]; exact ⟨by simp [hn], fun x => absurd x hn⟩
 ·have hocc := (ho i).1 h3
  have e : Ct s s.length a = a + i := by
   rcases Qd2 (Ct s s.length a) (a + i) with g | g | g
   ·have h5 := hocc.1; have hoc := c1.resolve_left (by omega); have h4 := h4 (Ct s s.length a - a) (by omega); have := (ho (Ct s s.length a - a)).2 (by rw [show a + (Ct s s.length a - a) = Ct s s.length a by omega]; exact hoc)
    rw [this] at h4; cases h4
   ·exact g
   ·exact absurd hocc (c2 (a + i) (by omega) g).1
  rw [h1, if_pos (by omega), e]; refine ⟨by simpa using hocc.1, fun _ => ⟨?_, by omega⟩⟩; show (s.drop a).take ((i : Int)).toNat = _; rw [List.drop_take, show a + i - a = i by omega]; rfl
def Iq (s : Bs) (w : Bb) (a : Nat) : Option (Bb × Nat) := G5 (fun w b => some (w, b)) s w a
theorem MO (rec : Bb → Nat → Option (Bb × Nat)) (s : Bs) (w : Bb) (a : Nat) : G5 rec s w a = (Iq s w a).bind fun x => rec x.1 x.2 := by
 unfold Iq G5
 by_cases h1 : s.length ≤ a
 ·rw [if_pos h1, if_pos h1]; rfl
 rw [if_neg h1, if_neg h1]
 by_cases h2 : (isc s a 91 && isc s (a + 1) 58) = true
 ·rw [if_pos h2, if_pos h2]
  by_cases h3 : (E6 ((s.take (CH s (a + 2))).drop (a + 2)) 0).2 = false ∨ s.length ≤ CH s (a + 2) + 1
  ·rw [if_pos h3, if_pos h3]; rfl
  ·rw [if_neg h3, if_neg h3, Qc1]
 rw [if_neg h2, if_neg h2]
 by_cases h4 : a + 2 < s.length ∧ byt s (a + 1) = 45 ∧ byt s (a + 2) ≠ 93
 ·rw [if_pos h4, if_pos h4]
  by_cases h5 : byt s (a + 2) < byt s a
  ·rw [if_pos h5, if_pos h5]; rfl
  ·rw [if_neg h5, if_neg h5, Qc1]
 ·rw [if_neg h4, if_neg h4, Qc1]
theorem Sd (c : Int) (w : Bb) : Bp c c w = EG w c := by
 unfold Bp; rw [show (c + 1 - c).toNat = 0 + 1 by omega, EH, EH]
def Kb (P : Pg) : Prop := ∀ (s : Bs) (a : Nat) (d : Int) (l : List Node) (w : Bb), a ≤ s.length → s.length ≤ 1000000 → (Iq s w a = none → P.kp (Kl 40)) → Fn P Uo A9 (PSt s a d l, w) fun (q : Bb) (e : Aa) => ∃ b : Nat, Iq s w a = some (q, b) ∧ a < b ∧ b ≤ s.length ∧ e = PSt s b d l
theorem YT (h : Has P Dm) (hCP : Jf P) (hC : Uy P) (hN : NI P) (hT : Jh P) (hW : G2 P) (hTh : F5 P) : Kb P := by
 intro s a d l w ha hs hp; refine Ks h ?_; unfold GU; dsimp only; refine Ag.mid (fun q => (q.2 = true ↔ a + 1 < s.length ∧ byt s a = 91 ∧ byt s (a + 1) = 58) ∧ (q.2 = true → q.1 = s.drop (a + 2))) ⟨⟨by omega, by omega⟩, (hCP (s.drop a, ([91, 58] : Bs))).to ?_, trivial⟩ ?_
 ·rintro (q : Bs × Bool) _ hq; have hq : q = (Lib.trimPrefix (s.drop a) [91, 58], Lib.hasPrefix (s.drop a) [91, 58]) := hq
  have hk : (q.2 = true ↔ a + 1 < s.length ∧ byt s a = 91 ∧ byt s (a + 1) = 58) ∧ (q.2 = true → q.1 = s.drop (a + 2)) := by
   subst hq; constructor
   ·unfold Lib.hasPrefix; dsimp only; rw [Aa6]; rfl
   ·intro hb; dsimp only at hb ⊢; unfold Lib.trimPrefix; rw [if_pos hb, List.drop_drop]; rfl
  repeat' apply And.intro
  all_goals first | exact trivial | exact hk.1 | exact hk.2
 rintro ⟨q1, q2⟩ ⟨hq, hr⟩; dsimp only at hq hr ⊢; have hitem : Iq s w a = Iq s w a := rfl; unfold Iq G5 at hp
 conv at hitem => rhs; unfold Iq G5
 refine ⟨fun hb => ?_, fun hb => ?_⟩
 ·have h1 := hq.1 hb; have hr := hr hb; subst hr; have c1 : isc s a 91 = true := Bi.2 ⟨by omega, h1.2.1⟩; have c2 : isc s (a + 1) 58 = true := Bi.2 ⟨h1.1, h1.2.2⟩
  have c3 : ¬ s.length ≤ a := by omega
  rw [if_neg c3, c1, c2, if_pos (by rfl)] at hp hitem; obtain ⟨k1, k2⟩ := WE (s := s) (a := a + 2) (by omega); refine (hC (s.drop (a + 2), ([58, 93] : Bs)) (by simp; omega)).to ?_
  rintro (q : Bs × (Bs × Bool)) _ hq; have hq : q = Lib.cut (s.drop (a + 2)) [58, 93] := hq; rw [← hq] at k1 k2; clear hq
  by_cases hf : CH s (a + 2) + 1 < s.length
  ·obtain ⟨k3, k4⟩ := k2 hf; refine Ag.of ⟨fun hc => by rw [k1] at hc; simp [hf] at hc, fun _ => ?_⟩
   rw [k3]
   have hlen : ((s.take (CH s (a + 2))).drop (a + 2)).length = CH s (a + 2) - (a + 2) := by simp; omega
   refine (hN w _ fun hn => hp ?_).to ?_
   ·rw [if_pos (.inl hn)]
   ·rintro (v : Bb) _ ⟨hv1, hv2⟩; rw [if_neg (by rw [hv1]; simp; omega)] at hitem
    refine ⟨CH s (a + 2) + 2, ?_, by omega, by omega, ?_⟩
    ·rw [hitem, hv2]
    ·rw [hlen, w64 (n := 2 + ((CH s (a + 2) - (a + 2) : Nat) : Int)) (by omega) (by omega), w64 (n := 2 + ((CH s (a + 2) - (a + 2) : Nat) : Int) + 2) (by omega) (by omega), w64 (by omega) (by omega)]; show (s, (_, _)) = (s, (_, _))
     congr 2
     omega
  ·refine Ag.mid (fun _ => False) ⟨fun _ => hp ?_, fun hc => by rw [k1] at hc; simp [hf] at hc⟩ (fun _ h => h.elim)
   rw [if_pos (.inr (by omega))]
 ·have h1 : ¬ (a + 1 < s.length ∧ byt s a = 91 ∧ byt s (a + 1) = 58) := fun x => by rw [hq.2 x] at hb; cases hb
  have c1 : ¬ (isc s a 91 && isc s (a + 1) 58) = true := by
   intro x; rw [Qb0] at x; have := RX x.1; have := RX x.2; exact h1 ⟨by omega, by omega, by omega⟩
  rw [if_neg c1] at hp hitem
  refine hT.at ha hs (fun x => hp (by rw [if_pos (by omega)])) fun hlt => ?_
  rw [if_neg (show ¬ s.length ≤ a by omega)] at hp hitem; have hb0 := CQ s a; have hb2 := CQ s (a + 2); refine Ag.mid (fun q => q = s.drop (a + 1)) ⟨⟨show (0 : Int) ≤ ((a + 1 : Nat) : Int) by omega, show ((a + 1 : Nat) : Int) ≤ ((s.length : Nat) : Int) by omega⟩, rfl, trivial⟩ ?_; rintro _ rfl
  have e0 : ((UInt8.toNat (Qb1 (s.drop (a + 1)) (Qb2 0) 0) : Nat) : Int) = byt s (a + 1) := by
   unfold byt; show (((Qb1 (s.drop (a + 1)) 0 0).toNat : Nat) : Int) = _; rw [Qa0, Qa0, List.getElem?_drop]
  have e1 : ((UInt8.toNat (Qb1 (s.drop (a + 1)) (Qb2 1) 0) : Nat) : Int) = byt s (a + 2) := by
   unfold byt; show (((Qb1 (s.drop (a + 1)) 1 0).toNat : Nat) : Int) = _; rw [Qa0, Qa0, List.getElem?_drop]
  have el : ((Qa5 (s.drop (a + 1)) : Nat) : Int) = (s.length : Int) - (a + 1) := by
   rw [List.length_drop]; omega
  rw [e0, e1, el]
  have hcond : (cond (cond (decide ((s.length : Int) - (a + 1) < 2)) true (byt s (a + 1) != 45)) true (byt s (a + 2) == 93)) = decide (¬ (a + 2 < s.length ∧ byt s (a + 1) = 45 ∧ byt s (a + 2) ≠ 93)) := by
   by_cases g1 : (s.length : Int) - (a + 1) < 2
   ·have : ¬ a + 2 < s.length := by omega
    simp [g1, this]
   ·have : a + 2 < s.length := by omega
    by_cases g2 : byt s (a + 1) = 45
    ·by_cases g3 : byt s (a + 2) = 93
     ·simp [g1, g2, g3]
     ·simp [g1, g2, g3, this]
    ·simp [g1, g2]
  rw [hcond]; refine ⟨fun hc => ?_, fun hc => ?_, fun hc => ?_, fun hc => ?_⟩
  ·have := of_decide_eq_false hc; omega
  ·by_cases g1 : (s.length : Int) - (a + 1) < 2
   ·simp [g1] at hc
   ·omega
  ·have hc := of_decide_eq_true hc; rw [if_neg hc] at hitem; refine hW.at hb0.1 hb0.2 ⟨a + 1, ?_, by omega, by omega, rfl⟩; rw [hitem, Sd]
  ·have hc := of_decide_eq_false hc; have hc : a + 2 < s.length ∧ byt s (a + 1) = 45 ∧ byt s (a + 2) ≠ 93 := Decidable.not_not.1 hc; rw [if_pos hc] at hp hitem; refine ⟨by omega, ?_⟩
   by_cases hlt2 : byt s (a + 2) < byt s a
   ·rw [if_pos hlt2] at hp; exact Ag.mid (fun _ => False) ⟨fun _ => hp rfl, fun h => absurd hlt2 (of_decide_eq_false h)⟩ (fun _ h => h.elim)
   ·rw [if_neg hlt2] at hitem; refine Ag.of ⟨fun h => absurd (of_decide_eq_true h) hlt2, fun _ => ?_⟩; refine Ag.mid (fun q => q = Bp (byt s a) (byt s (a + 2)) w) ⟨by omega, hTh.at hb0.1 hb0.2 hb2.1 hb2.2 ⟨rfl, trivial⟩, trivial⟩ ?_; rintro _ rfl; refine ⟨a + 3, hitem, by omega, by omega, ?_⟩; rw [wp2 (a := a + 1) (by omega) hs]
theorem Kb.at (h : Kb P) {s : Bs} {a : Nat} {d : Int} {l : List Node} {w : Bb} (ha : a ≤ s.length) (hs : s.length ≤ 1000000) (hp : Iq s w a = none → P.kp (Kl 40)) {K : Bb → Aa → Prop} (hk : ∀ v b, Iq s w a = some (v, b) → a < b → b ≤ s.length → K v (PSt s b d l)) : Fn P Uo A9 (PSt s a d l, w) K :=
 (h s a d l w ha hs hp).to fun (q : Bb) (e : Aa) hq => by
  obtain ⟨b, h1, h2, h3, rfl⟩ := hq; exact hk q b h1 h2 h3
def Hl (P : Pg) : Prop := ∀ (s : Bs) (a : Nat) (d : Int) (l : List Node), a < s.length → s.length ≤ 1000000 → l.length ≤ 1000000000 → (HE s (a + 1) = none → P.kp (Kl 40)) → Fn P Ur B9 (PSt s a d l) fun (q : Int) (e : Aa) => ∃ (w : Bb) (b : Nat), HE s (a + 1) = some (w, b) ∧ q = (l.length : Int) ∧ e = PSt s b d (l ++ [setNode w])
theorem Xs (h : Has P C9) (hH : FY P) (hI : Kb P) (hC : IQ P) (hS : Kd P) : Hl P := by
 intro s a d l ha hs hl hp; refine JQ h ?_; unfold GA; dsimp only; rw [wp1 (by omega) hs]; refine hH.at (by omega) hs ?_
 have ha1 : (if isc s (a + 1) 94 = true then a + 1 + 1 else a + 1) ≤ s.length := by
  split
  ·rename_i hc; have := (RX hc).1; omega
  ·omega
 unfold HE at hp ⊢; generalize (if isc s (a + 1) 94 = true then a + 1 + 1 else a + 1) = a1 at ha1 hp ⊢
 have key : ∀ (f : Nat) (v : Bb) (b : Nat) (R : Option (Bb × Nat)), (Iq s v b).bind (fun x => Dh s f false x.1 x.2) = R → Iq s v b = none → R = none := fun f v b R h1 h2 => by rw [h2] at h1; exact h1.symm
 have hR : (Iq s z4 a1).bind (fun x => Dh s (s.length + 1) false x.1 x.2) = Dh s (s.length + 2) true z4 a1 := by
  rw [Dh, if_pos (.inl rfl), MO]
 generalize Dh s (s.length + 2) true z4 a1 = R at hR hp ⊢
 refine hI.at ha1 hs (fun hn => hp (by rw [key _ _ _ _ hR hn])) fun v b hv hab hb => ?_
 have hv : Iq s z4 a1 = some (v, b) := hv; rw [hv, Qc1] at hR; dsimp only at hR; refine Ag.mid (fun q => ∃ (v : Bb) (b : Nat), R = some (v, b) ∧ q = (PSt s (b + 1) d l, v)) ?_ ?_
 ·refine B0.of (fun q => ∃ (f : Nat) (v : Bb) (b : Nat), q = (PSt s b d l, v) ∧ b ≤ s.length ∧ s.length + 1 - b ≤ f ∧ Dh s f false v b = R) (fun q => s.length - q.1.2.1.toNat) ⟨s.length + 1, v, b, rfl, hb, by omega, hR⟩ ?_; rintro _ ⟨f, v, b, rfl, hb, hf, hR⟩; dsimp only; refine hH.at hb hs ?_
  cases f with
  | zero => omega
  | succ f =>
   rw [Dh] at hR
   cases hc : isc s b 93 with
   | true =>
    rw [if_pos rfl]; rw [if_neg (by rw [hc]; simp)] at hR
    exact ⟨fun h => absurd h (by simp), fun _ => ⟨v, b, hR.symm, rfl⟩⟩
   | false =>
    rw [if_neg (by simp)]; rw [if_pos (.inr hc), MO] at hR; refine ⟨fun _ => Ag.of (hI.at hb hs (fun hn => hp (by rw [key _ _ _ _ hR hn])) fun v2 b2 hv2 hab2 hb2 => ?_), fun h => absurd h (by simp)⟩; rw [hv2, Qc1] at hR; refine ⟨⟨f, v2, b2, rfl, hb2, by omega, hR⟩, ?_⟩; show s.length - ((b2 : Nat) : Int).toNat < s.length - ((b : Nat) : Int).toNat; omega
 ·rintro _ ⟨v, b, hRv, rfl⟩; subst hRv; dsimp only; refine Ag.mid (fun q => q = (if isc s (a + 1) 94 = true then GM v else v)) ⟨fun hc => ?_, fun hc => ?_⟩ ?_
  ·rw [if_pos hc]; exact hC.at rfl
  ·rw [if_neg (by rw [hc]; simp)]
  ·rintro _ rfl; exact hS.at hl ⟨_, _, rfl, rfl, rfl⟩
def OkR (s : Bs) (d : Int) (R : Eh) (q : Int) (e : Aa) : Prop := ∃ (b : Nat) (l' : List Node), R = .ok (q, (b, l')) ∧ e = PSt s b d l'
def KpR (P : Pg) (R : Eh) : Prop := ∀ c, R = .error c → P.kp (Kl c)
def MD (n : Nat) (P : Pg) : Prop := ∀ (s : Bs) (d : Int) (a : Nat) (l : List Node), s.length ≤ 1000000 → 0 ≤ d → d ≤ 50 → 51 - d ≤ n → a ≤ s.length → l.length ≤ 2 * a → KpR P (CP s n d a l) → Fn P Un AQ (PSt s a d l) fun (q : Int) (e : Aa) => OkR s d (CP s n d a l) q e
section
variable {n : Nat} {s : Bs} {d : Int} {a : Nat} {l : List Node}
theorem Ya (hd : 0 ≤ d) : ∀ a l, a ≤ s.length → CP s n (d + 1) a l = Fj s n (d + 1) a l := fun a l ha => Mn s n (d + 1) (by omega) a l ha
theorem UE (hd : 0 ≤ d) (ha : a < s.length) : Fo s a l 2 (El (CP s n) s d a l) := by
 rw [Oq (Ya hd) ha]; exact L5 (C7 s n) ha
theorem TR (hd : 0 ≤ d) (ha : a < s.length) : Fo s a l 2 (CI (CP s n) s d a l) := by
 rw [JA (Ya hd) ha]; exact KU (C7 s n) ha
theorem Xj (hd : 0 ≤ d) (ha : a ≤ s.length) : Fo s a l 0 (CP s n (d + 1) a l) := by
 rw [Ya hd a l ha]; exact C7 s n _ _ _ ha
theorem U6 (h : Has P A4) (hH : FY P) (hrec : MD n P) (hs : s.length ≤ 1000000) (h0 : 0 ≤ d) (h50 : d ≤ 50) (hn : 51 - d ≤ (n : Int) + 1) (ha : a < s.length) (hl : l.length ≤ 2 * a) (hc : byt s a = 40) (hp : KpR P (El (CP s n) s d a l)) :
  Fn P Uq AP (PSt s a d l) fun (q : Int) (e : Aa) => OkR s d (El (CP s n) s d a l) q e := by
 refine G8 h ?_; unfold Ek; dsimp only; unfold El at hp ⊢; dsimp only at hp ⊢; rw [if_pos hc] at hp ⊢
 by_cases hd : d = 50
 ·rw [if_pos (by omega)] at hp; exact Ag.mid (fun _ => False) ⟨fun _ => hp 1 rfl, fun hc => absurd hd (by simpa using hc)⟩ (fun _ h => h.elim)
 ·rw [if_neg (by omega)] at hp ⊢; refine Ag.of ⟨fun hc => absurd (by simpa using hc) hd, fun _ => ?_⟩; rw [wp1 (by omega) hs, w64 (n := d + 1) (by omega) (by omega)]; have g := Xj (n := n) (d := d) (l := l) h0 (show a + 1 ≤ s.length from ha); refine (hrec s (d + 1) (a + 1) l hs (by omega) (by omega) (by omega) (by omega) (by omega) ?_).to ?_
  ·intro c hc; rw [hc] at hp; exact hp c rfl
  ·rintro (k : Int) (e : Aa) ⟨b, l1, hR, rfl⟩; rw [hR] at hp g ⊢; have g : Grow s (a + 1) l 0 k b l1 := g; dsimp only at hp ⊢; rw [w64 (n := d + 1 - 1) (by omega) (by omega), show d + 1 - 1 = d by omega]; refine hH.at g.hi hs (Ag.of ⟨fun hc => hp 40 ?_, fun hc => ?_⟩)
   ·rw [if_neg (by intro x; rw [x] at hc; cases hc)]
   ·have hc : isc s b 41 = true := by
     cases hx : isc s b 41 with
     | true => rfl
     | false => rw [hx] at hc; cases hc
    rw [if_pos hc, if_pos hc]; exact ⟨_, _, rfl, rfl⟩
theorem Wt (h : Has P A4) (hH : FY P) (hrec : MD n P) (hCl : Hl P) (hAny : K9 P) (hE : F0 P) (hS : F4 P) (hs : s.length ≤ 1000000) (h0 : 0 ≤ d) (h50 : d ≤ 50) (hn : 51 - d ≤ (n : Int) + 1) (ha : a < s.length) (hl : l.length ≤ 2 * a)
  (h41 : byt s a ≠ 41) (h124 : byt s a ≠ 124) (h94 : byt s a ≠ 94) (h36 : byt s a ≠ 36) (hq : ¬ isQ (byt s a)) (hp : KpR P (El (CP s n) s d a l)) :
  Fn P (Qb1 [Uq, Ur, Us, Ut, XD] (Qb2 (Nt (byt s a))) "") AP (PSt s a d l) fun (q : Int) (e : Aa) => OkR s d (El (CP s n) s d a l) q e := by
 by_cases c40 : byt s a = 40
 ·have e : Nt (byt s a) = 0 := by rw [c40]; rfl
  rw [e]; exact U6 h hH hrec hs h0 h50 hn ha hl c40 hp
 have hlen : l.length ≤ 1000000000 := by omega
 unfold El at hp ⊢; dsimp only at hp ⊢; rw [if_neg c40] at hp ⊢
 by_cases c91 : byt s a = 91
 ·have e : Nt (byt s a) = 1 := by rw [c91]; rfl
  rw [e]; rw [if_pos c91] at hp ⊢; refine (hCl s a d l ha hs hlen ?_).to ?_
  ·intro x; rw [x] at hp; exact hp 40 rfl
  ·rintro (q : Int) (e : Aa) ⟨w, b, hw, rfl, rfl⟩; rw [hw]; exact ⟨_, _, rfl, rfl⟩
 rw [if_neg c91] at hp ⊢
 by_cases c46 : byt s a = 46
 ·have e : Nt (byt s a) = 2 := by rw [c46]; rfl
  rw [e]; rw [if_pos c46]; refine (hAny s a d l ha hs hlen).to ?_; rintro (q : Int) (e : Aa) ⟨rfl, rfl⟩; exact ⟨_, _, rfl, rfl⟩
 have hno : ¬ (byt s a = 41 ∨ byt s a = 124 ∨ byt s a = 42 ∨ byt s a = 43 ∨ byt s a = 63 ∨ byt s a = 123) := by
  unfold isQ at hq; omega
 rw [if_neg c46, if_neg h94, if_neg h36, if_neg hno] at hp ⊢
 by_cases c92 : byt s a = 92
 ·have e : Nt (byt s a) = 3 := by rw [c92]; rfl
  rw [e]; rw [if_pos c92] at hp ⊢; refine (hE s a d l ha hs hlen ?_).to ?_
  ·intro x; rw [if_pos x] at hp; exact hp 40 rfl
  ·rintro (q : Int) (e : Aa) ⟨hx, rfl, rfl⟩; rw [if_neg hx]; exact ⟨_, _, rfl, rfl⟩
 ·have e : Nt (byt s a) = 4 := by unfold Nt; rw [if_neg c40, if_neg c91, if_neg c46, if_neg c92]
  rw [e]; rw [if_neg c92]; refine (hS s a d l ha hs hlen).to ?_; rintro (q : Int) (e : Aa) ⟨rfl, rfl⟩; exact ⟨_, _, rfl, rfl⟩
theorem OH {s : Bs} {b : Nat} : D5 s b = none ↔ ¬ isQ (byt s b) := by
 unfold D5 isQ; split
 ·simp [*]
 split
 ·simp [*]
 split
 ·simp [*]
 split
 ·simp [*]
 ·simp [*]
theorem Oj (hA : FZ P) (k : Int) (hk : byt s a = 94 ∧ k = 2 ∨ byt s a = 36 ∧ k = 3) (hs : s.length ≤ 1000000) (ha : a < s.length) (hl : l.length ≤ 2 * a) (hp : KpR P (CI (CP s n) s d a l)) :
  Fn P Sv AY (PSt s a d l, k) fun (q : Int) (e : Aa) => OkR s d (CI (CP s n) s d a l) q e := by
 have e : El (CP s n) s d a l = .ok ((l.length : Int), (a + 1, l ++ [HM k])) := by
  unfold El; dsimp only
  rcases hk with ⟨h1, rfl⟩ | ⟨h1, rfl⟩
  ·rw [if_neg (by omega), if_neg (by omega), if_neg (by omega), if_pos h1]
  ·rw [if_neg (by omega), if_neg (by omega), if_neg (by omega), if_neg (by omega), if_pos h1]
 have hor : byt s a = 94 ∨ byt s a = 36 := by omega
 unfold CI at hp ⊢; rw [e] at hp ⊢; dsimp only at hp ⊢; refine (hA s a d l k ha hs (by omega) ?_).to ?_
 ·rintro ⟨h1, h2⟩; rw [if_neg (by omega)] at hp
  cases hq : D5 s (a + 1) with
  | none => exact absurd h2 (OH.1 hq)
  | some o =>
   rw [hq] at hp
   cases o with
   | none => exact hp 40 rfl
   | some x =>
    obtain ⟨lo, hi, e⟩ := x; dsimp only at hp; rw [if_pos hor] at hp; exact hp 40 rfl
 ·rintro (q : Int) (e : Aa) ⟨hx, rfl, rfl⟩
  by_cases hlt : s.length ≤ a + 1
  ·rw [if_pos hlt]; exact ⟨_, _, rfl, rfl⟩
  ·rw [if_neg hlt, OH.2 (fun x => hx ⟨by omega, x⟩)]; exact ⟨_, _, rfl, rfl⟩
def QY (n : Nat) (P : Pg) : Prop := ∀ (s : Bs) (d : Int) (a : Nat) (l : List Node), s.length ≤ 1000000 → 0 ≤ d → d ≤ 50 → 51 - d ≤ (n : Int) + 1 → a < s.length → l.length ≤ 2 * a → byt s a ≠ 41 → byt s a ≠ 124 → KpR P (CI (CP s n) s d a l) → Fn P Ajk Bv (PSt s a d l, byt s a) fun (q : Int) (e : Aa) => OkR s d (CI (CP s n) s d a l) q e
theorem U8 (h : Has P B8) (hPa : Has P A4) (hA : FZ P) (hSt : Kc P) (hQ : IU P) (hAdd : Gq P) (hH : FY P) (hCl : Hl P) (hAny : K9 P) (hE : F0 P) (hS : F4 P) (hrec : MD n P) : QY n P := by
 intro s d a l hs h0 h50 hn ha hl h41 h124 hp; refine JS h ?_; unfold GC; dsimp only; refine Ag.mid (fun q => q.2 = PSt s a d l ∧ byt s a ≠ 94 ∧ byt s a ≠ 36) ⟨fun hc => ?_, fun hc1 => ⟨fun hc => ?_, fun hc2 => ?_⟩⟩ ?_
 ·exact Oj hA 2 (.inl ⟨by simpa using hc, rfl⟩) hs ha hl hp
 ·exact Oj hA 3 (.inr ⟨by simpa using hc, rfl⟩) hs ha hl hp
 ·exact ⟨rfl, by simpa using hc1, by simpa using hc2⟩
 rintro ⟨q1, q2⟩ ⟨hq, h94, h36⟩; dsimp only at hq ⊢; subst hq
 have hpa : KpR P (El (CP s n) s d a l) := by
  intro c hc; refine hp c ?_; unfold CI; rw [hc]
 refine (hSt s a d l (byt s a) fun hq => ?_).to ?_
 ·refine hpa 40 ?_; unfold El; dsimp only; unfold isQ at hq; rw [if_neg (by omega), if_neg (by omega), if_neg (by omega), if_neg (by omega), if_neg (by omega), if_pos (by omega)]
 rintro (st : Int) (e : Aa) ⟨hq, rfl, rfl⟩; refine (Wt hPa hH hrec hCl hAny hE hS hs h0 h50 hn ha hl h41 h124 h94 h36 hq hpa).to ?_; rintro (k : Int) (e : Aa) ⟨b, l1, hR, rfl⟩; have g := UE (n := n) (l := l) h0 ha; rw [hR] at g; have g : Grow s a l 2 k b l1 := g; have hgl := g.len; have hgh := g.hi; have hgo := g.lo; unfold CI at hp ⊢; rw [hR] at hp ⊢; dsimp only at hp ⊢
 have hno : ¬ (byt s a = 94 ∨ byt s a = 36) := by omega
 refine (hQ s b d l1 hgh hs ?_).to ?_
 ·unfold Qa; intro hx; split at hx
  ·cases hx
  ·rename_i hlt; rw [if_neg hlt, hx] at hp; exact hp 40 rfl
 ·rintro (q : Int × (Int × Bool)) (e : Aa) hpost; unfold Qa at hpost
  by_cases hlt : s.length ≤ b
  ·rw [if_pos hlt] at hpost ⊢; obtain ⟨h1, rfl⟩ := hpost; rw [h1]; exact ⟨fun _ => ⟨_, _, rfl, rfl⟩, fun hc => absurd hc (by simp)⟩
  ·rw [if_neg hlt] at hpost ⊢
   cases hqf : D5 s b with
   | none =>
    rw [hqf] at hpost; obtain ⟨h1, rfl⟩ := hpost; rw [h1]; exact ⟨fun _ => ⟨_, _, rfl, rfl⟩, fun hc => absurd hc (by simp)⟩
   | some o =>
    rw [hqf] at hpost
    cases o with
    | none => exact hpost.elim
    | some x =>
     obtain ⟨lo, hi, e2⟩ := x; dsimp only at hpost; obtain ⟨rfl, rfl⟩ := hpost; dsimp only; rw [if_neg hno]; exact ⟨fun hc => absurd hc (by simp), fun _ => hAdd.at (by omega) ⟨_, _, rfl, rfl⟩⟩
end
end Go.VS
namespace Go.VS
variable {P : Pg}
section
variable {n : Nat}
theorem WM (kind : Int) (kids : List Int) (b : Nat) (l : List Node) : (C5 kind kids b l).2.2.length ≤ l.length + 1 := by
 unfold C5; split
 ·simp
 ·split <;> simp
theorem PJ (kind : Int) (kids : List Int) (b : Nat) (l : List Node) : (.ok (C5 kind kids b l) : Eh) = .ok ((C5 kind kids b l).1, (b, (C5 kind kids b l).2.2)) := by
 have h := GI kind kids b l; generalize C5 kind kids b l = g at h ⊢; obtain ⟨g1, g2, g3⟩ := g; dsimp only at h ⊢; rw [h]
def VO (n : Nat) (P : Pg) : Prop := ∀ (s : Bs) (d : Int) (a : Nat) (l : List Node), s.length ≤ 1000000 → 0 ≤ d → d ≤ 50 → 51 - d ≤ (n : Int) + 1 → a ≤ s.length → l.length ≤ 2 * a → KpR P (Pf (CP s n) s d a l) → Fn P VK AJ (PSt s a d l) fun (q : Int) (e : Aa) => ∃ (b : Nat) (l' : List Node), Pf (CP s n) s d a l = .ok (q, (b, l')) ∧ e = PSt s b d l' ∧ a ≤ b ∧ b ≤ s.length ∧ l'.length ≤ 2 * b + 1
theorem ZQ (h : Has P Bm) (hM : Fp P) (hG : Gx P) (hPc : QY n P) : VO n P := by
 intro s d a l hs h0 h50 hn ha hl hp; refine G7 h ?_; unfold Ej; dsimp only; unfold Pf at hp ⊢; generalize hR : ET (CP s n) s d (s.length + 1) [] a l = R at hp ⊢
 refine B0.of (fun q => ∃ (f : Nat) (b : Nat) (l' : List Node), q.2.2 = PSt s b d l' ∧ a ≤ b ∧ b ≤ s.length ∧ l'.length ≤ 2 * b ∧ q.2.1.length ≤ b ∧ s.length + 1 - b ≤ f ∧ ET (CP s n) s d f q.2.1 b l' = R) (fun q => s.length - q.2.2.2.1.toNat) ⟨s.length + 1, a, l, rfl, by omega, ha, hl, by simp, by omega, hR⟩ ?_; rintro ⟨q1, q2, q3⟩ ⟨f, b, l', hq, hab, hb, hl', hk, hf, hR⟩; dsimp only at hq hk hR ⊢
 subst hq; refine Ag.of (hM.at hb ?_)
 cases f with
 | zero => omega
 | succ f =>
  rw [ET] at hR
  have stop : ¬ (b < s.length ∧ byt s b ≠ 124 ∧ byt s b ≠ 41) → R = .ok (q2, (b, l')) := by
   intro hc; rw [if_neg hc] at hR; exact hR.symm
  have g1 := GI 4 q2 b l'; have g2 := WM 4 q2 b l'
  by_cases he : b = s.length
  ·rw [if_pos he]; refine ⟨fun _ => ?_, fun hc => absurd hc (by simp)⟩; have hRR := stop (fun x => by omega); subst hRR; dsimp only; exact hG.at (by omega) ⟨b, _, PJ .., rfl, hab, hb, by omega⟩
  ·rw [if_neg he]; dsimp only; refine ⟨fun hc => ?_, fun hc => ?_⟩
   ·have hRR := stop (fun x => by
     simp only [Qd1, cond_false] at hc
     by_cases g1 : byt s b = 124
     ·exact x.2.1 g1
     ·simp only [show (byt s b == 124) = false by simp [g1], cond_false] at hc
      exact x.2.2 (by simpa using hc))
    subst hRR; dsimp only; exact hG.at (by omega) ⟨b, _, PJ .., rfl, hab, hb, by omega⟩
   ·simp only [Qd1, cond_false] at hc
    have g1 : byt s b ≠ 124 := fun g => by simp [g] at hc
    have g2 : byt s b ≠ 41 := fun g => by simp [g1, g] at hc
    rw [if_pos ⟨by omega, g1, g2⟩] at hR; have g := TR (n := n) (s := s) (l := l') h0 (show b < s.length by omega); refine (hPc s d b l' hs h0 h50 hn (by omega) hl' g2 g1 fun c hc => hp c ?_).to ?_
    ·rw [hc] at hR; subst hR; rfl
    ·rintro (k : Int) (e : Aa) ⟨b2, l2, h2, rfl⟩; rw [h2] at hR g; have g : Grow s b l' 2 k b2 l2 := g; have h3 := g.len; have h4 := g.more; have h5 := g.lo; have h6 := g.hi; refine ⟨by simp only [Qa3, Qa2]; omega, ⟨f, b2, l2, rfl, by omega, h6, by omega, by simp; omega, by omega, hR⟩, ?_⟩
     show s.length - ((b2 : Nat) : Int).toNat < s.length - ((b : Nat) : Int).toNat; omega
theorem YG (h : Has P BS) (hH : FY P) (hG : Gx P) (hA : VO n P) : MD (n + 1) P := by
 intro s d a l hs h0 h50 hn ha hl hp; refine IZ h ?_; unfold Ft; dsimp only; rw [CP] at hp ⊢; unfold Rt at hp ⊢; refine (hA s d a l hs h0 h50 (by omega) ha hl fun c hc => hp c ?_).to ?_
 ·rw [hc]
 rintro (k : Int) (e : Aa) ⟨b, l1, hR, rfl, hab, hb, hl1⟩; rw [hR] at hp ⊢; dsimp only at hp ⊢; clear hR; generalize hR : Db (CP s n) s d (s.length + 1) [k] b l1 = R at hp ⊢; refine Ag.mid (fun q => ∃ (kids : List Int) (b : Nat) (l' : List Node), R = .ok (kids, (b, l')) ∧ q = (kids, PSt s b d l') ∧ b ≤ s.length ∧ l'.length ≤ 2 * b + 1) ?_ ?_
 ·refine B0.of (fun q => ∃ (f : Nat) (b : Nat) (l' : List Node), q.2 = PSt s b d l' ∧ b ≤ s.length ∧ l'.length ≤ 2 * b + 1 ∧ q.1.length ≤ b + 1 ∧ s.length + 1 - b ≤ f ∧ Db (CP s n) s d f q.1 b l' = R) (fun q => s.length - q.2.2.1.toNat) ⟨s.length + 1, b, l1, rfl, hb, hl1, by simp, by omega, hR⟩ ?_; rintro ⟨q1, q2⟩ ⟨f, b, l', hq, hb, hl', hk, hf, hR⟩; dsimp only at hq hk hR ⊢; subst hq
  refine hH.at hb hs ?_
  cases f with
  | zero => omega
  | succ f =>
   rw [Db] at hR; refine ⟨fun hc => ?_, fun hc => ?_⟩
   ·have hlt := (RX hc).1; rw [if_pos hc] at hR ⊢; refine Ag.of ((hA s d (b + 1) l' hs h0 h50 (by omega) hlt (by omega) fun c hc => hp c ?_).to ?_)
    ·rw [hc] at hR; subst hR; rfl
    ·rintro (k2 : Int) (e : Aa) ⟨b2, l2, h2, rfl, hab2, hb2, hl2⟩; rw [h2] at hR; refine ⟨by simp only [Qa3, Qa2]; omega, ⟨f, b2, l2, rfl, hb2, hl2, by simp; omega, by omega, hR⟩, ?_⟩
     show s.length - ((b2 : Nat) : Int).toNat < s.length - ((b : Nat) : Int).toNat; omega
   ·rw [hc, if_neg (by simp)] at hR; rw [hc, if_neg (by simp)]; exact ⟨q1, b, l', hR.symm, rfl, hb, hl'⟩
 ·rintro _ ⟨kids, b2, l2, rfl, rfl, hb2, hl2⟩; dsimp only; have g1 := GI 5 kids b2 l2; exact hG.at (by omega) ⟨b2, _, PJ .., rfl⟩
end
theorem Wj (h : Has P BS) (hAl : Has P Bm) (hPi : Has P B8) (hPa : Has P A4) (hM : Fp P) (hG : Gx P) (hA : FZ P) (hSt : Kc P) (hQ : IU P) (hAdd : Gq P) (hH : FY P) (hCl : Hl P) (hAny : K9 P) (hE : F0 P) (hS : F4 P) : ∀ n, MD n P
 | 0 => fun s d a l hs h0 h50 hn ha hl hp => by omega
 | n + 1 => YG h hH hG (ZQ hAl hM hG (U8 hPi hPa hA hSt hQ hAdd hH hCl hAny hE hS (Wj h hAl hPi hPa hM hG hA hSt hQ hAdd hH hCl hAny hE hS n)))
def Mo (s : Bs) : Eh := CP s 51 0 0 []
def L4 (P : Pg) : Prop := ∀ s : Bs, s.length ≤ 1000000 → KpR P (Mo s) → Fn P Un AQ (PSt s 0 0 []) fun (q : Int) (e : Aa) => OkR s 0 (Mo s) q e
theorem Vr (h : Has P BS) (hAl : Has P Bm) (hPi : Has P B8) (hPa : Has P A4) (hM : Fp P) (hG : Gx P) (hA : FZ P) (hSt : Kc P) (hQ : IU P) (hAdd : Gq P) (hH : FY P) (hCl : Hl P) (hAny : K9 P) (hE : F0 P) (hS : F4 P) : L4 P :=
 fun s hs hp => Wj h hAl hPi hPa hM hG hA hSt hQ hAdd hH hCl hAny hE hS 51 s 0 0 [] hs (by omega) (by omega) (by omega) (Qa9 _) (Qa9 _) hp
end Go.VS
namespace Go.VS
def Hk (P : Pg) : Prop := ∀ s : Bs, Fn P Ajl Cc s fun (d : List Node × Int) _ => d = Dy s
def QX (P : Pg) : Prop := ∀ kp : Value → Prop, L4 ⟨P.toProgram, kp⟩
variable {P : Pg}
theorem Hk.at {Q : List Node × Int → Unit → Prop} (h : Hk P) {s : Bs} (hk : Q (Dy s) ()) : Fn P Ajl Cc s Q :=
 (h s).to fun (d : List Node × Int) _ hd => by
  have hd : d = Dy s := hd; subst hd; exact hk
abbrev Ada := List UInt8 → Nat → Nat → Prop
inductive ToN (A : List State) (s : List UInt8) : Nat → Nat → Nat → Nat → Prop
 | acc {q i : Nat} (h : (A.getD q Aby).1 = 4) : ToN A s 0 q i i
 | eps {n q q' i j : Nat} (e : Agb A (i == 0) (i == s.length) q q') (h : ToN A s n q' i j) : ToN A s (n + 1) q i j
 | read {n q q' i j : Nat} (hi : i < s.length) (r : rdR A (s.getD i 0) q q') (h : ToN A s n q' (i + 1) j) : ToN A s (n + 1) q i j
def Leads (A : List State) (R : Ada) (d nx : Nat) : Prop := ∀ s, (∀ n i j, ToN A s n d i j → ∃ m n', n' ≤ n ∧ R s i m ∧ ToN A s n' nx m j) ∧ (∀ i m j n, R s i m → ToN A s n nx m j → ∃ n', ToN A s n' d i j)
def idR : Ada := fun _ i j => i = j
def Aga (R S : Ada) : Ada := fun s i j => ∃ m, R s i m ∧ S s m j
def Ahp (R S : Ada) : Ada := fun s i j => R s i j ∨ S s i j
def Aey (R : Ada) : Nat → Ada
 | 0 => idR
 | n + 1 => Aga R (Aey R n)
def Ahu (R : Ada) : Ada := fun s i j => ∃ n, Aey R n s i j
theorem Leads.id {A : List State} {q : Nat} : Leads A idR q q := fun s => ⟨fun n i j h => ⟨i, n, Qa8 _, rfl, h⟩, fun i m j n hr h => by cases hr; exact ⟨n, h⟩⟩
theorem Leads.comp {A : List State} {R S : Ada} {d m nx : Nat} (h1 : Leads A R d m) (h2 : Leads A S m nx) : Leads A (Aga R S) d nx := by
 intro s; refine ⟨fun n i j h => ?_, fun i k j n hr h => ?_⟩
 ·obtain ⟨m1, n1, l1, r1, t1⟩ := (h1 s).1 _ _ _ h; obtain ⟨m2, n2, l2, r2, t2⟩ := (h2 s).1 _ _ _ t1; exact ⟨m2, n2, by omega, ⟨m1, r1, r2⟩, t2⟩
 ·obtain ⟨m1, r1, r2⟩ := hr; obtain ⟨n1, t1⟩ := (h2 s).2 _ _ _ _ r2 h; exact (h1 s).2 _ _ _ _ r1 t1
theorem Leads.congr {A : List State} {R S : Ada} {d nx : Nat} (h : Leads A R d nx) (e : ∀ s i j, R s i j ↔ S s i j) : Leads A S d nx := by
 intro s; refine ⟨fun n i j ht => ?_, fun i k j n hr ht => (h s).2 _ _ _ _ ((e _ _ _).2 hr) ht⟩; obtain ⟨m1, n1, l1, r1, t1⟩ := (h s).1 _ _ _ ht; exact ⟨m1, n1, l1, (e _ _ _).1 r1, t1⟩
theorem Aez {A : List State} {d a b : Nat} {w : Bb} (hd : A.getD d Aby = ((1 : Int), (w, ((a : Int), (b : Int))))) {s : List UInt8} {n i j : Nat} : ToN A s n d i j ↔ ∃ k, n = k + 1 ∧ (ToN A s k a i j ∨ ToN A s k b i j) := by
 constructor
 ·intro h
  cases h with
  | acc h => rw [hd] at h; simp at h
  | eps e h =>
   rename_i k q'; refine ⟨k, rfl, ?_⟩; unfold Agb at e; rw [hd] at e
   rcases e with ⟨_, e | e⟩ | ⟨e, _⟩ | ⟨e, _⟩
   ·left; have : q' = a := by simpa using e
    rw [← this]; exact h
   ·right; have : q' = b := by simpa using e
    rw [← this]; exact h
   ·simp at e
   ·simp at e
  | read hi r h =>
   obtain ⟨r, _⟩ := r; rw [hd] at r; simp at r
 ·rintro ⟨k, rfl, h | h⟩
  ·exact .eps (.inl (by rw [hd]; exact ⟨rfl, .inl (by simp)⟩)) h
  ·exact .eps (.inl (by rw [hd]; exact ⟨rfl, .inr (by simp)⟩)) h
theorem Leads.split {A : List State} {R S : Ada} {d a b nx : Nat} {w : Bb} (hd : A.getD d Aby = ((1 : Int), (w, ((a : Int), (b : Int))))) (h1 : Leads A R a nx) (h2 : Leads A S b nx) : Leads A (Ahp R S) d nx := by
 intro s; refine ⟨fun n i j h => ?_, fun i k j n hr h => ?_⟩
 ·obtain ⟨k, rfl, h | h⟩ := (Aez hd).1 h
  ·obtain ⟨m1, n1, l1, r1, t1⟩ := (h1 s).1 _ _ _ h; exact ⟨m1, n1, by omega, .inl r1, t1⟩
  ·obtain ⟨m1, n1, l1, r1, t1⟩ := (h2 s).1 _ _ _ h; exact ⟨m1, n1, by omega, .inr r1, t1⟩
 ·rcases hr with hr | hr
  ·obtain ⟨n1, t1⟩ := (h1 s).2 _ _ _ _ hr h; exact ⟨_, (Aez hd).2 ⟨n1, rfl, .inl t1⟩⟩
  ·obtain ⟨n1, t1⟩ := (h2 s).2 _ _ _ _ hr h; exact ⟨_, (Aez hd).2 ⟨n1, rfl, .inr t1⟩⟩
theorem Leads.star {A : List State} {R : Ada} {d a nx : Nat} {w : Bb} (hd : A.getD d Aby = ((1 : Int), (w, ((a : Int), (nx : Int))))) (h1 : Leads A R a d) : Leads A (Ahu R) d nx := by
 intro s; refine ⟨fun n => ?_, ?_⟩
 ·induction n using Nat.strongRecOn with
  | ind n ih =>
   intro i j h; obtain ⟨k, rfl, h | h⟩ := (Aez hd).1 h
   ·obtain ⟨m1, n1, l1, r1, t1⟩ := (h1 s).1 _ _ _ h; obtain ⟨m2, n2, l2, ⟨r, r2⟩, t2⟩ := ih n1 (by omega) _ _ t1; exact ⟨m2, n2, by omega, ⟨r + 1, m1, r1, r2⟩, t2⟩
   ·exact ⟨i, k, by omega, ⟨0, rfl⟩, h⟩
 ·rintro i m j n ⟨r, hr⟩ h
  induction r generalizing i with
  | zero =>
   cases hr; exact ⟨_, (Aez hd).2 ⟨n, rfl, .inr h⟩⟩
  | succ r ih =>
   obtain ⟨m1, r1, r2⟩ := hr; obtain ⟨n1, t1⟩ := ih _ r2; obtain ⟨n2, t2⟩ := (h1 s).2 _ _ _ _ r1 t1; exact ⟨_, (Aez hd).2 ⟨n2, rfl, .inl t2⟩⟩
def AjV (w : Bb) : Ada := fun s i j => i < s.length ∧ Afh w ((s.getD i 0).toNat : Int) = true ∧ j = i + 1
theorem Leads.set {A : List State} {d nx : Nat} {w : Bb} {o : Int} (hd : A.getD d Aby = ((0 : Int), (w, ((nx : Int), o)))) : Leads A (AjV w) d nx := by
 intro s; refine ⟨fun n i j h => ?_, ?_⟩
 ·cases h with
  | acc h => rw [hd] at h; simp at h
  | eps e h =>
   unfold Agb at e; rw [hd] at e
   rcases e with ⟨e, _⟩ | ⟨e, _⟩ | ⟨e, _⟩ <;> simp at e
  | read hi r h =>
   rename_i k q'; obtain ⟨r1, r2, r3⟩ := r; rw [hd] at r2 r3
   have : q' = nx := by simpa using r3
   subst this; exact ⟨i + 1, k, by omega, ⟨hi, r2, rfl⟩, h⟩
 ·rintro i m j n ⟨r1, r2, rfl⟩ h; exact ⟨_, .read r1 ⟨by rw [hd], by rw [hd]; exact r2, by rw [hd]; simp⟩ h⟩
def stR : Ada := fun _ i j => i = 0 ∧ j = 0
def enR : Ada := fun s i j => i = s.length ∧ j = s.length
theorem Leads.st {A : List State} {d nx : Nat} {w : Bb} {o : Int} (hd : A.getD d Aby = ((2 : Int), (w, ((nx : Int), o)))) : Leads A stR d nx := by
 intro s; refine ⟨fun n i j h => ?_, ?_⟩
 ·cases h with
  | acc h => rw [hd] at h; simp at h
  | eps e h =>
   rename_i k q'; unfold Agb at e; rw [hd] at e
   rcases e with ⟨e, _⟩ | ⟨_, e, e2⟩ | ⟨e, _⟩
   ·simp at e
   ·have : q' = nx := by simpa using e2
    subst this
    have e : i = 0 := by simpa using e
    exact ⟨i, k, by omega, ⟨e, e⟩, h⟩
   ·simp at e
  | read hi r h =>
   obtain ⟨r1, r2, r3⟩ := r; rw [hd] at r1; simp at r1
 ·rintro i m j n ⟨rfl, rfl⟩ h; exact ⟨_, .eps (.inr (.inl ⟨by rw [hd], by simp, by rw [hd]; simp⟩)) h⟩
theorem Leads.en {A : List State} {d nx : Nat} {w : Bb} {o : Int} (hd : A.getD d Aby = ((3 : Int), (w, ((nx : Int), o)))) : Leads A enR d nx := by
 intro s; refine ⟨fun n i j h => ?_, ?_⟩
 ·cases h with
  | acc h => rw [hd] at h; simp at h
  | eps e h =>
   rename_i k q'; unfold Agb at e; rw [hd] at e
   rcases e with ⟨e, _⟩ | ⟨e, _⟩ | ⟨_, e, e2⟩
   ·simp at e
   ·simp at e
   ·have : q' = nx := by simpa using e2
    subst this
    have e : i = s.length := by simpa using e
    exact ⟨i, k, by omega, ⟨e, e⟩, h⟩
  | read hi r h =>
   obtain ⟨r1, r2, r3⟩ := r; rw [hd] at r1; simp at r1
 ·rintro i m j n ⟨rfl, rfl⟩ h; exact ⟨_, .eps (.inr (.inr ⟨by rw [hd], by simp, by rw [hd]; simp⟩)) h⟩
theorem AfC {R : Ada} {a b : Nat} {s : List UInt8} {i j : Nat} : Aey R (a + b) s i j ↔ ∃ m, Aey R a s i m ∧ Aey R b s m j := by
 induction a generalizing i with
 | zero =>
  rw [Nat.zero_add]; exact ⟨fun h => ⟨i, rfl, h⟩, fun ⟨m, h1, h2⟩ => by cases h1; exact h2⟩
 | succ a ih =>
  rw [show a + 1 + b = (a + b) + 1 by omega]; constructor
  ·rintro ⟨m, h1, h2⟩; obtain ⟨m2, h3, h4⟩ := ih.1 h2; exact ⟨m2, ⟨m, h1, h3⟩, h4⟩
  ·rintro ⟨m2, ⟨m, h1, h3⟩, h4⟩; exact ⟨m, h1, ih.2 ⟨m2, h3, h4⟩⟩
theorem AjB {a : Auto} {s : List UInt8} {i j : Nat} : acc a s i j ↔ ∃ n, ToN a.1 s n a.2.toNat i j := by
 constructor
 ·rintro ⟨q, h, hq⟩
  have : ∀ {j q : Nat}, On a s i j q → ∀ {n j' : Nat}, ToN a.1 s n q j j' → ∃ n', ToN a.1 s n' a.2.toNat i j' := by
   intro j q h
   induction h with
   | start => exact fun h => ⟨_, h⟩
   | eps _ e ih => exact fun h => ih (.eps e h)
   | read _ hj r ih => exact fun h => ih (.read hj r h)
  exact this h (.acc hq)
 ·rintro ⟨n, h⟩
  have : ∀ {n q j j' : Nat}, ToN a.1 s n q j j' → On a s i j q → acc a s i j' := by
   intro n q j j' h
   induction h with
   | acc h => exact fun ho => ⟨_, ho, h⟩
   | eps e _ ih => exact fun ho => ih (.eps ho e)
   | read hi r _ ih => exact fun ho => ih (.read ho hi r)
  exact this h .start
end Go.VS
