/- The reader of patterns: classes. -/
import Derived.Test.YtbandpkgjepklaaKSpRd
set_option linter.unusedVariables false
set_option linter.unusedSimpArgs false
namespace Go.VS
variable {P : Pg}
theorem Du {a b : Bool} : (cond a b false) = (a && b) := by cases a <;> rfl
theorem Te {s : Bs} {a : Int} (ha : 0 ≤ a) {c : Int} : (cond (decide (a < (s.length : Int))) (byt s a.toNat == c) false) = isc s a.toNat c := by
 rw [Du]
 unfold isc
 by_cases h : a < (s.length : Int)
 ·have : a.toNat < s.length := by omega
  simp [h, this]
 ·have : ¬ a.toNat < s.length := by omega
  simp [h, this]
theorem SR {s : Bs} {f i : Nat} (h : i + 1 < s.length ∧ ¬ (byt s i = 58 ∧ byt s (i + 1) = 93)) : Ct s (f + 1) i = Ct s f (i + 1) := by rw [Ct, if_pos h]
theorem SS {s : Bs} {f i : Nat} (h : ¬ (i + 1 < s.length ∧ ¬ (byt s i = 58 ∧ byt s (i + 1) = 93))) : Ct s f i = i := by
 cases f with
 | zero => rfl
 | succ f => rw [Ct, if_neg h]
def Aa0 (P : Pg) (q : Int) (r : Ab) (w : Bb) (K : Int → Ab → Prop) (J : Int × (Bool × (Ab × Bb)) → Prop) : Prop :=
 Ag (D := (Int × (Ab × (Int × (Int × (Int × Int)))))) (fun J9 => (((decide (r.2.1 ≥ ((List.length r.1 : Nat) : Int))) = true → Fn P zS0 Am (r, (40 : Int)) (fun (d11 : Int) (e12 : Ab) => K d11 e12)) ∧ ((decide (r.2.1 ≥ ((List.length r.1 : Nat) : Int))) = false → Ag (D := (Bool × Ab)) (fun J13 => (Fn P zS5 Ax (r, (91 : Int)) (fun (d15 : Bool) (e16 : Ab) => (((cond d15 (decide ((IntKind.i64.wrap (e16.2.1 + (1 : Int))) < ((List.length e16.1 : Nat) : Int))) false) = true → 0 ≤ (IntKind.i64.wrap (e16.2.1 + (1 : Int))) ∧ (IntKind.i64.wrap (e16.2.1 + (1 : Int))) < ((List.length e16.1 : Nat) : Int))) ∧
 J13 ((cond (cond d15 (decide ((IntKind.i64.wrap (e16.2.1 + (1 : Int))) < ((List.length e16.1 : Nat) : Int))) false) (((UInt8.toNat (List.getD e16.1 (Int.toNat (IntKind.i64.wrap (e16.2.1 + (1 : Int)))) 0) : Nat) : Int) == (58 : Int)) false), e16))) ∧ (True)) (fun (d14 : (Bool × Ab)) => ((d14.1 = true → Ag (D := ((List UInt8) × Int)) (fun J17 => B0 (D := ((List UInt8) × Int)) (([] : List UInt8), (IntKind.i64.wrap (d14.2.2.1 + (2 : Int)))) (fun (d19 : ((List UInt8) × Int)) J20 => (((decide ((IntKind.i64.wrap (d19.2 + (1 : Int))) < ((List.length d14.2.1 : Nat) : Int))) = true → 0 ≤ d19.2 ∧ d19.2 < ((List.length d14.2.1 : Nat) : Int))) ∧
 (((((UInt8.toNat (List.getD d14.2.1 (Int.toNat d19.2) 0) : Nat) : Int) != (58 : Int)) = false → ((decide ((IntKind.i64.wrap (d19.2 + (1 : Int))) < ((List.length d14.2.1 : Nat) : Int))) = true → 0 ≤ (IntKind.i64.wrap (d19.2 + (1 : Int))) ∧ (IntKind.i64.wrap (d19.2 + (1 : Int))) < ((List.length d14.2.1 : Nat) : Int)))) ∧
 (((cond (decide ((IntKind.i64.wrap (d19.2 + (1 : Int))) < ((List.length d14.2.1 : Nat) : Int))) (cond (((UInt8.toNat (List.getD d14.2.1 (Int.toNat d19.2) 0) : Nat) : Int) != (58 : Int)) true (((UInt8.toNat (List.getD d14.2.1 (Int.toNat (IntKind.i64.wrap (d19.2 + (1 : Int)))) 0) : Nat) : Int) != (93 : Int))) false) = true → Ag (D := ((List UInt8) × Int)) (fun J21 => (0 ≤ d19.2 ∧ d19.2 ≤ (IntKind.i64.wrap (d19.2 + (1 : Int))) ∧ (IntKind.i64.wrap (d19.2 + (1 : Int))) ≤ ((List.length d14.2.1 : Nat) : Int)) ∧
 (List.length d19.1 + List.length (List.drop (Int.toNat d19.2) (List.take (Int.toNat (IntKind.i64.wrap (d19.2 + (1 : Int)))) d14.2.1)) ≤ 9223372036854775807) ∧
 J21 ((d19.1 ++ (List.drop (Int.toNat d19.2) (List.take (Int.toNat (IntKind.i64.wrap (d19.2 + (1 : Int)))) d14.2.1))), (IntKind.i64.wrap (d19.2 + (1 : Int))))) (fun (d22 : ((List UInt8) × Int)) => J20 d22)) ∧ ((cond (decide ((IntKind.i64.wrap (d19.2 + (1 : Int))) < ((List.length d14.2.1 : Nat) : Int))) (cond (((UInt8.toNat (List.getD d14.2.1 (Int.toNat d19.2) 0) : Nat) : Int) != (58 : Int)) true (((UInt8.toNat (List.getD d14.2.1 (Int.toNat (IntKind.i64.wrap (d19.2 + (1 : Int)))) 0) : Nat) : Int) != (93 : Int))) false) = false → J17 d19)))) (fun (d18 : ((List UInt8) × Int)) => Fn P QB Bq (d18.1, (0 : Int)) (fun (d23 : (Bool × Bool)) (e24 : Unit) => (((cond (!d23.2) true (decide ((IntKind.i64.wrap (d18.2 + (1 : Int))) ≥ ((List.length d14.2.1 : Nat) : Int)))) = true → Fn P zS0 Am (d14.2, (40 : Int)) (fun (d25 : Int) (e26 : Ab) => K d25 e26)) ∧ ((cond (!d23.2) true (decide ((IntKind.i64.wrap (d18.2 + (1 : Int))) ≥ ((List.length d14.2.1 : Nat) : Int)))) = false → Ag (D := (Int × (Int × (Int × Int)))) (fun J27 => B0 (D := (Int × (Int × (Int × (Int × Int))))) ((0 : Int), w) (fun (d29 : (Int × (Int × (Int × (Int × Int))))) J30 => (((decide (d29.1 < (256 : Int))) = true → Ag (D := (Int × (Int × (Int × Int)))) (fun J31 => Fn P QB Bq (d18.1, (IntKind.u8.wrap d29.1)) (fun (d33 : (Bool × Bool)) (e34 : Unit) => Ag (D := (Int × (Int × (Int × Int)))) (fun J35 => ((d33.1 = true → Fn P zS7 Br (d29.2, (IntKind.u8.wrap d29.1)) (fun (d37 : (Int × (Int × (Int × Int)))) (e38 : Unit) => J35 d37)) ∧ (d33.1 = false → J35 d29.2))) (fun (d36 : (Int × (Int × (Int × Int)))) => J31 d36))) (fun (d32 : (Int × (Int × (Int × Int)))) => J30 ((IntKind.i64.wrap (d29.1 + (1 : Int))), d32))) ∧ ((decide (d29.1 < (256 : Int))) = false → J27 d29.2)))) (fun (d28 : (Int × (Int × (Int × Int)))) => J9 (q, ((d14.2.1, ((IntKind.i64.wrap (d18.2 + (2 : Int))), d14.2.2.2)), d28)))))))) ∧ (d14.1 = false → Ag (D := Int) (fun J39 => (0 ≤ d14.2.2.1 ∧ d14.2.2.1 < ((List.length d14.2.1 : Nat) : Int)) ∧
 (J39 ((UInt8.toNat (List.getD d14.2.1 (Int.toNat d14.2.2.1) 0) : Nat) : Int)) ∧ (True)) (fun (d40 : Int) => (((decide ((IntKind.i64.wrap (d14.2.2.1 + (2 : Int))) < ((List.length d14.2.1 : Nat) : Int))) = true → 0 ≤ (IntKind.i64.wrap (d14.2.2.1 + (1 : Int))) ∧ (IntKind.i64.wrap (d14.2.2.1 + (1 : Int))) < ((List.length d14.2.1 : Nat) : Int))) ∧
 (((cond (decide ((IntKind.i64.wrap (d14.2.2.1 + (2 : Int))) < ((List.length d14.2.1 : Nat) : Int))) (((UInt8.toNat (List.getD d14.2.1 (Int.toNat (IntKind.i64.wrap (d14.2.2.1 + (1 : Int)))) 0) : Nat) : Int) == (45 : Int)) false) = true → 0 ≤ (IntKind.i64.wrap (d14.2.2.1 + (2 : Int))) ∧ (IntKind.i64.wrap (d14.2.2.1 + (2 : Int))) < ((List.length d14.2.1 : Nat) : Int))) ∧
 Ag (D := (Int × Ab)) (fun J41 => (((cond (cond (decide ((IntKind.i64.wrap (d14.2.2.1 + (2 : Int))) < ((List.length d14.2.1 : Nat) : Int))) (((UInt8.toNat (List.getD d14.2.1 (Int.toNat (IntKind.i64.wrap (d14.2.2.1 + (1 : Int)))) 0) : Nat) : Int) == (45 : Int)) false) (((UInt8.toNat (List.getD d14.2.1 (Int.toNat (IntKind.i64.wrap (d14.2.2.1 + (2 : Int)))) 0) : Nat) : Int) != (93 : Int)) false) = true → Ag (D := Int) (fun J43 => (0 ≤ (IntKind.i64.wrap (d14.2.2.1 + (2 : Int))) ∧ (IntKind.i64.wrap (d14.2.2.1 + (2 : Int))) < ((List.length d14.2.1 : Nat) : Int)) ∧
 (J43 ((UInt8.toNat (List.getD d14.2.1 (Int.toNat (IntKind.i64.wrap (d14.2.2.1 + (2 : Int)))) 0) : Nat) : Int)) ∧ (True)) (fun (d44 : Int) => J41 (d44, (d14.2.1, ((IntKind.i64.wrap (d14.2.2.1 + (2 : Int))), d14.2.2.2))))) ∧ ((cond (cond (decide ((IntKind.i64.wrap (d14.2.2.1 + (2 : Int))) < ((List.length d14.2.1 : Nat) : Int))) (((UInt8.toNat (List.getD d14.2.1 (Int.toNat (IntKind.i64.wrap (d14.2.2.1 + (1 : Int)))) 0) : Nat) : Int) == (45 : Int)) false) (((UInt8.toNat (List.getD d14.2.1 (Int.toNat (IntKind.i64.wrap (d14.2.2.1 + (2 : Int)))) 0) : Nat) : Int) != (93 : Int)) false) = false → J41 (d40, d14.2)))) (fun (d42 : (Int × Ab)) => (((decide (d42.1 < d40)) = true → Fn P zS0 Am ((d42.2.1, ((IntKind.i64.wrap (d42.2.2.1 + (1 : Int))), d42.2.2.2)), (40 : Int)) (fun (d45 : Int) (e46 : Ab) => K d45 e46)) ∧ ((decide (d42.1 < d40)) = false → Ag (D := (Int × (Int × (Int × Int)))) (fun J47 => B0 (D := (Int × (Int × (Int × (Int × Int))))) ((IntKind.i64.wrap d40), w) (fun (d49 : (Int × (Int × (Int × (Int × Int))))) J50 => (((decide (d49.1 ≤ (IntKind.i64.wrap d42.1))) = true → Ag (D := (Int × (Int × (Int × Int)))) (fun J51 => Fn P zS7 Br (d49.2, (IntKind.u8.wrap d49.1)) (fun (d53 : (Int × (Int × (Int × Int)))) (e54 : Unit) => J51 d53)) (fun (d52 : (Int × (Int × (Int × Int)))) => J50 ((IntKind.i64.wrap (d49.1 + (1 : Int))), d52))) ∧ ((decide (d49.1 ≤ (IntKind.i64.wrap d42.1))) = false → J47 d49.2)))) (fun (d48 : (Int × (Int × (Int × Int)))) => J9 (q, ((d42.2.1, ((IntKind.i64.wrap (d42.2.2.1 + (1 : Int))), d42.2.2.2)), d48))))))))))))) (fun (d10 : (Int × (Ab × (Int × (Int × (Int × Int)))))) => J (d10.1, (false, d10.2)))
theorem Pr (hI : Ka P) (hF : Ez P) (hNm : MC P) (hP : Hq P) {s : Bs} {d : Int} {l : List Node} {w : Bb} {e f : Nat} {R : Option (Bb × Nat)} (hs : s.length ≤ 1000000) (hR : G5 (Dh s f false) s w e = R) {neg : Bool}
  {q : Int} {K : Int → Ab → Prop} {J : Int × (Bool × (Ab × Bb)) → Prop} (hK : ∀ k r, Mz R neg s d l k r → K k r)
  (hJ : ∀ (q : Int) (b : Nat) (v : Bb), e < b → b ≤ s.length → Dh s f false v b = R → J (q, (false, ((s, ((b : Int), (d, (l, (0 : Int))))), v)))) : Aa0 P q (s, ((e : Int), (d, (l, (0 : Int))))) w K J := by
 unfold Aa0
 dsimp only
 refine Ag.mid (fun q => ∃ (b : Nat) (v : Bb), q.2 = ((s, ((b : Int), (d, (l, (0 : Int))))), v) ∧ e < b ∧ b ≤ s.length ∧ Dh s f false v b = R) ?_ ?_
 rotate_left
 ·rintro ⟨q1, _⟩ ⟨b', v, hq, hb1, hb2, hr⟩
  dsimp only at hq
  subst hq
  exact hJ _ _ _ hb1 hb2 hr
 have fl : ∀ (R : Option (Bb × Nat)) k (r : Ab), R = none → r.2.2.2.2 = (if (0 : Int) = 0 then 40 else 0) → Mz R neg s d l k r := by
  rintro R k r rfl hr
  rw [if_pos rfl] at hr
  exact hr
 unfold G5 at hR
 refine ⟨fun hc => hF.at fun k r hk hr => hK _ _ (fl R k r ?_ hr), fun hc => ?_⟩
 ·have hc := of_decide_eq_true hc
  rw [if_pos (by omega)] at hR
  exact hR.symm
 have hlt := of_decide_eq_false hc
 rw [if_neg (by omega)] at hR
 clear hc
 have e1 : IntKind.i64.wrap ((e : Int) + 1) = ((e + 1 : Nat) : Int) := by rw [w64 (by omega) (by omega)]; omega
 have e2 : IntKind.i64.wrap ((e : Int) + 2) = ((e + 2 : Nat) : Int) := by rw [w64 (by omega) (by omega)]; omega
 simp only [e1, e2]
 refine Ag.mid (fun q => q = ((isc s e 91 && isc s (e + 1) 58), (s, ((e : Int), (d, (l, (0 : Int))))))) ⟨hI.at (by omega) ?_, trivial⟩ ?_
 ·dsimp only
  simp only [e1]
  refine ⟨fun hc => ?_, ?_⟩
  ·rw [Du, Bool.and_eq_true] at hc
   have := of_decide_eq_true hc.2
   omega
  ·have e3 := Te (s := s) (a := ((e + 1 : Nat) : Int)) (by omega) (c := 58)
   rw [Du] at e3
   have e4 : (cond (cond (isc s (e : Int).toNat 91) (decide (((e + 1 : Nat) : Int) < (s.length : Int))) false) (byt s ((e + 1 : Nat) : Int).toNat == 58) false) = (isc s e 91 && isc s (e + 1) 58) := by
    rw [Du, Du, Bool.and_assoc, e3]
    rfl
   exact Prod.ext e4 rfl
 rintro ⟨nm, r⟩ hq
 cases hq
 dsimp only
 refine ⟨fun hc => ?_, fun hc => ?_⟩
 ·rw [if_pos hc] at hR
  rw [Bool.and_eq_true] at hc
  have h58 := (Bi.1 hc.2).1
  simp only [e2]
  have hcl : e + 2 ≤ CH s (e + 2) := Lg _ _ _
  refine Ag.mid (fun q => q = ((s.take (CH s (e + 2))).drop (e + 2), ((CH s (e + 2) : Nat) : Int)) ∧ CH s (e + 2) ≤ s.length) ?_ ?_
  ·refine B0.of (fun q => ∃ (i f' : Nat), q = ((s.take i).drop (e + 2), (i : Int)) ∧ e + 2 ≤ i ∧ i ≤ s.length ∧ s.length - i ≤ f' ∧ Ct s f' i = CH s (e + 2)) (fun q => (s.length - q.2).toNat) ⟨e + 2, s.length, ?_, by omega, by omega, by omega, rfl⟩ ?_
   ·rw [List.drop_eq_nil_of_le (by simp; omega)]
   rintro _ ⟨i, f', rfl, i0, i1, hf', hcl'⟩
   dsimp only
   have e5 : IntKind.i64.wrap ((i : Int) + 1) = ((i + 1 : Nat) : Int) := by rw [w64 (by omega) (by omega)]; omega
   simp only [e5]
   have hcd : (cond (decide (((i + 1 : Nat) : Int) < (s.length : Int))) (cond (byt s (i : Int).toNat != 58) true (byt s ((i + 1 : Nat) : Int).toNat != 93)) false = true) ↔ (i + 1 < s.length ∧ ¬ (byt s i = 58 ∧ byt s (i + 1) = 93)) := by
    rw [Du, Bool.and_eq_true, decide_eq_true_eq]
    have e6 : (byt s (i : Int).toNat) = byt s i := rfl
    have e7 : (byt s ((i + 1 : Nat) : Int).toNat) = byt s (i + 1) := rfl
    rw [e6, e7]
    have : (cond (byt s i != 58) true (byt s (i + 1) != 93)) = true ↔ ¬ (byt s i = 58 ∧ byt s (i + 1) = 93) := by
     by_cases h1 : byt s i = 58
     ·rw [h1]; simp
     ·have : (byt s i != 58) = true := by simpa using h1
      rw [this]; simp [h1]
    rw [this]
    constructor
    ·rintro ⟨h1, h2⟩; exact ⟨by omega, h2⟩
    ·rintro ⟨h1, h2⟩; exact ⟨by omega, h2⟩
   refine ⟨fun h1 => ?_, fun h1 h2 => ?_, fun h1 => Ag.of ?_, fun h1 => ?_⟩
   ·have := of_decide_eq_true h1; omega
   ·have := of_decide_eq_true h2; omega
   ·obtain ⟨h2, h3⟩ := hcd.1 h1
    obtain ⟨f', rfl⟩ : ∃ g, f' = g + 1 := ⟨f' - 1, by omega⟩
    rw [SR ⟨h2, h3⟩] at hcl'
    refine ⟨⟨by omega, by omega, by omega⟩, by simp; omega, ⟨i + 1, f', ?_, by omega, by omega, by omega, hcl'⟩, by dsimp only; omega⟩
    rw [show (i : Int).toNat = i from rfl, show ((i + 1 : Nat) : Int).toNat = i + 1 from rfl, Vj i0 (by omega)]
   ·have h2 : ¬ (i + 1 < s.length ∧ ¬ (byt s i = 58 ∧ byt s (i + 1) = 93)) := fun h => absurd (h1.symm.trans (hcd.2 h)) (by decide)
    rw [SS h2] at hcl'
    rw [← hcl']
    exact ⟨rfl, i1⟩
  rintro _ ⟨rfl, hle⟩
  generalize CH s (e + 2) = i at hR hcl hle ⊢
  dsimp only
  generalize (s.take i).drop (e + 2) = nm at hR ⊢
  refine (hNm (nm, 0)).to ?_
  rintro (dd : Bool × Bool) _ hdd
  have hdd : dd = E6 nm 0 := hdd
  subst hdd
  have e5 : IntKind.i64.wrap ((i : Int) + 1) = ((i + 1 : Nat) : Int) := by rw [w64 (by omega) (by omega)]; omega
  have e6 : IntKind.i64.wrap ((i : Int) + 2) = ((i + 2 : Nat) : Int) := by rw [w64 (by omega) (by omega)]; omega
  simp only [e5, e6]
  refine ⟨fun h1 => hF.at fun k r hk hr => hK _ _ (fl R k r ?_ hr), fun h1 => ?_⟩
  ·rw [if_pos ?_] at hR
   ·exact hR.symm
   ·cases h2 : (E6 nm 0).2 with
    | false => exact .inl rfl
    | true =>
     rw [h2] at h1
     have := of_decide_eq_true h1
     exact .inr (by omega)
  ·have h2 : (E6 nm 0).2 = true ∧ i + 1 < s.length := by
    cases h2 : (E6 nm 0).2 with
    | false => rw [h2] at h1; cases h1
    | true =>
     rw [h2] at h1
     have := of_decide_eq_false h1
     exact ⟨rfl, by omega⟩
   rw [if_neg (by rw [h2.1]; simp; omega)] at hR
   refine Ag.mid (fun v => v = Cq nm w) ?_ ?_
   ·refine B0.of (fun q => ∃ c : Int, ∃ v : Bb, q = (c, v) ∧ 0 ≤ c ∧ c ≤ 256 ∧ N3 nm (256 - c).toNat c v = Cq nm w) (fun q => (256 - q.1).toNat) ⟨0, w, rfl, by decide, by decide, rfl⟩ ?_
    rintro _ ⟨c, v, rfl, c0, c1, hv⟩
    dsimp only
    refine ⟨fun h3 => Ag.of ?_, fun h3 => ?_⟩
    ·have h3 := of_decide_eq_true h3
     rw [wu8 c0 (by omega), w64 (by omega) (by omega)]
     obtain ⟨n, hn⟩ : ∃ n, (256 - c).toNat = n + 1 := ⟨(256 - c).toNat - 1, by omega⟩
     rw [hn, N3] at hv
     have hn2 : (256 - (c + 1)).toNat = n := by omega
     refine (hNm (nm, c)).to ?_
     rintro (dd : Bool × Bool) _ hdd
     have hdd : dd = E6 nm c := hdd
     subst hdd
     refine Ag.mid (fun v' => v' = if (E6 nm c).1 = true then EG v c else v) ⟨fun h4 => hP.at c0 (by omega) fun v' hv' => ?_, fun h4 => ?_⟩ ?_
     ·rw [if_pos h4]; exact hv'
     ·rw [if_neg (by rw [h4]; simp)]
     ·rintro v' rfl
      exact ⟨⟨c + 1, _, rfl, by omega, by omega, by rw [hn2]; exact hv⟩, by omega⟩
    ·have h3 := of_decide_eq_false h3
     have : c = 256 := by omega
     subst this
     exact hv
   ·rintro v rfl
    exact ⟨i + 2, _, rfl, by omega, by omega, hR⟩
 ·have hc' : ¬ (isc s e 91 && isc s (e + 1) 58) = true := by rw [hc]; simp
  rw [if_neg hc'] at hR
  clear hc hc'
  have hb := CQ s e
  refine Ag.mid (fun q => q = byt s e) ⟨⟨by omega, by omega⟩, rfl, trivial⟩ ?_
  rintro _ rfl
  have hcd : (cond (cond (decide (((e + 2 : Nat) : Int) < (s.length : Int))) (byt s ((e + 1 : Nat) : Int).toNat == 45) false) (byt s ((e + 2 : Nat) : Int).toNat != 93) false = true) ↔ (e + 2 < s.length ∧ byt s (e + 1) = 45 ∧ byt s (e + 2) ≠ 93) := by
   rw [Du, Du, Bool.and_eq_true, Bool.and_eq_true, decide_eq_true_eq]
   have e6 : (byt s ((e + 1 : Nat) : Int).toNat) = byt s (e + 1) := rfl
   have e7 : (byt s ((e + 2 : Nat) : Int).toNat) = byt s (e + 2) := rfl
   rw [e6, e7]
   simp only [beq_iff_eq, bne_iff_ne]
   constructor
   ·rintro ⟨⟨h1, h2⟩, h3⟩; exact ⟨by omega, h2, h3⟩
   ·rintro ⟨h1, h2, h3⟩; exact ⟨⟨by omega, h2⟩, h3⟩
  simp only [e1, e2]
  refine ⟨fun h1 => ?_, fun h1 => ?_, ?_⟩
  ·have := of_decide_eq_true h1; omega
  ·rw [Du, Bool.and_eq_true] at h1
   have := of_decide_eq_true h1.1
   omega
  refine Ag.mid (fun q => ∃ hi b : Int, q = (hi, (s, (b, (d, (l, (0 : Int)))))) ∧ 0 ≤ hi ∧ hi ≤ 255 ∧ (e : Int) ≤ b ∧ b + 1 ≤ s.length ∧ (if hi < byt s e then none else Dh s f false (Bp (byt s e) hi w) (b + 1).toNat) = R) ⟨fun h1 => ?_, fun h1 => ?_⟩ ?_
  ·have h2 := hcd.1 h1
   rw [if_pos h2] at hR
   have hb2 := CQ s (e + 2)
   refine Ag.mid (fun q => q = byt s (e + 2)) ⟨⟨by omega, by omega⟩, rfl, trivial⟩ ?_
   rintro _ rfl
   exact ⟨_, _, rfl, hb2.1, hb2.2, by omega, by omega, hR⟩
  ·rw [if_neg (fun h => absurd (h1.symm.trans (hcd.2 h)) (by decide))] at hR
   refine ⟨_, _, rfl, hb.1, hb.2, by omega, by omega, ?_⟩
   rw [if_neg (by omega)]
   exact hR
  rintro _ ⟨hi, b, rfl, h0, h255, hb0, hb1, hR⟩
  dsimp only
  refine ⟨fun h1 => hF.at fun k r hk hr => hK _ _ (fl R k r ?_ hr), fun h1 => ?_⟩
  ·rw [if_pos (of_decide_eq_true h1)] at hR
   exact hR.symm
  have h1 := of_decide_eq_false h1
  rw [if_neg h1] at hR
  rw [w64 (n := byt s e) (by omega) (by omega), w64 (n := hi) (by omega) (by omega), w64 (n := b + 1) (by omega) (by omega)]
  refine Ag.mid (fun v => v = Bp (byt s e) hi w) ?_ ?_
  ·refine B0.of (fun q => ∃ c : Int, ∃ v : Bb, q = (c, v) ∧ 0 ≤ c ∧ c ≤ hi + 1 ∧ EH (hi + 1 - c).toNat c v = Bp (byt s e) hi w) (fun q => (256 - q.1).toNat) ⟨byt s e, w, rfl, hb.1, by omega, rfl⟩ ?_
   rintro _ ⟨c, v, rfl, c0, c1, hv⟩
   dsimp only
   refine ⟨fun h3 => Ag.of ?_, fun h3 => ?_⟩
   ·have h3 := of_decide_eq_true h3
    rw [wu8 c0 (by omega), w64 (by omega) (by omega)]
    obtain ⟨n, hn⟩ : ∃ n, (hi + 1 - c).toNat = n + 1 := ⟨(hi + 1 - c).toNat - 1, by omega⟩
    rw [hn, EH] at hv
    have hn2 : (hi + 1 - (c + 1)).toNat = n := by omega
    refine hP.at c0 (by omega) fun v' hv' => ?_
    subst hv'
    exact ⟨⟨c + 1, _, rfl, by omega, by omega, by rw [hn2]; exact hv⟩, by omega⟩
   ·have h3 := of_decide_eq_false h3
    have hn2 : (hi + 1 - c).toNat = 0 := by omega
    rw [hn2, EH] at hv
    exact hv
  ·rintro v rfl
   refine ⟨(b + 1).toNat, _, ?_, by omega, by omega, hR⟩
   rw [show (((b + 1).toNat : Nat) : Int) = b + 1 by omega]
def Uw (s : Bs) (d : Int) (l : List Node) (R : Option (Bb × Nat)) (q : Int × (Bool × (Ab × Bb))) : Prop :=
 ∃ (e : Nat) (w : Bb) (fst : Bool) (f : Nat), q.2 = (fst, ((s, ((e : Int), (d, (l, (0 : Int))))), w)) ∧ e ≤ s.length ∧ s.length + 1 - e ≤ f ∧ Dh s f fst w e = R
def Ux (s : Bs) (q : Int × (Bool × (Ab × Bb))) : Nat := (s.length - q.2.2.1.2.1).toNat
def Hs (P : Pg) : Prop := ∀ (s : Bs) (a d : Int) (l : List Node), s.length ≤ 1000000 → 0 ≤ a → a ≤ s.length → l.length ≤ 1000000000 → Fn P Y3 Bt (s, (a, (d, (l, (0 : Int))))) fun (k : Int) (e : Ab) => match HE s a.toNat with
 | none => e.2.2.2.2 = 40
 | some (w, b) => k = (l.length : Int) ∧ e = (s, ((b : Int), (d, (l ++ [setNode w], (0 : Int)))))
theorem YP (h : Has P C8) (hI : Ka P) (hF : Ez P) (hN : Fq P) (hNm : MC P) (hP : Hq P) (hC : CN P) : Hs P := by
 intro s a d l hs a0 a1 hl
 refine Fn.to (K := fun k e => Mz (Dh s (s.length + 2) true z4 (if isc s a.toNat 94 = true then a.toNat + 1 else a.toNat)) (isc s a.toNat 94) s d l k e) ?_ ?_
 rotate_left
 ·intro k e hk
  unfold HE
  revert hk
  cases Dh s (s.length + 2) true z4 (if isc s a.toNat 94 = true then a.toNat + 1 else a.toNat) with
  | none => exact fun hk => hk
  | some p => exact fun hk => hk
 refine JO h ?_
 unfold Gy
 refine hI.at a0 ?_
 generalize hneg : isc s a.toNat 94 = neg
 refine Ag.mid (fun r => r = (s, (((if neg = true then a.toNat + 1 else a.toNat : Nat) : Int), (d, (l, (0 : Int)))))) ⟨fun hc => ?_, fun hc => ?_⟩ ?_
 ·dsimp only
  rw [w64 (by omega) (by omega), if_pos hc]
  have : ((a.toNat + 1 : Nat) : Int) = a + 1 := by omega
  rw [this]
 ·rw [if_neg (by rw [hc]; simp)]
  have : (a.toNat : Int) = a := by omega
  rw [this]
 rintro r rfl
 generalize hb : (if neg = true then a.toNat + 1 else a.toNat) = b
 have b1 : b ≤ s.length := by
  rw [← hb]
  split
  ·rename_i hc
   rw [hc] at hneg
   have := (Bi.1 hneg).1
   omega
  ·omega
 clear hb hneg a0 a1
 generalize hR : Dh s (s.length + 2) true z4 b = R
 refine Ag.mid (fun q => ∃ w e, R = some (w, e) ∧ e ≤ s.length ∧ q.2 = ((s, ((e : Int), (d, (l, (0 : Int))))), w)) ?_ ?_
 rotate_left
 ·rintro ⟨q, r, w⟩ ⟨w', e, rfl, he, hq⟩
  dsimp only at hq
  cases hq
  refine Ag.mid (fun v => v = if neg = true then GM w else w) ⟨fun hc => (hC w).to ?_, fun hc => ?_⟩ ?_
  ·rintro (v : Bb) _ rfl
   rw [if_pos hc]
  ·rw [if_neg (by rw [hc]; simp)]
  ·rintro v rfl
   dsimp only
   rw [w64 (by omega) (by omega)]
   refine hN.at hl ⟨rfl, rfl⟩
 refine B0.of (Uw s d l R) (Ux s) ⟨b, z4, true, s.length + 2, rfl, b1, by omega, hR⟩ ?_
 rintro ⟨q0, _⟩ ⟨e, w, fst, f, hq, e1, hf, hR⟩
 dsimp only at hq
 subst hq
 dsimp only
 obtain ⟨f, rfl⟩ : ∃ g, f = g + 1 := ⟨f - 1, by omega⟩
 rw [Dh] at hR
 refine ⟨fun hf1 => ⟨fun _ => ?_, fun hc => (nomatch hc)⟩, fun hf1 => hI.at (by omega) ⟨fun hc => ?_, fun hc => ?_⟩⟩
 rotate_left 2
 ·have hc : isc s (e : Int).toNat 93 = true := by
   revert hc; cases isc s (e : Int).toNat 93 <;> simp
  have hc : isc s e 93 = true := hc
  rw [if_neg (by rw [hf1, hc]; simp)] at hR
  exact ⟨w, e, hR.symm, e1, rfl⟩
 ·rw [if_pos (.inl hf1)] at hR
  clear hf1
  exact Pr (q := q0) (d := d) (l := l) (neg := neg) (K := Mz R neg s d l) (J := fun q => Uw s d l R q ∧ Ux s q < Ux s (q0, (fst, ((s, ((e : Int), (d, (l, (0 : Int))))), w)))) hI hF hNm hP hs hR (fun k r hk => hk) fun q b v h1 h2 h3 => ⟨⟨b, v, false, f, rfl, h2, by omega, h3⟩, by unfold Ux; dsimp only; omega⟩
 ·have hc : isc s (e : Int).toNat 93 = false := by
   revert hc; cases isc s (e : Int).toNat 93 <;> simp
  have hc : isc s e 93 = false := hc
  rw [if_pos (.inr hc)] at hR
  clear hf1 hc
  exact Pr (q := q0) (d := d) (l := l) (neg := neg) (K := Mz R neg s d l) (J := fun q => Uw s d l R q ∧ Ux s q < Ux s (q0, (fst, ((s, ((e : Int), (d, (l, (0 : Int))))), w)))) hI hF hNm hP hs hR (fun k r hk => hk) fun q b v h1 h2 h3 => ⟨⟨b, v, false, f, rfl, h2, by omega, h3⟩, by unfold Ux; dsimp only; omega⟩
end Go.VS
