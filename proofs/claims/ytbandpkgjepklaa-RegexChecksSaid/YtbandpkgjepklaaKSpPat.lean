/- The reader of patterns: pieces, alternatives, patterns. -/
import Derived.Test.YtbandpkgjepklaaKSpRdr
set_option linter.unusedVariables false
set_option linter.unusedSimpArgs false
namespace Go.VS
variable {P : Pg}
def PcW (P : Pg) (anc : Bool) (k : Int) (r : Ab) (K : Int → Ab → Prop) : Prop :=
 (((cond (r.2.2.2.2 != (0 : Int)) true (decide (r.2.1 ≥ ((List.length r.1 : Nat) : Int)))) = true → K k r) ∧ ((cond (r.2.2.2.2 != (0 : Int)) true (decide (r.2.1 ≥ ((List.length r.1 : Nat) : Int)))) = false → (0 ≤ r.2.1 ∧ r.2.1 < ((List.length r.1 : Nat) : Int)) ∧
 Ag (D := (Int × (Int × (Int × Ab)))) (fun J23 => Ag (D := (Int × (Int × (Int × Ab)))) (fun J25 => (((((UInt8.toNat (List.getD r.1 (Int.toNat r.2.1) 0) : Nat) : Int) == (42 : Int)) = true → J25 ((0 : Int), ((0 : Int), ((-1 : Int), r)))) ∧ ((((UInt8.toNat (List.getD r.1 (Int.toNat r.2.1) 0) : Nat) : Int) == (42 : Int)) = false → Ag (D := (Int × (Int × (Int × Ab)))) (fun J27 => (((((UInt8.toNat (List.getD r.1 (Int.toNat r.2.1) 0) : Nat) : Int) == (43 : Int)) = true → J27 ((0 : Int), ((1 : Int), ((-1 : Int), r)))) ∧ ((((UInt8.toNat (List.getD r.1 (Int.toNat r.2.1) 0) : Nat) : Int) == (43 : Int)) = false → Ag (D := (Int × (Int × (Int × Ab)))) (fun J29 => (((((UInt8.toNat (List.getD r.1 (Int.toNat r.2.1) 0) : Nat) : Int) == (63 : Int)) = true → J29 ((0 : Int), ((0 : Int), ((1 : Int), r)))) ∧ ((((UInt8.toNat (List.getD r.1 (Int.toNat r.2.1) 0) : Nat) : Int) == (63 : Int)) = false → (((((UInt8.toNat (List.getD r.1 (Int.toNat r.2.1) 0) : Nat) : Int) == (123 : Int)) = true → Fn P VK A6 r (fun (d31 : (Int × Int)) (e32 : Ab) => J29 ((0 : Int), (d31.1, (d31.2, e32))))) ∧ ((((UInt8.toNat (List.getD r.1 (Int.toNat r.2.1) 0) : Nat) : Int) == (123 : Int)) = false → K k r))))) (fun (d30 : (Int × (Int × (Int × Ab)))) => J27 d30)))) (fun (d28 : (Int × (Int × (Int × Ab)))) => J25 d28)))) (fun (d26 : (Int × (Int × (Int × Ab)))) => J23 d26)) (fun (d24 : (Int × (Int × (Int × Ab)))) => (((cond (cond false true anc) true (d24.2.2.2.2.2.2.2 != (0 : Int))) = true → Fn P zS0 Am (d24.2.2.2, (40 : Int)) (fun (d33 : Int) (e34 : Ab) => K d33 e34)) ∧ ((cond (cond false true anc) true (d24.2.2.2.2.2.2.2 != (0 : Int))) = false → Fn P zS2 Ar ((d24.2.2.2.1, ((IntKind.i64.wrap (d24.2.2.2.2.1 + (1 : Int))), d24.2.2.2.2.2)), ((6 : Int), (((0 : Int), ((0 : Int), ((0 : Int), (0 : Int)))), (d24.2.1, (d24.2.2.1, ([k] : List Int)))))) (fun (d35 : Int) (e36 : Ab) => K d35 e36))))))
theorem Z7 (hF : Ez P) (hNd : Fq P) (hB : FX P) {n : Nat} {s : Bs} {d : Int} {a : Nat} {l : List Node} (hs : s.length ≤ 1000000) (ha : a < s.length) (hl : l.length ≤ 2 * a) {anc : Bool} (hanc : anc = true ↔ (byt s a = 94 ∨ byt s a = 36)) {k : Int} {r : Ab} (hk : Sx s d (El (Fj s n) s d a l) k r) :
  PcW P anc k r (Sx s d (CI (Fj s n) s d a l)) := by
 generalize hR : CI (Fj s n) s d a l = R
 unfold PcW
 obtain ⟨s', b', d', l', er⟩ := r
 have hg := L5 (d := d) (fun d a l h => C7 s n d a l h) (l := l) ha
 unfold CI at hR
 cases hp : El (Fj s n) s d a l with
 | error c =>
  rw [hp] at hk hR hg
  have hk : er = c := hk
  subst hk
  have hc0 : er ≠ 0 := hg
  dsimp only at hR ⊢
  have h1 : (er != 0) = true := by simpa using hc0
  rw [h1]
  refine ⟨fun _ => ?_, fun h => (nomatch h)⟩
  rw [← hR]
  rfl
 | ok p =>
  obtain ⟨k', b, l1⟩ := p
  rw [hp] at hk hR hg
  obtain ⟨rfl, hk⟩ := hk
  cases hk
  have hg : Grow s a l 2 k b l' := hg
  have h1 := hg.hi; have h2 := hg.len; have h3 := hg.lo
  dsimp only at hR ⊢
  refine ⟨fun h => ?_, fun h => ⟨⟨by omega, ?_⟩, ?_⟩⟩
  ·have h : decide ((b : Int) ≥ (s.length : Int)) = true := h
   have h := of_decide_eq_true h
   rw [if_pos (by omega)] at hR
   rw [← hR]
   exact ⟨rfl, rfl⟩
  ·have h : decide ((b : Int) ≥ (s.length : Int)) = false := h
   have h := of_decide_eq_false h
   omega
  have h : decide ((b : Int) ≥ (s.length : Int)) = false := h
  have hlt := of_decide_eq_false h
  clear h
  rw [if_neg (by omega)] at hR
  have hbv : ∀ {v : Int}, (byt s b == v) = false → ¬ byt s b = v := fun h => by simpa using h
  have hbt : ∀ {v : Int}, (byt s b == v) = true → byt s b = v := fun h => by simpa using h
  refine Ag.mid (fun q => (∃ e' : Nat, D5 s b = some (some (q.2.1, (q.2.2.1, e'))) ∧ q.2.2.2 = (s, ((e' : Int), (d, (l', (0 : Int))))) ∧ b ≤ e' ∧ e' < s.length) ∨ (D5 s b = some none ∧ q.2.2.2.2.2.2.2 = 40)) ?_ ?_
  ·refine Ag.of ⟨fun h => .inl ⟨b, ?_, rfl, Nat.le_refl _, by omega⟩, fun h => Ag.of ⟨fun h2 => .inl ⟨b, ?_, rfl, Nat.le_refl _, by omega⟩, fun h2 => Ag.of ⟨fun h3 => .inl ⟨b, ?_, rfl, Nat.le_refl _, by omega⟩, fun h3 => ⟨fun h4 => ?_, fun h4 => ?_⟩⟩⟩⟩
   ·unfold D5; rw [if_pos (hbt h)]
   ·unfold D5; rw [if_neg (hbv h), if_pos (hbt h2)]
   ·unfold D5; rw [if_neg (hbv h), if_neg (hbv h2), if_pos (hbt h3)]
   ·have hq : D5 s b = some (B4 s b) := by unfold D5; rw [if_neg (hbv h), if_neg (hbv h2), if_neg (hbv h3), if_pos (hbt h4)]
    refine (hB s b d l' hs (by omega)).to ?_
    rintro (q : Int × Int) (e : Ab) he
    rw [hq]
    cases hbd : B4 s b with
    | none => rw [hbd] at he; exact .inr ⟨rfl, he⟩
    | some p =>
     obtain ⟨lo, hi, e'⟩ := p
     rw [hbd] at he
     obtain ⟨rfl, rfl⟩ := he
     have := Pm hbd
     exact .inl ⟨e', rfl, rfl, by omega, by omega⟩
   ·have hq : D5 s b = none := by unfold D5; rw [if_neg (hbv h), if_neg (hbv h2), if_neg (hbv h3), if_neg (hbv h4)]
    rw [hq] at hR
    rw [← hR]
    exact ⟨rfl, rfl⟩
  ·rintro ⟨u, lo, hi, s2, b2, d2, l2, er2⟩ hq
   dsimp only at hq ⊢
   rcases hq with ⟨e', hq, he, hb1, hb2⟩ | ⟨hq, rfl⟩
   ·cases he
    rw [hq] at hR
    dsimp only at hR
    have hcd : (cond (cond false true anc) true ((0 : Int) != 0)) = anc := by cases anc <;> rfl
    rw [hcd]
    refine ⟨fun h => hF.at fun k r hk hr => SW ?_ hr, fun h => ?_⟩
    ·rw [if_pos (hanc.1 h)] at hR; exact hR.symm
    ·rw [if_neg (fun h2 => by rw [hanc.2 h2] at h; cases h)] at hR
     rw [w64 (n := (e' : Int) + 1) (by omega) (by omega)]
     refine hNd.at (by omega) ?_
     rw [← hR]
     exact ⟨rfl, by rw [show ((e' + 1 : Nat) : Int) = (e' : Int) + 1 by omega]; rfl⟩
   ·rw [hq] at hR
    have hcd : (cond (cond false true anc) true ((40 : Int) != 0)) = true := by cases anc <;> rfl
    rw [hcd]
    refine ⟨fun _ => hF.at fun k r hk hr => ?_, fun h => (nomatch h)⟩
    rw [if_neg (by decide)] at hr
    rw [← hR]
    exact hr
theorem YH (h : Has P BL) (hAt : Has P BG) (hI : Ka P) (hF : Ez P) (hNd : Fq P) (hCl : Hs P) (hC : CN P) (hP : Hq P) (hB : FX P) {n : Nat} (hrec : RJ P n) {s : Bs} {d : Int} {a : Nat} {l : List Node} (hs : s.length ≤ 1000000) (d0 : 0 ≤ d) (d1 : d ≤ 50) (dn : 50 - d ≤ n) (ha : a < s.length) (hl : l.length ≤ 2 * a) :
  Fn P Y4 Bu (s, ((a : Int), (d, (l, (0 : Int))))) (Sx s d (CI (Fj s n) s d a l)) := by
 refine JP h ?_
 unfold Gz
 have hat := Zg hAt hI hF hNd hCl hC hP hrec hs d0 d1 dn ha hl
 refine hI.at (by omega) ⟨fun hc => ?_, fun hc => hI.at (by omega) ?_⟩
 ·rw [MY] at hc
  have hc := (Bi.1 hc).2
  refine hat.to ?_
  intro k r hk
  exact Z7 (anc := true) hF hNd hB hs ha hl ⟨fun _ => .inl hc, fun _ => rfl⟩ hk
 ·rw [MY] at hc ⊢
  have hc := I3.1 hc
  refine hat.to ?_
  intro k r hk
  refine Z7 (anc := isc s a 36) hF hNd hB hs ha hl ⟨fun h => .inr (Bi.1 h).2, fun h => Bi.2 ⟨ha, ?_⟩⟩ hk
  rcases h with h | h
  ·exact absurd ⟨ha, h⟩ hc
  ·exact h
def Aab (rec : Int → Nat → List Node → Eh) (s : Bs) (d : Int) (R : Except Int (List Int × (Nat × List Node))) (q : List Int × Ab) : Prop :=
 (∃ (a f : Nat) (l : List Node), q.2 = (s, ((a : Int), (d, (l, (0 : Int))))) ∧ a ≤ s.length ∧ s.length + 1 - a ≤ f ∧ l.length ≤ 2 * a ∧ q.1.length ≤ a ∧ E0 rec s d f q.1 a l = R) ∨ (R = .error q.2.2.2.2.2 ∧ q.2.2.2.2.2 ≠ 0)
theorem Aaf (h : Has P Bl) (hPc : Has P BL) (hAt : Has P BG) (hI : Ka P) (hF : Ez P) (hNd : Fq P) (hCl : Hs P) (hC : CN P) (hP : Hq P) (hB : FX P) {n : Nat} (hrec : RJ P n) {s : Bs} {d : Int} {a : Nat} {l : List Node} (hs : s.length ≤ 1000000) (d0 : 0 ≤ d) (d1 : d ≤ 50) (dn : 50 - d ≤ n) (ha : a ≤ s.length) (hl : l.length ≤ 2 * a) :
  Fn P Un AE (s, ((a : Int), (d, (l, (0 : Int))))) (Sx s d (Kh (Fj s n) s d a l)) := by
 refine G6 h ?_
 unfold Ei
 generalize hR2 : Kh (Fj s n) s d a l = R2
 unfold Kh at hR2
 generalize hR : E0 (Fj s n) s d (s.length + 1) [] a l = R at hR2
 refine Ag.mid (fun q => (∃ (a : Nat) (l : List Node), q.2 = (s, ((a : Int), (d, (l, (0 : Int))))) ∧ a ≤ s.length ∧ l.length ≤ 2 * a ∧ R = .ok (q.1, (a, l))) ∨ (R = .error q.2.2.2.2.2 ∧ q.2.2.2.2.2 ≠ 0)) ?_ ?_
 ·refine B0.of (Aab (Fj s n) s d R) (fun q => if q.2.2.2.2.2 = 0 then (s.length + 1 - q.2.2.1).toNat else 0) (.inl ⟨a, s.length + 1, l, rfl, ha, by omega, hl, by simp, hR⟩) ?_
  clear hR hR2 hl ha
  rintro ⟨kids, r⟩ (⟨a, f, l, hq, ha, hf, hl, hk, hR⟩ | ⟨hR, he⟩)
  ·dsimp only at hq hk hR
   subst hq
   dsimp only
   obtain ⟨f, rfl⟩ : ∃ g, f = g + 1 := ⟨f - 1, by omega⟩
   rw [E0] at hR
   have hcd : (cond (cond (cond ((0 : Int) == 0) (decide ((a : Int) < (s.length : Int))) false) (byt s (a : Int).toNat != 124) false) (!(cond (byt s (a : Int).toNat == 41) (decide (d > 0)) false)) false = true) ↔ (a < s.length ∧ byt s a ≠ 124 ∧ ¬ (byt s a = 41 ∧ d > 0)) := by
    have e0 : ((0 : Int) == 0) = true := rfl
    have e1 : byt s (a : Int).toNat = byt s a := rfl
    rw [e0, e1]
    show (cond (cond (decide ((a : Int) < (s.length : Int))) (byt s a != 124) false) (!(cond (byt s a == 41) (decide (d > 0)) false)) false = true) ↔ _
    rw [Du, Du, Du, Bool.and_eq_true, Bool.and_eq_true]
    simp only [decide_eq_true_eq, bne_iff_ne, ne_eq, Bool.not_eq_true', Bool.and_eq_false_iff, beq_eq_false_iff_ne, decide_eq_false_iff_not]
    constructor
    ·rintro ⟨⟨h1, h2⟩, h3⟩
     exact ⟨by omega, h2, fun h4 => by rcases h3 with h3 | h3; exact h3 h4.1; exact h3 h4.2⟩
    ·rintro ⟨h1, h2, h3⟩
     refine ⟨⟨by omega, h2⟩, ?_⟩
     by_cases h4 : byt s a = 41
     ·exact .inr fun h5 => h3 ⟨h4, h5⟩
     ·exact .inl h4
   refine ⟨fun h1 => ?_, fun h1 => ?_, fun h1 => Ag.of ?_, fun h1 => ?_⟩
   ·have h1 : decide ((a : Int) < (s.length : Int)) = true := h1
    have := of_decide_eq_true h1; omega
   ·rw [Du, Bool.and_eq_true] at h1
    have h1 : decide ((a : Int) < (s.length : Int)) = true := h1.1
    have := of_decide_eq_true h1; omega
   ·have h2 := hcd.1 h1
    rw [if_pos h2] at hR
    have hg := KU (d := d) (fun d a l h => C7 s n d a l h) (l := l) h2.1
    refine (YH hPc hAt hI hF hNd hCl hC hP hB hrec hs d0 d1 dn h2.1 hl).to ?_
    rintro (k : Int) (e : Ab) hr
    dsimp only
    refine ⟨by simp only [List.length_cons, List.length_nil]; omega, ?_⟩
    cases hp : CI (Fj s n) s d a l with
    | error c =>
     rw [hp] at hr hR hg
     have hr : e.2.2.2.2 = c := hr
     have hg : c ≠ 0 := hg
     subst hr
     exact ⟨.inr ⟨hR.symm, hg⟩, by rw [if_neg hg, if_pos rfl]; show 0 < ((s.length : Int) + 1 - (a : Int)).toNat; omega⟩
    | ok p =>
     obtain ⟨k', b, l1⟩ := p
     rw [hp] at hr hR hg
     obtain ⟨rfl, rfl⟩ := hr
     have hg : Grow s a l 2 k b l1 := hg
     have g1 := hg.lo; have g2 := hg.hi; have g3 := hg.len; have g4 := hg.more
     exact ⟨.inl ⟨b, f, l1, rfl, g2, by omega, by omega, by dsimp only; rw [List.length_append]; simp only [List.length_cons, List.length_nil]; omega, hR⟩, by rw [if_pos rfl, if_pos rfl]; show ((s.length : Int) + 1 - (b : Int)).toNat < ((s.length : Int) + 1 - (a : Int)).toNat; omega⟩
   ·have h2 : ¬ (a < s.length ∧ byt s a ≠ 124 ∧ ¬ (byt s a = 41 ∧ d > 0)) := fun h => absurd (h1.symm.trans (hcd.2 h)) (by decide)
    rw [if_neg h2] at hR
    exact .inl ⟨a, l, rfl, ha, hl, hR.symm⟩
  ·dsimp only at hR he ⊢
   have he0 : (r.2.2.2.2 == (0 : Int)) = false := by simpa using he
   rw [he0]
   exact ⟨fun h => (nomatch h), fun h => (nomatch h), fun h => (nomatch h), fun _ => .inr ⟨hR, he⟩⟩
 ·rintro ⟨kids, r⟩ (⟨a, l, hq, ha, hl, rfl⟩ | ⟨rfl, he⟩)
  ·dsimp only at hq hR2
   subst hq
   dsimp only
   refine Ag.of ⟨fun h => (nomatch h), fun _ => ⟨fun h => ?_, fun h => ⟨fun h2 => ?_, fun h2 => ?_⟩⟩⟩
   ·have h : (kids.length : Int) = 0 := eq_of_beq h
    rw [if_pos (by omega)] at hR2
    refine hNd.at (by omega) ?_
    rw [← hR2]
    exact ⟨rfl, rfl⟩
   ·have h : ¬ (kids.length : Int) = 0 := ne_of_beq_false h
    have h2 : (kids.length : Int) = 1 := eq_of_beq h2
    rw [if_neg (by omega), if_pos (by omega)] at hR2
    rw [← hR2]
    refine ⟨⟨by omega, by omega⟩, ?_, rfl, rfl⟩
    show 0 < kids.length
    omega
   ·have h : ¬ (kids.length : Int) = 0 := ne_of_beq_false h
    have h2 : ¬ (kids.length : Int) = 1 := ne_of_beq_false h2
    rw [if_neg (by omega), if_neg (by omega)] at hR2
    refine hNd.at (by omega) ?_
    rw [← hR2]
    exact ⟨rfl, rfl⟩
  ·dsimp only at hR2 he ⊢
   have he0 : (r.2.2.2.2 != (0 : Int)) = true := by simpa using he
   rw [he0]
   refine Ag.of ⟨fun _ => ?_, fun h => (nomatch h)⟩
   rw [← hR2]
   rfl
def XP (rec : Int → Nat → List Node → Eh) (s : Bs) (d : Int) (R : Except Int (List Int × (Nat × List Node))) (q : List Int × Ab) : Prop :=
 (∃ (a f : Nat) (l : List Node), q.2 = (s, ((a : Int), (d, (l, (0 : Int))))) ∧ a ≤ s.length ∧ s.length + 1 - a ≤ f ∧ l.length ≤ 2 * a + 1 ∧ 1 ≤ q.1.length ∧ q.1.length ≤ a + 1 ∧ Eg rec s d f q.1 a l = R) ∨ (R = .error q.2.2.2.2.2 ∧ q.2.2.2.2.2 ≠ 0 ∧ 1 ≤ q.1.length)
theorem YF (h : Has P Cd) (hAl : Has P Bl) (hPc : Has P BL) (hAt : Has P BG) (hI : Ka P) (hF : Ez P) (hNd : Fq P) (hCl : Hs P) (hC : CN P) (hP : Hq P) (hB : FX P) : ∀ n, RJ P n
 | 0 => fun s d a l _ _ h1 h2 => by omega
 | n + 1 => by
  have hrec := YF h hAl hPc hAt hI hF hNd hCl hC hP hB n
  intro s d a l hs d0 d1 dn ha hl
  have alt : ∀ {a : Nat} {l : List Node}, a ≤ s.length → l.length ≤ 2 * a → Fn P Un AE (s, ((a : Int), (d, (l, (0 : Int))))) (Sx s d (Kh (Fj s n) s d a l)) := fun h1 h2 => Aaf hAl hPc hAt hI hF hNd hCl hC hP hB hrec hs d0 d1 (by omega) h1 h2
  have altg : ∀ {a : Nat} {l : List Node}, a ≤ s.length → Fo s a l 0 (Kh (Fj s n) s d a l) := fun h => F6 (fun d a l h => C7 s n d a l h) h
  refine IY h ?_
  unfold Fs
  generalize hR2 : Fj s (n + 1) d a l = R2
  have hR2 : Sb (Fj s n) s d a l = R2 := hR2
  unfold Sb at hR2
  refine (alt ha hl).to ?_
  have hg := altg (l := l) ha
  rintro (k : Int) (e : Ab) hr
  obtain ⟨R, hinv, hR2⟩ : ∃ R : Except Int (List Int × (Nat × List Node)), XP (Fj s n) s d R ([k], e) ∧ (match R with | .error e => (.error e : Eh) | .ok (kids, (b2, l2)) => if kids.length = 1 then .ok (kids.getD 0 0, (b2, l2)) else .ok ((l2.length : Int), (b2, l2 ++ [EV 5 kids]))) = R2 := by
   cases hp : Kh (Fj s n) s d a l with
   | error c =>
    rw [hp] at hr hR2 hg
    have hr : e.2.2.2.2 = c := hr
    have hg : c ≠ 0 := hg
    subst hr
    exact ⟨.error e.2.2.2.2, .inr ⟨rfl, hg, by simp⟩, hR2⟩
   | ok p =>
    obtain ⟨k', b, l1⟩ := p
    rw [hp] at hr hR2 hg
    obtain ⟨rfl, rfl⟩ := hr
    have hg : Grow s a l 0 k b l1 := hg
    have g1 := hg.lo; have g2 := hg.hi; have g3 := hg.len
    exact ⟨Eg (Fj s n) s d (s.length + 1) [k] b l1, .inl ⟨b, s.length + 1, l1, rfl, g2, by omega, by omega, by simp, by simp, rfl⟩, hR2⟩
  clear hg hr ha hl
  refine Ag.mid (fun q => (∃ (a : Nat) (l : List Node), q.2 = (s, ((a : Int), (d, (l, (0 : Int))))) ∧ a ≤ s.length ∧ l.length ≤ 2 * a + 1 ∧ 1 ≤ q.1.length ∧ R = .ok (q.1, (a, l))) ∨ (R = .error q.2.2.2.2.2 ∧ q.2.2.2.2.2 ≠ 0 ∧ 1 ≤ q.1.length)) ?_ ?_
  ·refine B0.of (XP (Fj s n) s d R) (fun q => if q.2.2.2.2.2 = 0 then (s.length + 1 - q.2.2.1).toNat else 0) hinv ?_
   clear hR2 hinv
   rintro ⟨kids, r⟩ (⟨a, f, l, hq, ha, hf, hl, hk1, hk, hR⟩ | ⟨hR, he, hk⟩)
   ·dsimp only at hq hk hk1 hR
    subst hq
    dsimp only
    obtain ⟨f, rfl⟩ : ∃ g, f = g + 1 := ⟨f - 1, by omega⟩
    rw [Eg] at hR
    refine ⟨fun _ => hI.at (by omega) ?_, fun h => (nomatch h)⟩
    rw [MY]
    refine ⟨fun h1 => Ag.of ?_, fun h1 => ?_⟩
    ·have h1 : isc s a 124 = true := by revert h1; cases isc s a 124 <;> simp
     have hlt := (Bi.1 h1).1
     rw [if_pos h1] at hR
     have e1 : IntKind.i64.wrap ((a : Int) + 1) = ((a + 1 : Nat) : Int) := by rw [w64 (by omega) (by omega)]; omega
     rw [e1]
     refine (alt (by omega) (by omega)).to ?_
     have hg := altg (a := a + 1) (l := l) (by omega)
     rintro (k : Int) (e : Ab) hr
     refine ⟨by simp only [List.length_cons, List.length_nil]; omega, ?_⟩
     have hk2 : (kids ++ ([k] : List Int)).length = kids.length + 1 := by rw [List.length_append]; rfl
     cases hp : Kh (Fj s n) s d (a + 1) l with
     | error c =>
      rw [hp] at hr hR hg
      have hr : e.2.2.2.2 = c := hr
      have hg : c ≠ 0 := hg
      subst hr
      exact ⟨.inr ⟨hR.symm, hg, by dsimp only; omega⟩, by rw [if_neg hg, if_pos rfl]; show 0 < ((s.length : Int) + 1 - (a : Int)).toNat; omega⟩
     | ok p =>
      obtain ⟨k', b, l1⟩ := p
      rw [hp] at hr hR hg
      obtain ⟨rfl, rfl⟩ := hr
      have hg : Grow s (a + 1) l 0 k b l1 := hg
      have g1 := hg.lo; have g2 := hg.hi; have g3 := hg.len
      exact ⟨.inl ⟨b, f, l1, rfl, g2, by omega, by omega, by dsimp only; omega, by dsimp only; omega, hR⟩, by rw [if_pos rfl, if_pos rfl]; show ((s.length : Int) + 1 - (b : Int)).toNat < ((s.length : Int) + 1 - (a : Int)).toNat; omega⟩
    ·have h1 : isc s a 124 = false := by revert h1; cases isc s a 124 <;> simp
     rw [if_neg (by rw [h1]; simp)] at hR
     exact .inl ⟨a, l, rfl, ha, hl, hk1, hR.symm⟩
   ·dsimp only at hR he hk ⊢
    have he0 : (r.2.2.2.2 == (0 : Int)) = false := by simpa using he
    rw [he0]
    exact ⟨fun h => (nomatch h), fun _ => ⟨fun h => (nomatch h), fun _ => .inr ⟨hR, he, hk⟩⟩⟩
  ·rintro ⟨kids, r⟩ (⟨a, l, hq, ha, hl, hk, rfl⟩ | ⟨rfl, he, hk⟩)
   ·dsimp only at hq hR2 hk
    subst hq
    dsimp only
    refine ⟨fun h => ?_, fun h => ?_⟩
    ·have h : ((kids.length : Int) == 1) = true := h
     have h : (kids.length : Int) = 1 := eq_of_beq h
     rw [if_pos (by omega)] at hR2
     rw [← hR2]
     refine ⟨⟨by omega, by omega⟩, ?_, rfl, rfl⟩
     show 0 < kids.length
     omega
    ·have h : ((kids.length : Int) == 1) = false := h
     have h : ¬ (kids.length : Int) = 1 := ne_of_beq_false h
     rw [if_neg (by omega)] at hR2
     refine hNd.at (by omega) ?_
     rw [← hR2]
     exact ⟨rfl, rfl⟩
   ·dsimp only at hR2 he hk ⊢
    have he0 : (r.2.2.2.2 != (0 : Int)) = true := by simpa using he
    rw [he0]
    refine ⟨fun _ => ⟨⟨by omega, by omega⟩, ?_, ?_⟩, fun h => (nomatch h)⟩
    ·show 0 < kids.length
     omega
    ·rw [← hR2]
     rfl
def IP (P : Pg) : Prop := ∀ s : Bs, Fn P YZ B2 s fun (d : List Node × Int) _ => d = Dy s
theorem Xp (h : Has P Gl) (hPt : Has P Cd) (hAl : Has P Bl) (hPc : Has P BL) (hAt : Has P BG) (hI : Ka P) (hF : Ez P) (hNd : Fq P) (hCl : Hs P) (hC : CN P) (hP : Hq P) (hB : FX P) : IP P := by
 intro s
 refine PA h ?_
 unfold LS
 generalize hR : Dy s = R
 unfold Dy at hR
 refine ⟨fun hc => ?_, fun hc => ?_⟩
 ·have hc := of_decide_eq_true hc
  rw [if_pos (by omega)] at hR
  exact hR
 have hc := of_decide_eq_false hc
 rw [if_neg (by omega)] at hR
 have hg := C7 s 51 0 0 [] (Nat.zero_le _)
 refine (YF hPt hAl hPc hAt hI hF hNd hCl hC hP hB 51 s 0 0 [] (by omega) (by decide) (by decide) (by decide) (Nat.zero_le _) (Nat.zero_le _)).to ?_
 rintro (k : Int) (e : Ab) hr
 cases hp : Fj s 51 0 0 [] with
 | error c =>
  rw [hp] at hr hR hg
  have hr : e.2.2.2.2 = c := hr
  have hg : c ≠ 0 := hg
  subst hr
  have he0 : (e.2.2.2.2 == (0 : Int)) = false := by simpa using hg
  rw [he0]
  refine Ag.mid (fun q => q.2.2.2.2 = e.2.2.2.2) ⟨fun h => (nomatch h), fun _ => rfl⟩ ?_
  intro q hq
  have he1 : (q.2.2.2.2 != (0 : Int)) = true := by rw [hq]; simpa using hg
  rw [he1]
  refine ⟨fun _ => Ag.of ?_, fun h => (nomatch h)⟩
  simp only [and_true, and_self]
  rw [hq]
  exact hR
 | ok p =>
  obtain ⟨k', b, l1⟩ := p
  rw [hp] at hr hR hg
  obtain ⟨rfl, rfl⟩ := hr
  dsimp only at hR ⊢
  have he0 : (cond ((0 : Int) == 0) (decide ((b : Int) < (s.length : Int))) false) = decide ((b : Int) < (s.length : Int)) := rfl
  rw [he0]
  refine Ag.mid (fun q => (b < s.length ∧ q.2.2.2.2 = 40) ∨ (¬ b < s.length ∧ q = (s, ((b : Int), ((0 : Int), (l1, (0 : Int))))))) ⟨fun h => hF.at fun k r hk hr => ?_, fun h => ?_⟩ ?_
  ·have h := of_decide_eq_true h
   rw [if_pos rfl] at hr
   exact .inl ⟨by omega, hr⟩
  ·have h := of_decide_eq_false h
   exact .inr ⟨by omega, rfl⟩
  ·rintro q (⟨h1, h2⟩ | ⟨h1, rfl⟩)
   ·rw [if_pos h1] at hR
    rw [h2]
    refine ⟨fun _ => Ag.of ?_, fun h => absurd h (show ¬ (((40 : Int) != 0) = false) by decide)⟩
    simp only [and_true, and_self]
    exact hR
   ·rw [if_neg h1] at hR
    exact ⟨fun h => absurd h (show ¬ (((0 : Int) != 0) = true) by decide), fun _ => hR⟩
end Go.VS
