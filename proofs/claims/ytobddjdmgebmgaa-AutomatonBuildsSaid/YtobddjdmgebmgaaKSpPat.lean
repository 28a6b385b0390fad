/- The reader of patterns: pieces, alternatives, patterns. -/
import Derived.Test.YtobddjdmgebmgaaKSpRdr
set_option linter.unusedVariables false
set_option linter.unusedSimpArgs false
namespace Go.VS
variable {P : Program}
def PcW (P : Program) (anc : Bool) (k : Int) (r : ref04_reader) (K : Int → ref04_reader → Prop) : Prop :=
 (((cond (r.2.2.2.2 != (0 : Int)) true (decide (r.2.1 ≥ (r.1.length : Int)))) = true → K k r) ∧ ((cond (r.2.2.2.2 != (0 : Int)) true (decide (r.2.1 ≥ (r.1.length : Int)))) = false → (0 ≤ r.2.1 ∧ r.2.1 < (r.1.length : Int)) ∧
 JoinW (D := (Int × (Int × (Int × ref04_reader)))) (fun J23 => JoinW (D := (Int × (Int × (Int × ref04_reader)))) (fun J25 => (((((r.1.getD r.2.1.toNat 0).toNat : Int) == (42 : Int)) = true → J25 ((0 : Int), ((0 : Int), ((-1 : Int), r)))) ∧ ((((r.1.getD r.2.1.toNat 0).toNat : Int) == (42 : Int)) = false → JoinW (D := (Int × (Int × (Int × ref04_reader)))) (fun J27 => (((((r.1.getD r.2.1.toNat 0).toNat : Int) == (43 : Int)) = true → J27 ((0 : Int), ((1 : Int), ((-1 : Int), r)))) ∧ ((((r.1.getD r.2.1.toNat 0).toNat : Int) == (43 : Int)) = false → JoinW (D := (Int × (Int × (Int × ref04_reader)))) (fun J29 => (((((r.1.getD r.2.1.toNat 0).toNat : Int) == (63 : Int)) = true → J29 ((0 : Int), ((0 : Int), ((1 : Int), r)))) ∧ ((((r.1.getD r.2.1.toNat 0).toNat : Int) == (63 : Int)) = false → (((((r.1.getD r.2.1.toNat 0).toNat : Int) == (123 : Int)) = true → Fn P "(*mergelens/mergelensref04.reader).bounds" S_ref04_reader_bounds r (fun (d31 : (Int × Int)) (e32 : ref04_reader) => J29 ((0 : Int), (d31.1, (d31.2, e32))))) ∧ ((((r.1.getD r.2.1.toNat 0).toNat : Int) == (123 : Int)) = false → K k r))))) (fun d30 => J27 d30)))) (fun d28 => J25 d28)))) (fun d26 => J23 d26)) (fun d24 => (((cond (cond false true anc) true (d24.2.2.2.2.2.2.2 != (0 : Int))) = true → Fn P "(*mergelens/mergelensref04.reader).fail" S_ref04_reader_fail (d24.2.2.2, (40 : Int)) (fun (d33 : Int) (e34 : ref04_reader) => K d33 e34)) ∧ ((cond (cond false true anc) true (d24.2.2.2.2.2.2.2 != (0 : Int))) = false → Fn P "(*mergelens/mergelensref04.reader).node" S_ref04_reader_node ((d24.2.2.2.1, ((IntKind.i64.wrap (d24.2.2.2.2.1 + (1 : Int))), d24.2.2.2.2.2)), ((6 : Int), (((0 : Int), ((0 : Int), ((0 : Int), (0 : Int)))), (d24.2.1, (d24.2.2.1, ([k] : List Int)))))) (fun (d35 : Int) (e36 : ref04_reader) => K d35 e36))))))
theorem pc_ok (hF : Sp_fail P) (hNd : Sp_node P) (hB : Sp_bounds P) {n : Nat} {s : Bs} {d : Int} {a : Nat} {l : List Node} (hs : s.length ≤ 1000000) (ha : a < s.length) (hl : l.length ≤ 2 * a) {anc : Bool} (hanc : anc = true ↔ (byt s a = 94 ∨ byt s a = 36)) {k : Int} {r : ref04_reader} (hk : RdOk s d (atomF (patN s n) s d a l) k r) :
  PcW P anc k r (RdOk s d (pieceF (patN s n) s d a l)) := by
 generalize hR : pieceF (patN s n) s d a l = R
 unfold PcW
 obtain ⟨s', b', d', l', er⟩ := r
 have hg := atomF_grow (d := d) (fun d a l h => patN_grow s n d a l h) (l := l) ha
 unfold pieceF at hR
 cases hp : atomF (patN s n) s d a l with
 | error c =>
  rw [hp] at hk hR hg
  have hk : er = c := hk
  subst hk
  have hc0 : er ≠ 0 := hg
  dsimp only at hR ⊢
  have h1 : (er != 0) = true := by simpa using hc0
  rw [h1]
  refine ⟨fun _ => ?_, fun h => (nomatch h)⟩
  rw [← hR]
  rfl
 | ok p =>
  obtain ⟨k', b, l1⟩ := p
  rw [hp] at hk hR hg
  obtain ⟨rfl, hk⟩ := hk
  cases hk
  have hg : Grow s a l 2 k b l' := hg
  have h1 := hg.hi; have h2 := hg.len; have h3 := hg.lo
  dsimp only at hR ⊢
  refine ⟨fun h => ?_, fun h => ⟨⟨by omega, ?_⟩, ?_⟩⟩
  ·have h : decide ((b : Int) ≥ (s.length : Int)) = true := h
   have h := of_decide_eq_true h
   rw [if_pos (by omega)] at hR
   rw [← hR]
   exact ⟨rfl, rfl⟩
  ·have h : decide ((b : Int) ≥ (s.length : Int)) = false := h
   have h := of_decide_eq_false h
   omega
  have h : decide ((b : Int) ≥ (s.length : Int)) = false := h
  have hlt := of_decide_eq_false h
  clear h
  rw [if_neg (by omega)] at hR
  have hbv : ∀ {v : Int}, (byt s b == v) = false → ¬ byt s b = v := fun h => by simpa using h
  have hbt : ∀ {v : Int}, (byt s b == v) = true → byt s b = v := fun h => by simpa using h
  refine JoinW.mid (fun q => (∃ e' : Nat, quantF s b = some (some (q.2.1, (q.2.2.1, e'))) ∧ q.2.2.2 = (s, ((e' : Int), (d, (l', (0 : Int))))) ∧ b ≤ e' ∧ e' < s.length) ∨ (quantF s b = some none ∧ q.2.2.2.2.2.2.2 = 40)) ?_ ?_
  ·refine JoinW.of ⟨fun h => .inl ⟨b, ?_, rfl, Nat.le_refl _, by omega⟩, fun h => JoinW.of ⟨fun h2 => .inl ⟨b, ?_, rfl, Nat.le_refl _, by omega⟩, fun h2 => JoinW.of ⟨fun h3 => .inl ⟨b, ?_, rfl, Nat.le_refl _, by omega⟩, fun h3 => ⟨fun h4 => ?_, fun h4 => ?_⟩⟩⟩⟩
   ·unfold quantF; rw [if_pos (hbt h)]
   ·unfold quantF; rw [if_neg (hbv h), if_pos (hbt h2)]
   ·unfold quantF; rw [if_neg (hbv h), if_neg (hbv h2), if_pos (hbt h3)]
   ·have hq : quantF s b = some (boundsF s b) := by unfold quantF; rw [if_neg (hbv h), if_neg (hbv h2), if_neg (hbv h3), if_pos (hbt h4)]
    refine (hB s b d l' hs (by omega)).to ?_
    rintro (q : Int × Int) (e : ref04_reader) he
    rw [hq]
    cases hbd : boundsF s b with
    | none => rw [hbd] at he; exact .inr ⟨rfl, he⟩
    | some p =>
     obtain ⟨lo, hi, e'⟩ := p
     rw [hbd] at he
     obtain ⟨rfl, rfl⟩ := he
     have := boundsF_le hbd
     exact .inl ⟨e', rfl, rfl, by omega, by omega⟩
   ·have hq : quantF s b = none := by unfold quantF; rw [if_neg (hbv h), if_neg (hbv h2), if_neg (hbv h3), if_neg (hbv h4)]
    rw [hq] at hR
    rw [← hR]
    exact ⟨rfl, rfl⟩
  ·rintro ⟨u, lo, hi, s2, b2, d2, l2, er2⟩ hq
   dsimp only at hq ⊢
   rcases hq with ⟨e', hq, he, hb1, hb2⟩ | ⟨hq, rfl⟩
   ·cases he
    rw [hq] at hR
    dsimp only at hR
    have hcd : (cond (cond false true anc) true ((0 : Int) != 0)) = anc := by cases anc <;> rfl
    rw [hcd]
    refine ⟨fun h => hF.at fun k r hk hr => failR ?_ hr, fun h => ?_⟩
    ·rw [if_pos (hanc.1 h)] at hR; exact hR.symm
    ·rw [if_neg (fun h2 => by rw [hanc.2 h2] at h; cases h)] at hR
     rw [w64 (n := (e' : Int) + 1) (by omega) (by omega)]
     refine hNd.at (by omega) ?_
     rw [← hR]
     exact ⟨rfl, by rw [show ((e' + 1 : Nat) : Int) = (e' : Int) + 1 by omega]; rfl⟩
   ·rw [hq] at hR
    have hcd : (cond (cond false true anc) true ((40 : Int) != 0)) = true := by cases anc <;> rfl
    rw [hcd]
    refine ⟨fun _ => hF.at fun k r hk hr => ?_, fun h => (nomatch h)⟩
    rw [if_neg (by decide)] at hr
    rw [← hR]
    exact hr
theorem piece_ok (h : Has P F_ref04_reader_piece) (hAt : Has P F_ref04_reader_atom) (hI : Sp_is P) (hF : Sp_fail P) (hNd : Sp_node P) (hCl : Sp_class P) (hC : Sp_complement P) (hP : Sp_Put P) (hB : Sp_bounds P) {n : Nat} (hrec : PatHyp P n) {s : Bs} {d : Int} {a : Nat} {l : List Node} (hs : s.length ≤ 1000000) (d0 : 0 ≤ d) (d1 : d ≤ 50) (dn : 50 - d ≤ n) (ha : a < s.length) (hl : l.length ≤ 2 * a) :
  Fn P "(*mergelens/mergelensref04.reader).piece" S_ref04_reader_piece (s, ((a : Int), (d, (l, (0 : Int))))) (RdOk s d (pieceF (patN s n) s d a l)) := by
 refine fn_ref04_reader_piece h ?_
 unfold W_ref04_reader_piece
 have hat := atom_ok hAt hI hF hNd hCl hC hP hrec hs d0 d1 dn ha hl
 refine hI.at (by omega) ⟨fun hc => ?_, fun hc => hI.at (by omega) ?_⟩
 ·rw [isc_int] at hc
  have hc := (isc_true.1 hc).2
  refine hat.to ?_
  intro k r hk
  exact pc_ok (anc := true) hF hNd hB hs ha hl ⟨fun _ => .inl hc, fun _ => rfl⟩ hk
 ·rw [isc_int] at hc ⊢
  have hc := isc_false.1 hc
  refine hat.to ?_
  intro k r hk
  refine pc_ok (anc := isc s a 36) hF hNd hB hs ha hl ⟨fun h => .inr (isc_true.1 h).2, fun h => isc_true.2 ⟨ha, ?_⟩⟩ hk
  rcases h with h | h
  ·exact absurd ⟨ha, h⟩ hc
  ·exact h
def AltInv (rec : Int → Nat → List Node → PRes) (s : Bs) (d : Int) (R : Except Int (List Int × (Nat × List Node))) (q : List Int × ref04_reader) : Prop :=
 (∃ (a f : Nat) (l : List Node), q.2 = (s, ((a : Int), (d, (l, (0 : Int))))) ∧ a ≤ s.length ∧ s.length + 1 - a ≤ f ∧ l.length ≤ 2 * a ∧ q.1.length ≤ a ∧ altLoop rec s d f q.1 a l = R) ∨ (R = .error q.2.2.2.2.2 ∧ q.2.2.2.2.2 ≠ 0)
theorem alt_ok (h : Has P F_ref04_reader_alternative) (hPc : Has P F_ref04_reader_piece) (hAt : Has P F_ref04_reader_atom) (hI : Sp_is P) (hF : Sp_fail P) (hNd : Sp_node P) (hCl : Sp_class P) (hC : Sp_complement P) (hP : Sp_Put P) (hB : Sp_bounds P) {n : Nat} (hrec : PatHyp P n) {s : Bs} {d : Int} {a : Nat} {l : List Node} (hs : s.length ≤ 1000000) (d0 : 0 ≤ d) (d1 : d ≤ 50) (dn : 50 - d ≤ n) (ha : a ≤ s.length) (hl : l.length ≤ 2 * a) :
  Fn P "(*mergelens/mergelensref04.reader).alternative" S_ref04_reader_alternative (s, ((a : Int), (d, (l, (0 : Int))))) (RdOk s d (altF (patN s n) s d a l)) := by
 refine fn_ref04_reader_alternative h ?_
 unfold W_ref04_reader_alternative
 generalize hR2 : altF (patN s n) s d a l = R2
 unfold altF at hR2
 generalize hR : altLoop (patN s n) s d (s.length + 1) [] a l = R at hR2
 refine JoinW.mid (fun q => (∃ (a : Nat) (l : List Node), q.2 = (s, ((a : Int), (d, (l, (0 : Int))))) ∧ a ≤ s.length ∧ l.length ≤ 2 * a ∧ R = .ok (q.1, (a, l))) ∨ (R = .error q.2.2.2.2.2 ∧ q.2.2.2.2.2 ≠ 0)) ?_ ?_
 ·refine LoopW.of (AltInv (patN s n) s d R) (fun q => if q.2.2.2.2.2 = 0 then (s.length + 1 - q.2.2.1).toNat else 0) (.inl ⟨a, s.length + 1, l, rfl, ha, by omega, hl, by simp, hR⟩) ?_
  clear hR hR2 hl ha
  rintro ⟨kids, r⟩ (⟨a, f, l, hq, ha, hf, hl, hk, hR⟩ | ⟨hR, he⟩)
  ·dsimp only at hq hk hR
   subst hq
   dsimp only
   obtain ⟨f, rfl⟩ : ∃ g, f = g + 1 := ⟨f - 1, by omega⟩
   rw [altLoop] at hR
   have hcd : (cond (cond (cond ((0 : Int) == 0) (decide ((a : Int) < (s.length : Int))) false) (byt s (a : Int).toNat != 124) false) (!(cond (byt s (a : Int).toNat == 41) (decide (d > 0)) false)) false = true) ↔ (a < s.length ∧ byt s a ≠ 124 ∧ ¬ (byt s a = 41 ∧ d > 0)) := by
    have e0 : ((0 : Int) == 0) = true := rfl
    have e1 : byt s (a : Int).toNat = byt s a := rfl
    rw [e0, e1]
    show (cond (cond (decide ((a : Int) < (s.length : Int))) (byt s a != 124) false) (!(cond (byt s a == 41) (decide (d > 0)) false)) false = true) ↔ _
    rw [cond_ff, cond_ff, cond_ff, Bool.and_eq_true, Bool.and_eq_true]
    simp only [decide_eq_true_eq, bne_iff_ne, ne_eq, Bool.not_eq_true', Bool.and_eq_false_iff, beq_eq_false_iff_ne, decide_eq_false_iff_not]
    constructor
    ·rintro ⟨⟨h1, h2⟩, h3⟩
     exact ⟨by omega, h2, fun h4 => by rcases h3 with h3 | h3; exact h3 h4.1; exact h3 h4.2⟩
    ·rintro ⟨h1, h2, h3⟩
     refine ⟨⟨by omega, h2⟩, ?_⟩
     by_cases h4 : byt s a = 41
     ·exact .inr fun h5 => h3 ⟨h4, h5⟩
     ·exact .inl h4
   refine ⟨fun h1 => ?_, fun h1 => ?_, fun h1 => JoinW.of ?_, fun h1 => ?_⟩
   ·have h1 : decide ((a : Int) < (s.length : Int)) = true := h1
    have := of_decide_eq_true h1; omega
   ·rw [cond_ff, Bool.and_eq_true] at h1
    have h1 : decide ((a : Int) < (s.length : Int)) = true := h1.1
    have := of_decide_eq_true h1; omega
   ·have h2 := hcd.1 h1
    rw [if_pos h2] at hR
    have hg := pieceF_grow (d := d) (fun d a l h => patN_grow s n d a l h) (l := l) h2.1
    refine (piece_ok hPc hAt hI hF hNd hCl hC hP hB hrec hs d0 d1 dn h2.1 hl).to ?_
    rintro (k : Int) (e : ref04_reader) hr
    dsimp only
    refine ⟨by simp only [List.length_cons, List.length_nil]; omega, ?_⟩
    cases hp : pieceF (patN s n) s d a l with
    | error c =>
     rw [hp] at hr hR hg
     have hr : e.2.2.2.2 = c := hr
     have hg : c ≠ 0 := hg
     subst hr
     exact ⟨.inr ⟨hR.symm, hg⟩, by rw [if_neg hg, if_pos rfl]; show 0 < ((s.length : Int) + 1 - (a : Int)).toNat; omega⟩
    | ok p =>
     obtain ⟨k', b, l1⟩ := p
     rw [hp] at hr hR hg
     obtain ⟨rfl, rfl⟩ := hr
     have hg : Grow s a l 2 k b l1 := hg
     have g1 := hg.lo; have g2 := hg.hi; have g3 := hg.len; have g4 := hg.more
     exact ⟨.inl ⟨b, f, l1, rfl, g2, by omega, by omega, by dsimp only; rw [List.length_append]; simp only [List.length_cons, List.length_nil]; omega, hR⟩, by rw [if_pos rfl, if_pos rfl]; show ((s.length : Int) + 1 - (b : Int)).toNat < ((s.length : Int) + 1 - (a : Int)).toNat; omega⟩
   ·have h2 : ¬ (a < s.length ∧ byt s a ≠ 124 ∧ ¬ (byt s a = 41 ∧ d > 0)) := fun h => absurd (h1.symm.trans (hcd.2 h)) (by decide)
    rw [if_neg h2] at hR
    exact .inl ⟨a, l, rfl, ha, hl, hR.symm⟩
  ·dsimp only at hR he ⊢
   have he0 : (r.2.2.2.2 == (0 : Int)) = false := by simpa using he
   rw [he0]
   exact ⟨fun h => (nomatch h), fun h => (nomatch h), fun h => (nomatch h), fun _ => .inr ⟨hR, he⟩⟩
 ·rintro ⟨kids, r⟩ (⟨a, l, hq, ha, hl, rfl⟩ | ⟨rfl, he⟩)
  ·dsimp only at hq hR2
   subst hq
   dsimp only
   refine JoinW.of ⟨fun h => (nomatch h), fun _ => ⟨fun h => ?_, fun h => ⟨fun h2 => ?_, fun h2 => ?_⟩⟩⟩
   ·have h : (kids.length : Int) = 0 := eq_of_beq h
    rw [if_pos (by omega)] at hR2
    refine hNd.at (by omega) ?_
    rw [← hR2]
    exact ⟨rfl, rfl⟩
   ·have h : ¬ (kids.length : Int) = 0 := ne_of_beq_false h
    have h2 : (kids.length : Int) = 1 := eq_of_beq h2
    rw [if_neg (by omega), if_pos (by omega)] at hR2
    rw [← hR2]
    refine ⟨⟨by omega, by omega⟩, ?_, rfl, rfl⟩
    show 0 < kids.length
    omega
   ·have h : ¬ (kids.length : Int) = 0 := ne_of_beq_false h
    have h2 : ¬ (kids.length : Int) = 1 := ne_of_beq_false h2
    rw [if_neg (by omega), if_neg (by omega)] at hR2
    refine hNd.at (by omega) ?_
    rw [← hR2]
    exact ⟨rfl, rfl⟩
  ·dsimp only at hR2 he ⊢
   have he0 : (r.2.2.2.2 != (0 : Int)) = true := by simpa using he
   rw [he0]
   refine JoinW.of ⟨fun _ => ?_, fun h => (nomatch h)⟩
   rw [← hR2]
   rfl
def PatInv (rec : Int → Nat → List Node → PRes) (s : Bs) (d : Int) (R : Except Int (List Int × (Nat × List Node))) (q : List Int × ref04_reader) : Prop :=
 (∃ (a f : Nat) (l : List Node), q.2 = (s, ((a : Int), (d, (l, (0 : Int))))) ∧ a ≤ s.length ∧ s.length + 1 - a ≤ f ∧ l.length ≤ 2 * a + 1 ∧ 1 ≤ q.1.length ∧ q.1.length ≤ a + 1 ∧ patLoop rec s d f q.1 a l = R) ∨ (R = .error q.2.2.2.2.2 ∧ q.2.2.2.2.2 ≠ 0 ∧ 1 ≤ q.1.length)
theorem pat_ok (h : Has P F_ref04_reader_pattern) (hAl : Has P F_ref04_reader_alternative) (hPc : Has P F_ref04_reader_piece) (hAt : Has P F_ref04_reader_atom) (hI : Sp_is P) (hF : Sp_fail P) (hNd : Sp_node P) (hCl : Sp_class P) (hC : Sp_complement P) (hP : Sp_Put P) (hB : Sp_bounds P) : ∀ n, PatHyp P n
 | 0 => fun s d a l _ _ h1 h2 => by omega
 | n + 1 => by
  have hrec := pat_ok h hAl hPc hAt hI hF hNd hCl hC hP hB n
  intro s d a l hs d0 d1 dn ha hl
  have alt : ∀ {a : Nat} {l : List Node}, a ≤ s.length → l.length ≤ 2 * a → Fn P "(*mergelens/mergelensref04.reader).alternative" S_ref04_reader_alternative (s, ((a : Int), (d, (l, (0 : Int))))) (RdOk s d (altF (patN s n) s d a l)) := fun h1 h2 => alt_ok hAl hPc hAt hI hF hNd hCl hC hP hB hrec hs d0 d1 (by omega) h1 h2
  have altg : ∀ {a : Nat} {l : List Node}, a ≤ s.length → GrowR s a l 0 (altF (patN s n) s d a l) := fun h => altF_grow (fun d a l h => patN_grow s n d a l h) h
  refine fn_ref04_reader_pattern h ?_
  unfold W_ref04_reader_pattern
  generalize hR2 : patN s (n + 1) d a l = R2
  have hR2 : patS (patN s n) s d a l = R2 := hR2
  unfold patS at hR2
  refine (alt ha hl).to ?_
  have hg := altg (l := l) ha
  rintro (k : Int) (e : ref04_reader) hr
  obtain ⟨R, hinv, hR2⟩ : ∃ R : Except Int (List Int × (Nat × List Node)), PatInv (patN s n) s d R ([k], e) ∧ (match R with | .error e => (.error e : PRes) | .ok (kids, (b2, l2)) => if kids.length = 1 then .ok (kids.getD 0 0, (b2, l2)) else .ok ((l2.length : Int), (b2, l2 ++ [kidsNode 5 kids]))) = R2 := by
   cases hp : altF (patN s n) s d a l with
   | error c =>
    rw [hp] at hr hR2 hg
    have hr : e.2.2.2.2 = c := hr
    have hg : c ≠ 0 := hg
    subst hr
    exact ⟨.error e.2.2.2.2, .inr ⟨rfl, hg, by simp⟩, hR2⟩
   | ok p =>
    obtain ⟨k', b, l1⟩ := p
    rw [hp] at hr hR2 hg
    obtain ⟨rfl, rfl⟩ := hr
    have hg : Grow s a l 0 k b l1 := hg
    have g1 := hg.lo; have g2 := hg.hi; have g3 := hg.len
    exact ⟨patLoop (patN s n) s d (s.length + 1) [k] b l1, .inl ⟨b, s.length + 1, l1, rfl, g2, by omega, by omega, by simp, by simp, rfl⟩, hR2⟩
  clear hg hr ha hl
  refine JoinW.mid (fun q => (∃ (a : Nat) (l : List Node), q.2 = (s, ((a : Int), (d, (l, (0 : Int))))) ∧ a ≤ s.length ∧ l.length ≤ 2 * a + 1 ∧ 1 ≤ q.1.length ∧ R = .ok (q.1, (a, l))) ∨ (R = .error q.2.2.2.2.2 ∧ q.2.2.2.2.2 ≠ 0 ∧ 1 ≤ q.1.length)) ?_ ?_
  ·refine LoopW.of (PatInv (patN s n) s d R) (fun q => if q.2.2.2.2.2 = 0 then (s.length + 1 - q.2.2.1).toNat else 0) hinv ?_
   clear hR2 hinv
   rintro ⟨kids, r⟩ (⟨a, f, l, hq, ha, hf, hl, hk1, hk, hR⟩ | ⟨hR, he, hk⟩)
   ·dsimp only at hq hk hk1 hR
    subst hq
    dsimp only
    obtain ⟨f, rfl⟩ : ∃ g, f = g + 1 := ⟨f - 1, by omega⟩
    rw [patLoop] at hR
    refine ⟨fun _ => hI.at (by omega) ?_, fun h => (nomatch h)⟩
    rw [isc_int]
    refine ⟨fun h1 => JoinW.of ?_, fun h1 => ?_⟩
    ·have h1 : isc s a 124 = true := by revert h1; cases isc s a 124 <;> simp
     have hlt := (isc_true.1 h1).1
     rw [if_pos h1] at hR
     have e1 : IntKind.i64.wrap ((a : Int) + 1) = ((a + 1 : Nat) : Int) := by rw [w64 (by omega) (by omega)]; omega
     rw [e1]
     refine (alt (by omega) (by omega)).to ?_
     have hg := altg (a := a + 1) (l := l) (by omega)
     rintro (k : Int) (e : ref04_reader) hr
     refine ⟨by simp only [List.length_cons, List.length_nil]; omega, ?_⟩
     have hk2 : (kids ++ ([k] : List Int)).length = kids.length + 1 := by rw [List.length_append]; rfl
     cases hp : altF (patN s n) s d (a + 1) l with
     | error c =>
      rw [hp] at hr hR hg
      have hr : e.2.2.2.2 = c := hr
      have hg : c ≠ 0 := hg
      subst hr
      exact ⟨.inr ⟨hR.symm, hg, by dsimp only; omega⟩, by rw [if_neg hg, if_pos rfl]; show 0 < ((s.length : Int) + 1 - (a : Int)).toNat; omega⟩
     | ok p =>
      obtain ⟨k', b, l1⟩ := p
      rw [hp] at hr hR hg
      obtain ⟨rfl, rfl⟩ := hr
      have hg : Grow s (a + 1) l 0 k b l1 := hg
      have g1 := hg.lo; have g2 := hg.hi; have g3 := hg.len
      exact ⟨.inl ⟨b, f, l1, rfl, g2, by omega, by omega, by dsimp only; omega, by dsimp only; omega, hR⟩, by rw [if_pos rfl, if_pos rfl]; show ((s.length : Int) + 1 - (b : Int)).toNat < ((s.length : Int) + 1 - (a : Int)).toNat; omega⟩
    ·have h1 : isc s a 124 = false := by revert h1; cases isc s a 124 <;> simp
     rw [if_neg (by rw [h1]; simp)] at hR
     exact .inl ⟨a, l, rfl, ha, hl, hk1, hR.symm⟩
   ·dsimp only at hR he hk ⊢
    have he0 : (r.2.2.2.2 == (0 : Int)) = false := by simpa using he
    rw [he0]
    exact ⟨fun h => (nomatch h), fun _ => ⟨fun h => (nomatch h), fun _ => .inr ⟨hR, he, hk⟩⟩⟩
  ·rintro ⟨kids, r⟩ (⟨a, l, hq, ha, hl, hk, rfl⟩ | ⟨rfl, he, hk⟩)
   ·dsimp only at hq hR2 hk
    subst hq
    dsimp only
    refine ⟨fun h => ?_, fun h => ?_⟩
    ·have h : ((kids.length : Int) == 1) = true := h
     have h : (kids.length : Int) = 1 := eq_of_beq h
     rw [if_pos (by omega)] at hR2
     rw [← hR2]
     refine ⟨⟨by omega, by omega⟩, ?_, rfl, rfl⟩
     show 0 < kids.length
     omega
    ·have h : ((kids.length : Int) == 1) = false := h
     have h : ¬ (kids.length : Int) = 1 := ne_of_beq_false h
     rw [if_neg (by omega)] at hR2
     refine hNd.at (by omega) ?_
     rw [← hR2]
     exact ⟨rfl, rfl⟩
   ·dsimp only at hR2 he hk ⊢
    have he0 : (r.2.2.2.2 != (0 : Int)) = true := by simpa using he
    rw [he0]
    refine ⟨fun _ => ⟨⟨by omega, by omega⟩, ?_, ?_⟩, fun h => (nomatch h)⟩
    ·show 0 < kids.length
     omega
    ·rw [← hR2]
     rfl
def Sp_RParse (P : Program) : Prop := ∀ s : Bs, Fn P "mergelens/mergelensref04.Parse" S_ref04_Parse s fun (d : List Node × Int) _ => d = parseF s
theorem sp_RParse (h : Has P F_ref04_Parse) (hPt : Has P F_ref04_reader_pattern) (hAl : Has P F_ref04_reader_alternative) (hPc : Has P F_ref04_reader_piece) (hAt : Has P F_ref04_reader_atom) (hI : Sp_is P) (hF : Sp_fail P) (hNd : Sp_node P) (hCl : Sp_class P) (hC : Sp_complement P) (hP : Sp_Put P) (hB : Sp_bounds P) : Sp_RParse P := by
 intro s
 refine fn_ref04_Parse h ?_
 unfold W_ref04_Parse
 generalize hR : parseF s = R
 unfold parseF at hR
 refine ⟨fun hc => ?_, fun hc => ?_⟩
 ·have hc := of_decide_eq_true hc
  rw [if_pos (by omega)] at hR
  exact hR
 have hc := of_decide_eq_false hc
 rw [if_neg (by omega)] at hR
 have hg := patN_grow s 51 0 0 [] (Nat.zero_le _)
 refine (pat_ok hPt hAl hPc hAt hI hF hNd hCl hC hP hB 51 s 0 0 [] (by omega) (by decide) (by decide) (by decide) (Nat.zero_le _) (Nat.zero_le _)).to ?_
 rintro (k : Int) (e : ref04_reader) hr
 cases hp : patN s 51 0 0 [] with
 | error c =>
  rw [hp] at hr hR hg
  have hr : e.2.2.2.2 = c := hr
  have hg : c ≠ 0 := hg
  subst hr
  have he0 : (e.2.2.2.2 == (0 : Int)) = false := by simpa using hg
  rw [he0]
  refine JoinW.mid (fun q => q.2.2.2.2 = e.2.2.2.2) ⟨fun h => (nomatch h), fun _ => rfl⟩ ?_
  intro q hq
  have he1 : (q.2.2.2.2 != (0 : Int)) = true := by rw [hq]; simpa using hg
  rw [he1]
  refine ⟨fun _ => JoinW.of ?_, fun h => (nomatch h)⟩
  simp only [and_true, and_self]
  rw [hq]
  exact hR
 | ok p =>
  obtain ⟨k', b, l1⟩ := p
  rw [hp] at hr hR hg
  obtain ⟨rfl, rfl⟩ := hr
  dsimp only at hR ⊢
  have he0 : (cond ((0 : Int) == 0) (decide ((b : Int) < (s.length : Int))) false) = decide ((b : Int) < (s.length : Int)) := rfl
  rw [he0]
  refine JoinW.mid (fun q => (b < s.length ∧ q.2.2.2.2 = 40) ∨ (¬ b < s.length ∧ q = (s, ((b : Int), ((0 : Int), (l1, (0 : Int))))))) ⟨fun h => hF.at fun k r hk hr => ?_, fun h => ?_⟩ ?_
  ·have h := of_decide_eq_true h
   rw [if_pos rfl] at hr
   exact .inl ⟨by omega, hr⟩
  ·have h := of_decide_eq_false h
   exact .inr ⟨by omega, rfl⟩
  ·rintro q (⟨h1, h2⟩ | ⟨h1, rfl⟩)
   ·rw [if_pos h1] at hR
    rw [h2]
    refine ⟨fun _ => JoinW.of ?_, fun h => absurd h (show ¬ (((40 : Int) != 0) = false) by decide)⟩
    simp only [and_true, and_self]
    exact hR
   ·rw [if_neg h1] at hR
    exact ⟨fun h => absurd h (show ¬ (((0 : Int) != 0) = true) by decide), fun _ => hR⟩
end Go.VS
