/- The reader of patterns does what the plain function says. -/
import Derived.Test.YtbandpkgjepklaaKSpPars
set_option linter.unusedVariables false
set_option linter.unusedSimpArgs false
namespace Go.VS
variable {P : Pg}
theorem MY {s : Bs} {a : Nat} {c : Int} : isc s (a : Int).toNat c = isc s a c := rfl
def FX (P : Pg) : Prop := ∀ (s : Bs) (a : Nat) (d : Int) (l : List Node), s.length ≤ 1000000 → a < s.length → Fn P VK A6 (s, ((a : Int), (d, (l, (0 : Int))))) fun (k : Int × Int) (e : Ab) => match B4 s a with
 | none => e.2.2.2.2 = 40
 | some (lo, (hi, b)) => k = (lo, hi) ∧ e = (s, ((b : Int), (d, (l, (0 : Int)))))
theorem Xq (h : Has P CW) (hN : L1 P) (hF : Ez P) : FX P := by
 intro s a d l hs ha
 refine Fn.to (K := fun (k : Int × Int) (e : Ab) => ∀ R, B4 s a = R → match R with
  | none => e.2.2.2.2 = 40
  | some (lo, (hi, b)) => k = (lo, hi) ∧ e = (s, ((b : Int), (d, (l, (0 : Int)))))) ?_ (fun k e h => h _ rfl)
 refine Jk h ?_
 unfold FN
 dsimp only
 have e1 : IntKind.i64.wrap ((a : Int) + 1) = ((a + 1 : Nat) : Int) := by rw [w64 (by omega) (by omega)]; omega
 rw [e1]
 refine Ag.mid (fun q => q = OQ (EW s (a + 1))) ⟨(hN (s, ((a + 1 : Nat) : Int)) (by dsimp only; omega)).to ?_, trivial⟩ ?_
 ·rintro (q : Int × (Int × Bool)) _ hq
  rw [if_neg (by omega)] at hq
  have hq : q = OQ (EW s (a + 1)) := hq
  simp only [hq, and_true, and_self]
 rintro q rfl
 have fl : ∀ {lo hi : Int} {k : Int} {r : Ab}, B4 s a = none → r.2.2.2.2 = (if (0 : Int) = 0 then 40 else 0) → ∀ R, B4 s a = R → (match R with
  | none => r.2.2.2.2 = 40
  | some (lo, (hi, b)) => ((0 : Int), (0 : Int)) = (lo, hi) ∧ r = (s, ((b : Int), (d, (l, (0 : Int)))))) := by
  intro lo hi k r h1 h2 R h3
  rw [h1] at h3
  subst h3
  rw [if_pos rfl] at h2
  exact h2
 cases hn : EW s (a + 1) with
 | none =>
  have hb : B4 s a = none := by unfold B4; rw [hn]
  dsimp only [OQ]
  refine ⟨fun hc => (nomatch hc), Ag.mid (fun q => q = ((0 : Int), (false, (0 : Int)))) ⟨fun hc => (nomatch hc), fun _ => rfl⟩ ?_⟩
  rintro _ rfl
  dsimp only
  exact ⟨fun hc => (nomatch hc), fun _ => hF.at fun k r hk hr => fl (lo := 0) (hi := 0) (k := 0) hb hr, fun hc => (nomatch hc)⟩
 | some p =>
  obtain ⟨lo, nx⟩ := p
  have hle := Lp hn
  dsimp only [OQ]
  have e2 : IntKind.i64.wrap ((nx : Int) + 1) = ((nx + 1 : Nat) : Int) := by rw [w64 (by omega) (by omega)]; omega
  simp only [e2]
  have hc44 := Te (s := s) (a := (nx : Int)) (by omega) (c := 44)
  refine ⟨fun hc => ?_, ?_⟩
  ·have hc : decide ((nx : Int) < (s.length : Int)) = true := hc
   have := of_decide_eq_true hc
   omega
  have hcd : (cond (cond true (decide ((nx : Int) < (s.length : Int))) false) (byt s (nx : Int).toNat == 44) false) = isc s nx 44 := hc44
  refine Ag.mid (fun q => ∃ (e : Nat) (ok : Bool) (hi : Int), q = ((e : Int), (ok, hi)) ∧ (ok = false → B4 s a = none) ∧ e ≤ s.length ∧ (ok = true → B4 s a = if isc s e 125 = true ∧ lo ≤ 100 ∧ hi ≤ 100 ∧ ¬ (0 ≤ hi ∧ hi < lo) then some (lo, (hi, e)) else none)) ⟨fun hc => ?_, fun hc => ?_⟩ ?_
  ·have hc : isc s nx 44 = true := hcd.symm.trans hc
   have hlt := (Bi.1 hc).1
   refine ⟨fun hc2 => ?_, Ag.of ⟨fun hc2 => (hN (s, ((nx + 1 : Nat) : Int)) (by dsimp only; omega)).to ?_, fun hc2 => ?_⟩⟩
   ·have := of_decide_eq_true hc2; omega
   ·rintro (q : Int × (Int × Bool)) _ hq
    rw [if_neg (by omega)] at hq
    have hq : q = OQ (EW s (nx + 1)) := hq
    have h2 : nx + 1 < s.length ∧ byt s (nx + 1) ≠ 125 := by
     rw [Du, Bool.and_eq_true, decide_eq_true_eq] at hc2
     obtain ⟨h3, h4⟩ := hc2
     have h4 : (byt s (nx + 1) != 125) = true := h4
     exact ⟨by omega, by simpa using h4⟩
    have hb : B4 s a = match EW s (nx + 1) with
     | none => none
     | some (hi, e) => if isc s e 125 = true ∧ lo ≤ 100 ∧ hi ≤ 100 ∧ ¬ (0 ≤ hi ∧ hi < lo) then some (lo, (hi, e)) else none := by
     unfold B4
     rw [hn]
     dsimp only
     rw [if_pos hc, if_pos h2]
     cases EW s (nx + 1) <;> rfl
    cases hn2 : EW s (nx + 1) with
    | none =>
     rw [hn2] at hq hb
     subst hq
     exact ⟨0, false, 0, rfl, fun _ => hb, by omega, fun h => (nomatch h)⟩
    | some p =>
     obtain ⟨hi, e⟩ := p
     rw [hn2] at hq hb
     subst hq
     have := Lp hn2
     exact ⟨e, true, hi, rfl, fun h => (nomatch h), by omega, fun _ => hb⟩
   ·have h2 : ¬ (nx + 1 < s.length ∧ byt s (nx + 1) ≠ 125) := by
     rintro ⟨h3, h4⟩
     have h5 : (cond (decide (((nx + 1 : Nat) : Int) < (s.length : Int))) (byt s (nx + 1) != 125) false) = true := by
      rw [Du, Bool.and_eq_true, decide_eq_true_eq]
      exact ⟨by omega, by simpa using h4⟩
     exact absurd (hc2.symm.trans h5) (by decide)
    refine ⟨nx + 1, true, -1, rfl, fun h => (nomatch h), by omega, fun _ => ?_⟩
    unfold B4
    rw [hn]
    dsimp only
    rw [if_pos hc, if_neg h2]
  ·have hc : isc s nx 44 = false := hcd.symm.trans hc
   refine ⟨nx, true, lo, rfl, fun h => (nomatch h), by omega, fun _ => ?_⟩
   unfold B4
   rw [hn]
   dsimp only
   rw [if_neg (by rw [hc]; simp)]
  rintro _ ⟨e, ok, hi, rfl, h1, h2, h3⟩
  dsimp only
  cases ok with
  | false => exact ⟨fun hc => (nomatch hc), fun _ => hF.at fun k r hk hr => fl (lo := 0) (hi := 0) (k := 0) (h1 rfl) hr, fun hc => (nomatch hc)⟩
  | true =>
   have h3 := h3 rfl
   have hge : (cond (!true) true (decide ((e : Int) ≥ (s.length : Int)))) = decide ((e : Int) ≥ (s.length : Int)) := rfl
   have hbe : byt s (e : Int).toNat = byt s e := rfl
   refine ⟨fun hc => ?_, fun hc => hF.at fun k r hk hr => fl (lo := 0) (hi := 0) (k := 0) ?_ hr, fun hc => ?_⟩
   ·have := of_decide_eq_false hc; omega
   ·rw [h3, if_neg]
    rintro ⟨k1, k2, k3, k4⟩
    obtain ⟨k5, k6⟩ := Bi.1 k1
    have : (cond (cond (cond (cond (cond (!true) true (decide ((e : Int) ≥ (s.length : Int)))) true (byt s (e : Int).toNat != 125)) true (decide (lo > 100))) true (decide (hi > 100))) true (cond (decide (hi ≥ 0)) (decide (hi < lo)) false)) = false := by
     rw [hge, hbe, k6]
     have a1 : decide ((e : Int) ≥ (s.length : Int)) = false := decide_eq_false (by omega)
     have a2 : decide (lo > 100) = false := decide_eq_false (by omega)
     have a3 : decide (hi > 100) = false := decide_eq_false (by omega)
     rw [a1, a2, a3]
     show (cond (decide (hi ≥ 0)) (decide (hi < lo)) false) = false
     rw [Du, Bool.and_eq_false_iff]
     by_cases h0 : 0 ≤ hi
     ·exact .inr (decide_eq_false fun h => k4 ⟨h0, h⟩)
     ·exact .inl (decide_eq_false h0)
    exact absurd (this.symm.trans hc) (by decide)
   ·have key : isc s e 125 = true ∧ lo ≤ 100 ∧ hi ≤ 100 ∧ ¬ (0 ≤ hi ∧ hi < lo) := by
     have hc : (cond (cond (cond (cond (decide ((e : Int) ≥ (s.length : Int))) true (byt s e != 125)) true (decide (lo > 100))) true (decide (hi > 100))) true (cond (decide (hi ≥ 0)) (decide (hi < lo)) false)) = false := hc
     cases a1 : decide ((e : Int) ≥ (s.length : Int)) with
     | true => rw [a1] at hc; exact absurd hc (by simp)
     | false =>
     cases a2 : decide (lo > 100) with
     | true => rw [a2] at hc; revert hc; cases (cond (decide ((e : Int) ≥ (s.length : Int))) true (byt s e != 125)) <;> simp
     | false =>
     cases a3 : decide (hi > 100) with
     | true => rw [a3] at hc; revert hc; cases (cond (cond (decide ((e : Int) ≥ (s.length : Int))) true (byt s e != 125)) true (decide (lo > 100))) <;> simp
     | false =>
     rw [a1, a2, a3] at hc
     have a1 := of_decide_eq_false a1
     have a2 := of_decide_eq_false a2
     have a3 := of_decide_eq_false a3
     cases a4 : (byt s e != 125) with
     | true => rw [a4] at hc; exact absurd hc (by simp)
     | false =>
     rw [a4] at hc
     have hc : (cond (decide (hi ≥ 0)) (decide (hi < lo)) false) = false := hc
     refine ⟨Bi.2 ⟨by omega, by simpa using a4⟩, by omega, by omega, fun ⟨h5, h6⟩ => ?_⟩
     rw [decide_eq_true h5, decide_eq_true h6] at hc
     cases hc
    rw [if_pos key] at h3
    intro R hR
    rw [h3] at hR
    subst hR
    exact ⟨rfl, rfl⟩
def Sx (s : Bs) (d : Int) (R : Eh) (k : Int) (e : Ab) : Prop := match R with
 | .error c => e.2.2.2.2 = c
 | .ok (k', (a, l)) => k = k' ∧ e = (s, ((a : Int), (d, (l, (0 : Int)))))
def RJ (P : Pg) (n : Nat) : Prop := ∀ (s : Bs) (d : Int) (a : Nat) (l : List Node), s.length ≤ 1000000 → 0 ≤ d → d ≤ 50 → 51 - d ≤ n → a ≤ s.length → l.length ≤ 2 * a → Fn P VI A3 (s, ((a : Int), (d, (l, (0 : Int))))) (Sx s d (Fj s n d a l))
theorem SW {s : Bs} {d : Int} {R : Eh} {c k : Int} {r : Ab} (hR : R = .error c) (hr : r.2.2.2.2 = (if (0 : Int) = 0 then c else 0)) : Sx s d R k r := by
 subst hR
 rw [if_pos rfl] at hr
 exact hr
theorem Zg (h : Has P BG) (hI : Ka P) (hF : Ez P) (hNd : Fq P) (hCl : Hs P) (hC : CN P) (hP : Hq P) {n : Nat} (hrec : RJ P n) {s : Bs} {d : Int} {a : Nat} {l : List Node} (hs : s.length ≤ 1000000) (d0 : 0 ≤ d) (d1 : d ≤ 50) (dn : 50 - d ≤ n) (ha : a < s.length) (hl : l.length ≤ 2 * a) :
  Fn P XK Bk (s, ((a : Int), (d, (l, (0 : Int))))) (Sx s d (El (Fj s n) s d a l)) := by
 refine Kp h ?_
 unfold GQ
 dsimp only
 have e1 : IntKind.i64.wrap ((a : Int) + 1) = ((a + 1 : Nat) : Int) := by rw [w64 (by omega) (by omega)]; omega
 have e1' : IntKind.i64.wrap (((a + 1 : Nat) : Int) + 1) = ((a + 2 : Nat) : Int) := by rw [w64 (by omega) (by omega)]; omega
 simp only [e1, e1']
 have hb := CQ s a
 generalize hR : El (Fj s n) s d a l = R
 unfold El at hR
 dsimp only at hR
 refine Ag.mid (fun q => q = byt s a) ⟨⟨by omega, by omega⟩, rfl, trivial⟩ ?_
 rintro _ rfl
 have hbv : ∀ {v : Int}, (byt s a == v) = false → ¬ byt s a = v := fun h => by simpa using h
 refine Ag.mid (fun q => ∃ (u : Int) (c : Int) (b : Nat), q = (u, (c, (s, ((b : Int), (d, (l, (0 : Int))))))) ∧ 0 ≤ c ∧ c ≤ 255 ∧ R = .ok ((l.length : Int), (b, l ++ [setNode (EG z4 c)]))) ?_ ?_
 rotate_left
 ·rintro _ ⟨u, c, b, rfl, c0, c1, rfl⟩
  dsimp only
  refine hP.at c0 c1 fun v hv => ?_
  subst hv
  refine hNd.at (by omega) ?_
  exact ⟨rfl, rfl⟩
 refine ⟨fun hc => ⟨fun hc2 => ?_, fun hc2 => ?_⟩, fun hc => ⟨fun hc2 => ?_, fun hc2 => ⟨fun hc3 => ?_, fun hc3 => ⟨fun hc4 => ?_, fun hc4 => ⟨fun hc5 => ?_, fun hc5 => ?_⟩⟩⟩⟩⟩
 ·rw [if_pos (eq_of_beq hc), if_pos (of_decide_eq_true hc2)] at hR
  exact hF.at fun k r hk hr => SW hR.symm hr
 ·rw [if_pos (eq_of_beq hc), if_neg (of_decide_eq_false hc2)] at hR
  have hd2 := of_decide_eq_false hc2
  rw [w64 (n := d + 1) (by omega) (by omega)]
  have hg := C7 s n (d + 1) (a + 1) l (by omega)
  refine (hrec s (d + 1) (a + 1) l hs (by omega) (by omega) (by omega) (by omega) (by omega)).to ?_
  rintro (k : Int) ⟨s', b, d', l1, er⟩ hk
  cases hp : Fj s n (d + 1) (a + 1) l with
  | error c =>
   rw [hp] at hk hR hg
   have hk : er = c := hk
   subst hk
   have hc0 : er ≠ 0 := hg
   dsimp only at hR ⊢
   refine ⟨fun h => absurd (eq_of_beq h) hc0, fun _ => ⟨fun h => (nomatch h), fun _ => ?_⟩⟩
   rw [← hR]
   rfl
  | ok p =>
   obtain ⟨k', b', l'⟩ := p
   rw [hp] at hk hR hg
   obtain ⟨rfl, hk⟩ := hk
   cases hk
   have hg : Grow s (a + 1) l 0 k b' l1 := hg
   have hbl := hg.hi
   dsimp only at hR ⊢
   refine ⟨fun _ => hI.at (by omega) ⟨fun h => hF.at fun k r hk hr => SW ?_ hr, fun h => ?_⟩, fun h => (nomatch h)⟩
   ·rw [if_neg] at hR
    ·exact hR.symm
    ·intro h2; rw [MY, h2] at h; cases h
   ·have h2 : isc s b' 41 = true := by
     rw [MY] at h
     cases h2 : isc s b' 41 with
     | true => rfl
     | false => rw [h2] at h; cases h
    rw [if_pos h2] at hR
    rw [← hR, w64 (n := (b' : Int) + 1) (by omega) (by omega), w64 (n := d + 1 - 1) (by omega) (by omega)]
    refine ⟨rfl, ?_⟩
    rw [show d + 1 - 1 = d by omega, show ((b' + 1 : Nat) : Int) = (b' : Int) + 1 by omega]
 ·rw [if_neg (hbv hc), if_pos (eq_of_beq hc2)] at hR
  refine (hCl s ((a + 1 : Nat) : Int) d l hs (by omega) (by omega) (by omega)).to ?_
  rintro (k : Int) (e : Ab) hk
  have e9 : HE s ((a + 1 : Nat) : Int).toNat = HE s (a + 1) := rfl
  rw [e9] at hk
  cases hcl : HE s (a + 1) with
  | none => rw [hcl] at hk hR; rw [← hR]; exact hk
  | some p => rw [hcl] at hk hR; rw [← hR]; exact hk
 all_goals rw [if_neg (hbv hc), if_neg (hbv hc2)] at hR
 ·rw [if_pos (eq_of_beq hc3)] at hR
  refine (hC z4).to ?_
  rintro (v : Bb) _ rfl
  refine hNd.at (by omega) ?_
  rw [← hR]
  exact ⟨rfl, rfl⟩
 all_goals rw [if_neg (hbv hc3)] at hR
 ·rw [if_pos (eq_of_beq hc4)] at hR
  refine hNd.at (by omega) ?_
  rw [← hR]
  exact ⟨rfl, rfl⟩
 all_goals rw [if_neg (hbv hc4)] at hR
 ·rw [if_pos (eq_of_beq hc5)] at hR
  refine hNd.at (by omega) ?_
  rw [← hR]
  exact ⟨rfl, rfl⟩
 ·rw [if_neg (hbv hc5)] at hR
  refine Ag.mid (fun q => q = true ↔ (byt s a = 41 ∨ byt s a = 124 ∨ byt s a = 42 ∨ byt s a = 43 ∨ byt s a = 63 ∨ byt s a = 123)) ?_ ?_
  ·refine ⟨fun h => ⟨fun _ => .inl (eq_of_beq h), fun _ => h⟩, fun h => Ag.of ⟨fun h2 => ⟨fun _ => .inr (.inl (eq_of_beq h2)), fun _ => h2⟩, fun h2 => Ag.of ⟨fun h3 => ⟨fun _ => .inr (.inr (.inl (eq_of_beq h3))), fun _ => h3⟩, fun h3 => Ag.of ⟨fun h4 => ⟨fun _ => .inr (.inr (.inr (.inl (eq_of_beq h4)))), fun _ => h4⟩, fun h4 => Ag.of ⟨fun h5 => ⟨fun _ => .inr (.inr (.inr (.inr (.inl (eq_of_beq h5))))), fun _ => h5⟩, fun h5 => ?_⟩⟩⟩⟩⟩
   constructor
   ·exact fun h6 => .inr (.inr (.inr (.inr (.inr (eq_of_beq h6)))))
   ·rintro (h6 | h6 | h6 | h6 | h6 | h6)
    ·exact absurd h6 (hbv h)
    ·exact absurd h6 (hbv h2)
    ·exact absurd h6 (hbv h3)
    ·exact absurd h6 (hbv h4)
    ·exact absurd h6 (hbv h5)
    ·have : (byt s a == 123) = true := by rw [h6]; rfl
     exact this
  ·intro q hq
   refine ⟨fun h => hF.at fun k r hk hr => SW ?_ hr, fun h => ?_⟩
   ·rw [if_pos (hq.1 h)] at hR; exact hR.symm
   rw [if_neg (fun h2 => by rw [hq.2 h2] at h; cases h)] at hR
   refine Ag.of ⟨fun h6 => ⟨fun h7 => hF.at fun k r hk hr => SW ?_ hr, fun h7 => ?_⟩, fun h6 => ?_⟩
   ·have h7 := of_decide_eq_true h7
    rw [if_pos (eq_of_beq h6), if_pos (by omega)] at hR
    exact hR.symm
   ·have h7 := of_decide_eq_false h7
    rw [if_pos (eq_of_beq h6), if_neg (by omega)] at hR
    have hb2 := CQ s (a + 1)
    refine Ag.mid (fun q => q = byt s (a + 1)) ⟨⟨by omega, by omega⟩, rfl, trivial⟩ ?_
    rintro _ rfl
    exact ⟨_, _, a + 2, rfl, hb2.1, hb2.2, hR.symm⟩
   ·rw [if_neg (hbv h6)] at hR
    exact ⟨_, _, a + 1, rfl, hb.1, hb.2, hR.symm⟩
end Go.VS
