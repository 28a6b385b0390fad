/- The program's parser of patterns: alternatives, patterns. -/
import Derived.Test.YtbandpkgjepklaaKSpPiece
set_option linter.unusedVariables false
set_option linter.unusedSimpArgs false
set_option linter.unusedSectionVars false
namespace Go.VS
variable {P : Pg}
section
variable {n : Nat}
theorem WM (kind : Int) (kids : List Int) (b : Nat) (l : List Node) : (C5 kind kids b l).2.2.length ≤ l.length + 1 := by
 unfold C5
 split
 ·simp
 ·split <;> simp
theorem PJ (kind : Int) (kids : List Int) (b : Nat) (l : List Node) : (.ok (C5 kind kids b l) : Eh) = .ok ((C5 kind kids b l).1, (b, (C5 kind kids b l).2.2)) := by
 have h := GI kind kids b l
 generalize C5 kind kids b l = g at h ⊢
 obtain ⟨g1, g2, g3⟩ := g
 dsimp only at h ⊢
 rw [h]
def VO (n : Nat) (P : Pg) : Prop := ∀ (s : Bs) (d : Int) (a : Nat) (l : List Node), s.length ≤ 1000000 → 0 ≤ d → d ≤ 50 → 51 - d ≤ (n : Int) + 1 → a ≤ s.length → l.length ≤ 2 * a → KpR P (Pf (CP s n) s d a l) → Fn P XJ AJ (PSt s a d l) fun (q : Int) (e : Aa) => ∃ (b : Nat) (l' : List Node), Pf (CP s n) s d a l = .ok (q, (b, l')) ∧ e = PSt s b d l' ∧ a ≤ b ∧ b ≤ s.length ∧ l'.length ≤ 2 * b + 1
theorem ZQ (h : Has P Bm) (hM : Fp P) (hG : Gx P) (hPc : QY n P) : VO n P := by
 intro s d a l hs h0 h50 hn ha hl hp
 refine G7 h ?_
 unfold Ej
 dsimp only
 unfold Pf at hp ⊢
 generalize hR : ET (CP s n) s d (s.length + 1) [] a l = R at hp ⊢
 refine B0.of (fun q => ∃ (f : Nat) (b : Nat) (l' : List Node), q.2.2 = PSt s b d l' ∧ a ≤ b ∧ b ≤ s.length ∧ l'.length ≤ 2 * b ∧ q.2.1.length ≤ b ∧ s.length + 1 - b ≤ f ∧ ET (CP s n) s d f q.2.1 b l' = R) (fun q => s.length - q.2.2.2.1.toNat) ⟨s.length + 1, a, l, rfl, by omega, ha, hl, by simp, by omega, hR⟩ ?_
 rintro ⟨q1, q2, q3⟩ ⟨f, b, l', hq, hab, hb, hl', hk, hf, hR⟩
 dsimp only at hq hk hR ⊢
 subst hq
 refine Ag.of (hM.at hb ?_)
 cases f with
 | zero => omega
 | succ f =>
  rw [ET] at hR
  have stop : ¬ (b < s.length ∧ byt s b ≠ 124 ∧ byt s b ≠ 41) → R = .ok (q2, (b, l')) := by
   intro hc
   rw [if_neg hc] at hR
   exact hR.symm
  have g1 := GI 4 q2 b l'
  have g2 := WM 4 q2 b l'
  by_cases he : b = s.length
  ·rw [if_pos he]
   refine ⟨fun _ => ?_, fun hc => absurd hc (by simp)⟩
   have hRR := stop (fun x => by omega)
   subst hRR
   dsimp only
   exact hG.at (by omega) ⟨b, _, PJ .., rfl, hab, hb, by omega⟩
  ·rw [if_neg he]
   dsimp only
   refine ⟨fun hc => ?_, fun hc => ?_⟩
   ·have hRR := stop (fun x => by
     simp only [Bool.not_true, cond_false] at hc
     by_cases g1 : byt s b = 124
     ·exact x.2.1 g1
     ·simp only [show (byt s b == 124) = false by simp [g1], cond_false] at hc
      exact x.2.2 (by simpa using hc))
    subst hRR
    dsimp only
    exact hG.at (by omega) ⟨b, _, PJ .., rfl, hab, hb, by omega⟩
   ·simp only [Bool.not_true, cond_false] at hc
    have g1 : byt s b ≠ 124 := fun g => by simp [g] at hc
    have g2 : byt s b ≠ 41 := fun g => by simp [g1, g] at hc
    rw [if_pos ⟨by omega, g1, g2⟩] at hR
    have g := TR (n := n) (s := s) (l := l') h0 (show b < s.length by omega)
    refine (hPc s d b l' hs h0 h50 hn (by omega) hl' g2 g1 fun c hc => hp c ?_).to ?_
    ·rw [hc] at hR
     subst hR
     rfl
    ·rintro (k : Int) (e : Aa) ⟨b2, l2, h2, rfl⟩
     rw [h2] at hR g
     have g : Grow s b l' 2 k b2 l2 := g
     have h3 := g.len; have h4 := g.more; have h5 := g.lo; have h6 := g.hi
     refine ⟨by simp only [List.length_cons, List.length_nil]; omega, ⟨f, b2, l2, rfl, by omega, h6, by omega, by simp; omega, by omega, hR⟩, ?_⟩
     show s.length - ((b2 : Nat) : Int).toNat < s.length - ((b : Nat) : Int).toNat
     omega
theorem YG (h : Has P BS) (hH : FY P) (hG : Gx P) (hA : VO n P) : MD (n + 1) P := by
 intro s d a l hs h0 h50 hn ha hl hp
 refine IZ h ?_
 unfold Ft
 dsimp only
 rw [CP] at hp ⊢
 unfold Rt at hp ⊢
 refine (hA s d a l hs h0 h50 (by omega) ha hl fun c hc => hp c ?_).to ?_
 ·rw [hc]
 rintro (k : Int) (e : Aa) ⟨b, l1, hR, rfl, hab, hb, hl1⟩
 rw [hR] at hp ⊢
 dsimp only at hp ⊢
 clear hR
 generalize hR : Db (CP s n) s d (s.length + 1) [k] b l1 = R at hp ⊢
 refine Ag.mid (fun q => ∃ (kids : List Int) (b : Nat) (l' : List Node), R = .ok (kids, (b, l')) ∧ q = (kids, PSt s b d l') ∧ b ≤ s.length ∧ l'.length ≤ 2 * b + 1) ?_ ?_
 ·refine B0.of (fun q => ∃ (f : Nat) (b : Nat) (l' : List Node), q.2 = PSt s b d l' ∧ b ≤ s.length ∧ l'.length ≤ 2 * b + 1 ∧ q.1.length ≤ b + 1 ∧ s.length + 1 - b ≤ f ∧ Db (CP s n) s d f q.1 b l' = R) (fun q => s.length - q.2.2.1.toNat) ⟨s.length + 1, b, l1, rfl, hb, hl1, by simp, by omega, hR⟩ ?_
  rintro ⟨q1, q2⟩ ⟨f, b, l', hq, hb, hl', hk, hf, hR⟩
  dsimp only at hq hk hR ⊢
  subst hq
  refine hH.at hb hs ?_
  cases f with
  | zero => omega
  | succ f =>
   rw [Db] at hR
   refine ⟨fun hc => ?_, fun hc => ?_⟩
   ·have hlt := (RX hc).1
    rw [if_pos hc] at hR ⊢
    refine Ag.of ((hA s d (b + 1) l' hs h0 h50 (by omega) hlt (by omega) fun c hc => hp c ?_).to ?_)
    ·rw [hc] at hR
     subst hR
     rfl
    ·rintro (k2 : Int) (e : Aa) ⟨b2, l2, h2, rfl, hab2, hb2, hl2⟩
     rw [h2] at hR
     refine ⟨by simp only [List.length_cons, List.length_nil]; omega, ⟨f, b2, l2, rfl, hb2, hl2, by simp; omega, by omega, hR⟩, ?_⟩
     show s.length - ((b2 : Nat) : Int).toNat < s.length - ((b : Nat) : Int).toNat
     omega
   ·rw [hc, if_neg (by simp)] at hR
    rw [hc, if_neg (by simp)]
    exact ⟨q1, b, l', hR.symm, rfl, hb, hl'⟩
 ·rintro _ ⟨kids, b2, l2, rfl, rfl, hb2, hl2⟩
  dsimp only
  have g1 := GI 5 kids b2 l2
  exact hG.at (by omega) ⟨b2, _, PJ .., rfl⟩
end
theorem Wj (h : Has P BS) (hAl : Has P Bm) (hPi : Has P B8) (hPa : Has P A4) (hM : Fp P) (hG : Gx P) (hA : FZ P) (hSt : Kc P) (hQ : IU P) (hAdd : Gq P) (hH : FY P) (hCl : Hl P) (hAny : K9 P) (hE : F0 P) (hS : F4 P) : ∀ n, MD n P
 | 0 => fun s d a l hs h0 h50 hn ha hl hp => by omega
 | n + 1 => YG h hH hG (ZQ hAl hM hG (U8 hPi hPa hA hSt hQ hAdd hH hCl hAny hE hS (Wj h hAl hPi hPa hM hG hA hSt hQ hAdd hH hCl hAny hE hS n)))
def Mo (s : Bs) : Eh := CP s 51 0 0 []
def L4 (P : Pg) : Prop := ∀ s : Bs, s.length ≤ 1000000 → KpR P (Mo s) → Fn P Ut AQ (PSt s 0 0 []) fun (q : Int) (e : Aa) => OkR s 0 (Mo s) q e
theorem Vr (h : Has P BS) (hAl : Has P Bm) (hPi : Has P B8) (hPa : Has P A4) (hM : Fp P) (hG : Gx P) (hA : FZ P) (hSt : Kc P) (hQ : IU P) (hAdd : Gq P) (hH : FY P) (hCl : Hl P) (hAny : K9 P) (hE : F0 P) (hS : F4 P) : L4 P :=
 fun s hs hp => Wj h hAl hPi hPa hM hG hA hSt hQ hAdd hH hCl hAny hE hS 51 s 0 0 [] hs (by omega) (by omega) (by omega) (Nat.zero_le _) (Nat.zero_le _) hp
end Go.VS
