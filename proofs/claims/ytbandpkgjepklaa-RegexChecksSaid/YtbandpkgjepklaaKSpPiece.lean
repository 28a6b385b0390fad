/- The program's parser of patterns: classes, atoms, pieces. -/
import Derived.Test.YtbandpkgjepklaaKSpItem
set_option linter.unusedVariables false
set_option linter.unusedSimpArgs false
set_option linter.unusedSectionVars false
namespace Go.VS
variable {P : Pg}
def Hl (P : Pg) : Prop := ∀ (s : Bs) (a : Nat) (d : Int) (l : List Node), a < s.length → s.length ≤ 1000000 → l.length ≤ 1000000000 → (HE s (a + 1) = none → P.kp (Kl 40)) → Fn P XG B9 (PSt s a d l) fun (q : Int) (e : Aa) => ∃ (w : Bb) (b : Nat), HE s (a + 1) = some (w, b) ∧ q = (l.length : Int) ∧ e = PSt s b d (l ++ [setNode w])
theorem Xs (h : Has P C9) (hH : FY P) (hI : Kb P) (hC : IQ P) (hS : Kd P) : Hl P := by
 intro s a d l ha hs hl hp
 refine JQ h ?_
 unfold GA
 dsimp only
 rw [wp1 (by omega) hs]
 refine hH.at (by omega) hs ?_
 have ha1 : (if isc s (a + 1) 94 = true then a + 1 + 1 else a + 1) ≤ s.length := by
  split
  ·rename_i hc
   have := (RX hc).1
   omega
  ·omega
 unfold HE at hp ⊢
 generalize (if isc s (a + 1) 94 = true then a + 1 + 1 else a + 1) = a1 at ha1 hp ⊢
 have key : ∀ (f : Nat) (v : Bb) (b : Nat) (R : Option (Bb × Nat)), (Iq s v b).bind (fun x => Dh s f false x.1 x.2) = R → Iq s v b = none → R = none := fun f v b R h1 h2 => by rw [h2] at h1; exact h1.symm
 have hR : (Iq s z4 a1).bind (fun x => Dh s (s.length + 1) false x.1 x.2) = Dh s (s.length + 2) true z4 a1 := by
  rw [Dh, if_pos (.inl rfl), MO]
 generalize Dh s (s.length + 2) true z4 a1 = R at hR hp ⊢
 refine hI.at ha1 hs (fun hn => hp (by rw [key _ _ _ _ hR hn])) fun v b hv hab hb => ?_
 have hv : Iq s z4 a1 = some (v, b) := hv
 rw [hv, Option.bind_some] at hR
 dsimp only at hR
 refine Ag.mid (fun q => ∃ (v : Bb) (b : Nat), R = some (v, b) ∧ q = (PSt s (b + 1) d l, v)) ?_ ?_
 ·refine B0.of (fun q => ∃ (f : Nat) (v : Bb) (b : Nat), q = (PSt s b d l, v) ∧ b ≤ s.length ∧ s.length + 1 - b ≤ f ∧ Dh s f false v b = R) (fun q => s.length - q.1.2.1.toNat) ⟨s.length + 1, v, b, rfl, hb, by omega, hR⟩ ?_
  rintro _ ⟨f, v, b, rfl, hb, hf, hR⟩
  dsimp only
  refine hH.at hb hs ?_
  cases f with
  | zero => omega
  | succ f =>
   rw [Dh] at hR
   cases hc : isc s b 93 with
   | true =>
    rw [if_pos rfl]
    rw [if_neg (by rw [hc]; simp)] at hR
    exact ⟨fun h => absurd h (by simp), fun _ => ⟨v, b, hR.symm, rfl⟩⟩
   | false =>
    rw [if_neg (by simp)]
    rw [if_pos (.inr hc), MO] at hR
    refine ⟨fun _ => Ag.of (hI.at hb hs (fun hn => hp (by rw [key _ _ _ _ hR hn])) fun v2 b2 hv2 hab2 hb2 => ?_), fun h => absurd h (by simp)⟩
    rw [hv2, Option.bind_some] at hR
    refine ⟨⟨f, v2, b2, rfl, hb2, by omega, hR⟩, ?_⟩
    show s.length - ((b2 : Nat) : Int).toNat < s.length - ((b : Nat) : Int).toNat
    omega
 ·rintro _ ⟨v, b, hRv, rfl⟩
  subst hRv
  dsimp only
  refine Ag.mid (fun q => q = (if isc s (a + 1) 94 = true then GM v else v)) ⟨fun hc => ?_, fun hc => ?_⟩ ?_
  ·rw [if_pos hc]
   exact hC.at rfl
  ·rw [if_neg (by rw [hc]; simp)]
  ·rintro _ rfl
   exact hS.at hl ⟨_, _, rfl, rfl, rfl⟩
def OkR (s : Bs) (d : Int) (R : Eh) (q : Int) (e : Aa) : Prop := ∃ (b : Nat) (l' : List Node), R = .ok (q, (b, l')) ∧ e = PSt s b d l'
def KpR (P : Pg) (R : Eh) : Prop := ∀ c, R = .error c → P.kp (Kl c)
def MD (n : Nat) (P : Pg) : Prop := ∀ (s : Bs) (d : Int) (a : Nat) (l : List Node), s.length ≤ 1000000 → 0 ≤ d → d ≤ 50 → 51 - d ≤ n → a ≤ s.length → l.length ≤ 2 * a → KpR P (CP s n d a l) → Fn P Ut AQ (PSt s a d l) fun (q : Int) (e : Aa) => OkR s d (CP s n d a l) q e
section
variable {n : Nat} {s : Bs} {d : Int} {a : Nat} {l : List Node}
theorem Ya (hd : 0 ≤ d) : ∀ a l, a ≤ s.length → CP s n (d + 1) a l = Fj s n (d + 1) a l := fun a l ha => Mn s n (d + 1) (by omega) a l ha
theorem UE (hd : 0 ≤ d) (ha : a < s.length) : Fo s a l 2 (El (CP s n) s d a l) := by
 rw [Oq (Ya hd) ha]
 exact L5 (C7 s n) ha
theorem TR (hd : 0 ≤ d) (ha : a < s.length) : Fo s a l 2 (CI (CP s n) s d a l) := by
 rw [JA (Ya hd) ha]
 exact KU (C7 s n) ha
theorem Xj (hd : 0 ≤ d) (ha : a ≤ s.length) : Fo s a l 0 (CP s n (d + 1) a l) := by
 rw [Ya hd a l ha]
 exact C7 s n _ _ _ ha
theorem U6 (h : Has P A4) (hH : FY P) (hrec : MD n P) (hs : s.length ≤ 1000000) (h0 : 0 ≤ d) (h50 : d ≤ 50) (hn : 51 - d ≤ (n : Int) + 1) (ha : a < s.length) (hl : l.length ≤ 2 * a) (hc : byt s a = 40) (hp : KpR P (El (CP s n) s d a l)) :
  Fn P XF AP (PSt s a d l) fun (q : Int) (e : Aa) => OkR s d (El (CP s n) s d a l) q e := by
 refine G8 h ?_
 unfold Ek
 dsimp only
 unfold El at hp ⊢
 dsimp only at hp ⊢
 rw [if_pos hc] at hp ⊢
 by_cases hd : d = 50
 ·rw [if_pos (by omega)] at hp
  exact Ag.mid (fun _ => False) ⟨fun _ => hp 1 rfl, fun hc => absurd hd (by simpa using hc)⟩ (fun _ h => h.elim)
 ·rw [if_neg (by omega)] at hp ⊢
  refine Ag.of ⟨fun hc => absurd (by simpa using hc) hd, fun _ => ?_⟩
  rw [wp1 (by omega) hs, w64 (n := d + 1) (by omega) (by omega)]
  have g := Xj (n := n) (d := d) (l := l) h0 (show a + 1 ≤ s.length from ha)
  refine (hrec s (d + 1) (a + 1) l hs (by omega) (by omega) (by omega) (by omega) (by omega) ?_).to ?_
  ·intro c hc
   rw [hc] at hp
   exact hp c rfl
  ·rintro (k : Int) (e : Aa) ⟨b, l1, hR, rfl⟩
   rw [hR] at hp g ⊢
   have g : Grow s (a + 1) l 0 k b l1 := g
   dsimp only at hp ⊢
   rw [w64 (n := d + 1 - 1) (by omega) (by omega), show d + 1 - 1 = d by omega]
   refine hH.at g.hi hs (Ag.of ⟨fun hc => hp 40 ?_, fun hc => ?_⟩)
   ·rw [if_neg (by intro x; rw [x] at hc; cases hc)]
   ·have hc : isc s b 41 = true := by
     cases hx : isc s b 41 with
     | true => rfl
     | false => rw [hx] at hc; cases hc
    rw [if_pos hc, if_pos hc]
    exact ⟨_, _, rfl, rfl⟩
theorem Wt (h : Has P A4) (hH : FY P) (hrec : MD n P) (hCl : Hl P) (hAny : K9 P) (hE : F0 P) (hS : F4 P) (hs : s.length ≤ 1000000) (h0 : 0 ≤ d) (h50 : d ≤ 50) (hn : 51 - d ≤ (n : Int) + 1) (ha : a < s.length) (hl : l.length ≤ 2 * a)
  (h41 : byt s a ≠ 41) (h124 : byt s a ≠ 124) (h94 : byt s a ≠ 94) (h36 : byt s a ≠ 36) (hq : ¬ isQ (byt s a)) (hp : KpR P (El (CP s n) s d a l)) :
  Fn P (List.getD [XF, XG, XH, VF, VG] (Int.toNat (Nt (byt s a))) "") AP (PSt s a d l) fun (q : Int) (e : Aa) => OkR s d (El (CP s n) s d a l) q e := by
 by_cases c40 : byt s a = 40
 ·have e : Nt (byt s a) = 0 := by rw [c40]; rfl
  rw [e]
  exact U6 h hH hrec hs h0 h50 hn ha hl c40 hp
 have hlen : l.length ≤ 1000000000 := by omega
 unfold El at hp ⊢
 dsimp only at hp ⊢
 rw [if_neg c40] at hp ⊢
 by_cases c91 : byt s a = 91
 ·have e : Nt (byt s a) = 1 := by rw [c91]; rfl
  rw [e]
  rw [if_pos c91] at hp ⊢
  refine (hCl s a d l ha hs hlen ?_).to ?_
  ·intro x
   rw [x] at hp
   exact hp 40 rfl
  ·rintro (q : Int) (e : Aa) ⟨w, b, hw, rfl, rfl⟩
   rw [hw]
   exact ⟨_, _, rfl, rfl⟩
 rw [if_neg c91] at hp ⊢
 by_cases c46 : byt s a = 46
 ·have e : Nt (byt s a) = 2 := by rw [c46]; rfl
  rw [e]
  rw [if_pos c46]
  refine (hAny s a d l ha hs hlen).to ?_
  rintro (q : Int) (e : Aa) ⟨rfl, rfl⟩
  exact ⟨_, _, rfl, rfl⟩
 have hno : ¬ (byt s a = 41 ∨ byt s a = 124 ∨ byt s a = 42 ∨ byt s a = 43 ∨ byt s a = 63 ∨ byt s a = 123) := by
  unfold isQ at hq
  omega
 rw [if_neg c46, if_neg h94, if_neg h36, if_neg hno] at hp ⊢
 by_cases c92 : byt s a = 92
 ·have e : Nt (byt s a) = 3 := by rw [c92]; rfl
  rw [e]
  rw [if_pos c92] at hp ⊢
  refine (hE s a d l ha hs hlen ?_).to ?_
  ·intro x
   rw [if_pos x] at hp
   exact hp 40 rfl
  ·rintro (q : Int) (e : Aa) ⟨hx, rfl, rfl⟩
   rw [if_neg hx]
   exact ⟨_, _, rfl, rfl⟩
 ·have e : Nt (byt s a) = 4 := by unfold Nt; rw [if_neg c40, if_neg c91, if_neg c46, if_neg c92]
  rw [e]
  rw [if_neg c92]
  refine (hS s a d l ha hs hlen).to ?_
  rintro (q : Int) (e : Aa) ⟨rfl, rfl⟩
  exact ⟨_, _, rfl, rfl⟩
theorem OH {s : Bs} {b : Nat} : D5 s b = none ↔ ¬ isQ (byt s b) := by
 unfold D5 isQ
 split
 ·simp [*]
 split
 ·simp [*]
 split
 ·simp [*]
 split
 ·simp [*]
 ·simp [*]
theorem Oj (hA : FZ P) (k : Int) (hk : byt s a = 94 ∧ k = 2 ∨ byt s a = 36 ∧ k = 3) (hs : s.length ≤ 1000000) (ha : a < s.length) (hl : l.length ≤ 2 * a) (hp : KpR P (CI (CP s n) s d a l)) :
  Fn P Ur AY (PSt s a d l, k) fun (q : Int) (e : Aa) => OkR s d (CI (CP s n) s d a l) q e := by
 have e : El (CP s n) s d a l = .ok ((l.length : Int), (a + 1, l ++ [HM k])) := by
  unfold El
  dsimp only
  rcases hk with ⟨h1, rfl⟩ | ⟨h1, rfl⟩
  ·rw [if_neg (by omega), if_neg (by omega), if_neg (by omega), if_pos h1]
  ·rw [if_neg (by omega), if_neg (by omega), if_neg (by omega), if_neg (by omega), if_pos h1]
 have hor : byt s a = 94 ∨ byt s a = 36 := by omega
 unfold CI at hp ⊢
 rw [e] at hp ⊢
 dsimp only at hp ⊢
 refine (hA s a d l k ha hs (by omega) ?_).to ?_
 ·rintro ⟨h1, h2⟩
  rw [if_neg (by omega)] at hp
  cases hq : D5 s (a + 1) with
  | none => exact absurd h2 (OH.1 hq)
  | some o =>
   rw [hq] at hp
   cases o with
   | none => exact hp 40 rfl
   | some x =>
    obtain ⟨lo, hi, e⟩ := x
    dsimp only at hp
    rw [if_pos hor] at hp
    exact hp 40 rfl
 ·rintro (q : Int) (e : Aa) ⟨hx, rfl, rfl⟩
  by_cases hlt : s.length ≤ a + 1
  ·rw [if_pos hlt]
   exact ⟨_, _, rfl, rfl⟩
  ·rw [if_neg hlt, OH.2 (fun x => hx ⟨by omega, x⟩)]
   exact ⟨_, _, rfl, rfl⟩
def QY (n : Nat) (P : Pg) : Prop := ∀ (s : Bs) (d : Int) (a : Nat) (l : List Node), s.length ≤ 1000000 → 0 ≤ d → d ≤ 50 → 51 - d ≤ (n : Int) + 1 → a < s.length → l.length ≤ 2 * a → byt s a ≠ 41 → byt s a ≠ 124 → KpR P (CI (CP s n) s d a l) → Fn P Ajd Bv (PSt s a d l, byt s a) fun (q : Int) (e : Aa) => OkR s d (CI (CP s n) s d a l) q e
theorem U8 (h : Has P B8) (hPa : Has P A4) (hA : FZ P) (hSt : Kc P) (hQ : IU P) (hAdd : Gq P) (hH : FY P) (hCl : Hl P) (hAny : K9 P) (hE : F0 P) (hS : F4 P) (hrec : MD n P) : QY n P := by
 intro s d a l hs h0 h50 hn ha hl h41 h124 hp
 refine JS h ?_
 unfold GC
 dsimp only
 refine Ag.mid (fun q => q.2 = PSt s a d l ∧ byt s a ≠ 94 ∧ byt s a ≠ 36) ⟨fun hc => ?_, fun hc1 => ⟨fun hc => ?_, fun hc2 => ?_⟩⟩ ?_
 ·exact Oj hA 2 (.inl ⟨by simpa using hc, rfl⟩) hs ha hl hp
 ·exact Oj hA 3 (.inr ⟨by simpa using hc, rfl⟩) hs ha hl hp
 ·exact ⟨rfl, by simpa using hc1, by simpa using hc2⟩
 rintro ⟨q1, q2⟩ ⟨hq, h94, h36⟩
 dsimp only at hq ⊢
 subst hq
 have hpa : KpR P (El (CP s n) s d a l) := by
  intro c hc
  refine hp c ?_
  unfold CI
  rw [hc]
 refine (hSt s a d l (byt s a) fun hq => ?_).to ?_
 ·refine hpa 40 ?_
  unfold El
  dsimp only
  unfold isQ at hq
  rw [if_neg (by omega), if_neg (by omega), if_neg (by omega), if_neg (by omega), if_neg (by omega), if_pos (by omega)]
 rintro (st : Int) (e : Aa) ⟨hq, rfl, rfl⟩
 refine (Wt hPa hH hrec hCl hAny hE hS hs h0 h50 hn ha hl h41 h124 h94 h36 hq hpa).to ?_
 rintro (k : Int) (e : Aa) ⟨b, l1, hR, rfl⟩
 have g := UE (n := n) (l := l) h0 ha
 rw [hR] at g
 have g : Grow s a l 2 k b l1 := g
 have hgl := g.len; have hgh := g.hi; have hgo := g.lo
 unfold CI at hp ⊢
 rw [hR] at hp ⊢
 dsimp only at hp ⊢
 have hno : ¬ (byt s a = 94 ∨ byt s a = 36) := by omega
 refine (hQ s b d l1 hgh hs ?_).to ?_
 ·unfold Qa
  intro hx
  split at hx
  ·cases hx
  ·rename_i hlt
   rw [if_neg hlt, hx] at hp
   exact hp 40 rfl
 ·rintro (q : Int × (Int × Bool)) (e : Aa) hpost
  unfold Qa at hpost
  by_cases hlt : s.length ≤ b
  ·rw [if_pos hlt] at hpost ⊢
   obtain ⟨h1, rfl⟩ := hpost
   rw [h1]
   exact ⟨fun _ => ⟨_, _, rfl, rfl⟩, fun hc => absurd hc (by simp)⟩
  ·rw [if_neg hlt] at hpost ⊢
   cases hqf : D5 s b with
   | none =>
    rw [hqf] at hpost
    obtain ⟨h1, rfl⟩ := hpost
    rw [h1]
    exact ⟨fun _ => ⟨_, _, rfl, rfl⟩, fun hc => absurd hc (by simp)⟩
   | some o =>
    rw [hqf] at hpost
    cases o with
    | none => exact hpost.elim
    | some x =>
     obtain ⟨lo, hi, e2⟩ := x
     dsimp only at hpost
     obtain ⟨rfl, rfl⟩ := hpost
     dsimp only
     rw [if_neg hno]
     exact ⟨fun hc => absurd hc (by simp), fun _ => hAdd.at (by omega) ⟨_, _, rfl, rfl⟩⟩
end
end Go.VS
