/- The program's parser of patterns as a plain function: it stops at any closing parenthesis. -/
import Derived.Test.YtbandpkgjepklaaKSpPat
set_option linter.unusedVariables false
set_option linter.unusedSimpArgs false
set_option linter.unusedSectionVars false
namespace Go.VS
variable {P : Pg}
def ET (rec : Int → Nat → List Node → Eh) (s : Bs) (d : Int) : Nat → List Int → Nat → List Node → Except Int (List Int × (Nat × List Node))
 | 0, _, _, _ => .error 99
 | f + 1, kids, a, l => if a < s.length ∧ byt s a ≠ 124 ∧ byt s a ≠ 41 then (match CI rec s d a l with
  | .error e => .error e
  | .ok (k, (b, l1)) => ET rec s d f (kids ++ [k]) b l1) else .ok (kids, (a, l))
def C5 (kind : Int) (kids : List Int) (b : Nat) (l : List Node) : Int × (Nat × List Node) :=
 if kids.length = 0 then ((l.length : Int), (b, l ++ [HM 0])) else if kids.length = 1 then (kids.getD 0 0, (b, l)) else ((l.length : Int), (b, l ++ [EV kind kids]))
def Pf (rec : Int → Nat → List Node → Eh) (s : Bs) (d : Int) (a : Nat) (l : List Node) : Eh :=
 match ET rec s d (s.length + 1) [] a l with
 | .error e => .error e
 | .ok (kids, (b, l1)) => .ok (C5 4 kids b l1)
def Db (rec : Int → Nat → List Node → Eh) (s : Bs) (d : Int) : Nat → List Int → Nat → List Node → Except Int (List Int × (Nat × List Node))
 | 0, kids, a, l => if isc s a 124 = true then .error 99 else .ok (kids, (a, l))
 | f + 1, kids, a, l => if isc s a 124 = true then (match Pf rec s d (a + 1) l with
  | .error e => .error e
  | .ok (k, (b, l1)) => Db rec s d f (kids ++ [k]) b l1) else .ok (kids, (a, l))
def Rt (rec : Int → Nat → List Node → Eh) (s : Bs) (d : Int) (a : Nat) (l : List Node) : Eh :=
 match Pf rec s d a l with
 | .error e => .error e
 | .ok (k, (b, l1)) => match Db rec s d (s.length + 1) [k] b l1 with
  | .error e => .error e
  | .ok (kids, (b2, l2)) => .ok (C5 5 kids b2 l2)
def CP (s : Bs) : Nat → Int → Nat → List Node → Eh
 | 0 => fun _ _ _ => .error 99
 | n + 1 => Rt (CP s n) s
def D4 (s : Bs) : List Node × Int :=
 if s.length > 256 then ([], 1) else match CP s 51 0 0 [] with
  | .error e => ([], e)
  | .ok (_, (b, l)) => if b < s.length then ([], 40) else (l, 0)
section
variable {r r' : Int → Nat → List Node → Eh} {s : Bs} {d : Int}
theorem Oq (h : ∀ a l, a ≤ s.length → r (d + 1) a l = r' (d + 1) a l) {a : Nat} (ha : a < s.length) (l : List Node) : El r s d a l = El r' s d a l := by
 unfold El
 dsimp only
 rw [h (a + 1) l ha]
theorem JA (h : ∀ a l, a ≤ s.length → r (d + 1) a l = r' (d + 1) a l) {a : Nat} (ha : a < s.length) (l : List Node) : CI r s d a l = CI r' s d a l := by
 unfold CI
 rw [Oq h ha]
theorem MF (hd : d > 0) (h : ∀ a l, a ≤ s.length → r (d + 1) a l = r' (d + 1) a l) : ∀ (f : Nat) (kids : List Int) (a : Nat) (l : List Node), ET r s d f kids a l = E0 r' s d f kids a l
 | 0, _, _, _ => rfl
 | f + 1, kids, a, l => by
  have e : (a < s.length ∧ byt s a ≠ 124 ∧ byt s a ≠ 41) ↔ (a < s.length ∧ byt s a ≠ 124 ∧ ¬ (byt s a = 41 ∧ d > 0)) := by
   simp [hd]
  rw [ET, E0]
  by_cases hc : a < s.length ∧ byt s a ≠ 124 ∧ byt s a ≠ 41
  ·rw [if_pos hc, if_pos (e.1 hc), JA h hc.1]
   cases CI r' s d a l with
   | error e => rfl
   | ok x => exact MF hd h f _ _ _
  ·rw [if_neg hc, if_neg (fun x => hc (e.2 x))]
theorem MU (kind : Int) (kids : List Int) (b : Nat) (l : List Node) : (.ok (C5 kind kids b l) : Eh) = (if kids.length = 0 then .ok ((l.length : Int), (b, l ++ [HM 0])) else if kids.length = 1 then .ok (kids.getD 0 0, (b, l)) else .ok ((l.length : Int), (b, l ++ [EV kind kids]))) := by
 unfold C5
 split
 ·rfl
 ·split <;> rfl
theorem Q0 (hd : d > 0) (h : ∀ a l, a ≤ s.length → r (d + 1) a l = r' (d + 1) a l) (a : Nat) (l : List Node) : Pf r s d a l = Kh r' s d a l := by
 unfold Pf Kh
 rw [MF hd h]
 cases E0 r' s d (s.length + 1) [] a l with
 | error e => rfl
 | ok x => exact MU 4 _ _ _
theorem Nh (hd : d > 0) (hg : ∀ d a l, a ≤ s.length → Fo s a l 0 (r' d a l)) (h : ∀ a l, a ≤ s.length → r (d + 1) a l = r' (d + 1) a l) : ∀ (f : Nat) (kids : List Int) (a : Nat) (l : List Node), a ≤ s.length → s.length + 1 - a ≤ f → Db r s d f kids a l = Eg r' s d f kids a l
 | 0, _, _, _, h1, h2 => absurd h2 (by omega)
 | f + 1, kids, a, l, h1, h2 => by
  rw [Db, Eg]
  by_cases hc : isc s a 124 = true
  ·have hlt := (Bi.1 hc).1
   rw [if_pos hc, if_pos hc, Q0 hd h]
   have g := F6 (d := d) hg (a := a + 1) (l := l) hlt
   cases he : Kh r' s d (a + 1) l with
   | error e => rfl
   | ok x =>
    obtain ⟨k, b, l1⟩ := x
    rw [he] at g
    have := g.lo
    exact Nh hd hg h f _ _ _ g.hi (by omega)
  ·rw [if_neg hc, if_neg hc]
theorem Jy : ∀ (f : Nat) (kids : List Int) (a : Nat) (l : List Node) {ks : List Int} {b : Nat} {l1 : List Node}, Eg r' s d f kids a l = .ok (ks, (b, l1)) → kids.length ≤ ks.length
 | 0, _, _, _, _, _, _, h => by cases h
 | f + 1, kids, a, l, ks, b, l1, h => by
  rw [Eg] at h
  split at h
  ·split at h
   ·cases h
   ·have := Jy f _ _ _ h
    simp at this
    omega
  ·cases h
   exact Nat.le_refl _
theorem Xc (hd : d > 0) (hg : ∀ d a l, a ≤ s.length → Fo s a l 0 (r' d a l)) (h : ∀ a l, a ≤ s.length → r (d + 1) a l = r' (d + 1) a l) {a : Nat} (ha : a ≤ s.length) (l : List Node) : Rt r s d a l = Sb r' s d a l := by
 unfold Rt Sb
 rw [Q0 hd h]
 have g := F6 (d := d) hg (a := a) (l := l) ha
 cases he : Kh r' s d a l with
 | error e => rfl
 | ok x =>
  obtain ⟨k, b, l1⟩ := x
  rw [he] at g
  dsimp only
  rw [Nh hd hg h (s.length + 1) [k] b l1 g.hi (by omega)]
  cases he2 : Eg r' s d (s.length + 1) [k] b l1 with
  | error e => rfl
  | ok y =>
   obtain ⟨ks, b2, l2⟩ := y
   have := Jy _ _ _ _ he2
   dsimp only
   rw [MU, if_neg (by simp at this; omega)]
def VB (R : Eh) (s : Bs) : Eh := match R with
 | .error e => .error e
 | .ok (k, (b, l)) => if isc s b 41 = true then .error 40 else .ok (k, (b, l))
theorem Oi (h : ∀ a l, a ≤ s.length → r (0 + 1) a l = r' (0 + 1) a l) : ∀ (f : Nat) (kids : List Int) (a : Nat) (l : List Node), E0 r' s 0 f kids a l = match ET r s 0 f kids a l with
  | .error e => .error e
  | .ok (ks, (b, l1)) => if isc s b 41 = true then .error 40 else .ok (ks, (b, l1))
 | 0, _, _, _ => rfl
 | f + 1, kids, a, l => by
  rw [E0, ET]
  by_cases hc : a < s.length ∧ byt s a ≠ 124
  ·rw [if_pos ⟨hc.1, hc.2, fun x => absurd x.2 (by decide)⟩]
   by_cases h41 : byt s a = 41
   ·rw [if_neg (fun x => x.2.2 h41)]
    dsimp only
    rw [if_pos (Bi.2 ⟨hc.1, h41⟩)]
    have : CI r' s 0 a l = .error 40 := by
     unfold CI El
     dsimp only
     rw [if_neg (by omega), if_neg (by omega), if_neg (by omega), if_neg (by omega), if_neg (by omega), if_pos (.inl h41)]
    rw [this]
   ·rw [if_pos ⟨hc.1, hc.2, h41⟩, JA h hc.1]
    cases CI r' s 0 a l with
    | error e => rfl
    | ok x => exact Oi h f _ _ _
  ·rw [if_neg (fun x => hc ⟨x.1, x.2.1⟩), if_neg (fun x => hc ⟨x.1, x.2.1⟩)]
   dsimp only
   rw [if_neg]
   intro x
   have := Bi.1 x
   exact hc ⟨this.1, by omega⟩
theorem GI (kind : Int) (kids : List Int) (b : Nat) (l : List Node) : (C5 kind kids b l).2.1 = b := by
 unfold C5
 split
 ·rfl
 ·split <;> rfl
theorem SB (h : ∀ a l, a ≤ s.length → r (0 + 1) a l = r' (0 + 1) a l) (a : Nat) (l : List Node) : Kh r' s 0 a l = VB (Pf r s 0 a l) s := by
 unfold Pf Kh VB
 rw [Oi h]
 cases ET r s 0 (s.length + 1) [] a l with
 | error e => rfl
 | ok x =>
  obtain ⟨ks, b, l1⟩ := x
  dsimp only
  rw [GI]
  cases isc s b 41 with
  | true => rfl
  | false =>
   rw [if_neg (by simp), if_neg (by simp)]
   dsimp only
   have := GI 4 ks b l1
   rw [← MU 4 ks b l1]
   generalize C5 4 ks b l1 = g at this
   obtain ⟨g1, g2, g3⟩ := g
   dsimp only at this
   rw [this]
theorem KP (h : ∀ a l, a ≤ s.length → r (0 + 1) a l = r' (0 + 1) a l) (hg : ∀ d a l, a ≤ s.length → Fo s a l 0 (r' d a l)) : ∀ (f : Nat) (kids : List Int) (a : Nat) (l : List Node), a ≤ s.length → s.length + 1 - a ≤ f → isc s a 41 = false → Eg r' s 0 f kids a l = match Db r s 0 f kids a l with
  | .error e => .error e
  | .ok (ks, (b, l1)) => if isc s b 41 = true then .error 40 else .ok (ks, (b, l1))
 | 0, _, _, _, h1, h2, _ => absurd h2 (by omega)
 | f + 1, kids, a, l, h1, h2, h3 => by
  rw [Eg, Db]
  by_cases hc : isc s a 124 = true
  ·have hlt := (Bi.1 hc).1
   rw [if_pos hc, if_pos hc]
   have g := F6 (d := 0) hg (a := a + 1) (l := l) hlt
   rw [SB h] at g ⊢
   cases hA : Pf r s 0 (a + 1) l with
   | error e => rfl
   | ok x =>
    obtain ⟨k, b, l1⟩ := x
    rw [hA] at g
    dsimp only [VB] at g ⊢
    cases hb : isc s b 41 with
    | true =>
     rw [if_pos rfl]
     dsimp only
     have h124 : ¬ isc s b 124 = true := by
      intro x
      have := Bi.1 x
      have := Bi.1 hb
      omega
     have e : Db r s 0 f (kids ++ [k]) b l1 = .ok (kids ++ [k], (b, l1)) := by
      cases f with
      | zero => rw [Db, if_neg h124]
      | succ f => rw [Db, if_neg h124]
     rw [e]
     dsimp only
     rw [hb, if_pos rfl]
    | false =>
     rw [hb, if_neg (by simp)] at g
     rw [if_neg (by simp)]
     dsimp only
     have := g.lo
     exact KP h hg f _ _ _ g.hi (by omega) hb
  ·rw [if_neg hc, if_neg hc]
   dsimp only
   rw [h3, if_neg (by simp)]
theorem YD (h : ∀ a l, a ≤ s.length → r (0 + 1) a l = r' (0 + 1) a l) (hg : ∀ d a l, a ≤ s.length → Fo s a l 0 (r' d a l)) {a : Nat} (ha : a ≤ s.length) (l : List Node) : Sb r' s 0 a l = VB (Rt r s 0 a l) s := by
 unfold Rt Sb
 have g := F6 (d := 0) hg (a := a) (l := l) ha
 rw [SB h] at g ⊢
 cases hA : Pf r s 0 a l with
 | error e => rfl
 | ok x =>
  obtain ⟨k, b, l1⟩ := x
  rw [hA] at g
  dsimp only [VB] at g ⊢
  cases hb : isc s b 41 with
  | true =>
   rw [if_pos rfl]
   dsimp only
   have h124 : ¬ isc s b 124 = true := by
    intro x
    have := Bi.1 x
    have := Bi.1 hb
    omega
   rw [Db, if_neg h124]
   dsimp only
   rw [GI, hb, if_pos rfl]
  | false =>
   rw [hb, if_neg (by simp)] at g
   rw [if_neg (by simp)]
   dsimp only
   rw [KP h hg (s.length + 1) [k] b l1 g.hi (by omega) hb]
   cases hL : Db r s 0 (s.length + 1) [k] b l1 with
   | error e => rfl
   | ok y =>
    obtain ⟨ks, b2, l2⟩ := y
    dsimp only
    rw [GI]
    cases hb2 : isc s b2 41 with
    | true => rfl
    | false =>
     rw [if_neg (by simp), if_neg (by simp)]
     dsimp only
     have hgb := GI 5 ks b2 l2
     rw [show (.ok ((C5 5 ks b2 l2).1, b2, (C5 5 ks b2 l2).2.2) : Eh) = .ok (C5 5 ks b2 l2) from by
      generalize C5 5 ks b2 l2 = g at hgb
      obtain ⟨g1, g2, g3⟩ := g
      dsimp only at hgb
      rw [hgb], MU]
     have hk : 1 ≤ ks.length := by
      have := KP h hg (s.length + 1) [k] b l1 g.hi (by omega) hb
      rw [hL] at this
      dsimp only at this
      rw [hb2, if_neg (by simp)] at this
      have := Jy _ _ _ _ this
      simpa using this
     rw [if_neg (show ¬ ks.length = 0 by omega)]
end
theorem Mn (s : Bs) : ∀ (n : Nat) (d : Int), d > 0 → ∀ (a : Nat) (l : List Node), a ≤ s.length → CP s n d a l = Fj s n d a l
 | 0, _, _, _, _, _ => rfl
 | n + 1, d, hd, a, l, ha => Xc hd (C7 s n) (fun a l ha => Mn s n (d + 1) (by omega) a l ha) ha l
theorem W8 (s : Bs) : D4 s = Dy s := by
 unfold D4 Dy
 split
 ·rfl
 ·have e : Fj s 51 0 0 [] = VB (CP s 51 0 0 []) s := YD (fun a l ha => Mn s 50 (0 + 1) (by omega) a l ha) (C7 s 50) (Nat.zero_le _) []
  rw [e]
  cases CP s 51 0 0 [] with
  | error e => rfl
  | ok x =>
   obtain ⟨k, b, l⟩ := x
   dsimp only [VB]
   cases hb : isc s b 41 with
   | true =>
    have := (Bi.1 hb).1
    rw [if_pos (by omega), if_pos rfl]
   | false => rfl
end Go.VS
