/- The program's parser of patterns: items of classes, classes. -/
import Derived.Test.YtbandpkgjepklaaKSpSet
import Derived.Lib.IndexMore
set_option linter.unusedVariables false
set_option linter.unusedSimpArgs false
namespace Go.VS
variable {P : Pg}
def Jf (P : Pg) : Prop := ∀ x : Bs × Bs, Fn P "strings.CutPrefix" Ds x fun (d : Bs × Bool) _ => d = (Lib.trimPrefix x.1 x.2, Lib.hasPrefix x.1 x.2)
def Uy (P : Pg) : Prop := ∀ x : Bs × Bs, x.1.length < 4294967281 → Fn P "strings.Cut" Gp x fun (d : Bs × (Bs × Bool)) _ => d = Lib.cut x.1 x.2
theorem Aa6 {s : Bs} {i : Nat} {x y : UInt8} : ([x, y] : Bs).isPrefixOf (s.drop i) = true ↔ i + 1 < s.length ∧ byt s i = ((x.toNat : Nat) : Int) ∧ byt s (i + 1) = ((y.toNat : Nat) : Int) := by
 by_cases h : i + 1 < s.length
 ·have e1 : byt s i = (((s[i]'(by omega)).toNat : Nat) : Int) := by unfold byt; simp [List.getD, show i < s.length by omega]
  have e2 : byt s (i + 1) = (((s[i + 1]'h).toNat : Nat) : Int) := by unfold byt; simp [List.getD, h]
  rw [List.drop_eq_getElem_cons (show i < s.length by omega), List.drop_eq_getElem_cons h, e1, e2]
  simp only [List.isPrefixOf, Bool.and_eq_true, beq_iff_eq, and_true]
  constructor
  ·rintro ⟨rfl, rfl⟩
   exact ⟨h, rfl, rfl⟩
  ·rintro ⟨_, h1, h2⟩
   exact ⟨UInt8.toNat_inj.1 (by omega), UInt8.toNat_inj.1 (by omega)⟩
 ·constructor
  ·intro h2
   have := (List.isPrefixOf_iff_prefix.1 h2).length_le
   simp at this
   omega
  ·intro x; exact absurd x.1 h
def Zc (s : Bs) (i : Nat) : Prop := i + 1 < s.length ∧ byt s i = 58 ∧ byt s (i + 1) = 93
theorem Ow {s : Bs} : ∀ (f i : Nat), s.length - i ≤ f → (s.length ≤ Ct s f i + 1 ∨ Zc s (Ct s f i)) ∧ ∀ j, i ≤ j → j < Ct s f i → ¬ Zc s j ∧ j + 1 < s.length
 | 0, i, h => ⟨.inl (by rw [Ct]; omega), fun j h1 h2 => by rw [Ct] at h2; omega⟩
 | f + 1, i, h => by
  rw [Ct]
  split
  ·rename_i hc
   obtain ⟨h1, h2⟩ := Ow (s := s) f (i + 1) (by omega)
   refine ⟨h1, fun j j1 j2 => ?_⟩
   rcases Nat.lt_or_ge i j with g | g
   ·exact h2 j g j2
   ·have : j = i := by omega
    subst this
    exact ⟨fun x => hc.2 x.2, hc.1⟩
  ·rename_i hc
   refine ⟨?_, fun j h1 h2 => by omega⟩
   by_cases g : i + 1 < s.length
   ·refine .inr ⟨g, ?_⟩
    by_cases g2 : byt s i = 58 ∧ byt s (i + 1) = 93
    ·exact g2
    ·exact absurd ⟨g, g2⟩ hc
   ·exact .inl (by omega)
theorem WE {s : Bs} {a : Nat} (ha : a ≤ s.length) : (Lib.cut (s.drop a) [58, 93]).2.2 = decide (CH s a + 1 < s.length) ∧ (CH s a + 1 < s.length → (Lib.cut (s.drop a) [58, 93]).1 = (s.take (CH s a)).drop a ∧ a ≤ CH s a) := by
 have hge := Lg s s.length a
 obtain ⟨c1, c2⟩ := Ow (s := s) s.length a (by omega)
 have ho : ∀ j, Lib.occAt (s.drop a) [58, 93] j = true ↔ Zc s (a + j) := by
  intro j
  unfold Lib.occAt Zc
  rw [List.drop_drop, Aa6]
  rfl
 unfold CH
 unfold Lib.cut
 rcases Lib.index_spec (s.drop a) [58, 93] with ⟨h1, h2⟩ | ⟨i, h1, h2, h3, h4⟩
 ·have hn : ¬ Ct s s.length a + 1 < s.length := by
   intro x
   have hocc := c1.resolve_left (by omega)
   have := (ho (Ct s s.length a - a)).2 (by rw [show a + (Ct s s.length a - a) = Ct s s.length a by omega]; exact hocc)
   have h2 := h2 (Ct s s.length a - a) (by simp; omega)
   rw [this] at h2
   cases h2
  rw [h1, if_neg (by decide)]
  exact ⟨by simp [hn], fun x => absurd x hn⟩
 ·have hocc := (ho i).1 h3
  have e : Ct s s.length a = a + i := by
   rcases Nat.lt_trichotomy (Ct s s.length a) (a + i) with g | g | g
   ·have h5 := hocc.1
    have hoc := c1.resolve_left (by omega)
    have h4 := h4 (Ct s s.length a - a) (by omega)
    have := (ho (Ct s s.length a - a)).2 (by rw [show a + (Ct s s.length a - a) = Ct s s.length a by omega]; exact hoc)
    rw [this] at h4
    cases h4
   ·exact g
   ·exact absurd hocc (c2 (a + i) (by omega) g).1
  rw [h1, if_pos (by omega), e]
  refine ⟨by simpa using hocc.1, fun _ => ⟨?_, by omega⟩⟩
  show (s.drop a).take ((i : Int)).toNat = _
  rw [List.drop_take, show a + i - a = i by omega]
  rfl
def Iq (s : Bs) (w : Bb) (a : Nat) : Option (Bb × Nat) := G5 (fun w b => some (w, b)) s w a
theorem MO (rec : Bb → Nat → Option (Bb × Nat)) (s : Bs) (w : Bb) (a : Nat) : G5 rec s w a = (Iq s w a).bind fun x => rec x.1 x.2 := by
 unfold Iq G5
 by_cases h1 : s.length ≤ a
 ·rw [if_pos h1, if_pos h1]; rfl
 rw [if_neg h1, if_neg h1]
 by_cases h2 : (isc s a 91 && isc s (a + 1) 58) = true
 ·rw [if_pos h2, if_pos h2]
  by_cases h3 : (E6 ((s.take (CH s (a + 2))).drop (a + 2)) 0).2 = false ∨ s.length ≤ CH s (a + 2) + 1
  ·rw [if_pos h3, if_pos h3]; rfl
  ·rw [if_neg h3, if_neg h3, Option.bind_some]
 rw [if_neg h2, if_neg h2]
 by_cases h4 : a + 2 < s.length ∧ byt s (a + 1) = 45 ∧ byt s (a + 2) ≠ 93
 ·rw [if_pos h4, if_pos h4]
  by_cases h5 : byt s (a + 2) < byt s a
  ·rw [if_pos h5, if_pos h5]; rfl
  ·rw [if_neg h5, if_neg h5, Option.bind_some]
 ·rw [if_neg h4, if_neg h4, Option.bind_some]
theorem Sd (c : Int) (w : Bb) : Bp c c w = EG w c := by
 unfold Bp
 rw [show (c + 1 - c).toNat = 0 + 1 by omega, EH, EH]
def Kb (P : Pg) : Prop := ∀ (s : Bs) (a : Nat) (d : Int) (l : List Node) (w : Bb), a ≤ s.length → s.length ≤ 1000000 → (Iq s w a = none → P.kp (Kl 40)) → Fn P XD A9 (PSt s a d l, w) fun (q : Bb) (e : Aa) => ∃ b : Nat, Iq s w a = some (q, b) ∧ a < b ∧ b ≤ s.length ∧ e = PSt s b d l
theorem YT (h : Has P Dm) (hCP : Jf P) (hC : Uy P) (hN : NI P) (hT : Jh P) (hW : G2 P) (hTh : F5 P) : Kb P := by
 intro s a d l w ha hs hp
 refine Ks h ?_
 unfold GU
 dsimp only
 refine Ag.mid (fun q => (q.2 = true ↔ a + 1 < s.length ∧ byt s a = 91 ∧ byt s (a + 1) = 58) ∧ (q.2 = true → q.1 = s.drop (a + 2))) ⟨⟨by omega, by omega⟩, (hCP (s.drop a, ([91, 58] : Bs))).to ?_, trivial⟩ ?_
 ·rintro (q : Bs × Bool) _ hq
  have hq : q = (Lib.trimPrefix (s.drop a) [91, 58], Lib.hasPrefix (s.drop a) [91, 58]) := hq
  have hk : (q.2 = true ↔ a + 1 < s.length ∧ byt s a = 91 ∧ byt s (a + 1) = 58) ∧ (q.2 = true → q.1 = s.drop (a + 2)) := by
   subst hq
   constructor
   ·unfold Lib.hasPrefix
    dsimp only
    rw [Aa6]
    rfl
   ·intro hb
    dsimp only at hb ⊢
    unfold Lib.trimPrefix
    rw [if_pos hb, List.drop_drop]
    rfl
  repeat' apply And.intro
  all_goals first | exact trivial | exact hk.1 | exact hk.2
 rintro ⟨q1, q2⟩ ⟨hq, hr⟩
 dsimp only at hq hr ⊢
 have hitem : Iq s w a = Iq s w a := rfl
 unfold Iq G5 at hp
 conv at hitem => rhs; unfold Iq G5
 refine ⟨fun hb => ?_, fun hb => ?_⟩
 ·have h1 := hq.1 hb
  have hr := hr hb
  subst hr
  have c1 : isc s a 91 = true := Bi.2 ⟨by omega, h1.2.1⟩
  have c2 : isc s (a + 1) 58 = true := Bi.2 ⟨h1.1, h1.2.2⟩
  have c3 : ¬ s.length ≤ a := by omega
  rw [if_neg c3, c1, c2, if_pos (by rfl)] at hp hitem
  obtain ⟨k1, k2⟩ := WE (s := s) (a := a + 2) (by omega)
  refine (hC (s.drop (a + 2), ([58, 93] : Bs)) (by simp; omega)).to ?_
  rintro (q : Bs × (Bs × Bool)) _ hq
  have hq : q = Lib.cut (s.drop (a + 2)) [58, 93] := hq
  rw [← hq] at k1 k2
  clear hq
  by_cases hf : CH s (a + 2) + 1 < s.length
  ·obtain ⟨k3, k4⟩ := k2 hf
   refine Ag.of ⟨fun hc => by rw [k1] at hc; simp [hf] at hc, fun _ => ?_⟩
   rw [k3]
   have hlen : ((s.take (CH s (a + 2))).drop (a + 2)).length = CH s (a + 2) - (a + 2) := by simp; omega
   refine (hN w _ fun hn => hp ?_).to ?_
   ·rw [if_pos (.inl hn)]
   ·rintro (v : Bb) _ ⟨hv1, hv2⟩
    rw [if_neg (by rw [hv1]; simp; omega)] at hitem
    refine ⟨CH s (a + 2) + 2, ?_, by omega, by omega, ?_⟩
    ·rw [hitem, hv2]
    ·rw [hlen, w64 (n := 2 + ((CH s (a + 2) - (a + 2) : Nat) : Int)) (by omega) (by omega), w64 (n := 2 + ((CH s (a + 2) - (a + 2) : Nat) : Int) + 2) (by omega) (by omega), w64 (by omega) (by omega)]
     show (s, (_, _)) = (s, (_, _))
     congr 2
     omega
  ·refine Ag.mid (fun _ => False) ⟨fun _ => hp ?_, fun hc => by rw [k1] at hc; simp [hf] at hc⟩ (fun _ h => h.elim)
   rw [if_pos (.inr (by omega))]
 ·have h1 : ¬ (a + 1 < s.length ∧ byt s a = 91 ∧ byt s (a + 1) = 58) := fun x => by rw [hq.2 x] at hb; cases hb
  have c1 : ¬ (isc s a 91 && isc s (a + 1) 58) = true := by
   intro x
   rw [Bool.and_eq_true] at x
   have := RX x.1; have := RX x.2
   exact h1 ⟨by omega, by omega, by omega⟩
  rw [if_neg c1] at hp hitem
  refine hT.at ha hs (fun x => hp (by rw [if_pos (by omega)])) fun hlt => ?_
  rw [if_neg (show ¬ s.length ≤ a by omega)] at hp hitem
  have hb0 := CQ s a
  have hb2 := CQ s (a + 2)
  refine Ag.mid (fun q => q = s.drop (a + 1)) ⟨⟨show (0 : Int) ≤ ((a + 1 : Nat) : Int) by omega, show ((a + 1 : Nat) : Int) ≤ ((s.length : Nat) : Int) by omega⟩, rfl, trivial⟩ ?_
  rintro _ rfl
  have e0 : ((UInt8.toNat (List.getD (s.drop (a + 1)) (Int.toNat 0) 0) : Nat) : Int) = byt s (a + 1) := by
   unfold byt
   show (((List.getD (s.drop (a + 1)) 0 0).toNat : Nat) : Int) = _
   rw [List.getD_eq_getElem?_getD, List.getD_eq_getElem?_getD, List.getElem?_drop]
  have e1 : ((UInt8.toNat (List.getD (s.drop (a + 1)) (Int.toNat 1) 0) : Nat) : Int) = byt s (a + 2) := by
   unfold byt
   show (((List.getD (s.drop (a + 1)) 1 0).toNat : Nat) : Int) = _
   rw [List.getD_eq_getElem?_getD, List.getD_eq_getElem?_getD, List.getElem?_drop]
  have el : ((List.length (s.drop (a + 1)) : Nat) : Int) = (s.length : Int) - (a + 1) := by
   rw [List.length_drop]; omega
  rw [e0, e1, el]
  have hcond : (cond (cond (decide ((s.length : Int) - (a + 1) < 2)) true (byt s (a + 1) != 45)) true (byt s (a + 2) == 93)) = decide (¬ (a + 2 < s.length ∧ byt s (a + 1) = 45 ∧ byt s (a + 2) ≠ 93)) := by
   by_cases g1 : (s.length : Int) - (a + 1) < 2
   ·have : ¬ a + 2 < s.length := by omega
    simp [g1, this]
   ·have : a + 2 < s.length := by omega
    by_cases g2 : byt s (a + 1) = 45
    ·by_cases g3 : byt s (a + 2) = 93
     ·simp [g1, g2, g3]
     ·simp [g1, g2, g3, this]
    ·simp [g1, g2]
  rw [hcond]
  refine ⟨fun hc => ?_, fun hc => ?_, fun hc => ?_, fun hc => ?_⟩
  ·have := of_decide_eq_false hc; omega
  ·by_cases g1 : (s.length : Int) - (a + 1) < 2
   ·simp [g1] at hc
   ·omega
  ·have hc := of_decide_eq_true hc
   rw [if_neg hc] at hitem
   refine hW.at hb0.1 hb0.2 ⟨a + 1, ?_, by omega, by omega, rfl⟩
   rw [hitem, Sd]
  ·have hc := of_decide_eq_false hc
   have hc : a + 2 < s.length ∧ byt s (a + 1) = 45 ∧ byt s (a + 2) ≠ 93 := Decidable.not_not.1 hc
   rw [if_pos hc] at hp hitem
   refine ⟨by omega, ?_⟩
   by_cases hlt2 : byt s (a + 2) < byt s a
   ·rw [if_pos hlt2] at hp
    exact Ag.mid (fun _ => False) ⟨fun _ => hp rfl, fun h => absurd hlt2 (of_decide_eq_false h)⟩ (fun _ h => h.elim)
   ·rw [if_neg hlt2] at hitem
    refine Ag.of ⟨fun h => absurd (of_decide_eq_true h) hlt2, fun _ => ?_⟩
    refine Ag.mid (fun q => q = Bp (byt s a) (byt s (a + 2)) w) ⟨by omega, hTh.at hb0.1 hb0.2 hb2.1 hb2.2 ⟨rfl, trivial⟩, trivial⟩ ?_
    rintro _ rfl
    refine ⟨a + 3, hitem, by omega, by omega, ?_⟩
    rw [wp2 (a := a + 1) (by omega) hs]
theorem Kb.at (h : Kb P) {s : Bs} {a : Nat} {d : Int} {l : List Node} {w : Bb} (ha : a ≤ s.length) (hs : s.length ≤ 1000000) (hp : Iq s w a = none → P.kp (Kl 40)) {K : Bb → Aa → Prop} (hk : ∀ v b, Iq s w a = some (v, b) → a < b → b ≤ s.length → K v (PSt s b d l)) : Fn P XD A9 (PSt s a d l, w) K :=
 (h s a d l w ha hs hp).to fun (q : Bb) (e : Aa) hq => by
  obtain ⟨b, h1, h2, h3, rfl⟩ := hq
  exact hk q b h1 h2 h3
end Go.VS
