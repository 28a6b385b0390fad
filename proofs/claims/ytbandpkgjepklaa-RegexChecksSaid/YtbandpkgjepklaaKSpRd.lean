/- The reader of patterns: its small steps. -/
import Derived.Test.YtbandpkgjepklaaKSpNum
set_option linter.unusedVariables false
set_option linter.unusedSimpArgs false
namespace Go.VS
variable {P : Pg}
def Ka (P : Pg) : Prop := ∀ x : Ab × Int, 0 ≤ x.1.2.1 → Fn P zS5 Ax x fun (d : Bool) (e : Ab) => e = x.1 ∧ (d = true ↔ x.1.2.1 < x.1.1.length ∧ ((x.1.1.getD x.1.2.1.toNat 0).toNat : Int) = x.2)
theorem Abl (h : Has P Ed) : Ka P := by
 rintro ⟨⟨s, a, dp, l, e⟩, c⟩ ha
 dsimp only at ha
 refine Mb h ?_
 unfold Ij
 dsimp only
 refine Ag.mid (fun d => d = true ↔ a < s.length ∧ ((s.getD a.toNat 0).toNat : Int) = c) ⟨fun hc => ⟨ha, of_decide_eq_true hc⟩, ?_, trivial⟩ fun d hd => ⟨rfl, hd⟩
 rw [Bool.cond_eq_ite]
 split
 ·rename_i h1
  have h1 := of_decide_eq_true h1
  simp only [beq_iff_eq]
  exact ⟨fun h => ⟨h1, h⟩, fun h => h.2⟩
 ·rename_i h1
  have h1 : ¬ a < s.length := fun h => h1 (decide_eq_true h)
  exact ⟨fun h => (nomatch h), fun h => (h1 h.1).elim⟩
def Fq (P : Pg) : Prop := ∀ x : Ab × Node, x.1.2.2.2.1.length ≤ 1000000000 → Fn P zS2 Ar x fun (d : Int) (e : Ab) => d = x.1.2.2.2.1.length ∧ e = (x.1.1, (x.1.2.1, (x.1.2.2.1, (x.1.2.2.2.1 ++ [x.2], x.1.2.2.2.2))))
theorem ZO (h : Has P Dl) : Fq P := by
 rintro ⟨⟨s, a, dp, l, e⟩, n⟩ hl
 dsimp only at hl
 refine Kr h ?_
 unfold GS
 dsimp only
 refine Ag.mid (fun d => d = (s, (a, (dp, (l ++ [n], e))))) ?_ ?_
 ·simp only [List.length_cons, List.length_nil, and_true, and_self]
  omega
 ·rintro d rfl
  dsimp only
  have hlen : (l ++ [n]).length = l.length + 1 := by simp
  rw [hlen, w64 (by omega) (by omega)]
  exact ⟨by omega, rfl⟩
def Ez (P : Pg) : Prop := ∀ x : Ab × Int, Fn P zS0 Am x fun (d : Int) (e : Ab) => d = 0 ∧ e = (x.1.1, (x.1.2.1, (x.1.2.2.1, (x.1.2.2.2.1, if x.1.2.2.2.2 = 0 then x.2 else x.1.2.2.2.2))))
theorem ZM (h : Has P Dk) : Ez P := by
 rintro ⟨⟨s, a, dp, l, e⟩, c⟩
 refine Kq h ?_
 unfold GR
 dsimp only
 refine Ag.mid (fun d => d = (s, (a, (dp, (l, if e = 0 then c else e))))) ⟨fun hc => ?_, fun hc => ?_⟩ fun d hd => ⟨rfl, hd⟩
 ·rw [if_pos (eq_of_beq hc)]
 ·rw [if_neg (ne_of_beq_false hc)]
theorem Ez.at (h : Ez P) {s : Bs} {a d : Int} {l : List Node} {e c : Int} {K : Int → Ab → Prop} (hk : ∀ k r, k = 0 → r.2.2.2.2 = (if e = 0 then c else e) → K k r) : Fn P zS0 Am ((s, (a, (d, (l, e)))), c) K :=
 (h ((s, (a, (d, (l, e)))), c)).to fun (k : Int) (r : Ab) hr => hk k r hr.1 (by rw [hr.2])
theorem Ka.at (h : Ka P) {s : Bs} {a d : Int} {l : List Node} {e c : Int} {K : Bool → Ab → Prop} (ha : 0 ≤ a) (hk : K (isc s a.toNat c) (s, (a, (d, (l, e))))) : Fn P zS5 Ax ((s, (a, (d, (l, e)))), c) K :=
 (h ((s, (a, (d, (l, e)))), c) ha).to fun (b : Bool) (r : Ab) hr => by
  obtain ⟨rfl, hb⟩ := hr
  have : b = isc s a.toNat c := by
   rw [Bool.eq_iff_iff, hb, Bi]
   dsimp only
   exact ⟨fun h => ⟨by omega, h.2⟩, fun h => ⟨by omega, h.2⟩⟩
  rw [this]; exact hk
theorem Fq.at (h : Fq P) {s : Bs} {a d : Int} {l : List Node} {e : Int} {n : Node} {K : Int → Ab → Prop} (hl : l.length ≤ 1000000000) (hk : K (l.length : Int) (s, (a, (d, (l ++ [n], e))))) : Fn P zS2 Ar ((s, (a, (d, (l, e)))), n) K :=
 (h ((s, (a, (d, (l, e)))), n) hl).to fun (b : Int) (r : Ab) hr => by
  obtain ⟨hb, rfl⟩ := hr
  have hb : b = (l.length : Int) := hb
  rw [hb]; exact hk
def Ct (s : Bs) : Nat → Nat → Nat
 | 0, i => i
 | f + 1, i => if i + 1 < s.length ∧ ¬ (byt s i = 58 ∧ byt s (i + 1) = 93) then Ct s f (i + 1) else i
def CH (s : Bs) (a : Nat) : Nat := Ct s s.length a
theorem Lg (s : Bs) : ∀ f i, i ≤ Ct s f i
 | 0, i => Nat.le_refl _
 | f + 1, i => by
  rw [Ct]
  split
  ·have := Lg s f (i + 1); omega
  ·exact Nat.le_refl _
def EH : Nat → Int → Bb → Bb
 | 0, _, w => w
 | n + 1, c, w => EH n (c + 1) (EG w c)
def Bp (lo hi : Int) (w : Bb) : Bb := EH (hi + 1 - lo).toNat lo w
def N3 (nm : Bs) : Nat → Int → Bb → Bb
 | 0, _, w => w
 | n + 1, c, w => N3 nm n (c + 1) (if (E6 nm c).1 = true then EG w c else w)
def Cq (nm : Bs) (w : Bb) : Bb := N3 nm 256 0 w
def G5 (rec : Bb → Nat → Option (Bb × Nat)) (s : Bs) (set : Bb) (a : Nat) : Option (Bb × Nat) :=
 if s.length ≤ a then none
 else if (isc s a 91 && isc s (a + 1) 58) = true then
  if (E6 ((s.take (CH s (a + 2))).drop (a + 2)) 0).2 = false ∨ s.length ≤ CH s (a + 2) + 1 then none
  else rec (Cq ((s.take (CH s (a + 2))).drop (a + 2)) set) (CH s (a + 2) + 2)
 else if a + 2 < s.length ∧ byt s (a + 1) = 45 ∧ byt s (a + 2) ≠ 93 then (if byt s (a + 2) < byt s a then none else rec (Bp (byt s a) (byt s (a + 2)) set) (a + 3))
 else rec (Bp (byt s a) (byt s a) set) (a + 1)
def Dh (s : Bs) : Nat → Bool → Bb → Nat → Option (Bb × Nat)
 | 0, _, _, _ => none
 | f + 1, first, set, a => if first = true ∨ isc s a 93 = false then G5 (Dh s f false) s set a else some (set, a)
def z4 : Bb := ((0 : Int), ((0 : Int), ((0 : Int), (0 : Int))))
def HE (s : Bs) (a : Nat) : Option (Bb × Nat) :=
 match Dh s (s.length + 2) true z4 (if isc s a 94 = true then a + 1 else a) with
 | none => none
 | some (set, b) => some (if isc s a 94 = true then GM set else set, b + 1)
theorem Lf {s : Bs} : ∀ {f : Nat} {first : Bool} {set : Bb} {a : Nat} {set' : Bb} {b : Nat}, Dh s f first set a = some (set', b) → a ≤ s.length → a ≤ b ∧ b < s.length
 | 0, _, _, _, _, _, h, _ => by simp [Dh] at h
 | f + 1, first, set, a, set', b, h, hl => by
  rw [Dh] at h
  split at h
  ·unfold G5 at h
   split at h
   ·cases h
   rename_i h1
   have hge := Lg s s.length (a + 2)
   split at h
   ·split at h
    ·cases h
    rename_i h2
    have hge : a + 2 ≤ CH s (a + 2) := hge
    have := Lf h (by omega)
    omega
   ·split at h
    ·split at h
     ·cases h
     have := Lf h (by omega)
     omega
    ·have := Lf h (by omega)
     omega
  ·rename_i h1
   cases h
   have h1 : isc s a 93 = true := by
    cases hh : isc s a 93 with
    | true => rfl
    | false => exact absurd (.inr hh) h1
   have := (Bi.1 h1).1
   omega
theorem WD {s : Bs} {a : Nat} {w : Bb} {b : Nat} (h : HE s a = some (w, b)) (ha : a ≤ s.length) : a < b ∧ b ≤ s.length := by
 unfold HE at h
 split at h
 ·cases h
 rename_i set b' e
 cases h
 have h1 : (if isc s a 94 = true then a + 1 else a) ≤ s.length := by
  split
  ·rename_i h; have := (Bi.1 h).1; omega
  ·exact ha
 have := Lf e h1
 split at this <;> omega
def setNode (w : Bb) : Node := ((1 : Int), (w, ((0 : Int), ((0 : Int), []))))
def Mz (R : Option (Bb × Nat)) (neg : Bool) (s : Bs) (d : Int) (l : List Node) (k : Int) (e : Ab) : Prop := match R with
 | none => e.2.2.2.2 = 40
 | some (w, b) => k = (l.length : Int) ∧ e = (s, (((b + 1 : Nat) : Int), (d, (l ++ [setNode (if neg = true then GM w else w)], (0 : Int)))))
theorem Vj {s : Bs} {a i : Nat} (h : a ≤ i) (hi : i < s.length) : (s.take i).drop a ++ (s.take (i + 1)).drop i = (s.take (i + 1)).drop a := by
 have e : s.take (i + 1) = s.take i ++ [s[i]] := by rw [List.take_append_getElem hi]
 have hl : (s.take i).length = i := by simp; omega
 rw [e, List.drop_append_of_le_length (by omega), List.drop_append_of_le_length (by omega)]
 have : List.drop i (s.take i) = [] := by rw [List.drop_eq_nil_iff]; omega
 rw [this]
 simp
end Go.VS
