/- The reader of patterns: its small steps. -/
import Derived.Test.YtbandpkgjepklaaKSpNum
set_option linter.unusedVariables false
set_option linter.unusedSimpArgs false
namespace Go.VS
variable {P : Pg}
def Ct (s : Bs) : Nat → Nat → Nat
 | 0, i => i
 | f + 1, i => if i + 1 < s.length ∧ ¬ (byt s i = 58 ∧ byt s (i + 1) = 93) then Ct s f (i + 1) else i
def CH (s : Bs) (a : Nat) : Nat := Ct s s.length a
theorem Lg (s : Bs) : ∀ f i, i ≤ Ct s f i
 | 0, i => Nat.le_refl _
 | f + 1, i => by
  rw [Ct]
  split
  ·have := Lg s f (i + 1); omega
  ·exact Nat.le_refl _
def EH : Nat → Int → Bb → Bb
 | 0, _, w => w
 | n + 1, c, w => EH n (c + 1) (EG w c)
def Bp (lo hi : Int) (w : Bb) : Bb := EH (hi + 1 - lo).toNat lo w
def N3 (nm : Bs) : Nat → Int → Bb → Bb
 | 0, _, w => w
 | n + 1, c, w => N3 nm n (c + 1) (if (E6 nm c).1 = true then EG w c else w)
def Cq (nm : Bs) (w : Bb) : Bb := N3 nm 256 0 w
def G5 (rec : Bb → Nat → Option (Bb × Nat)) (s : Bs) (set : Bb) (a : Nat) : Option (Bb × Nat) :=
 if s.length ≤ a then none
 else if (isc s a 91 && isc s (a + 1) 58) = true then
  if (E6 ((s.take (CH s (a + 2))).drop (a + 2)) 0).2 = false ∨ s.length ≤ CH s (a + 2) + 1 then none
  else rec (Cq ((s.take (CH s (a + 2))).drop (a + 2)) set) (CH s (a + 2) + 2)
 else if a + 2 < s.length ∧ byt s (a + 1) = 45 ∧ byt s (a + 2) ≠ 93 then (if byt s (a + 2) < byt s a then none else rec (Bp (byt s a) (byt s (a + 2)) set) (a + 3))
 else rec (Bp (byt s a) (byt s a) set) (a + 1)
def Dh (s : Bs) : Nat → Bool → Bb → Nat → Option (Bb × Nat)
 | 0, _, _, _ => none
 | f + 1, first, set, a => if first = true ∨ isc s a 93 = false then G5 (Dh s f false) s set a else some (set, a)
def z4 : Bb := ((0 : Int), ((0 : Int), ((0 : Int), (0 : Int))))
def HE (s : Bs) (a : Nat) : Option (Bb × Nat) :=
 match Dh s (s.length + 2) true z4 (if isc s a 94 = true then a + 1 else a) with
 | none => none
 | some (set, b) => some (if isc s a 94 = true then GM set else set, b + 1)
theorem Lf {s : Bs} : ∀ {f : Nat} {first : Bool} {set : Bb} {a : Nat} {set' : Bb} {b : Nat}, Dh s f first set a = some (set', b) → a ≤ s.length → a ≤ b ∧ b < s.length
 | 0, _, _, _, _, _, h, _ => by simp [Dh] at h
 | f + 1, first, set, a, set', b, h, hl => by
  rw [Dh] at h
  split at h
  ·unfold G5 at h
   split at h
   ·cases h
   rename_i h1
   have hge := Lg s s.length (a + 2)
   split at h
   ·split at h
    ·cases h
    rename_i h2
    have hge : a + 2 ≤ CH s (a + 2) := hge
    have := Lf h (by omega)
    omega
   ·split at h
    ·split at h
     ·cases h
     have := Lf h (by omega)
     omega
    ·have := Lf h (by omega)
     omega
  ·rename_i h1
   cases h
   have h1 : isc s a 93 = true := by
    cases hh : isc s a 93 with
    | true => rfl
    | false => exact absurd (.inr hh) h1
   have := (Bi.1 h1).1
   omega
theorem WD {s : Bs} {a : Nat} {w : Bb} {b : Nat} (h : HE s a = some (w, b)) (ha : a ≤ s.length) : a < b ∧ b ≤ s.length := by
 unfold HE at h
 split at h
 ·cases h
 rename_i set b' e
 cases h
 have h1 : (if isc s a 94 = true then a + 1 else a) ≤ s.length := by
  split
  ·rename_i h; have := (Bi.1 h).1; omega
  ·exact ha
 have := Lf e h1
 split at this <;> omega
def setNode (w : Bb) : Node := ((1 : Int), (w, ((0 : Int), ((0 : Int), []))))
end Go.VS
