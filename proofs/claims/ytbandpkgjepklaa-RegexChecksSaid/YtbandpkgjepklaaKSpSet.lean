/- Named classes: in whatever order bytes are put into a set. -/
import Derived.Test.YtbandpkgjepklaaKSpPrh
set_option linter.unusedVariables false
set_option linter.unusedSimpArgs false
namespace Go.VS
variable {P : Pg}
theorem ofInt_u64 (x : BitVec 64) : BitVec.ofInt 64 (IntKind.u64.wrap ((BitVec.toNat x : Nat) : Int)) = x := by
 have e : IntKind.u64.wrap ((BitVec.toNat x : Nat) : Int) = ((BitVec.toNat x : Nat) : Int) := by
  have := x.isLt
  unfold IntKind.wrap
  simp only [IntKind.signed, IntKind.bits, Bool.false_and]
  show ((BitVec.toNat x : Nat) : Int) % 2 ^ 64 = _
  omega
 rw [e]
 apply BitVec.eq_of_toNat_eq
 rw [BitVec.toNat_ofInt]
 have := x.isLt
 omega
theorem Zz (w : Int) (A B : BitVec 64) : IntKind.u64.wrap ((BitVec.toNat (BitVec.ofInt 64 (IntKind.u64.wrap ((BitVec.toNat (BitVec.ofInt 64 w ||| A) : Nat) : Int)) ||| B) : Nat) : Int) = IntKind.u64.wrap ((BitVec.toNat (BitVec.ofInt 64 (IntKind.u64.wrap ((BitVec.toNat (BitVec.ofInt 64 w ||| B) : Nat) : Int)) ||| A) : Nat) : Int) := by
 rw [ofInt_u64, ofInt_u64, BitVec.or_assoc, BitVec.or_comm A, ← BitVec.or_assoc]
theorem Nc (w a b : Int) : orW (orW w a) b = orW (orW w b) a := by
 unfold orW
 exact Zz w _ _
theorem Xe (w : Bb) (a b : Int) : EG (EG w a) b = EG (EG w b) a := by
 obtain ⟨x, y, z, t⟩ := w
 unfold EG
 dsimp only
 generalize (a / 64).toNat = i
 generalize (b / 64).toNat = j
 match i, j with
 | 0, 0 => simp [Nc]
 | 0, 1 => simp
 | 0, 2 => simp
 | 0, 3 => simp
 | 0, j + 4 => simp
 | 1, 0 => simp
 | 1, 1 => simp [Nc]
 | 1, 2 => simp
 | 1, 3 => simp
 | 1, j + 4 => simp
 | 2, 0 => simp
 | 2, 1 => simp
 | 2, 2 => simp [Nc]
 | 2, 3 => simp
 | 2, j + 4 => simp
 | 3, 0 => simp
 | 3, 1 => simp
 | 3, 2 => simp
 | 3, 3 => simp [Nc]
 | 3, j + 4 => simp
 | i + 4, 0 => simp
 | i + 4, 1 => simp
 | i + 4, 2 => simp
 | i + 4, 3 => simp
 | i + 4, j + 4 => simp
def XA : Nat → Int → List Int
 | 0, _ => []
 | n + 1, c => c :: XA n (c + 1)
theorem RA : ∀ (n : Nat) (c : Int) (w : Bb), EH n c w = (XA n c).foldl EG w
 | 0, _, _ => rfl
 | n + 1, c, w => by rw [EH, XA, List.foldl_cons, RA n]
theorem Ff (nm : Bs) : ∀ (n : Nat) (c : Int) (w : Bb), N3 nm n c w = ((XA n c).filter fun c => (E6 nm c).1).foldl EG w
 | 0, _, _ => rfl
 | n + 1, c, w => by
  rw [N3, XA, List.filter_cons, Ff nm n]
  split <;> rfl
theorem Ge {l m : List Int} (h : l.isPerm m = true) (w : Bb) : l.foldl EG w = m.foldl EG w := (List.isPerm_iff.1 h).foldl_eq' (fun _ _ _ _ _ => Xe ..) w
theorem Ca (a b : Int) (w : Bb) : Bp a b w = (XA (b + 1 - a).toNat a).foldl EG w := RA ..
theorem Tw (w : Bb) : Bp 65 90 (Bp 97 122 w) = Cq NN w := by
 unfold Cq
 rw [Ff, Ca, Ca, ← List.foldl_append]
 exact Ge (by decide +kernel) w
theorem Tx (w : Bb) : Bp 48 57 w = Cq NO w := by
 unfold Cq
 rw [Ff, Ca]
 exact Ge (by decide +kernel) w
theorem Tv (w : Bb) : Bp 48 57 (Bp 65 90 (Bp 97 122 w)) = Cq NM w := by
 unfold Cq
 rw [Ff, Ca, Ca, Ca, ← List.foldl_append, ← List.foldl_append]
 exact Ge (by decide +kernel) w
theorem TD (w : Bb) : Bp 65 90 w = Cq NS w := by
 unfold Cq
 rw [Ff, Ca]
 exact Ge (by decide +kernel) w
theorem Ty (w : Bb) : Bp 97 122 w = Cq NP w := by
 unfold Cq
 rw [Ff, Ca]
 exact Ge (by decide +kernel) w
theorem TA (w : Bb) : EG (Bp 9 13 w) 32 = Cq NR w := by
 have e : ∀ v : Bb, EG v 32 = ([32] : List Int).foldl EG v := fun _ => rfl
 unfold Cq
 rw [Ff, Ca, e, ← List.foldl_append]
 exact Ge (by decide +kernel) w
theorem Tz (w : Bb) : Bp 123 126 (Bp 91 96 (Bp 58 64 (Bp 33 47 w))) = Cq NQ w := by
 unfold Cq
 rw [Ff, Ca, Ca, Ca, Ca, ← List.foldl_append, ← List.foldl_append, ← List.foldl_append]
 exact Ge (by decide +kernel) w
def NI (P : Pg) : Prop := ∀ (w : Bb) (nm : Bs), ((E6 nm 0).2 = false → P.kp (Kl 40)) → Fn P Ajc BV (w, nm) fun (q : Bb) _ => (E6 nm 0).2 = true ∧ q = Cq nm w
theorem Xt (h : Has P Ee) (hT : F5 P) (hW : G2 P) : NI P := by
 intro w nm hp
 refine Mc h ?_
 unfold Ik
 dsimp only
 refine Ag.mid (fun _ => nm ≠ NN ∧ nm ≠ NO ∧ nm ≠ NM ∧ nm ≠ NS ∧ nm ≠ NP ∧ nm ≠ NR ∧ nm ≠ NQ) ⟨fun hc => ?_, fun h1 => ⟨fun hc => ?_, fun h2 => ⟨fun hc => ?_, fun h3 => ⟨fun hc => ?_, fun h4 => ⟨fun hc => ?_, fun h5 => ⟨fun hc => ?_, fun h6 => ⟨fun hc => ?_, fun h7 => ?_⟩⟩⟩⟩⟩⟩⟩ ?_
 ·have hc : nm = NN := eq_of_beq hc
  subst hc
  exact hT.at (by decide) (by decide) (by decide) (by decide) (hT.at (by decide) (by decide) (by decide) (by decide) ⟨rfl, Tw w⟩)
 ·have hc : nm = NO := eq_of_beq hc
  subst hc
  exact hT.at (by decide) (by decide) (by decide) (by decide) ⟨rfl, Tx w⟩
 ·have hc : nm = NM := eq_of_beq hc
  subst hc
  exact hT.at (by decide) (by decide) (by decide) (by decide) (hT.at (by decide) (by decide) (by decide) (by decide) (hT.at (by decide) (by decide) (by decide) (by decide) ⟨rfl, Tv w⟩))
 ·have hc : nm = NS := eq_of_beq hc
  subst hc
  exact hT.at (by decide) (by decide) (by decide) (by decide) ⟨rfl, TD w⟩
 ·have hc : nm = NP := eq_of_beq hc
  subst hc
  exact hT.at (by decide) (by decide) (by decide) (by decide) ⟨rfl, Ty w⟩
 ·have hc : nm = NR := eq_of_beq hc
  subst hc
  exact hT.at (by decide) (by decide) (by decide) (by decide) (hW.at (by decide) (by decide) ⟨rfl, TA w⟩)
 ·have hc : nm = NQ := eq_of_beq hc
  subst hc
  exact hT.at (by decide) (by decide) (by decide) (by decide) (hT.at (by decide) (by decide) (by decide) (by decide) (hT.at (by decide) (by decide) (by decide) (by decide) (hT.at (by decide) (by decide) (by decide) (by decide) ⟨rfl, Tz w⟩)))
 ·have f : ∀ {b : Bs}, (nm == b) = false → nm ≠ b := fun h x => by rw [x] at h; simp at h
  exact ⟨f h1, f h2, f h3, f h4, f h5, f h6, f h7⟩
 ·rintro _ ⟨h1, h2, h3, h4, h5, h6, h7⟩
  refine hp ?_
  unfold E6
  rw [if_neg h1, if_neg h2, if_neg h3, if_neg h4, if_neg h5, if_neg h6, if_neg h7]
end Go.VS
