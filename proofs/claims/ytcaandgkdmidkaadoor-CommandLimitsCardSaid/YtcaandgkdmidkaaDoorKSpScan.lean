/- Words and numbers in texts: what they are. -/
import Derived.Test.YtcaandgkdmidkaaDoorKSpNb
import Derived.Test.YtcaandgkdmidkaaDoorKSpDig
import Derived.Lib.ItoaNum
set_option linter.unusedVariables false
set_option linter.unusedSimpArgs false
namespace Go.VS
variable {P : Pg}
def C5 (c : Int) : Bool := cond (cond (cond (decide (c ≥ 33)) (decide (c ≤ 126)) false) (c != 34) false) (c != 92) false
def CE (b : UInt8) : Bool := C5 ((b.toNat : Nat) : Int)
def BF (b : UInt8) : List UInt8 :=
 if b = 34 ∨ b = 92 then [92, b] else if b = 10 then [92, 110] else if b = 9 then [92, 116]
 else if b.toNat < 32 ∨ 126 < b.toNat then [92, UInt8.ofNat (48 + b.toNat / 64), UInt8.ofNat (48 + b.toNat / 8 % 8), UInt8.ofNat (48 + b.toNat % 8)] else [b]
def Ar (s : List UInt8) : List UInt8 := if (!s.isEmpty && s.all CE) = true then s else 34 :: (s.flatMap BF ++ [34])
def CX (P : Pg) : Prop := ∀ b : UInt8, Fn P "mergelens/scan.escaped" Cn ((b.toNat : Nat) : Int) fun (d : List UInt8) _ => d = BF b
theorem NC : ∀ n : Nat, n < 128 → SX (n : Int) = [UInt8.ofNat n] := by decide +kernel
theorem Wg : ∀ n : Nat, n < 256 → strOf ([(IntKind.u8.wrap ((48 : Int) + (Int.fdiv (n : Int) (2 ^ (min (Int.toNat (6 : Int)) IntKind.u8.bits))))), (IntKind.u8.wrap ((48 : Int) + (IntKind.u8.wrap ((BitVec.toNat (BitVec.ofInt IntKind.u8.bits (Int.fdiv (n : Int) (2 ^ (min (Int.toNat (3 : Int)) IntKind.u8.bits))) &&& BitVec.ofInt IntKind.u8.bits (7 : Int)) : Nat) : Int)))), (IntKind.u8.wrap ((48 : Int) + (IntKind.u8.wrap ((BitVec.toNat (BitVec.ofInt IntKind.u8.bits (n : Int) &&& BitVec.ofInt IntKind.u8.bits (7 : Int)) : Nat) : Int))))] : List Int) = [UInt8.ofNat (48 + n / 64), UInt8.ofNat (48 + n / 8 % 8), UInt8.ofNat (48 + n % 8)] := by decide +kernel
theorem RC (h : Has P DJ) : CX P := by
 intro b
 refine Lo h ?_
 unfold Hj
 have hb : b.toNat < 256 := UInt8.toNat_lt b
 have hbo : UInt8.ofNat b.toNat = b := by simp
 have hv : ∀ v : UInt8, ((b.toNat : Int) == ((v.toNat : Nat) : Int)) = true ↔ b = v := fun v => by
  rw [beq_iff_eq]
  constructor
  ·intro h; apply UInt8.toNat_inj.1; omega
  ·rintro rfl; rfl
 unfold BF
 refine Ao.mid (fun _ => ¬ (b = 34 ∨ b = 92) ∧ b ≠ 10 ∧ b ≠ 9 ∧ ¬ (b.toNat < 32 ∨ 126 < b.toNat)) ?_ ?_
 rotate_left
 ·rintro _ ⟨h1, h2, h3, h4⟩
  rw [if_neg h1, if_neg h2, if_neg h3, if_neg h4, NC _ (by omega), hbo]
 refine ⟨fun hc => ?_, fun hc => ⟨fun h10 => ?_, fun h10 => ⟨fun h9 => ?_, fun h9 => ⟨fun ho => ?_, fun ho => ?_⟩⟩⟩⟩
 ·have h1 : b = 34 ∨ b = 92 := by
   cases h1 : ((b.toNat : Int) == (34 : Int)) with
   | true => exact .inl ((hv 34).1 h1)
   | false => rw [h1] at hc; exact .inr ((hv 92).1 hc)
  have h2 : b.toNat < 128 := by rcases h1 with rfl | rfl <;> decide
  rw [if_pos h1, NC _ h2, hbo]
  exact ⟨by simp, rfl⟩
 all_goals
  have h1 : ¬ (b = 34 ∨ b = 92) := by
   rintro (rfl | rfl)
   ·exact absurd hc (by decide)
   ·exact absurd hc (by decide)
 all_goals try rw [if_neg h1]
 ·rw [if_pos ((hv 10).1 h10)]
 all_goals have h2 : b ≠ 10 := fun e => by subst e; exact absurd h10 (by decide)
 all_goals try rw [if_neg h2]
 ·rw [if_pos ((hv 9).1 h9)]
 all_goals have h3 : b ≠ 9 := fun e => by subst e; exact absurd h9 (by decide)
 all_goals try rw [if_neg h3]
 ·have h4 : b.toNat < 32 ∨ 126 < b.toNat := by
   cases h4 : decide ((b.toNat : Int) < 32) with
   | true => have := of_decide_eq_true h4; omega
   | false => rw [h4] at ho; have := of_decide_eq_true ho; omega
  rw [if_pos h4, Wg _ hb]
  exact ⟨by decide, by decide, by simp, rfl⟩
 ·refine ⟨h1, h2, h3, ?_⟩
  rintro (h4 | h4)
  ·have : decide ((b.toNat : Int) < 32) = true := decide_eq_true (by omega)
   rw [this] at ho; cases ho
  ·cases h5 : decide ((b.toNat : Int) < 32) with
   | true => rw [h5] at ho; cases ho
   | false => rw [h5] at ho; have := of_decide_eq_false ho; omega
end Go.VS
