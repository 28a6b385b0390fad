/- Numbers made of raw numbers; sets of bytes. -/
import Derived.Test.YtdnomijflodcgaaDoorKSpMod
set_option linter.unusedVariables false
set_option linter.unusedSimpArgs false
namespace Go.VS
variable {P : Pg}
@[irreducible] def atX (raw : List Int) (k : Int) : Int :=
 if ((List.length raw : Nat) : Int) > 0 then (IntKind.u64.wrap ((BitVec.toNat (BitVec.ofInt IntKind.u64.bits (IntKind.u64.wrap ((IntKind.u64.wrap (IntKind.i64.wrap (k + (1 : Int)))) * (11400714819323198485 : Int))) ^^^ BitVec.ofInt IntKind.u64.bits (IntKind.u64.wrap (List.getD raw (Int.toNat (Int.tmod k ((List.length raw : Nat) : Int))) (0 : Int)))) : Nat) : Int))
 else (IntKind.u64.wrap ((IntKind.u64.wrap (IntKind.i64.wrap (k + (1 : Int)))) * (11400714819323198485 : Int)))
@[irreducible] def atY (d2 : Int) : Int := IntKind.u64.wrap ((BitVec.toNat (BitVec.ofInt IntKind.u64.bits (IntKind.u64.wrap ((IntKind.u64.wrap ((BitVec.toNat (BitVec.ofInt IntKind.u64.bits d2 ^^^ BitVec.ofInt IntKind.u64.bits (Int.fdiv d2 (2 ^ (min (Int.toNat (31 : Int)) IntKind.u64.bits)))) : Nat) : Int)) * (13787848793156543929 : Int))) ^^^ BitVec.ofInt IntKind.u64.bits (Int.fdiv (IntKind.u64.wrap ((IntKind.u64.wrap ((BitVec.toNat (BitVec.ofInt IntKind.u64.bits d2 ^^^ BitVec.ofInt IntKind.u64.bits (Int.fdiv d2 (2 ^ (min (Int.toNat (31 : Int)) IntKind.u64.bits)))) : Nat) : Int)) * (13787848793156543929 : Int))) (2 ^ (min (Int.toNat (29 : Int)) IntKind.u64.bits)))) : Nat) : Int)
@[irreducible] def atF (raw : List Int) (k : Int) : Int := IntKind.i64.wrap (Int.fdiv (atY (atX raw k)) (2 ^ (min (Int.toNat (1 : Int)) IntKind.u64.bits)))
theorem XH (raw : List Int) (k : Int) : 0 ≤ atF raw k ∧ atF raw k ≤ 9223372036854775807 := by
 unfold atF
 have e : ((2 : Int) ^ (min (Int.toNat (1 : Int)) IntKind.u64.bits)) = 2 := by decide
 rw [e]
 have h := RR ((BitVec.toNat (BitVec.ofInt IntKind.u64.bits (IntKind.u64.wrap ((IntKind.u64.wrap ((BitVec.toNat (BitVec.ofInt IntKind.u64.bits (atX raw k) ^^^ BitVec.ofInt IntKind.u64.bits (Int.fdiv (atX raw k) (2 ^ (min (Int.toNat (31 : Int)) IntKind.u64.bits)))) : Nat) : Int)) * (13787848793156543929 : Int))) ^^^ BitVec.ofInt IntKind.u64.bits (Int.fdiv (IntKind.u64.wrap ((IntKind.u64.wrap ((BitVec.toNat (BitVec.ofInt IntKind.u64.bits (atX raw k) ^^^ BitVec.ofInt IntKind.u64.bits (Int.fdiv (atX raw k) (2 ^ (min (Int.toNat (31 : Int)) IntKind.u64.bits)))) : Nat) : Int)) * (13787848793156543929 : Int))) (2 ^ (min (Int.toNat (29 : Int)) IntKind.u64.bits)))) : Nat) : Int)
 have e2 : 0 ≤ atY (atX raw k) ∧ atY (atX raw k) ≤ 18446744073709551615 := by unfold atY; exact h
 clear h
 have h := e2
 clear e2
 generalize atY (atX raw k) = u at h ⊢
 rw [Int.fdiv_eq_ediv_of_nonneg u (by omega)]
 rw [w64 (by omega) (by omega)]
 omega
def KV (P : Pg) : Prop := ∀ x : List Int × Int, 0 ≤ x.2 → Fn P zS0 Ba x fun d _ => d = atF x.1 x.2
theorem AdR (h : Has P LL) : KV P := by
 intro x h1
 refine X4 h ?_
 unfold Tn
 refine Ai.mid (fun d => d = atX x.1 x.2) ⟨fun hc => ?_, fun hc => ?_⟩ fun d hd => ⟨by decide, by decide, by decide, ?_⟩
 ·have hc : ((List.length x.1 : Nat) : Int) > 0 := of_decide_eq_true hc
  have e1 : (Int.tmod x.2 ((List.length x.1 : Nat) : Int)) = x.2 % (List.length x.1 : Nat) := Int.tmod_eq_emod_of_nonneg h1
  have e2 := Int.emod_nonneg x.2 (show ((List.length x.1 : Nat) : Int) ≠ 0 by omega)
  have e3 := Int.emod_lt_of_pos x.2 hc
  refine ⟨by omega, by omega, by omega, ?_⟩
  unfold atX
  rw [if_pos hc]
 ·have hc : ¬ ((List.length x.1 : Nat) : Int) > 0 := of_decide_eq_false hc
  unfold atX
  rw [if_neg hc]
 ·subst hd; unfold atF atY; rfl
theorem KV.at (h : KV P) {raw : List Int} {k : Int} (h1 : 0 ≤ k) {K : Int → Unit → Prop} (hk : K (atF raw k) ()) : Fn P zS0 Ba (raw, k) K := (h (raw, k) h1).to fun (d : Int) e hd => by
 have hd : d = atF raw k := hd
 subst hd; exact hk
end Go.VS
