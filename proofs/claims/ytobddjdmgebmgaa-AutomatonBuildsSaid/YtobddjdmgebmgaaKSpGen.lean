/- Numbers made of raw numbers; sets of bytes. -/
import Derived.Test.YtobddjdmgebmgaaKSpBase
import Derived.Test.YtobddjdmgebmgaaKGf0
import Derived.Test.YtobddjdmgebmgaaKGf1
import Derived.Test.YtobddjdmgebmgaaKGf2
set_option linter.unusedVariables false
set_option linter.unusedSimpArgs false
namespace Go.VS
variable {P : Program}
@[irreducible] def modF (a n : Int) : Int := IntKind.i64.wrap (Int.tmod (IntKind.u64.wrap a) (IntKind.u64.wrap n))
theorem u64_range (n : Int) : 0 ≤ IntKind.u64.wrap n ∧ IntKind.u64.wrap n ≤ 18446744073709551615 := by rw [IntKind.wrap_u64]; omega
theorem modF_range {a n : Int} (h1 : 1 ≤ n) (h2 : n ≤ 9223372036854775807) : 0 ≤ modF a n ∧ modF a n < n := by
 unfold modF
 rw [wu64 (n := n) (by omega) (by omega)]
 have h := u64_range a
 rw [Int.tmod_eq_emod_of_nonneg h.1]
 have e1 := Int.emod_nonneg (IntKind.u64.wrap a) (show n ≠ 0 by omega)
 have e2 := Int.emod_lt_of_pos (IntKind.u64.wrap a) (show 0 < n by omega)
 rw [w64 (by omega) (by omega)]
 exact ⟨e1, e2⟩
def Sp_Mod (P : Program) : Prop := ∀ x : Int × Int, 1 ≤ x.2 → x.2 ≤ 9223372036854775807 → Fn P "mergelens/mergelensgen.Mod" S_gen_Mod x fun d _ => d = modF x.1 x.2
theorem sp_Mod (h : Has P F_gen_Mod) : Sp_Mod P := by
 intro x h1 h2
 refine fn_gen_Mod h ?_
 unfold W_gen_Mod
 exact ⟨by rw [wu64 (by omega) (by omega)]; omega, by unfold modF; rfl⟩
@[irreducible] def atX (raw : List Int) (k : Int) : Int :=
 if ((List.length raw : Nat) : Int) > 0 then (IntKind.u64.wrap ((BitVec.toNat (BitVec.ofInt IntKind.u64.bits (IntKind.u64.wrap ((IntKind.u64.wrap (IntKind.i64.wrap (k + (1 : Int)))) * (11400714819323198485 : Int))) ^^^ BitVec.ofInt IntKind.u64.bits (IntKind.u64.wrap (List.getD raw (Int.toNat (Int.tmod k ((List.length raw : Nat) : Int))) (0 : Int)))) : Nat) : Int))
 else (IntKind.u64.wrap ((IntKind.u64.wrap (IntKind.i64.wrap (k + (1 : Int)))) * (11400714819323198485 : Int)))
@[irreducible] def atY (d2 : Int) : Int := IntKind.u64.wrap ((BitVec.toNat (BitVec.ofInt IntKind.u64.bits (IntKind.u64.wrap ((IntKind.u64.wrap ((BitVec.toNat (BitVec.ofInt IntKind.u64.bits d2 ^^^ BitVec.ofInt IntKind.u64.bits (Int.fdiv d2 (2 ^ (min (Int.toNat (31 : Int)) IntKind.u64.bits)))) : Nat) : Int)) * (13787848793156543929 : Int))) ^^^ BitVec.ofInt IntKind.u64.bits (Int.fdiv (IntKind.u64.wrap ((IntKind.u64.wrap ((BitVec.toNat (BitVec.ofInt IntKind.u64.bits d2 ^^^ BitVec.ofInt IntKind.u64.bits (Int.fdiv d2 (2 ^ (min (Int.toNat (31 : Int)) IntKind.u64.bits)))) : Nat) : Int)) * (13787848793156543929 : Int))) (2 ^ (min (Int.toNat (29 : Int)) IntKind.u64.bits)))) : Nat) : Int)
@[irreducible] def atF (raw : List Int) (k : Int) : Int := IntKind.i64.wrap (Int.fdiv (atY (atX raw k)) (2 ^ (min (Int.toNat (1 : Int)) IntKind.u64.bits)))
def Sp_At (P : Program) : Prop := ∀ x : List Int × Int, 0 ≤ x.2 → Fn P "mergelens/mergelensgen.At" S_gen_At x fun d _ => d = atF x.1 x.2
theorem sp_At (h : Has P F_gen_At) : Sp_At P := by
 intro x h1
 refine fn_gen_At h ?_
 unfold W_gen_At
 refine JoinW.mid (fun d => d = atX x.1 x.2) ⟨fun hc => ?_, fun hc => ?_⟩ fun d hd => ⟨by decide, by decide, by decide, ?_⟩
 ·have hc : ((List.length x.1 : Nat) : Int) > 0 := of_decide_eq_true hc
  have e1 : (Int.tmod x.2 ((List.length x.1 : Nat) : Int)) = x.2 % (List.length x.1 : Nat) := Int.tmod_eq_emod_of_nonneg h1
  have e2 := Int.emod_nonneg x.2 (show ((List.length x.1 : Nat) : Int) ≠ 0 by omega)
  have e3 := Int.emod_lt_of_pos x.2 hc
  refine ⟨by omega, by omega, by omega, ?_⟩
  unfold atX
  rw [if_pos hc]
 ·have hc : ¬ ((List.length x.1 : Nat) : Int) > 0 := of_decide_eq_false hc
  unfold atX
  rw [if_neg hc]
 ·subst hd; unfold atF atY; rfl
abbrev Set4 := Int × (Int × (Int × Int))
@[irreducible] def orW (w c : Int) : Int := IntKind.u64.wrap ((BitVec.toNat (BitVec.ofInt IntKind.u64.bits w ||| BitVec.ofInt IntKind.u64.bits (IntKind.u64.wrap ((1 : Int) * 2 ^ (min (Int.toNat (Int.tmod c (64 : Int))) IntKind.u64.bits)))) : Nat) : Int)
@[irreducible] def putF (s : Set4) (c : Int) : Set4 :=
 let w := List.getD [s.1, s.2.1, s.2.2.1, s.2.2.2] (c / 64).toNat 0
 let v := orW w c
 (if (c / 64).toNat = 0 then v else s.1, if (c / 64).toNat = 1 then v else s.2.1, if (c / 64).toNat = 2 then v else s.2.2.1, if (c / 64).toNat = 3 then v else s.2.2.2)
@[irreducible] def hasF (s : Set4) (c : Int) : Bool := (IntKind.u64.wrap ((BitVec.toNat (BitVec.ofInt IntKind.u64.bits (Int.fdiv (List.getD [s.1, s.2.1, s.2.2.1, s.2.2.2] (c / 64).toNat (0 : Int)) (2 ^ (min (Int.toNat (Int.tmod c (64 : Int))) IntKind.u64.bits))) &&& BitVec.ofInt IntKind.u64.bits (1 : Int)) : Nat) : Int)) == (1 : Int)
theorem div64 {c : Int} (h1 : 0 ≤ c) (h2 : c ≤ 255) : IntKind.u8.wrap (Int.tdiv c 64) = c / 64 ∧ 0 ≤ c / 64 ∧ c / 64 < 4 ∧ 0 ≤ Int.tmod c 64 := by
 have e : Int.tdiv c 64 = c / 64 := Int.tdiv_eq_ediv_of_nonneg h1
 have e2 : Int.tmod c 64 = c % 64 := Int.tmod_eq_emod_of_nonneg h1
 rw [e, wu8 (by omega) (by omega)]
 omega
def Sp_Put (P : Program) : Prop := ∀ x : Set4 × Int, 0 ≤ x.2 → x.2 ≤ 255 → Fn P "mergelens/mergelensref04.Put" S_ref04_Put x fun d _ => d = putF x.1 x.2
theorem sp_Put (h : Has P F_ref04_Put) : Sp_Put P := by
 intro x h1 h2
 refine fn_ref04_Put h ?_
 unfold W_ref04_Put
 obtain ⟨e1, e2, e3, e4⟩ := div64 h1 h2
 rw [e1]
 exact ⟨by decide, by decide, ⟨e2, e3⟩, by omega, by decide, e4, ⟨e2, e3⟩, by omega, by unfold putF orW; rfl⟩
def Sp_Has (P : Program) : Prop := ∀ x : Set4 × Int, 0 ≤ x.2 → x.2 ≤ 255 → Fn P "mergelens/mergelensref04.Has" S_ref04_Has x fun d _ => d = hasF x.1 x.2
theorem sp_Has (h : Has P F_ref04_Has) : Sp_Has P := by
 intro x h1 h2
 refine fn_ref04_Has h ?_
 unfold W_ref04_Has
 obtain ⟨e1, e2, e3, e4⟩ := div64 h1 h2
 rw [e1]
 exact ⟨by decide, ⟨e2, e3⟩, by omega, by decide, e4, by unfold hasF; rfl⟩
theorem Sp_Mod.at (h : Sp_Mod P) {a n : Int} (h1 : 1 ≤ n) (h2 : n ≤ 9223372036854775807) {K : Int → Unit → Prop} (hk : K (modF a n) ()) : Fn P "mergelens/mergelensgen.Mod" S_gen_Mod (a, n) K := (h (a, n) h1 h2).to fun (d : Int) e hd => by
 have hd : d = modF a n := hd
 subst hd; exact hk
theorem Sp_At.at (h : Sp_At P) {raw : List Int} {k : Int} (h1 : 0 ≤ k) {K : Int → Unit → Prop} (hk : K (atF raw k) ()) : Fn P "mergelens/mergelensgen.At" S_gen_At (raw, k) K := (h (raw, k) h1).to fun (d : Int) e hd => by
 have hd : d = atF raw k := hd
 subst hd; exact hk
theorem Sp_Put.at (h : Sp_Put P) {s : Set4} {c : Int} (h1 : 0 ≤ c) (h2 : c ≤ 255) {K : Set4 → Unit → Prop} (hk : ∀ d, d = putF s c → K d ()) : Fn P "mergelens/mergelensref04.Put" S_ref04_Put (s, c) K := (h (s, c) h1 h2).to fun (d : Set4) e hd => hk d hd
end Go.VS
