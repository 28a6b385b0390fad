/- Numbers made of raw numbers; sets of bytes. -/
import Derived.Test.YtbandpkgjepklaaKSpBase
import Derived.Test.YtbandpkgjepklaaKGf0
import Derived.Test.YtbandpkgjepklaaKGf1
set_option linter.unusedVariables false
set_option linter.unusedSimpArgs false
namespace Go.VS
variable {P : Pg}
abbrev Bb := Int × (Int × (Int × Int))
@[irreducible] def orW (w c : Int) : Int := IntKind.u64.wrap ((BitVec.toNat (BitVec.ofInt IntKind.u64.bits w ||| BitVec.ofInt IntKind.u64.bits (IntKind.u64.wrap ((1 : Int) * 2 ^ (min (Int.toNat (Int.tmod c (64 : Int))) IntKind.u64.bits)))) : Nat) : Int)
@[irreducible] def EG (s : Bb) (c : Int) : Bb :=
 let w := List.getD [s.1, s.2.1, s.2.2.1, s.2.2.2] (c / 64).toNat 0
 let v := orW w c
 (if (c / 64).toNat = 0 then v else s.1, if (c / 64).toNat = 1 then v else s.2.1, if (c / 64).toNat = 2 then v else s.2.2.1, if (c / 64).toNat = 3 then v else s.2.2.2)
theorem Z0 {c : Int} (h1 : 0 ≤ c) (h2 : c ≤ 255) : IntKind.u8.wrap (Int.tdiv c 64) = c / 64 ∧ 0 ≤ c / 64 ∧ c / 64 < 4 ∧ 0 ≤ Int.tmod c 64 := by
 have e : Int.tdiv c 64 = c / 64 := Int.tdiv_eq_ediv_of_nonneg h1
 have e2 : Int.tmod c 64 = c % 64 := Int.tmod_eq_emod_of_nonneg h1
 rw [e, wu8 (by omega) (by omega)]
 omega
def Hq (P : Pg) : Prop := ∀ x : Bb × Int, 0 ≤ x.2 → x.2 ≤ 255 → Fn P zS5 Br x fun d _ => d = EG x.1 x.2
theorem AaQ (h : Has P Ig) : Hq P := by
 intro x h1 h2
 refine RS h ?_
 unfold Og
 obtain ⟨e1, e2, e3, e4⟩ := Z0 h1 h2
 rw [e1]
 exact ⟨by decide, by decide, ⟨e2, e3⟩, by omega, by decide, e4, ⟨e2, e3⟩, by omega, by unfold EG orW; rfl⟩
theorem Hq.at (h : Hq P) {s : Bb} {c : Int} (h1 : 0 ≤ c) (h2 : c ≤ 255) {K : Bb → Unit → Prop} (hk : ∀ d, d = EG s c → K d ()) : Fn P zS5 Br (s, c) K := (h (s, c) h1 h2).to fun (d : Bb) e hd => hk d hd
end Go.VS
