/- A number brought into a range. -/
import Derived.Test.YtbandpkgjepklaaKSpBase
import Derived.Test.YtbandpkgjepklaaKGf0
import Derived.Test.YtbandpkgjepklaaKGf1
import Derived.Test.YtbandpkgjepklaaKGf2
set_option linter.unusedVariables false
set_option linter.unusedSimpArgs false
namespace Go.VS
variable {P : Pg}
@[irreducible] def LL (a n : Int) : Int := IntKind.i64.wrap (Int.tmod (IntKind.u64.wrap a) (IntKind.u64.wrap n))
theorem Xz (n : Int) : 0 ≤ IntKind.u64.wrap n ∧ IntKind.u64.wrap n ≤ 18446744073709551615 := by rw [IntKind.wrap_u64]; omega
theorem Jw {a n : Int} (h1 : 1 ≤ n) (h2 : n ≤ 9223372036854775807) : 0 ≤ LL a n ∧ LL a n < n := by
 unfold LL
 rw [Abq (n := n) (by omega) (by omega)]
 have h := Xz a
 rw [Int.tmod_eq_emod_of_nonneg h.1]
 have e1 := Int.emod_nonneg (IntKind.u64.wrap a) (show n ≠ 0 by omega)
 have e2 := Int.emod_lt_of_pos (IntKind.u64.wrap a) (show 0 < n by omega)
 rw [w64 (by omega) (by omega)]
 exact ⟨e1, e2⟩
def NF (P : Pg) : Prop := ∀ x : Int × Int, 1 ≤ x.2 → x.2 ≤ 9223372036854775807 → Fn P zS4 BF x fun d _ => d = LL x.1 x.2
theorem AaP (h : Has P K8) : NF P := by
 intro x h1 h2
 refine UP h ?_
 unfold QZ
 exact ⟨by rw [Abq (by omega) (by omega)]; omega, by unfold LL; rfl⟩
theorem NF.at (h : NF P) {a n : Int} (h1 : 1 ≤ n) (h2 : n ≤ 9223372036854775807) {K : Int → Unit → Prop} (hk : K (LL a n) ()) : Fn P zS4 BF (a, n) K := (h (a, n) h1 h2).to fun (d : Int) e hd => by
 have hd : d = LL a n := hd
 subst hd; exact hk
end Go.VS
