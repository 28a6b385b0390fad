/- A number brought into a range. -/
import Derived.Test.YtcaandgkdmidkaaKSpBase
import Derived.Test.YtcaandgkdmidkaaKGf0
import Derived.Test.YtcaandgkdmidkaaKGf1
set_option linter.unusedVariables false
set_option linter.unusedSimpArgs false
namespace Go.VS
variable {P : Pg}
@[irreducible] def LS (a n : Int) : Int := IntKind.i64.wrap (Int.tmod (IntKind.u64.wrap a) (IntKind.u64.wrap n))
theorem UG (n : Int) : 0 ≤ IntKind.u64.wrap n ∧ IntKind.u64.wrap n ≤ 18446744073709551615 := by rw [IntKind.wrap_u64]; omega
theorem G2 {a n : Int} (h1 : 1 ≤ n) (h2 : n ≤ 9223372036854775807) : 0 ≤ LS a n ∧ LS a n < n := by
 unfold LS
 rw [YF (n := n) (by omega) (by omega)]
 have h := UG a
 rw [Int.tmod_eq_emod_of_nonneg h.1]
 have e1 := Int.emod_nonneg (IntKind.u64.wrap a) (show n ≠ 0 by omega)
 have e2 := Int.emod_lt_of_pos (IntKind.u64.wrap a) (show 0 < n by omega)
 rw [w64 (by omega) (by omega)]
 exact ⟨e1, e2⟩
def I7 (P : Pg) : Prop := ∀ x : Int × Int, 1 ≤ x.2 → x.2 ≤ 9223372036854775807 → Fn P zS1 Bq x fun d _ => d = LS x.1 x.2
theorem X7 (h : Has P Ig) : I7 P := by
 intro x h1 h2
 refine RM h ?_
 unfold Oa
 exact ⟨by rw [YF (by omega) (by omega)]; omega, by unfold LS; rfl⟩
theorem I7.at (h : I7 P) {a n : Int} (h1 : 1 ≤ n) (h2 : n ≤ 9223372036854775807) {K : Int → Unit → Prop} (hk : K (LS a n) ()) : Fn P zS1 Bq (a, n) K := (h (a, n) h1 h2).to fun (d : Int) e hd => by
 have hd : d = LS a n := hd
 subst hd; exact hk
end Go.VS
