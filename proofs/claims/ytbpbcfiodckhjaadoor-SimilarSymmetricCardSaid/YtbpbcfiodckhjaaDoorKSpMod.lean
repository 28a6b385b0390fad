/- A number brought into a range. -/
import Derived.Test.YtbpbcfiodckhjaaDoorKSpBase
import Derived.Test.YtbpbcfiodckhjaaDoorKGf0
set_option linter.unusedVariables false
set_option linter.unusedSimpArgs false
namespace Go.VS
variable {P : Pg}
@[irreducible] def Hi (a n : Int) : Int := IntKind.i64.wrap (Int.tmod (IntKind.u64.wrap a) (IntKind.u64.wrap n))
theorem QZ (n : Int) : 0 ≤ IntKind.u64.wrap n ∧ IntKind.u64.wrap n ≤ 18446744073709551615 := by rw [IntKind.wrap_u64]; omega
theorem F6 {a n : Int} (h1 : 1 ≤ n) (h2 : n ≤ 9223372036854775807) : 0 ≤ Hi a n ∧ Hi a n < n := by
 unfold Hi
 rw [UP (n := n) (by omega) (by omega)]
 have h := QZ a
 rw [Int.tmod_eq_emod_of_nonneg h.1]
 have e1 := Int.emod_nonneg (IntKind.u64.wrap a) (show n ≠ 0 by omega)
 have e2 := Int.emod_lt_of_pos (IntKind.u64.wrap a) (show 0 < n by omega)
 rw [w64 (by omega) (by omega)]
 exact ⟨e1, e2⟩
def IX (P : Pg) : Prop := ∀ x : Int × Int, 1 ≤ x.2 → x.2 ≤ 9223372036854775807 → Fn P zS2 B0 x fun d _ => d = Hi x.1 x.2
theorem Uc (h : Has P G1) : IX P := by
 intro x h1 h2
 refine Pb h ?_
 unfold LK
 exact ⟨by rw [UP (by omega) (by omega)]; omega, by unfold Hi; rfl⟩
theorem IX.at (h : IX P) {a n : Int} (h1 : 1 ≤ n) (h2 : n ≤ 9223372036854775807) {K : Int → Unit → Prop} (hk : K (Hi a n) ()) : Fn P zS2 B0 (a, n) K := (h (a, n) h1 h2).to fun (d : Int) e hd => by
 have hd : d = Hi a n := hd
 subst hd; exact hk
end Go.VS
