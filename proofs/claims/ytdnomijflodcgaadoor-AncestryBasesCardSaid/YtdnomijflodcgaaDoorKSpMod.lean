/- A number brought into a range. -/
import Derived.Test.YtdnomijflodcgaaDoorKSpBase
import Derived.Test.YtdnomijflodcgaaDoorKGf0
import Derived.Test.YtdnomijflodcgaaDoorKGf1
set_option linter.unusedVariables false
set_option linter.unusedSimpArgs false
namespace Go.VS
variable {P : Pg}
@[irreducible] def FB (a n : Int) : Int := IntKind.i64.wrap (Int.tmod (IntKind.u64.wrap a) (IntKind.u64.wrap n))
theorem RR (n : Int) : 0 ≤ IntKind.u64.wrap n ∧ IntKind.u64.wrap n ≤ 18446744073709551615 := by rw [IntKind.wrap_u64]; omega
theorem DV {a n : Int} (h1 : 1 ≤ n) (h2 : n ≤ 9223372036854775807) : 0 ≤ FB a n ∧ FB a n < n := by
 unfold FB
 rw [AdZ (n := n) (by omega) (by omega)]
 have h := RR a
 rw [Int.tmod_eq_emod_of_nonneg h.1]
 have e1 := Int.emod_nonneg (IntKind.u64.wrap a) (show n ≠ 0 by omega)
 have e2 := Int.emod_lt_of_pos (IntKind.u64.wrap a) (show 0 < n by omega)
 rw [w64 (by omega) (by omega)]
 exact ⟨e1, e2⟩
def Iu (P : Pg) : Prop := ∀ x : Int × Int, 1 ≤ x.2 → x.2 ≤ 9223372036854775807 → Fn P zS1 BL x fun d _ => d = FB x.1 x.2
theorem Ac8 (h : Has P Kh) : Iu P := by
 intro x h1 h2
 refine VV h ?_
 unfold QS
 exact ⟨by rw [AdZ (by omega) (by omega)]; omega, by unfold FB; rfl⟩
theorem Iu.at (h : Iu P) {a n : Int} (h1 : 1 ≤ n) (h2 : n ≤ 9223372036854775807) {K : Int → Unit → Prop} (hk : K (FB a n) ()) : Fn P zS1 BL (a, n) K := (h (a, n) h1 h2).to fun (d : Int) e hd => by
 have hd : d = FB a n := hd
 subst hd; exact hk
end Go.VS
