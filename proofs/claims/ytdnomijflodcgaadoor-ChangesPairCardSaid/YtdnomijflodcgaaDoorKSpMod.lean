/- A number brought into a range. -/
import Derived.Test.YtdnomijflodcgaaDoorKSpBase
import Derived.Test.YtdnomijflodcgaaDoorKGf0
import Derived.Test.YtdnomijflodcgaaDoorKGf1
set_option linter.unusedVariables false
set_option linter.unusedSimpArgs false
namespace Go.VS
variable {P : Pg}
@[irreducible] def Acw (a n : Int) : Int := IntKind.i64.wrap (Int.tmod (IntKind.u64.wrap a) (IntKind.u64.wrap n))
theorem AdC (n : Int) : 0 ≤ IntKind.u64.wrap n ∧ IntKind.u64.wrap n ≤ 18446744073709551615 := by rw [IntKind.wrap_u64]; omega
theorem Acp {a n : Int} (h1 : 1 ≤ n) (h2 : n ≤ 9223372036854775807) : 0 ≤ Acw a n ∧ Acw a n < n := by
 unfold Acw
 rw [AeS (n := n) (by omega) (by omega)]
 have h := AdC a
 rw [Int.tmod_eq_emod_of_nonneg h.1]
 have e1 := Int.emod_nonneg (IntKind.u64.wrap a) (show n ≠ 0 by omega)
 have e2 := Int.emod_lt_of_pos (IntKind.u64.wrap a) (show 0 < n by omega)
 rw [w64 (by omega) (by omega)]
 exact ⟨e1, e2⟩
def AcL (P : Pg) : Prop := ∀ x : Int × Int, 1 ≤ x.2 → x.2 ≤ 9223372036854775807 → Fn P zS1 Ach x fun d _ => d = Acw x.1 x.2
theorem AeO (h : Has P AcS) : AcL P := by
 intro x h1 h2
 refine AdY h ?_
 unfold Adx
 exact ⟨by rw [AeS (by omega) (by omega)]; omega, by unfold Acw; rfl⟩
theorem AcL.at (h : AcL P) {a n : Int} (h1 : 1 ≤ n) (h2 : n ≤ 9223372036854775807) {K : Int → Unit → Prop} (hk : K (Acw a n) ()) : Fn P zS1 Ach (a, n) K := (h (a, n) h1 h2).to fun (d : Int) e hd => by
 have hd : d = Acw a n := hd
 subst hd; exact hk
end Go.VS
