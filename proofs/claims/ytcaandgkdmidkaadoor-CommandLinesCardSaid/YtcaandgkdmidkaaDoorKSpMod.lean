/- A number brought into a range. -/
import Derived.Test.YtcaandgkdmidkaaDoorKSpBase
import Derived.Test.YtcaandgkdmidkaaDoorKGf0
import Derived.Test.YtcaandgkdmidkaaDoorKGf1
set_option linter.unusedVariables false
set_option linter.unusedSimpArgs false
namespace Go.VS
variable {P : Pg}
@[irreducible] def Nq (a n : Int) : Int := IntKind.i64.wrap (Int.tmod (IntKind.u64.wrap a) (IntKind.u64.wrap n))
theorem T8 (n : Int) : 0 ≤ IntKind.u64.wrap n ∧ IntKind.u64.wrap n ≤ 18446744073709551615 := by rw [IntKind.wrap_u64]; omega
theorem IP {a n : Int} (h1 : 1 ≤ n) (h2 : n ≤ 9223372036854775807) : 0 ≤ Nq a n ∧ Nq a n < n := by
 unfold Nq
 rw [X6 (n := n) (by omega) (by omega)]
 have h := T8 a
 rw [Int.tmod_eq_emod_of_nonneg h.1]
 have e1 := Int.emod_nonneg (IntKind.u64.wrap a) (show n ≠ 0 by omega)
 have e2 := Int.emod_lt_of_pos (IntKind.u64.wrap a) (show 0 < n by omega)
 rw [w64 (by omega) (by omega)]
 exact ⟨e1, e2⟩
def Iz (P : Pg) : Prop := ∀ x : Int × Int, 1 ≤ x.2 → x.2 ≤ 9223372036854775807 → Fn P zS0 Bd x fun d _ => d = Nq x.1 x.2
theorem Xx (h : Has P HT) : Iz P := by
 intro x h1 h2
 refine Q3 h ?_
 unfold Nu
 exact ⟨by rw [X6 (by omega) (by omega)]; omega, by unfold Nq; rfl⟩
theorem Iz.at (h : Iz P) {a n : Int} (h1 : 1 ≤ n) (h2 : n ≤ 9223372036854775807) {K : Int → Unit → Prop} (hk : K (Nq a n) ()) : Fn P zS0 Bd (a, n) K := (h (a, n) h1 h2).to fun (d : Int) e hd => by
 have hd : d = Nq a n := hd
 subst hd; exact hk
end Go.VS
