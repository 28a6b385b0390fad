/- A number brought into a range. -/
import Derived.Test.YtbpbcfiodckhjaaDoorKSpBase
import Derived.Test.YtbpbcfiodckhjaaDoorKGf0
set_option linter.unusedVariables false
set_option linter.unusedSimpArgs false
namespace Go.VS
variable {P : Pg}
@[irreducible] def G3 (a n : Int) : Int := IntKind.i64.wrap (Int.tmod (IntKind.u64.wrap a) (IntKind.u64.wrap n))
theorem O4 (n : Int) : 0 ≤ IntKind.u64.wrap n ∧ IntKind.u64.wrap n ≤ 18446744073709551615 := by rw [IntKind.wrap_u64]; omega
theorem G4 {a n : Int} (h1 : 1 ≤ n) (h2 : n ≤ 9223372036854775807) : 0 ≤ G3 a n ∧ G3 a n < n := by
 unfold G3
 rw [YV (n := n) (by omega) (by omega)]
 have h := O4 a
 rw [Int.tmod_eq_emod_of_nonneg h.1]
 have e1 := Int.emod_nonneg (IntKind.u64.wrap a) (show n ≠ 0 by omega)
 have e2 := Int.emod_lt_of_pos (IntKind.u64.wrap a) (show 0 < n by omega)
 rw [w64 (by omega) (by omega)]
 exact ⟨e1, e2⟩
def Kx (P : Pg) : Prop := ∀ x : Int × Int, 1 ≤ x.2 → x.2 ≤ 9223372036854775807 → Fn P zS4 Ci x fun d _ => d = G3 x.1 x.2
theorem Yc (h : Has P H9) : Kx P := by
 intro x h1 h2
 refine Sb h ?_
 unfold N7
 exact ⟨by rw [YV (by omega) (by omega)]; omega, by unfold G3; rfl⟩
theorem Kx.at (h : Kx P) {a n : Int} (h1 : 1 ≤ n) (h2 : n ≤ 9223372036854775807) {K : Int → Unit → Prop} (hk : K (G3 a n) ()) : Fn P zS4 Ci (a, n) K := (h (a, n) h1 h2).to fun (d : Int) e hd => by
 have hd : d = G3 a n := hd
 subst hd; exact hk
end Go.VS
