/- A number brought into a range. -/
import Derived.Test.YtbandpkgjepklaaDoorKSpBase
import Derived.Test.YtbandpkgjepklaaDoorKGf0
set_option linter.unusedVariables false
set_option linter.unusedSimpArgs false
namespace Go.VS
variable {P : Program}
@[irreducible] def modF (a n : Int) : Int := IntKind.i64.wrap (Int.tmod (IntKind.u64.wrap a) (IntKind.u64.wrap n))
def Sp_Mod (P : Program) : Prop := ∀ x : Int × Int, 1 ≤ x.2 → x.2 ≤ 9223372036854775807 → Fn P "mergelens/mergelensgen.Mod" S_gen_Mod x fun d _ => d = modF x.1 x.2
theorem sp_Mod (h : Has P F_gen_Mod) : Sp_Mod P := by
 intro x h1 h2
 refine fn_gen_Mod h ?_
 unfold W_gen_Mod
 exact ⟨by rw [wu64 (by omega) (by omega)]; omega, by unfold modF; rfl⟩
theorem Sp_Mod.at (h : Sp_Mod P) {a n : Int} (h1 : 1 ≤ n) (h2 : n ≤ 9223372036854775807) {K : Int → Unit → Prop} (hk : K (modF a n) ()) : Fn P "mergelens/mergelensgen.Mod" S_gen_Mod (a, n) K := (h (a, n) h1 h2).to fun (d : Int) e hd => by
 have hd : d = modF a n := hd
 subst hd; exact hk
end Go.VS
