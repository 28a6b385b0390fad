/- The document's reader of paths. -/
import Derived.Test.YtdnomijflodcgaaDoorKSpPath
set_option linter.unusedVariables false
set_option linter.unusedSimpArgs false
namespace Go.VS
variable {P : Pg}
theorem XW {s : Bs} {i : Nat} (h : i < s.length) : s.drop i = s.getD i 0 :: s.drop (i + 1) := by
 rw [List.drop_eq_getElem_cons h, List.getD_eq_getElem?_getD, List.getElem?_eq_getElem h, Option.getD_some]
theorem byI (b c : UInt8) : (((b.toNat : Nat) : Int) == ((c.toNat : Nat) : Int)) = (b == c) := by
 by_cases h : b = c
 ·subst h; simp
 ·rw [show (b == c) = false from beq_eq_false_iff_ne.2 h, beq_eq_false_iff_ne]
  intro e
  exact h (UInt8.toNat_inj.1 (by omega))
theorem Ad3 (b : UInt8) : (((b.toNat : Nat) : Int) == (47 : Int)) = (b == 47) := byI b 47
theorem Fb.at (h : Fb P) {s : Bs} (hs : s.length ≤ 140737488351232) {K : Int → Unit → Prop} (hk : K (EF s) ()) : Fn P AaK DJ s K :=
 (h s hs).to fun (d : Int) _ hd => by
  have hd : d = EF s := hd
  subst hd
  exact hk
end Go.VS
