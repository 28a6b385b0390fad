/- Numbers read back. -/
import Derived.Test.YtbandpkgjepklaaDoorKSpLaw01
set_option linter.unusedVariables false
set_option linter.unusedSimpArgs false
namespace Go.VS
variable {P : Program}
theorem byt_app (p r : Bs) (k : Nat) : byt (p ++ r) (p.length + k) = byt r k := by
 unfold byt
 rw [List.getD_eq_getElem?_getD, List.getD_eq_getElem?_getD, List.getElem?_append_right (by omega), show p.length + k - p.length = k by omega]
theorem byt_app0 (p r : Bs) : byt (p ++ r) p.length = byt r 0 := byt_app p r 0
theorem byt_left (p r : Bs) {k : Nat} (h : k < p.length) : byt (p ++ r) k = byt p k := by
 unfold byt
 rw [List.getD_eq_getElem?_getD, List.getD_eq_getElem?_getD, List.getElem?_append_left h]
theorem byt_cons (b : UInt8) (r : Bs) : byt (b :: r) 0 = b.toNat := by simp [byt]
theorem byt_cons1 (b : UInt8) (r : Bs) (k : Nat) : byt (b :: r) (k + 1) = byt r k := by simp [byt]
end Go.VS
