/- The lines of a text. -/
import Derived.Test.YtcaandgkdmidkaaDoorKSpGen
import Derived.Test.YtcaandgkdmidkaaDoorKSpMod
import Derived.Test.YtcaandgkdmidkaaDoorKSpNb
set_option linter.unusedVariables false
set_option linter.unusedSimpArgs false
namespace Go.VS
variable {P : Pg}
theorem SC {s : Bs} {i : Nat} (h : i < s.length) : List.take (i + 1) s = List.take i s ++ [s.getD i 0] := by
 rw [List.take_add_one, List.getElem?_eq_getElem h, List.getD_eq_getElem?_getD, List.getElem?_eq_getElem h]
 rfl
def Oq (P : Pg) : Prop := ∀ k : Int, Fn P VJ CW k fun (d : Bs) _ => d.length ≤ 3
theorem Wx (h : Has P GG) (hM : Iz P) : Oq P := by
 intro k
 refine PE h ?_
 unfold LR
 refine hM.at (by decide) (by decide) ?_
 have hr := IP (a := k) (n := 10) (by decide) (by decide)
 generalize Nq k 10 = m at *
 refine ⟨⟨by omega, by simp; omega⟩, by simp; omega, ?_⟩
 have : m = 0 ∨ m = 1 ∨ m = 2 ∨ m = 3 ∨ m = 4 ∨ m = 5 ∨ m = 6 ∨ m = 7 ∨ m = 8 ∨ m = 9 := by omega
 rcases this with rfl | rfl | rfl | rfl | rfl | rfl | rfl | rfl | rfl | rfl <;> decide
end Go.VS
