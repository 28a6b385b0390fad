/- Lists of nodes: which are valid; weights. -/
import Derived.Test.YtbandpkgjepklaaKSpGen
set_option linter.unusedVariables false
set_option linter.unusedSimpArgs false
namespace Go.VS
variable {P : Pg}
def R8 (n : Node) (at_ : Nat) : Prop := (∀ k, k < n.2.2.2.2.length → 0 ≤ n.2.2.2.2.getD k 0 ∧ n.2.2.2.2.getD k 0 < (at_ : Int)) ∧ 0 ≤ n.1 ∧ n.1 ≤ 6 ∧ (n.1 ≤ 3 → n.2.2.2.2.length = 0) ∧ (n.1 = 4 ∨ n.1 = 5 → 2 ≤ n.2.2.2.2.length) ∧ (n.1 = 6 → n.2.2.2.2.length = 1 ∧ 0 ≤ n.2.2.1 ∧ n.2.2.1 ≤ 100 ∧ (n.2.2.2.1 = -1 ∨ n.2.2.1 ≤ n.2.2.2.1 ∧ n.2.2.2.1 ≤ 100))
structure Aad (l : List Node) : Prop where
 lo : 1 ≤ l.length
 hi : l.length ≤ 4000
 ok : ∀ i, i < l.length → R8 (l.getD i Ak) i
def KB (l : List Node) : Prop := ∀ i, (l.getD i Ak).2.2.2.2.length ≤ 140737488351232
end Go.VS
