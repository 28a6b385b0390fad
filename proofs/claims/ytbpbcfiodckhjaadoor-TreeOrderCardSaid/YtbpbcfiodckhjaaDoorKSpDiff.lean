/- The differences of two trees: what they are, and that they are one list. -/
import Derived.Test.YtbpbcfiodckhjaaDoorKSpTree
set_option linter.unusedVariables false
set_option linter.unusedSimpArgs false
namespace Go.VS
variable {P : Pg}
abbrev A0 := Bs × Int
def JS (a b : List Aw) (p : Bs) : Option Int := match AU a p, AU b p with
 | none, some _ => some 1
 | some _, none => some 2
 | some x, some y => if x = y then none else some 3
 | none, none => none
def Xh (l : List A0) : Prop := l.Pairwise fun x y => Op.bytesLess x.1 y.1 = true
def GW (a b : List Aw) (d : List A0) : Prop := Xh d ∧ ∀ p k, (p, k) ∈ d ↔ JS a b p = some k
def Hl (a b : List Aw) : Int := if Eu a ≠ 0 then Eu a else Eu b
def L8 (P : Pg) : Prop := ∀ x : List Aw × List Aw, CH x.1 → CH x.2 → Fn P "mergelens/tree.Diff" EP x fun (d : List A0 × Int) _ => d.2 = Hl x.1 x.2 ∧ (d.2 ≠ 0 → d.1 = []) ∧ (d.2 = 0 → GW x.1 x.2 d.1)
end Go.VS
