/- Sets of bytes of named classes. -/
import Derived.Test.YtbandpkgjepklaaKSpNb
import Derived.Test.YtbandpkgjepklaaKSpGen
set_option linter.unusedVariables false
set_option linter.unusedSimpArgs false
namespace Go.VS
variable {P : Pg}
def letterF (c : Int) : Bool := cond (cond (decide (c ≥ 97)) (decide (c ≤ 122)) false) true (cond (decide (c ≥ 65)) (decide (c ≤ 90)) false)
def NU (c : Int) : Bool := cond (decide (c ≥ 48)) (decide (c ≤ 57)) false
def NN : Bs := [97, 108, 112, 104, 97]
def NO : Bs := [100, 105, 103, 105, 116]
def NM : Bs := [97, 108, 110, 117, 109]
def NS : Bs := [117, 112, 112, 101, 114]
def NP : Bs := [108, 111, 119, 101, 114]
def NR : Bs := [115, 112, 97, 99, 101]
def NQ : Bs := [112, 117, 110, 99, 116]
def E6 (nm : Bs) (c : Int) : Bool × Bool :=
 if nm = NN then (letterF c, true)
 else if nm = NO then (NU c, true)
 else if nm = NM then (letterF c || NU c, true)
 else if nm = NS then (letterF c && decide (c ≤ 90), true)
 else if nm = NP then (letterF c && decide (c ≥ 97), true)
 else if nm = NR then ((decide (c ≥ 9) && decide (c ≤ 13)) || c == 32, true)
 else if nm = NQ then (((decide (c ≥ 33) && decide (c ≤ 126)) && !letterF c) && !NU c, true)
 else (false, false)
@[irreducible] def M9 (w : Int) : Int := IntKind.u64.wrap ((BitVec.toNat (BitVec.ofInt IntKind.u64.bits (if IntKind.u64.signed then -1 else IntKind.u64.max) ^^^ BitVec.ofInt IntKind.u64.bits w) : Nat) : Int)
theorem V8 (w : Int) : IntKind.u64.wrap ((BitVec.toNat (BitVec.ofInt IntKind.u64.bits (if IntKind.u64.signed then -1 else IntKind.u64.max) ^^^ BitVec.ofInt IntKind.u64.bits w) : Nat) : Int) = M9 w := by unfold M9; rfl
def GM (s : Bb) : Bb := (M9 s.1, (M9 s.2.1, (M9 s.2.2.1, M9 s.2.2.2)))
end Go.VS
