/- Trees of files: in order, and none under another. -/
import Derived.Test.YtbpbcfiodckhjaaDoorKSpPath
set_option linter.unusedVariables false
set_option linter.unusedSimpArgs false
namespace Go.VS
variable {P : Pg}
abbrev BX := Bs × Bs
def DC : List BX → Bs → Option Bs
 | [], _ => none
 | f :: r, p => match DC r p with
  | some v => some v
  | none => if p = f.1 then some f.2 else none
def Ts (l : List BX) (p : Bs) : Bool := (List.range p.length).any fun i => (DC l (p.take i)).isSome && (p.getD i 0 == 47)
def Oc (l : List BX) : Bool := (List.range l.length).all fun i => (i == 0 || Op.bytesLess (l.getD (i - 1) ([], [])).1 (l.getD i ([], [])).1) && !Ts l (l.getD i ([], [])).1
def Hq (P : Pg) : Prop := ∀ l : List BX, l.length ≤ 1000000 → (∀ f ∈ l, f.1.length ≤ 140737488351232 ∧ f.2.length ≤ 140737488351232) → Fn P "mergelens/tree.ordered" Dz l fun (d : Bool) _ => d = Oc l
end Go.VS
