/- Trees of files: in order, and none under another. -/
import Derived.Test.YtbpbcfiodckhjaaDoorKSpPath
set_option linter.unusedVariables false
set_option linter.unusedSimpArgs false
namespace Go.VS
variable {P : Pg}
abbrev Aw := Bs × Bs
def AU : List Aw → Bs → Option Bs
 | [], _ => none
 | f :: r, p => match AU r p with
  | some v => some v
  | none => if p = f.1 then some f.2 else none
def Tt (l : List Aw) (p : Bs) : Bool := (List.range p.length).any fun i => (AU l (p.take i)).isSome && (p.getD i 0 == 47)
def NW (l : List Aw) : Bool := (List.range l.length).all fun i => (i == 0 || Op.bytesLess (l.getD (i - 1) ([], [])).1 (l.getD i ([], [])).1) && !Tt l (l.getD i ([], [])).1
def IY (P : Pg) : Prop := ∀ l : List Aw, l.length ≤ 1000000 → (∀ f ∈ l, f.1.length ≤ 140737488351232 ∧ f.2.length ≤ 140737488351232) → Fn P "mergelens/tree.ordered" D2 l fun (d : Bool) _ => d = NW l
end Go.VS
