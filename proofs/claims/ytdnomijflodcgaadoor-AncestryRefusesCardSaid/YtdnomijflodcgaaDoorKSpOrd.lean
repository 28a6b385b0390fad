/- Trees of files: in order, and none under another. -/
import Derived.Test.YtdnomijflodcgaaDoorKSpPath
set_option linter.unusedVariables false
set_option linter.unusedSimpArgs false
namespace Go.VS
variable {P : Pg}
abbrev AA := Bs × Bs
def AQ : List AA → Bs → Option Bs
 | [], _ => none
 | f :: r, p => match AQ r p with
  | some v => some v
  | none => if p = f.1 then some f.2 else none
def Xn (l : List AA) (p : Bs) : Bool := (List.range p.length).any fun i => (AQ l (p.take i)).isSome && (p.getD i 0 == 47)
def PR (l : List AA) : Bool := (List.range l.length).all fun i => (i == 0 || Op.bytesLess (l.getD (i - 1) ([], [])).1 (l.getD i ([], [])).1) && !Xn l (l.getD i ([], [])).1
def Lg (P : Pg) : Prop := ∀ l : List AA, l.length ≤ 1000000 → (∀ f ∈ l, f.1.length ≤ 140737488351232 ∧ f.2.length ≤ 140737488351232) → Fn P "mergelens/tree.ordered" Fa l fun (d : Bool) _ => d = PR l
end Go.VS
