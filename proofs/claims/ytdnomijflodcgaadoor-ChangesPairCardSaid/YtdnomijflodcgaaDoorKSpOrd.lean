/- Trees of files: in order, and none under another. -/
import Derived.Test.YtdnomijflodcgaaDoorKSpPath
set_option linter.unusedVariables false
set_option linter.unusedSimpArgs false
namespace Go.VS
variable {P : Pg}
abbrev AJ := Bs × Bs
def BL : List AJ → Bs → Option Bs
 | [], _ => none
 | f :: r, p => match BL r p with
  | some v => some v
  | none => if p = f.1 then some f.2 else none
def VR (l : List AJ) (p : Bs) : Bool := (List.range p.length).any fun i => (BL l (p.take i)).isSome && (p.getD i 0 == 47)
def P6 (l : List AJ) : Bool := (List.range l.length).all fun i => (i == 0 || Op.bytesLess (l.getD (i - 1) ([], [])).1 (l.getD i ([], [])).1) && !VR l (l.getD i ([], [])).1
def KO (P : Pg) : Prop := ∀ l : List AJ, l.length ≤ 1000000 → (∀ f ∈ l, f.1.length ≤ 140737488351232 ∧ f.2.length ≤ 140737488351232) → Fn P "mergelens/tree.ordered" E0 l fun (d : Bool) _ => d = P6 l
end Go.VS
