/- Graphs: who reaches whom; the document's marking. -/
import Derived.Test.YtdnomijflodcgaaDoorKSpTree
set_option linter.unusedVariables false
set_option linter.unusedSimpArgs false
namespace Go.VS
variable {P : Pg}
abbrev Ay := List Int × (Int × List AJ)
def Bh (g : List Ay) (c : Int) : List Int := (g.getD c.toNat ([], (0, []))).1
def inR (g : List Ay) (c : Int) : Prop := 0 ≤ c ∧ c < g.length
def Uh (g : List Ay) : Prop := ∀ c, inR g c → ∀ p ∈ Bh g c, inR g p
inductive Rch (g : List Ay) : Int → Int → Prop
 | refl (c : Int) : Rch g c c
 | step {c p x : Int} (h : p ∈ Bh g c) (t : Rch g p x) : Rch g c x
theorem Rch.trans {g : List Ay} {a b c : Int} (h : Rch g a b) (k : Rch g b c) : Rch g a c := by
 induction h with
 | refl => exact k
 | step h _ ih => exact .step h (ih k)
theorem Rch.inR {g : List Ay} (hv : Uh g) {a b : Int} (h : Rch g a b) (ha : inR g a) : Go.VS.inR g b := by
 induction h with
 | refl => exact ha
 | step h _ ih => exact ih (hv _ ha _ h)
end Go.VS
