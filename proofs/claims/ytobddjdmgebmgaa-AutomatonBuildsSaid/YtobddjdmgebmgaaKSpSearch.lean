/- Whole, Any, Find, All: the program's and the document's. -/
import Derived.Test.YtobddjdmgebmgaaKSpFind
set_option linter.unusedVariables false
set_option linter.unusedSimpArgs false
namespace Go.VS
variable {P : Program}
theorem FndIs.any {a : Auto} {s : List UInt8} {p : Nat} {d : Int × Int} {ok : Bool} (h : FndIs a s p d ok) : ok = true ↔ ¬ NotFnd a s p := by
 rcases h with ⟨rfl, i, j, _, h⟩ | ⟨rfl, _, h⟩
 ·exact ⟨fun _ => h.not, fun _ => rfl⟩
 ·exact ⟨fun h => (nomatch h), fun n => (n h).elim⟩
end Go.VS
