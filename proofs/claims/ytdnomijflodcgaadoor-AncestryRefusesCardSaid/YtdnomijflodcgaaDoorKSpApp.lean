/- What performing differences gives, and that it is one tree. -/
import Derived.Test.YtdnomijflodcgaaDoorKSpDiff5
set_option linter.unusedVariables false
set_option linter.unusedSimpArgs false
namespace Go.VS
variable {P : Pg}
theorem FL {α : Type} [DecidableEq α] : ∀ {l m : List α}, l.Nodup → (∀ x ∈ l, x ∈ m) → l.length ≤ m.length
 | [], _, _, _ => Nat.zero_le _
 | a :: l, m, hn, hs => by
  have h2 := List.nodup_cons.1 hn
  have ha := hs a (List.mem_cons_self ..)
  have ih := FL (m := m.erase a) h2.2 fun x hx => (List.mem_erase_of_ne (show x ≠ a from fun e => h2.1 (by rw [← e]; exact hx))).2 (hs x (List.mem_cons_of_mem _ hx))
  rw [List.length_erase_of_mem ha] at ih
  have := List.length_pos_of_mem ha
  rw [List.length_cons]
  omega
end Go.VS
