/- ref02.All, walked. -/
import Derived.Test.YtcaandgkdmidkaaKKShelf
import Derived.Test.YtcaandgkdmidkaaKSpNb
import Derived.Test.YtcaandgkdmidkaaFwD
import Derived.Lib.AppendStr
import Derived.Lib.BufferRead
import Derived.Laws.IdiomStrings
import Derived.WalkKit
import Derived.Test.YtcaandgkdmidkaaChecked
set_option linter.unusedVariables false
set_option linter.unusedSimpArgs false
namespace Go.Proofs.Try
open Go.Shelf Go.RowKit Go.VS
structure Xx (w : World) (a : Option Addr) (l : List Bs) : Prop where
 at_ : ∀ (k : Nat) (s : Bs), l[k]? = some s → ∃ b off, a = some ⟨b, off, none⟩ ∧ b < w.heap.size ∧ w.cell? ⟨b, off + k, none⟩ = some (.string ⟨s.toArray⟩)
theorem WC : ∀ (l : List Bs) (k : Nat), (l.take k).flatten.length ≤ l.flatten.length
 | [], k => by simp
 | s :: l, 0 => by simp
 | s :: l, k + 1 => by
  have := WC l k
  simp only [List.take_succ_cons, List.flatten_cons, List.length_append]
  omega
theorem TJ : ∀ (l : List Bs) (k : Nat) (s : Bs), l[k]? = some s → (l.take (k + 1)).flatten = (l.take k).flatten ++ s
 | [], k, s, h => nomatch h
 | t :: l, 0, s, h => by
  obtain rfl : t = s := by simpa using h
  simp
 | t :: l, k + 1, s, h => by
  rw [List.take_succ_cons, List.flatten_cons, TJ l k s (by simpa using h), List.take_succ_cons, List.flatten_cons, List.append_assoc]
theorem Ol : ∀ (l : List Bs) {k : Nat} {s : Bs}, l[k]? = some s → (l.map (BT.str.enc .leaf)).flatten[k]? = some (AV.lit (.string ⟨s.toArray⟩))
 | [], _, _, h => nomatch h
 | t :: l, 0, s, h => by
  obtain rfl : t = s := by simpa using h
  rfl
 | t :: l, k + 1, s, h => Ol l (k := k) (s := s) (by simpa using h)
end Go.Proofs.Try
