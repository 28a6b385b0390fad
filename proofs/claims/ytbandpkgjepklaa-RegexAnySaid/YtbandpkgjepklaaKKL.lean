/- regex.Literal, walked. -/
import Derived.Test.YtbandpkgjepklaaKKB
import Derived.Test.YtbandpkgjepklaaKKS
import Derived.Test.YtbandpkgjepklaaKSpLit
set_option linter.unusedVariables false
set_option linter.unusedSimpArgs false
namespace Go.Proofs.Try
open Go.Shelf Go.RowKit Go.VS
theorem AcI (s : ByteArray) (k : Nat) (h : k < s.size) : s.data.toList.take (k + 1) = s.data.toList.take k ++ [s[k]] := by
 rw [List.take_add_one, List.getElem?_eq_getElem (by simpa using h)]
 rfl
theorem Acx {s : ByteArray} {k : Nat} (h : k < s.size) : s.size - (Lib.intOf (Value.int IntKind.i64 ((k : Int) + 1))).toNat < s.size - (Lib.intOf (Value.int IntKind.i64 (k : Int))).toNat := by
 simp only [Lib.intOf]
 omega
theorem AcL (s : ByteArray) (hs : s.size ≤ 17592186044416) (k : Nat) : (Lib.byteCells (AbQ (s.data.toList.take k))).length + 2 ≤ 140737488355328 := by
 rw [Lib.byteCells_length]
 have h1 := (Aci (s.data.toList.take k)).2
 have h3 : (s.data.toList.take k).length ≤ s.size := by rw [List.length_take]; exact Nat.min_le_right _ _
 omega
theorem Aco (s : ByteArray) (k : Nat) (h : k < s.size) : AbQ (s.data.toList.take (k + 1)) = AbQ (s.data.toList.take k) ++ Acf s[k] := by
 rw [AcI s k h]
 unfold AbQ
 rw [List.flatMap_append, List.flatMap_cons, List.flatMap_nil, List.append_nil]
theorem AcH (b : UInt8) : 0 ≤ Lib.indexByte [40, 41, 91, 123, 42, 43, 63, 124, 46, 94, 36, 92] b ↔ AbH ((b.toNat : Nat) : Int) := by
 rw [Rj]
 exact AcF b
theorem AcM {b : UInt8} (h : AbH ((b.toNat : Nat) : Int)) : Acf b = [92, b] := by unfold Acf; rw [if_pos h]
theorem litNo {b : UInt8} (h : ¬ AbH ((b.toNat : Nat) : Int)) : Acf b = [b] := by unfold Acf; rw [if_neg h]
set_option maxHeartbeats 4000000 in
set_option maxRecDepth 1000000 in
theorem Acl (s : ByteArray) (hs : s.size ≤ 17592186044416) (w : World) :
  Calls prog 17 #[.string s] w fun e w' => e = .returned (.string ⟨(AbQ s.data.toList).toArray⟩) ∧ Below w.heap.size w w' := by
 go_enter func17, ntmps17
 go_wp2
 go_loopw [7] (fun i wr => ∃ k : Nat, k ≤ s.size ∧ i = .int .i64 k ∧ Lib.IsBuilder 77 5 w.heap.size w.heap.size (Lib.byteCells (AbQ (s.data.toList.take k))) wr ∧ Below w.heap.size w wr) (fun i _ => s.size - (Lib.intOf i).toNat)
 case atStart =>
  refine ⟨0, by omega, rfl, ?_, (Below.refl _ w).alloc (Nat.le_refl _) _⟩
  exact Lib.fresh_isBuilder 77 5 w
 case round =>
  obtain ⟨k, hk, hi, hI, hbw⟩ := hrel
  subst hi
  have hsz : w.heap.size ≤ wr.heap.size := hbw.size
  by_cases hks : k < s.size
  ·have hl := AcL s hs k
   have hcase := AcH s[k]
   by_cases hsp : AbH ((s[k].toNat : Nat) : Int)
   ·have hge := hcase.2 hsp
    go_wp2_with (first | (go_at_call 36; refine (Try.strings_IndexByte _ _ _).mono ?_; rintro e w' ⟨rfl, rfl⟩) | (go_at_call 37; refine (Acm hI (by omega) hsz).mono ?_))
    rintro e W1 ⟨rfl, h1, b1⟩
    have bw1 := hbw.trans b1
    have hsz1 : w.heap.size ≤ W1.heap.size := bw1.size
    go_wp2_with (go_at_call 37; refine (Acm (Or.inr h1) (by rw [List.length_append]; simp only [List.length_cons, List.length_nil]; omega) hsz1).mono ?_)
    rintro e W2 ⟨rfl, h2, b2⟩
    go_wp2
    go_roundw
    case rel =>
     refine ⟨k + 1, by omega, by simp, Or.inr ?_, bw1.trans b2⟩
     rw [Aco s k hks, AcM hsp, Lib.byteCells_append]
     simpa [Lib.byteCells] using h2
    case measure => exact Acx hks
   ·have hge : ¬ 0 ≤ Lib.indexByte [40, 41, 91, 123, 42, 43, 63, 124, 46, 94, 36, 92] s[k] := fun h => hsp (hcase.1 h)
    go_wp2_with (first | (go_at_call 36; refine (Try.strings_IndexByte _ _ _).mono ?_; rintro e w' ⟨rfl, rfl⟩) | (go_at_call 37; refine (Acm hI (by omega) hsz).mono ?_))
    rintro e W2 ⟨rfl, h2, b2⟩
    go_wp2
    go_roundw
    case rel =>
     refine ⟨k + 1, by omega, by simp, Or.inr ?_, hbw.trans b2⟩
     rw [Aco s k hks, litNo hsp, Lib.byteCells_append]
     simpa [Lib.byteCells] using h2
    case measure => exact Acx hks
  ·have hke : k = s.size := by omega
   subst hke
   have hal : s.data.toList.take s.size = s.data.toList := List.take_of_length_le (by simp)
   rw [hal] at hI
   go_wp2_with (go_at_call 38; refine (Try.Builder_String_any w.heap.size w.heap.size _ _ hI hsz).mono ?_)
   rintro e W4 ⟨rfl, b4⟩
   go_wp2
   go_ret
   exact ⟨rfl, hbw.trans b4⟩
theorem Acu : Ab1 (Pg.of prog) := by
 intro s hs
 refine Fn.N4 (S := AbK) rfl rfl s (AbQ s) () rfl fun f fn hf hn => ?_
 have hfi : f = 17 := O8 (by kernel_rfl) hf hn
 subst hfi
 have hfe := Option.some.inj (hf.symm.trans func17)
 subst hfe
 refine ⟨by kernel_rfl, by kernel_rfl, fun w hw => ?_⟩
 exact Acl ⟨s.toArray⟩ (by simpa [ByteArray.size] using hs) w
end Go.Proofs.Try
