/- scan.Quote, walked. -/
import Derived.Test.YtcaandgkdmidkaaKKB
import Derived.Test.YtcaandgkdmidkaaKSpScan
import Derived.Test.YtcaandgkdmidkaaFwD
set_option linter.unusedVariables false
set_option linter.unusedSimpArgs false
namespace Go.Proofs.Try
open Go.Shelf Go.RowKit Go.VS
set_option maxHeartbeats 1000000 in
set_option maxRecDepth 100000 in
theorem QS (c : Int) (w : World) : Calls prog 29 #[.int .u8 c] w fun e w' => e = .returned (.bool (CP c)) ∧ w' = w := by
 go_enter func29, ntmps29
 go_wp2
 all_goals go_ret
 all_goals (refine ⟨?_, rfl⟩; first | (simp [CP, *]; done) | (simp [CP, *]; omega))
theorem Tk (s : ByteArray) (k : Nat) (h : k < s.size) : s.data.toList.take (k + 1) = s.data.toList.take k ++ [s[k]] := by
 rw [List.take_add_one, List.getElem?_eq_getElem (by simpa using h)]
 rfl
theorem V0 {s : ByteArray} {k : Nat} (h : k < s.size) : s.size - (Lib.intOf (Value.int IntKind.i64 ((k : Int) + 1))).toNat < s.size - (Lib.intOf (Value.int IntKind.i64 (k : Int))).toNat := by
 simp only [Lib.intOf]
 omega
theorem L2 : ∀ l : List UInt8, (l.flatMap BK).length ≤ 4 * l.length
 | [] => Nat.le_refl _
 | b :: l => by
  have h := L2 l
  have hb : (BK b).length ≤ 4 := by
   unfold BK
   repeat' split
   all_goals simp
  rw [List.flatMap_cons, List.length_append, List.length_cons]
  omega
theorem TG (hEsc : Fz (Pg.of prog)) (b : UInt8) (w : World) (hw : Late (Pg.of prog) w) : Calls prog 36 #[.int .u8 ((b.toNat : Nat) : Int)] w fun e w' => e = .returned (.string ⟨(BK b).toArray⟩) ∧ Below w.heap.size w w' := by
 refine (Fn.calls (fun _ h => h) (t := .int .u8) (u := .str) rfl rfl (hEsc b) func36 (by kernel_rfl) hw).mono ?_
 rintro e w' ⟨r, d, hr, he, hb⟩
 cases hr
 exact ⟨he, hb⟩
theorem Qw {T e : TypeId} {B b : Nat} {p : Value} {bs : List Value} {w w' : World} (h : Lib.BuilderAt T e B b p bs w) (hb : Below w.heap.size w w') : Lib.BuilderAt T e B b p bs w' := by
 have hlt := h.lt
 obtain ⟨hB, v, hbk, hown, hne⟩ := h
 exact ⟨hB, v, (hb.block b hlt).trans hbk, hown.kept (row := none) ⟨hb.os, hb.tape, hb.output, hb.size, fun k hk _ => hb.block k hk⟩ (by cases v.ownBlock <;> simp), hne⟩
theorem Dk (s : ByteArray) (hs : s.size ≤ 17592186044416) (k : Nat) (h : k < s.size) : (Lib.byteCells (34 :: (s.data.toList.take k).flatMap BK)).length + ByteArray.size ⟨(BK s[k]).toArray⟩ ≤ 140737488355328 := by
 rw [Lib.byteCells_length]
 have h1 := L2 (s.data.toList.take k)
 have h2 := L2 [s[k]]
 have h3 : (s.data.toList.take k).length ≤ k := by rw [List.length_take]; omega
 have h4 : ByteArray.size ⟨(BK s[k]).toArray⟩ = (BK s[k]).length := rfl
 rw [List.flatMap_cons, List.flatMap_nil, List.append_nil, List.length_singleton] at h2
 rw [h4, List.length_cons]
 omega
theorem YI (s : ByteArray) (hs : s.size ≤ 17592186044416) : (Lib.byteCells (34 :: s.data.toList.flatMap BK)).length + 1 ≤ 140737488355328 := by
 rw [Lib.byteCells_length]
 have h1 := L2 s.data.toList
 have h3 : s.data.toList.length = s.size := rfl
 rw [List.length_cons]
 omega
theorem Ul {s : ByteArray} (hb : (!s.toList.isEmpty && s.data.toList.all CO) = true) : Value.string s = .string ⟨(Av s.data.toList).toArray⟩ := by
 have hq : Av s.data.toList = s.data.toList := by
  unfold Av
  rw [if_pos]
  rw [ByteArray.toList_eq] at hb
  exact hb
 rw [hq]
theorem VL {s : ByteArray} (hb : (!s.toList.isEmpty && s.data.toList.all CO) = false) : Av s.data.toList = 34 :: (s.data.toList.flatMap BK ++ [34]) := by
 unfold Av
 rw [if_neg]
 rw [ByteArray.toList_eq] at hb
 intro h
 rw [hb] at h
 cases h
theorem RE (s : ByteArray) (k : Nat) (h : k < s.size) : Lib.byteCells (34 :: (s.data.toList.take (k + 1)).flatMap BK) = Lib.byteCells (34 :: (s.data.toList.take k).flatMap BK) ++ Lib.strCells ⟨(BK s[k]).toArray⟩ := by
 rw [Tk s k h, List.flatMap_append, List.flatMap_cons, List.flatMap_nil, List.append_nil, ← List.cons_append, Lib.byteCells_append]
 rfl
theorem Ty (l : List UInt8) : Lib.byteCells (34 :: (l.flatMap BK ++ [34])) = Lib.byteCells (34 :: l.flatMap BK) ++ [Value.int .u8 34] := by
 rw [← List.cons_append, Lib.byteCells_append]
 rfl
set_option maxHeartbeats 4000000 in
set_option maxRecDepth 1000000 in
theorem Q2 (hEsc : Fz (Pg.of prog)) (s : ByteArray) (hs : s.size ≤ 17592186044416) (w : World) (hw : Late (Pg.of prog) w) :
  Calls prog 30 #[.string s] w fun e w' => e = .returned (.string ⟨(Av s.data.toList).toArray⟩) ∧ Below w.heap.size w w' := by
 go_enter func30, ntmps30
 go_wp2
 go_loop [3, 11] (fun t i => ∃ k : Nat, k ≤ s.size ∧ i = .int .i64 k ∧ t = .bool (!s.toList.isEmpty && (s.data.toList.take k).all CO)) (fun _ i => s.size - (Lib.intOf i).toNat)
 case atStart =>
  refine ⟨0, by omega, rfl, ?_⟩
  rw [List.take_zero, List.all_nil, Bool.and_true]
 case round =>
  obtain ⟨k, hk, hi, ht⟩ := hrel
  subst hi
  subst ht
  generalize hb : (!s.toList.isEmpty && (s.data.toList.take k).all CO) = b
  by_cases hks : k < s.size
  ·cases b with
   | false =>
    go_wp2
    refine ⟨⟨k + 1, by omega, by simp, ?_⟩, V0 hks⟩
    rw [Tk s k hks, List.all_append, ← Bool.and_assoc, hb, Bool.false_and]
   | true =>
    go_wp2_with (go_at_call 29; refine (QS _ _).mono ?_)
    refine ⟨⟨k + 1, by omega, by simp, ?_⟩, V0 hks⟩
    rw [Tk s k hks, List.all_append, ← Bool.and_assoc, hb, Bool.true_and]
    simp [CO]
  ·have hke : k = s.size := by omega
   subst hke
   have hal : s.data.toList.take s.size = s.data.toList := List.take_of_length_le (by simp)
   rw [hal] at hb
   cases b with
   | true =>
    go_wp2
    go_ret
    refine ⟨?_, Below.refl _ _⟩
    rw [← Ul hb]
    rfl
   | false =>
    have hlate : Late (Pg.of prog) w := hw
    go_wp2_with (go_at_call 34; refine (Tb (Lib.fresh_isBuilder 75 5 w) (by simp) ?_).mono ?_)
    rintro e W1 ⟨rfl⟩ h1 b1
    go_wp2
    go_loopw [27] (fun i wr => ∃ k : Nat, k ≤ s.size ∧ i = .int .i64 k ∧ Lib.IsBuilder 75 5 w.heap.size w.heap.size (Lib.byteCells (34 :: (s.data.toList.take k).flatMap BK)) wr ∧ Below w.heap.size w wr) (fun i _ => s.size - (Lib.intOf i).toNat)
    case atStart => exact ⟨0, by omega, rfl, Or.inr h1, ((Below.refl _ w).alloc (Nat.le_refl _) _).trans b1⟩
    case round =>
     obtain ⟨k, hk, hi, hI, hbw⟩ := hrel
     subst hi
     have hsz : w.heap.size ≤ wr.heap.size := hbw.size
     have hlate' : Late (Pg.of prog) wr := hlate.of hbw
     by_cases hks : k < s.size
     ·go_wp2_with (go_at_call 36; refine (TG hEsc _ _ hlate').mono ?_)
      rintro e W2 ⟨rfl, b2⟩
      have hI2 : Lib.IsBuilder 75 5 w.heap.size w.heap.size (Lib.byteCells (34 :: (s.data.toList.take k).flatMap BK)) W2 := hI.imp (fun h => Qw h b2) (fun h => Qw h b2)
      have bw2 : Below w.heap.size w W2 := hbw.trans (b2.mono hsz)
      have hsz2 : w.heap.size ≤ W2.heap.size := bw2.size
      go_wp2_with (go_at_call 35; refine (Ua hI2 ?_ hsz2).mono ?_)
      ·exact Dk s hs k hks
      rintro e W3 ⟨rfl, h3, b3⟩
      go_wp2
      go_roundw
      case rel =>
       refine ⟨k + 1, by omega, by simp, Or.inr ?_, bw2.trans b3⟩
       rw [RE s k hks]
       exact h3
      case measure => exact V0 hks
     ·have hke : k = s.size := by omega
      subst hke
      rw [hal] at hI
      go_wp2_with (go_at_call 34; refine (Tb hI ?_ hsz).mono ?_)
      ·exact YI s hs
      rintro e W3 ⟨rfl, h3, b3⟩
      have h4 : Lib.BuilderAt 75 5 w.heap.size w.heap.size (.pointer (some ⟨w.heap.size, 0, none⟩)) (Lib.byteCells (34 :: (s.data.toList.flatMap BK ++ [34]))) W3 := by
       rw [Ty]
       exact h3
      have bw3 := hbw.trans b3
      go_wp2_with (go_at_call 37; refine (Try.Builder_String_any w.heap.size w.heap.size _ _ (Or.inr h4) bw3.size).mono ?_)
      rintro e W4 ⟨rfl, b4⟩
      go_wp2
      go_ret
      refine ⟨?_, bw3.trans b4⟩
      rw [VL hb]
      rfl
end Go.Proofs.Try
