/- form.numbers, walked. -/
import Derived.Test.YtcaandgkdmidkaaDoorKKShelf
import Derived.Test.YtcaandgkdmidkaaDoorKSpCmd
import Derived.Test.YtcaandgkdmidkaaDoorFwD
import Derived.WalkKit
import Derived.WalkSmall
import Derived.Test.YtcaandgkdmidkaaDoorChecked
set_option linter.unusedVariables false
set_option linter.unusedSimpArgs false
namespace Go.Proofs.Tryd
open Go.Shelf Go.RowKit Go.VS
def Tt (q : Nat) (o : Nat) : Value := .pointer (some ⟨q, o, none⟩)
theorem LG (w : World) (B g : Nat) (hg : g = w.heap.size) (hB : B ≤ g) (p : Value) : (w.alloc (.cells #[p] 99)).ownsRow B 99 1 (.slice (some ⟨g, 0, none⟩) 1 1) 1 [p] := by
 subst hg
 exact ⟨rfl, .inr ⟨w.heap.size, 1, #[p], rfl, hB, heap_alloc_new w _, Nat.le_refl _, by decide, rfl, rfl⟩⟩
theorem Jo (w : World) (g : Nat) (hg : g = w.heap.size) (p : Value) (T : TypeId) : (w.alloc (.cells #[p] T)).cell? ⟨g, 0, none⟩ = some p := by
 subst hg
 rw [Lib.cell_of_heap (heap_alloc_new w _)]
 rfl
theorem PO {w w' : World} {B : Nat} {v : Value} (g : w.grownBy w' v.ownBlock) (h : ∀ k, v.ownBlock = some k → B ≤ k) (hs : B ≤ w.heap.size) : Below B w w' :=
 ⟨g.os, g.tape, g.output, g.size, fun k hk => g.block k (Nat.lt_of_lt_of_le hk hs) (fun e => by
  have := h k e.symm
  omega)⟩
theorem LY (w : World) (a x y : Obj) : (((w.alloc a).alloc x).alloc y).heap[w.heap.size]? = some a := by
 simp only [World.alloc]
 rw [Array.getElem?_push_lt (by simp; omega), Array.getElem_push_lt (by simp), Array.getElem_push_eq]
set_option maxHeartbeats 2000000 in
set_option maxRecDepth 1000000 in
theorem N0 (wd : Bs) (k : Int) (dn b c tx : Bool) (q : Nat) (w : World) :
  Calls prog 54 #[.agg #[.string ⟨wd.toArray⟩, .int .i64 k, .bool dn, .bool b, .bool c, .bool tx], .pointer (some ⟨q, 0, none⟩)] w fun e w' => ∃ v, e = .returned v ∧ w'.ownsRow w.heap.size 99 1 v (Bc b c).length ((Bc b c).map (Tt q)) ∧ Below w.heap.size w w' := by
 obtain ⟨i0, hi, hz0, hz1, hz2⟩ := info_parts (P := prog) (e := 99) (z := .pointer none) (size := 1) (bytes := 8) (by kernel_rfl)
 have app : ∀ {ops : Array Oper} {rest : List Oper} {o : Oper} {a : Act} {Q : Exit → Act → World → Prop} {s x : Operand} {w1 : World} {v : Value} {n : Nat} {xs : List Value} {g : Nat} {pv : Value},
   o.guard = none → o.op = .call { callee := .builtin .append, args := #[s, x], argTypes := #[96, 96] } → a.eval s = v → w1.ownsRow w.heap.size 99 1 v n xs → a.eval x = .slice (some ⟨g, 0, none⟩) 1 1 → w1.cell? ⟨g, 0, none⟩ = some pv → pv.oneCell' = true → n ≤ 10 → w.heap.size ≤ w1.heap.size →
   (∀ v' w', w'.ownsRow w.heap.size 99 1 v' (n + 1) (xs ++ [pv]) → Below w.heap.size w1 w' → (∀ k, k < w1.heap.size → v.ownBlock ≠ some k → w'.heap[k]? = w1.heap[k]?) → wpList prog ops Q rest (a.put o.dst v') w') → wpList prog ops Q (o :: rest) a w1 := by
  intro ops rest o a Q s x w1 v n xs g pv hgd ho hs hown hx hc hpv hn hsz hk
  refine wpList_append_own w1 hgd s x 96 ho w.heap.size 99 i0 (.pointer none) 1 8 underlying96 hi hz0 hz1 hz2 rfl (by decide) v n xs hs hown ⟨g, 0, none⟩ 1 1 [pv] hx rfl ?_ ?_ ?_ ?_ hsz ?_
  ·intro j u hj
   match j, hj with
   | 0, hj =>
    have : pv = u := by simpa using hj
    subst this
    exact hc
   | j + 1, hj => simp at hj
  ·intro u hu
   rw [List.mem_singleton.1 hu]
   exact hpv
  ·unfold maxLen; omega
  ·omega
  ·intro v' w' h1 h2 _
   exact hk v' w' h1 (PO h2 (fun k hk => (hown.lt k hk).1) hsz) fun k hk hv => h2.block k hk fun e => hv e.symm
 have z1 : w.heap.size ≤ w.heap.size + 1 := Nat.le_succ _
 go_enter func54, ntmps54
 cases b with
 | false =>
  cases c with
  | false =>
   go_wp2
   go_ret
   refine ⟨_, rfl, LG _ _ _ ?_ ?_ _, ?_⟩
   ·simp
   ·exact z1
   ·exact (((Below.refl _ w).alloc (Nat.le_refl _) _).alloc (by simp) _)
  | true =>
   go_wp2_with (at_builtin; refine app rfl rfl rfl ((LG _ _ _ ?b0 z1 _).alloc _) rfl (Jo _ _ ?b2 _ _) rfl (by decide) ?b3 ?_)
   case b0 => simp
   case b2 => simp
   case b3 => simp; omega
   intro v2 w2 o2 b2 f2
   go_wp2
   go_ret
   refine ⟨_, rfl, o2, ?_⟩
   exact ((((Below.refl _ w).alloc (Nat.le_refl _) _).alloc (by simp) _).alloc (by simp; omega) _).trans b2
 | true =>
  cases c with
  | false =>
   go_wp2_with (at_builtin; refine app rfl rfl rfl ((LG _ _ _ ?b0 z1 _).alloc _) rfl (Jo _ _ ?b2 _ _) rfl (by decide) ?b3 ?_)
   case b0 => simp
   case b2 => simp
   case b3 => simp; omega
   intro v2 w2 o2 b2 f2
   have hb : Below w.heap.size w w2 := ((((Below.refl _ w).alloc (Nat.le_refl _) _).alloc (by simp) _).alloc (by simp; omega) _).trans b2
   have c4 : w2.cell? ⟨w.heap.size, 4, none⟩ = some (.bool false) := by
    have hf := f2 w.heap.size (by omega) (by
     show (Value.slice (some ⟨w.heap.size + 1, 0, none⟩) 1 1).ownBlock ≠ some w.heap.size
     simp [Value.ownBlock])
    rw [LY] at hf
    rw [Lib.cell_of_heap hf]
    rfl
   go_wp2
   go_ret
   exact ⟨_, rfl, o2, hb⟩
  | true =>
   go_wp2_with (at_builtin; refine app rfl rfl rfl ((LG _ _ _ ?b0 z1 _).alloc _) rfl (Jo _ _ ?b2 _ _) rfl (by decide) ?b3 ?_)
   case b0 => simp
   case b2 => simp
   case b3 => simp; omega
   intro v2 w2 o2 b2 f2
   have hb : Below w.heap.size w w2 := ((((Below.refl _ w).alloc (Nat.le_refl _) _).alloc (by simp) _).alloc (by simp; omega) _).trans b2
   have c4 : w2.cell? ⟨w.heap.size, 4, none⟩ = some (.bool true) := by
    have hf := f2 w.heap.size (by omega) (by
     show (Value.slice (some ⟨w.heap.size + 1, 0, none⟩) 1 1).ownBlock ≠ some w.heap.size
     simp [Value.ownBlock])
    rw [LY] at hf
    rw [Lib.cell_of_heap hf]
    rfl
   go_wp2_with (at_builtin; refine app rfl rfl rfl (o2.alloc _) rfl (Jo _ _ ?b5 _ _) rfl (by decide) ?b6 ?_)
   case b5 => rfl
   case b6 => have := hb.size; simp; omega
   intro v3 w3 o3 b3 _
   go_wp2
   go_ret
   exact ⟨_, rfl, o3, (hb.alloc hb.size _).trans b3⟩
end Go.Proofs.Tryd
