/- command.Format, walked. -/
import Derived.Test.YtcaandgkdmidkaaDoorKKD
import Derived.Test.YtcaandgkdmidkaaDoorKKQ
import Derived.Test.YtcaandgkdmidkaaDoorKKP
import Derived.Test.YtcaandgkdmidkaaDoorKSpFmt
import Derived.Deep.RegionHeld3
import Derived.WalkSmall
set_option linter.unusedVariables false
set_option linter.unusedSimpArgs false
namespace Go.Proofs.Tryd
open Go.Shelf Go.RowKit Go.VS
def Fu : Array Value := (AL.flatMap fun f => (R6 f).toList).toArray
set_option maxHeartbeats 2000000 in
set_option maxRecDepth 1000000 in
theorem PF (w : World) : Calls prog 53 #[] w fun e w' => e = .returned (.slice (some ⟨w.heap.size, 0, none⟩) 10 10) ∧ w' = w.alloc (.cells Fu 95) := by
 go_enter func53, ntmps53
 go_wp2
 go_ret
 exact ⟨rfl, rfl⟩
theorem UP {k : Nat} {wd : Bs} {kd : Int} {dn b c tx : Bool} (h : AL[k]? = some (wd, (kd, (dn, (b, (c, tx)))))) :
  Fu[k * 6]? = some (.string ⟨wd.toArray⟩) ∧ Fu[k * 6 + 1]? = some (.int .i64 kd) ∧ Fu[k * 6 + 2]? = some (.bool dn) ∧ Fu[k * 6 + 3]? = some (.bool b) ∧ Fu[k * 6 + 4]? = some (.bool c) ∧ Fu[k * 6 + 5]? = some (.bool tx) := by
 have hk : k < 10 := by
  rcases Nat.lt_or_ge k 10 with h' | h'
  ·exact h'
  ·rw [List.getElem?_eq_none (by exact h')] at h; cases h
 have : k = 0 ∨ k = 1 ∨ k = 2 ∨ k = 3 ∨ k = 4 ∨ k = 5 ∨ k = 6 ∨ k = 7 ∨ k = 8 ∨ k = 9 := by omega
 rcases this with rfl | rfl | rfl | rfl | rfl | rfl | rfl | rfl | rfl | rfl <;> (cases h; exact ⟨rfl, rfl, rfl, rfl, rfl, rfl⟩)
structure Uh (B : Nat) (c : Command) (w : World) : Prop where
 hB : w.heap[B]? = some (.cells (Lk c) 42 (0, 0))
 hF : w.heap[B + 1]? = some (.cells Fu 95 (0, 0))
theorem Uh.kept {B : Nat} {c : Command} {w w' : World} (h : Uh B c w) (hb : Below w.heap.size w w') : Uh B c w' :=
 ⟨(hb.block _ (lt_of_heap h.hB)).trans h.hB, (hb.block _ (lt_of_heap h.hF)).trans h.hF⟩
theorem WZ {w w2 : World} {F C : Obj} (h : Below ((w.alloc F).alloc C).heap.size ((w.alloc F).alloc C) w2) :
  w.heap.size + 2 ≤ w2.heap.size ∧ Below w.heap.size w w2 ∧ w2.heap[w.heap.size]? = some F ∧ w2.heap[w.heap.size + 1]? = some C := by
 have hs : ((w.alloc F).alloc C).heap.size = w.heap.size + 2 := by simp only [World.alloc, Array.size_push]
 refine ⟨hs ▸ h.size, (((Below.refl _ w).alloc (Nat.le_refl _) _).alloc (by simp) _).trans (h.mono (by omega)), ?_, ?_⟩
 ·rw [h.block _ (by omega)]
  simp only [World.alloc]
  rw [Array.getElem?_push_lt (by simp), Array.getElem_push_eq]
 ·rw [h.block _ (by omega)]
  have : w.heap.size + 1 = (w.alloc F).heap.size := by simp
  rw [this]
  exact heap_alloc_new _ _
structure Kf (B g : Nat) (F cur : Array Value) (cm : Command) (w : World) : Prop where
 lt : B + 2 ≤ g
 hF : w.heap[B]? = some (.cells F 95 (0, 0))
 hC : w.heap[B + 1]? = some (.cells (Lk cm) 42 (0, 0))
 hG : w.heap[g]? = some (.cells cur 99 (0, 0))
theorem Kf.kept {B g : Nat} {F cur : Array Value} {cm : Command} {w w' : World} (h : Kf B g F cur cm w) (hb : Below w.heap.size w w') : Kf B g F cur cm w' :=
 ⟨h.lt, (hb.block _ (lt_of_heap h.hF)).trans h.hF, (hb.block _ (lt_of_heap h.hC)).trans h.hC, (hb.block _ (lt_of_heap h.hG)).trans h.hG⟩
theorem Kf.put {B g : Nat} {F cur : Array Value} {cm cm' : Command} {w : World} (h : Kf B g F cur cm w) {o : Nat} {v : Value} (he : (Lk cm).setIfInBounds o v = Lk cm') : Kf B g F cur cm' (w.setCell ⟨B + 1, o, none⟩ v) := by
 have := h.lt
 refine ⟨h.lt, ?_, ?_, ?_⟩
 ·rw [Below.heap_setCell _ _ _ _ (show B ≠ B + 1 by omega)]; exact h.hF
 ·rw [← he]; exact Lib.heap_setCell_same h.hC v
 ·rw [Below.heap_setCell _ _ _ _ (show g ≠ B + 1 by omega)]; exact h.hG
theorem Kf.EI {B g : Nat} {F cur : Array Value} {cm : Command} {w : World} (h : Kf B g F cur cm w) :
  w.cell? ⟨B + 1, 0, none⟩ = some (.int .i64 cm.1) ∧ w.cell? ⟨B + 1, 1, none⟩ = some (.int .i64 cm.2.1) ∧ w.cell? ⟨B + 1, 2, none⟩ = some (.int .i64 cm.2.2.1) ∧ w.cell? ⟨B + 1, 3, none⟩ = some (.int .i64 cm.2.2.2.1) ∧ w.cell? ⟨B + 1, 4, none⟩ = some (.bool cm.2.2.2.2.1) ∧ w.cell? ⟨B + 1, 5, none⟩ = some (.string ⟨(cm.2.2.2.2.2 : Bs).toArray⟩) := by
 have c := Lib.cell_of_heap h.hC
 refine ⟨?_, ?_, ?_, ?_, ?_, ?_⟩ <;> rw [c] <;> rfl
theorem Kf.Pv {B g : Nat} {F cur : Array Value} {cm : Command} {w : World} (h : Kf B g F cur cm w) {o : Nat} (ho : o = 1 ∨ o = 2 ∨ o = 3) : w.cell? ⟨B + 1, o, none⟩ = some (.int .i64 (Cy o cm)) ∧ w.frozen? ⟨B + 1, o, none⟩ = false := by
 obtain ⟨_, c1, c2, c3, _, _⟩ := h.EI
 rcases ho with rfl | rfl | rfl
 ·exact ⟨c1, Lib.frozen_of_heap h.hC 1⟩
 ·exact ⟨c2, Lib.frozen_of_heap h.hC 2⟩
 ·exact ⟨c3, Lib.frozen_of_heap h.hC 3⟩
theorem Vo {cm : Command} {o : Nat} (ho : o = 1 ∨ o = 2 ∨ o = 3) : (Lk cm).setIfInBounds o (.int .i64 0) = Lk (JS o cm) := by
 rcases ho with rfl | rfl | rfl <;> rfl
theorem EC (x y z : Bs) (hz : z = x ++ y) (hx : x.length ≤ 1000000) (hy : y.length ≤ 1000000) : ∀ w : World, (Op.stringOp .add ⟨x.toArray⟩ ⟨y.toArray⟩).run prog w = .ok (.string ⟨z.toArray⟩) w := fun w => by
 rw [hz]
 exact run_string_add_lists w x y (by omega) (by omega)
theorem Q2 (hF : Gk (Pg.of prog)) (n : Int) (w : World) (hw : Late (Pg.of prog) w) :
  Calls prog 43 #[.int .i64 n] w fun e w' => e = .returned ((Value.string ⟨((B5 n) : Bs).toArray⟩)) ∧ Below w.heap.size w w' := by
 refine (Fn.UB (fun _ h => h) (S := Ce) rfl rfl (hF n) func43 (by kernel_rfl) hw).mono ?_
 rintro e w' ⟨r, d, hr, he, hb⟩
 cases hr
 exact ⟨he, hb⟩
theorem RY {c : Command} : ∀ {L : List Al} {k : Nat} {f : Al}, (∀ j g, j < k → L[j]? = some g → Bo c g = false) → L[k]? = some f → Bo c f = true → L.find? (Bo c) = some f
 | [], k, f, _, h, _ => nomatch h
 | g :: L, 0, f, _, h, hf => by
  obtain rfl : g = f := by simpa using h
  rw [List.find?_cons, hf]
 | g :: L, k + 1, f, hno, h, hf => by
  rw [List.find?_cons, hno 0 g (by omega) rfl]
  exact RY (k := k) (fun j g' hj hg => hno (j + 1) g' (by omega) (by simpa using hg)) (by simpa using h) hf
theorem IX (hEsc : CX (Pg.of prog)) (s : Bs) (hs : s.length ≤ 100000) (w : World) (hw : Late (Pg.of prog) w) :
  Calls prog 42 #[(Value.string ⟨(s : Bs).toArray⟩)] w fun e w' => e = .returned ((Value.string ⟨((Ar s) : Bs).toArray⟩)) ∧ Below w.heap.size w w' :=
 Ld hEsc ⟨s.toArray⟩ (by simp [ByteArray.size]; omega) w hw
set_option maxHeartbeats 4000000 in
set_option maxRecDepth 1000000 in
theorem XH (hEsc : CX (Pg.of prog)) (hFm : Gk (Pg.of prog)) (kd0 A Bv Cv : Int) (dn0 : Bool) (tx0 : Bs) (ht : tx0.length ≤ 100000) (w : World) (hw : Late (Pg.of prog) w) :
  Calls prog 25 #[.agg #[.int .i64 kd0, .int .i64 A, .int .i64 Bv, .int .i64 Cv, .bool dn0, .string ⟨tx0.toArray⟩]] w fun e w' => e = .returned (.tuple #[.string ⟨((DN (kd0, (A, (Bv, (Cv, (dn0, tx0)))))).1 : Bs).toArray⟩, .int .i64 (DN (kd0, (A, (Bv, (Cv, (dn0, tx0)))))).2]) ∧ Below w.heap.size w w' := by
 generalize hrf : DN (kd0, (A, (Bv, (Cv, (dn0, tx0))))) = RF
 go_enter func25, ntmps25
 go_wp2_with (go_at_call 53; refine (PF _).mono ?_)
 rintro e w1 ⟨rfl, rfl⟩
 have hI0 : Uh w.heap.size (kd0, (A, (Bv, (Cv, (dn0, tx0))))) ((w.alloc (.cells #[.int .i64 kd0, .int .i64 A, .int .i64 Bv, .int .i64 Cv, .bool dn0, .string ⟨tx0.toArray⟩] 42)).alloc (.cells Fu 95)) := by
  refine ⟨?_, ?_⟩
  ·simp only [World.alloc]
   rw [Array.getElem?_push_lt (by simp), Array.getElem_push_eq]
   rfl
  ·have : w.heap.size + 1 = (w.alloc (.cells #[.int .i64 kd0, .int .i64 A, .int .i64 Bv, .int .i64 Cv, .bool dn0, .string ⟨tx0.toArray⟩] 42)).heap.size := by simp
   rw [this]
   exact heap_alloc_new _ _
 have hb0 : Below w.heap.size w ((w.alloc (.cells #[.int .i64 kd0, .int .i64 A, .int .i64 Bv, .int .i64 Cv, .bool dn0, .string ⟨tx0.toArray⟩] 42)).alloc (.cells Fu 95)) := ((Below.refl _ w).alloc (Nat.le_refl _) _).alloc (by simp) _
 generalize ((w.alloc (.cells #[.int .i64 kd0, .int .i64 A, .int .i64 Bv, .int .i64 Cv, .bool dn0, .string ⟨tx0.toArray⟩] 42)).alloc (.cells Fu 95)) = w1 at hI0 hb0 ⊢
 go_wp2
 go_loopw [12] (fun i wr => ∃ k : Nat, k ≤ 10 ∧ i = .int .i64 k ∧ (∀ j f, j < k → AL[j]? = some f → Bo (kd0, (A, (Bv, (Cv, (dn0, tx0))))) f = false) ∧ Uh w.heap.size (kd0, (A, (Bv, (Cv, (dn0, tx0))))) wr ∧ Below w.heap.size w wr) (fun i _ => 10 - (Lib.intOf i).toNat)
 case atStart => exact ⟨0, by omega, rfl, fun j f hj => absurd hj (by omega), hI0, hb0⟩
 case round =>
  obtain ⟨k, hk, hi, hno, hR, hbw⟩ := hrel
  subst hi
  have hlate : Late (Pg.of prog) wr := hw.of hbw
  by_cases hks : k < 10
  ·obtain ⟨⟨wd, kd, dn, b, c, tx⟩, hf⟩ : ∃ f, AL[k]? = some f := ⟨_, List.getElem?_eq_getElem (by exact hks)⟩
   obtain ⟨f0, f1, f2, f3, f4, f5⟩ := UP hf
   have cF := Lib.cell_of_heap hR.hF
   have cB := Lib.cell_of_heap hR.hB
   have x0 : wr.cell? ⟨w.heap.size + 1, k * 6, none⟩ = some (.string ⟨wd.toArray⟩) := by rw [cF]; exact f0
   have x1 : wr.cell? ⟨w.heap.size + 1, k * 6 + 1, none⟩ = some (.int .i64 kd) := by rw [cF]; exact f1
   have x2 : wr.cell? ⟨w.heap.size + 1, k * 6 + 2, none⟩ = some (.bool dn) := by rw [cF]; exact f2
   have x3 : wr.cell? ⟨w.heap.size + 1, k * 6 + 3, none⟩ = some (.bool b) := by rw [cF]; exact f3
   have x4 : wr.cell? ⟨w.heap.size + 1, k * 6 + 4, none⟩ = some (.bool c) := by rw [cF]; exact f4
   have x5 : wr.cell? ⟨w.heap.size + 1, k * 6 + 5, none⟩ = some (.bool tx) := by rw [cF]; exact f5
   have y0 : wr.cell? ⟨w.heap.size, 0, none⟩ = some (.int .i64 kd0) := by rw [cB]; rfl
   have y1 : wr.cell? ⟨w.heap.size, 1, none⟩ = some (.int .i64 A) := by rw [cB]; rfl
   have y2 : wr.cell? ⟨w.heap.size, 2, none⟩ = some (.int .i64 Bv) := by rw [cB]; rfl
   have y3 : wr.cell? ⟨w.heap.size, 3, none⟩ = some (.int .i64 Cv) := by rw [cB]; rfl
   have y4 : wr.cell? ⟨w.heap.size, 4, none⟩ = some (.bool dn0) := by rw [cB]; rfl
   have y5 : wr.cell? ⟨w.heap.size, 5, none⟩ = some (.string ⟨tx0.toArray⟩) := by rw [cB]; rfl
   clear f0 f1 f2 f3 f4 f5 cF cB
   have hlw : w.heap.size + 1 < wr.heap.size := lt_of_heap hR.hF
   have hlw0 : w.heap.size < wr.heap.size := by omega
   have hne0 : wr.heap.size ≠ w.heap.size := by omega
   have hne1 : wr.heap.size ≠ w.heap.size + 1 := by omega
   have hnf0 : w.heap.size ≠ wr.heap.size := by omega
   by_cases hkd : kd = kd0
   ·by_cases hdn : dn = dn0
    ·subst hkd hdn
     go_wp2_with (go_at_call 54; refine (N0 wd kd dn b c tx _ _).mono ?_)
     rintro e w3 ⟨v, rfl, own, b3⟩
     obtain ⟨z2, bb, hF, hC⟩ := WZ b3
     obtain ⟨g, cap, cur, rfl, hg, hG, hcur⟩ : ∃ g cap cur, v = .slice (some ⟨g, 0, none⟩) (Bc b c).length cap ∧ wr.heap.size + 2 ≤ g ∧ w3.heap[g]? = some (.cells cur 99 (0, 0)) ∧ cur.toList.take (Bc b c).length = (Bc b c).map (Tt (wr.heap.size + 1)) := by
      rcases own.2 with ⟨_, hn⟩ | ⟨g, cap, cur, hv, hg, hG, _, _, _, htk⟩
      ·exact absurd hn (by simp [Bc])
      ·exact ⟨g, cap, cur, hv, by simpa using hg, hG, by simpa using htk⟩
     have hI : Kf wr.heap.size g (R6 (wd, (kd, (dn, (b, (c, tx)))))) cur (kd, (A, (Bv, (Cv, (dn, tx0))))) w3 := ⟨hg, hF, hC, hG⟩
     have bw3 : Below w.heap.size w w3 := hbw.trans (bb.mono (by omega))
     have hwl : wd.length ≤ 8 := by
      have h1 : ∀ f ∈ AL, f.1.length ≤ 8 := by decide
      exact h1 _ (List.mem_of_getElem? hf)
     have hof := LF b c
     have hfi : Bo (kd, (A, (Bv, (Cv, (dn, tx0))))) (wd, (kd, (dn, (b, (c, tx))))) = true := by simp [Bo]
     have hRF : RF = if okC (wd, (kd, (dn, (b, (c, tx))))) (kd, (A, (Bv, (Cv, (dn, tx0))))) then (Gu (wd, (kd, (dn, (b, (c, tx))))) (kd, (A, (Bv, (Cv, (dn, tx0))))), 0) else ([], 2) := by
      rw [← hrf]
      unfold DN
      rw [RY hno hf hfi]
     clear hrf hno hf hfi
     clear own b3 hF hC hG x0 x1 x2 x3 x4 x5 y0 y1 y2 y3 y4 y5 hR
     generalize hBW : wr.heap.size = BW at *
     go_wp2
     go_loopw [7, 34] (fun ln i wq => ∃ j : Nat, j ≤ (Bc b c).length ∧ i = .int .i64 j ∧ ln = .string ⟨((Dk (wd, (kd, (dn, (b, (c, tx))))) (kd, (A, (Bv, (Cv, (dn, tx0))))) j) : Bs).toArray⟩ ∧ (∀ o ∈ (Bc b c).take j, inC (Cy o (kd, (A, (Bv, (Cv, (dn, tx0))))))) ∧ Kf BW g (R6 (wd, (kd, (dn, (b, (c, tx)))))) cur (zst b c j (kd, (A, (Bv, (Cv, (dn, tx0)))))) wq ∧ Below w.heap.size w wq) (fun _ i _ => (Bc b c).length - (Lib.intOf i).toNat)
     case atStart => exact ⟨0, by omega, rfl, by simp [Dk], fun o ho => by simp at ho, hI, bw3⟩
     case round =>
      obtain ⟨j, hj, hi, hln, hin, hR, hbq⟩ := hrel
      subst hi hln
      have hlq : Late (Pg.of prog) wr := hw.of hbq
      by_cases hjs : j < (Bc b c).length
      ·obtain ⟨o, ho⟩ : ∃ o, (Bc b c)[j]? = some o := ⟨_, List.getElem?_eq_getElem hjs⟩
       have ho3 := Rf ho
       obtain ⟨cm, fm⟩ := hR.Pv ho3
       rw [SH ho] at cm
       have ptr : ∀ {W : World}, Kf BW g (R6 (wd, (kd, (dn, (b, (c, tx)))))) cur (zst b c j (kd, (A, (Bv, (Cv, (dn, tx0)))))) W → W.cell? ⟨g, j, none⟩ = some (.pointer (some ⟨BW + 1, o, none⟩)) := by
        intro W hW
        rw [Lib.cell_of_heap hW.hG]
        have h1 := congrArg (fun z => z[j]?) hcur
        simp only [List.getElem?_take, List.getElem?_map, ho, Option.map_some] at h1
        rw [if_pos hjs] at h1
        simpa [Tt] using h1
       have cg := ptr hR
       have hmem : o ∈ Bc b c := List.mem_of_getElem? ho
       have hnx := Tp (f := (wd, (kd, (dn, (b, (c, tx)))))) (c := (kd, (A, (Bv, (Cv, (dn, tx0)))))) ho
       have hnl := JF (wd, (kd, (dn, (b, (c, tx))))) (kd, (A, (Bv, (Cv, (dn, tx0))))) j
       have hbad : ¬ inC (Cy o (kd, (A, (Bv, (Cv, (dn, tx0)))))) → RF = ([], 2) := fun hn => by
        rw [hRF, if_neg fun h => hn (h.1 o hmem)]
       generalize hn : Cy o (kd, (A, (Bv, (Cv, (dn, tx0))))) = n at cm hnx hbad
       by_cases h0 : n < 0
       ·have hz := hbad fun h => by have := h.1; omega
        clear hRF hbad
        subst hz
        go_wp2
        go_ret2
        exact ⟨rfl, hbq⟩
       by_cases h1 : n > 2147483647
       ·have hz := hbad fun h => by have := h.2; omega
        clear hRF hbad
        subst hz
        go_wp2
        go_ret2
        exact ⟨rfl, hbq⟩
       clear hbad
       have hfl := EZ n
       generalize hL : Dk (wd, (kd, (dn, (b, (c, tx))))) (kd, (A, (Bv, (Cv, (dn, tx0))))) j = L at hnx hnl
       dsimp only at hnl
       have e1 := EC [32] (B5 n) ([32] ++ B5 n) rfl (by decide) (by omega)
       have e2 := EC L ([32] ++ B5 n) (Dk (wd, (kd, (dn, (b, (c, tx))))) (kd, (A, (Bv, (Cv, (dn, tx0))))) (j + 1)) hnx (by omega) (by rw [List.length_append]; simp only [List.length_cons, List.length_nil]; omega)
       generalize hS1 : ([32] ++ B5 n : Bs) = S1 at e1 e2
       generalize hS2 : Dk (wd, (kd, (dn, (b, (c, tx))))) (kd, (A, (Bv, (Cv, (dn, tx0))))) (j + 1) = S2 at e2
       go_wp2_with (go_at_call 43; refine (Q2 hFm n _ hlq).mono ?_)
       rintro e W4 rfl b4
       have hR4 := hR.kept b4
       have cg4 := ptr hR4
       obtain ⟨cm4, fm4⟩ := hR4.Pv ho3
       rw [SH ho, hn] at cm4
       have hb4 : Below w.heap.size w W4 := hbq.trans (b4.mono hbq.size)
       have hput := hR4.put (o := o) (v := .int .i64 0) (by rw [Vo ho3, ← VR ho])
       clear cm fm cg b4 hR ptr
       go_wp2
       go_roundw
       case rel =>
        refine ⟨j + 1, by omega, by simp, by rw [← hS2], fun q hq => ?_, hput, hb4.setCell (p := ⟨BW + 1, o, none⟩) (by simp only; omega) _⟩
        rw [List.take_add_one, ho] at hq
        rcases List.mem_append.1 hq with hq | hq
        ·exact hin q hq
        ·have : q = o := by simpa using hq
         subst this
         rw [hn]
         exact ⟨by omega, by omega⟩
       case measure =>
        simp only [Lib.intOf]
        omega
      ·have hje : j = (Bc b c).length := by omega
       subst hje
       rw [List.take_length] at hin
       rw [VQ] at hR
       rw [To (wd, (kd, (dn, (b, (c, tx)))))]
       have cF := Lib.cell_of_heap hR.hF
       have x1 : wr.cell? ⟨BW, 1, none⟩ = some (.int .i64 kd) := by rw [cF]; rfl
       have x2 : wr.cell? ⟨BW, 2, none⟩ = some (.bool dn) := by rw [cF]; rfl
       have x5 : wr.cell? ⟨BW, 5, none⟩ = some (.bool tx) := by rw [cF]; rfl
       have hrest : okC (wd, (kd, (dn, (b, (c, tx))))) (kd, (A, (Bv, (Cv, (dn, tx0))))) ↔ (if b then 0 else Bv) = 0 ∧ (if c then 0 else Cv) = 0 ∧ (tx = false → tx0 = []) := by
        unfold okC
        dsimp only
        cases b <;> cases c <;> simp [hin] <;> (intros; exact hin _ ‹_›)
       generalize (if b then 0 else Bv) = B1 at hR hrest
       generalize (if c then 0 else Cv) = C1 at hR hrest
       obtain ⟨c0, c1, c2, c3, c4, c5⟩ := hR.EI
       dsimp only at c0 c1 c2 c3 c4 c5
       clear cF
       by_cases hok : okC (wd, (kd, (dn, (b, (c, tx))))) (kd, (A, (Bv, (Cv, (dn, tx0)))))
       ·have hz := hRF
        rw [if_pos hok] at hz
        obtain ⟨rfl, rfl, ht0⟩ := hrest.1 hok
        clear hRF hrest hok
        cases tx with
        | false =>
         have ht0 := ht0 rfl
         subst ht0
         rw [show Gu (wd, (kd, (dn, (b, (c, false))))) (kd, (A, (Bv, (Cv, (dn, []))))) = Dk (wd, (kd, (dn, (b, (c, false))))) (kd, (A, (Bv, (Cv, (dn, []))))) 3 by unfold Gu; simp] at hz
         subst hz
         go_wp2
         go_ret2
         exact ⟨rfl, hbq⟩
        | true =>
         rw [show Gu (wd, (kd, (dn, (b, (c, true))))) (kd, (A, (Bv, (Cv, (dn, tx0))))) = Dk (wd, (kd, (dn, (b, (c, true))))) (kd, (A, (Bv, (Cv, (dn, tx0))))) 3 ++ ([32] ++ Ar tx0) by unfold Gu; simp] at hz
         have hql := FA tx0
         have hnl := JF (wd, (kd, (dn, (b, (c, true))))) (kd, (A, (Bv, (Cv, (dn, tx0))))) 3
         dsimp only at hnl
         generalize hL3 : Dk (wd, (kd, (dn, (b, (c, true))))) (kd, (A, (Bv, (Cv, (dn, tx0))))) 3 = L3 at hz hnl
         have e1 := EC [32] (Ar tx0) ([32] ++ Ar tx0) rfl (by decide) (by omega)
         have e2 := EC L3 ([32] ++ Ar tx0) (L3 ++ ([32] ++ Ar tx0)) rfl (by omega) (by rw [List.length_append]; simp only [List.length_cons, List.length_nil]; omega)
         generalize hS1 : ([32] ++ Ar tx0 : Bs) = S1 at e1 e2 hz
         generalize hS2 : L3 ++ S1 = S2 at e2 hz
         subst hz
         go_wp2_with (go_at_call 42; refine (IX hEsc tx0 ht _ hlq).mono ?_)
         rintro e W4 ⟨rfl, b4⟩
         have hR4 := hR.kept b4
         have k5 := hR4.EI.2.2.2.2.2
         have p5 := Lib.frozen_of_heap hR4.hC 5
         have hR5 := hR4.put (o := 5) (v := .string ⟨#[]⟩) (cm' := (kd, (0, (0, (0, (dn, [])))))) rfl
         have hb4 : Below w.heap.size w W4 := hbq.trans (b4.mono hbq.size)
         have hb5 := hb4.setCell (p := ⟨BW + 1, 5, none⟩) (by simp only; omega) (.string ⟨#[]⟩)
         clear c0 c1 c2 c3 c4 c5 x1 x2 x5 b4
         obtain ⟨c0, c1, c2, c3, c4, c5⟩ := hR5.EI
         have cF := Lib.cell_of_heap hR5.hF
         have x1 : (W4.setCell ⟨BW + 1, 5, none⟩ (.string ⟨#[]⟩)).cell? ⟨BW, 1, none⟩ = some (.int .i64 kd) := by rw [cF]; rfl
         have x2 : (W4.setCell ⟨BW + 1, 5, none⟩ (.string ⟨#[]⟩)).cell? ⟨BW, 2, none⟩ = some (.bool dn) := by rw [cF]; rfl
         dsimp only at c0 c1 c2 c3 c4 c5 k5
         clear cF
         go_wp2
         go_ret2
         exact ⟨rfl, hb5⟩
       ·have hz := hRF
        rw [if_neg hok] at hz
        have hnot : ¬ _ := fun h => hok (hrest.2 h)
        clear hRF hrest hok
        by_cases hB1 : B1 = 0
        ·by_cases hC1 : C1 = 0
         ·subst hB1 hC1
          cases tx with
          | true => exact absurd ⟨rfl, rfl, fun h => nomatch h⟩ hnot
          | false =>
           cases tx0 with
           | nil => exact absurd ⟨rfl, rfl, fun _ => rfl⟩ hnot
           | cons x0 xs0 =>
            subst hz
            go_wp2
            go_ret2
            exact ⟨rfl, hbq⟩
         ·cases tx with
          | true =>
           have hql := FA tx0
           have hnl := JF (wd, (kd, (dn, (b, (c, true))))) (kd, (A, (Bv, (Cv, (dn, tx0))))) 3
           dsimp only at hnl
           generalize hL3 : Dk (wd, (kd, (dn, (b, (c, true))))) (kd, (A, (Bv, (Cv, (dn, tx0))))) 3 = L3 at hz hnl
           have e1 := EC [32] (Ar tx0) ([32] ++ Ar tx0) rfl (by decide) (by omega)
           have e2 := EC L3 ([32] ++ Ar tx0) (L3 ++ ([32] ++ Ar tx0)) rfl (by omega) (by rw [List.length_append]; simp only [List.length_cons, List.length_nil]; omega)
           generalize hS1 : ([32] ++ Ar tx0 : Bs) = S1 at e1 e2 hz
           generalize hS2 : L3 ++ S1 = S2 at e2 hz
           subst hz
           go_wp2_with (go_at_call 42; refine (IX hEsc tx0 ht _ hlq).mono ?_)
           rintro e W4 ⟨rfl, b4⟩
           have hR4 := hR.kept b4
           have k5 := hR4.EI.2.2.2.2.2
           have p5 := Lib.frozen_of_heap hR4.hC 5
           have hR5 := hR4.put (o := 5) (v := .string ⟨#[]⟩) (cm' := (kd, (0, (B1, (C1, (dn, [])))))) rfl
           have hb4 : Below w.heap.size w W4 := hbq.trans (b4.mono hbq.size)
           have hb5 := hb4.setCell (p := ⟨BW + 1, 5, none⟩) (by simp only; omega) (.string ⟨#[]⟩)
           clear c0 c1 c2 c3 c4 c5 x1 x2 x5 b4
           obtain ⟨c0, c1, c2, c3, c4, c5⟩ := hR5.EI
           have cF := Lib.cell_of_heap hR5.hF
           have x1 : (W4.setCell ⟨BW + 1, 5, none⟩ (.string ⟨#[]⟩)).cell? ⟨BW, 1, none⟩ = some (.int .i64 kd) := by rw [cF]; rfl
           have x2 : (W4.setCell ⟨BW + 1, 5, none⟩ (.string ⟨#[]⟩)).cell? ⟨BW, 2, none⟩ = some (.bool dn) := by rw [cF]; rfl
           dsimp only at c0 c1 c2 c3 c4 c5 k5
           clear cF
           go_wp2
           go_ret2
           exact ⟨rfl, hb5⟩
          | false =>
           subst hz
           go_wp2
           go_ret2
           exact ⟨rfl, hbq⟩
        ·cases tx with
         | true =>
          have hql := FA tx0
          have hnl := JF (wd, (kd, (dn, (b, (c, true))))) (kd, (A, (Bv, (Cv, (dn, tx0))))) 3
          dsimp only at hnl
          generalize hL3 : Dk (wd, (kd, (dn, (b, (c, true))))) (kd, (A, (Bv, (Cv, (dn, tx0))))) 3 = L3 at hz hnl
          have e1 := EC [32] (Ar tx0) ([32] ++ Ar tx0) rfl (by decide) (by omega)
          have e2 := EC L3 ([32] ++ Ar tx0) (L3 ++ ([32] ++ Ar tx0)) rfl (by omega) (by rw [List.length_append]; simp only [List.length_cons, List.length_nil]; omega)
          generalize hS1 : ([32] ++ Ar tx0 : Bs) = S1 at e1 e2 hz
          generalize hS2 : L3 ++ S1 = S2 at e2 hz
          subst hz
          go_wp2_with (go_at_call 42; refine (IX hEsc tx0 ht _ hlq).mono ?_)
          rintro e W4 ⟨rfl, b4⟩
          have hR4 := hR.kept b4
          have k5 := hR4.EI.2.2.2.2.2
          have p5 := Lib.frozen_of_heap hR4.hC 5
          have hR5 := hR4.put (o := 5) (v := .string ⟨#[]⟩) (cm' := (kd, (0, (B1, (C1, (dn, [])))))) rfl
          have hb4 : Below w.heap.size w W4 := hbq.trans (b4.mono hbq.size)
          have hb5 := hb4.setCell (p := ⟨BW + 1, 5, none⟩) (by simp only; omega) (.string ⟨#[]⟩)
          clear c0 c1 c2 c3 c4 c5 x1 x2 x5 b4
          obtain ⟨c0, c1, c2, c3, c4, c5⟩ := hR5.EI
          have cF := Lib.cell_of_heap hR5.hF
          have x1 : (W4.setCell ⟨BW + 1, 5, none⟩ (.string ⟨#[]⟩)).cell? ⟨BW, 1, none⟩ = some (.int .i64 kd) := by rw [cF]; rfl
          have x2 : (W4.setCell ⟨BW + 1, 5, none⟩ (.string ⟨#[]⟩)).cell? ⟨BW, 2, none⟩ = some (.bool dn) := by rw [cF]; rfl
          dsimp only at c0 c1 c2 c3 c4 c5 k5
          clear cF
          go_wp2
          go_ret2
          exact ⟨rfl, hb5⟩
         | false =>
          subst hz
          go_wp2
          go_ret2
          exact ⟨rfl, hbq⟩
    ·subst hkd
     have hnb : Bo (kd, (A, (Bv, (Cv, (dn0, tx0))))) (wd, (kd, (dn, (b, (c, tx))))) = false := by simp [Bo, hdn]
     have hno2 : ∀ j f, j < k + 1 → AL[j]? = some f → Bo (kd, (A, (Bv, (Cv, (dn0, tx0))))) f = false := by
      intro j f hj hjf
      by_cases hjk : j < k
      ·exact hno j f hjk hjf
      ·obtain rfl : j = k := by omega
       rw [hf] at hjf
       cases hjf
       exact hnb
     have hbn : Below wr.heap.size wr (wr.alloc (.cells #[.string ⟨wd.toArray⟩, .int .i64 kd, .bool dn, .bool b, .bool c, .bool tx] 95)) := (Below.refl _ wr).alloc (Nat.le_refl _) _
     have hRn := hR.kept hbn
     have hbwn := hbw.trans (hbn.mono (by omega))
     clear hno hR hbn hnb
     cases dn <;> cases dn0 <;> first | exact absurd rfl hdn | skip
     ·clear hdn
      go_wp2
      go_roundw
      case rel => exact ⟨k + 1, by omega, by simp, hno2, hRn, hbwn⟩
      case measure =>
       simp only [Lib.intOf]
       omega
     ·clear hdn
      go_wp2
      go_roundw
      case rel => exact ⟨k + 1, by omega, by simp, hno2, hRn, hbwn⟩
      case measure =>
       simp only [Lib.intOf]
       omega
   ·have hno2 : ∀ j f, j < k + 1 → AL[j]? = some f → Bo (kd0, (A, (Bv, (Cv, (dn0, tx0))))) f = false := by
     intro j f hj hjf
     by_cases hjk : j < k
     ·exact hno j f hjk hjf
     ·obtain rfl : j = k := by omega
      rw [hf] at hjf
      cases hjf
      simp [Bo, hkd]
    have hbn : Below wr.heap.size wr (wr.alloc (.cells #[.string ⟨wd.toArray⟩, .int .i64 kd, .bool dn, .bool b, .bool c, .bool tx] 95)) := (Below.refl _ wr).alloc (Nat.le_refl _) _
    have hRn := hR.kept hbn
    have hbwn := hbw.trans (hbn.mono (by omega))
    clear hno hR hbn
    go_wp2
    go_roundw
    case rel => exact ⟨k + 1, by omega, by simp, hno2, hRn, hbwn⟩
    case measure =>
     simp only [Lib.intOf]
     omega
  ·have hke : k = 10 := by omega
   subst hke
   have hz : RF = ([], 2) := by
    rw [← hrf]
    unfold DN
    rw [List.find?_eq_none.2 fun f hfm => ?_]
    obtain ⟨j, hj⟩ := List.getElem?_of_mem hfm
    have hj10 : j < 10 := by
     rcases Nat.lt_or_ge j 10 with h' | h'
     ·exact h'
     ·rw [List.getElem?_eq_none (by exact h')] at hj; cases hj
    rw [hno j f hj10 hj]
    decide
   clear hrf
   subst hz
   go_wp2
   go_ret2
   exact ⟨rfl, hbw⟩
theorem QX (hEsc : CX (Pg.of prog)) (hFm : Gk (Pg.of prog)) : Fh (Pg.of prog) := by
 rintro ⟨kd0, A, Bv, Cv, dn0, tx0⟩ ht
 refine Fn.N2 (S := BH) rfl rfl (kd0, (A, (Bv, (Cv, (dn0, tx0))))) (DN (kd0, (A, (Bv, (Cv, (dn0, tx0)))))) () rfl fun f fn hf hn => ?_
 have hfi : f = 25 := Ka (by kernel_rfl) hf hn
 subst hfi
 have hfe := Option.some.inj (hf.symm.trans func25)
 subst hfe
 refine ⟨by kernel_rfl, by kernel_rfl, fun μ sv w vs hsv hw hargs => ?_⟩
 obtain ⟨hsize, hat⟩ := hargs
 have hsv : svs μ dv dl [.agg (AJ.ex .leaf (kd0, (A, (Bv, (Cv, (dn0, tx0))))))] sv := hsv
 match sv, hsv with
 | [s0], ⟨⟨m0, e0, r0⟩, _⟩ =>
  have r0 := (Hp AJ .leaf rfl (kd0, (A, (Bv, (Cv, (dn0, tx0))))) m0).1 r0
  subst e0 r0
  obtain ⟨C0, f0, _, h0⟩ := hat 0 _ rfl
  obtain ⟨cs, hc0, hc1⟩ := h0
  have hcs := HL hc1
  have hv0 : vs.getD 0 undef = .agg #[.int .i64 kd0, .int .i64 A, .int .i64 Bv, .int .i64 Cv, .bool dn0, .string ⟨tx0.toArray⟩] := by
   rw [hc0]
   have := congrArg List.toArray hcs
   simp only [Array.toArray_toList] at this
   rw [this]
   rfl
  have hvs : vs = #[.agg #[.int .i64 kd0, .int .i64 A, .int .i64 Bv, .int .i64 Cv, .bool dn0, .string ⟨tx0.toArray⟩]] := by
   apply Array.ext
   ·simpa using hsize
   ·intro i hi1 hi2
    have hi : i = 0 := by simp at hi2; omega
    subst hi
    have : vs.getD 0 undef = vs[0] := by simp [hi1]
    rw [← this, hv0]; rfl
  subst hvs
  exact XH hEsc hFm kd0 A Bv Cv dn0 tx0 ht w hw
end Go.Proofs.Tryd
