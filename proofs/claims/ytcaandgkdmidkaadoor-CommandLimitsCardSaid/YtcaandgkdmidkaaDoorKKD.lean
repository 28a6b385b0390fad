/- form.read, walked. -/
import Derived.Test.YtcaandgkdmidkaaDoorKKA
import Derived.Test.YtcaandgkdmidkaaDoorKKC
import Derived.Test.YtcaandgkdmidkaaDoorKSpDig
import Derived.Lib.BufferMore
import Derived.Laws.ResultCell
set_option linter.unusedVariables false
set_option linter.unusedSimpArgs false
namespace Go.Proofs.Tryd
open Go.Shelf Go.RowKit Go.VS
theorem JE (hN : Gl (Pg.of prog)) (s : Bs) (hs : s.length ≤ 1000000) (w : World) (hw : Late (Pg.of prog) w) :
  Calls prog 76 #[.string ⟨s.toArray⟩, .int .i64 0] w fun e w' => e = .returned (.tuple #[.int .i64 (Gw (s, 0)).1, .int .i64 (Gw (s, 0)).2.1, .bool (Gw (s, 0)).2.2]) ∧ Below w.heap.size w w' := by
 refine (Fn.UB (fun _ h => h) (S := Cf) rfl rfl (hN (s, 0) (by dsimp only; omega)) func76 (by kernel_rfl) hw).mono ?_
 rintro e w' ⟨r, d, hr, he, hb⟩
 have hr : r = Gw (s, 0) := hr
 subst hr
 exact ⟨he, hb⟩
def Lk (c : Command) : Array Value := #[.int .i64 c.1, .int .i64 c.2.1, .int .i64 c.2.2.1, .int .i64 c.2.2.2.1, .bool c.2.2.2.2.1, .string ⟨(c.2.2.2.2.2 : Bs).toArray⟩]
def R6 (f : Al) : Array Value := #[.string ⟨(f.1 : Bs).toArray⟩, .int .i64 f.2.1, .bool f.2.2.1, .bool f.2.2.2.1, .bool f.2.2.2.2.1, .bool f.2.2.2.2.2]
def X7 : Array Value := #[.int .i64 0, .int .i64 0, .int .i64 0, .int .i64 0, .bool false, .string ⟨#[]⟩]
theorem W0 {w w2 : World} {F R C : Obj} (h : Below (((w.alloc F).alloc R).alloc C).heap.size (((w.alloc F).alloc R).alloc C) w2) :
  w.heap.size + 3 ≤ w2.heap.size ∧ Below w.heap.size w w2 ∧ w2.heap[w.heap.size]? = some F ∧ w2.heap[w.heap.size + 1]? = some R ∧ w2.heap[w.heap.size + 1 + 1]? = some C := by
 have hs : (((w.alloc F).alloc R).alloc C).heap.size = w.heap.size + 3 := by simp only [World.alloc, Array.size_push]
 refine ⟨hs ▸ h.size, ((((Below.refl _ w).alloc (Nat.le_refl _) _).alloc (by simp) _).alloc (by simp; omega) _).trans (h.mono (by omega)), ?_, ?_, ?_⟩
 ·rw [h.block _ (by omega), LY]
 ·rw [h.block _ (by omega)]
  simp only [World.alloc]
  rw [Array.getElem?_push_lt (by simp)]
  rw [Array.getElem_push]
  simp
 ·rw [h.block _ (by omega)]
  simp only [World.alloc]
  have : w.heap.size + 1 + 1 = ((w.heap.push F).push R).size := by simp
  rw [this, Array.getElem?_push_size]
structure Ih (B g : Nat) (F cur : Array Value) (cm : Command) (w : World) : Prop where
 lt : B + 3 ≤ g
 hF : w.heap[B]? = some (.cells F 95 (0, 0))
 hR : w.heap[B + 1]? = some (.cells X7 42 (0, 0))
 hC : w.heap[B + 1 + 1]? = some (.cells (Lk cm) 42 (0, 0))
 hG : w.heap[g]? = some (.cells cur 99 (0, 0))
theorem lt_of_heap {w : World} {b : Nat} {o : Obj} (h : w.heap[b]? = some o) : b < w.heap.size := by
 rcases Nat.lt_or_ge b w.heap.size with h' | h'
 ·exact h'
 ·rw [Array.getElem?_eq_none h'] at h; cases h
theorem Ih.kept {B g : Nat} {F cur : Array Value} {cm : Command} {w w' : World} (h : Ih B g F cur cm w) (hb : Below w.heap.size w w') : Ih B g F cur cm w' :=
 ⟨h.lt, (hb.block _ (lt_of_heap h.hF)).trans h.hF, (hb.block _ (lt_of_heap h.hR)).trans h.hR, (hb.block _ (lt_of_heap h.hC)).trans h.hC, (hb.block _ (lt_of_heap h.hG)).trans h.hG⟩
theorem Ih.put {B g : Nat} {F cur : Array Value} {cm cm' : Command} {w : World} (h : Ih B g F cur cm w) {o : Nat} {v : Value} (he : (Lk cm).setIfInBounds o v = Lk cm') : Ih B g F cur cm' (w.setCell ⟨B + 1 + 1, o, none⟩ v) := by
 have := h.lt
 refine ⟨h.lt, ?_, ?_, ?_, ?_⟩
 ·rw [Below.heap_setCell _ _ _ _ (show B ≠ B + 1 + 1 by omega)]; exact h.hF
 ·rw [Below.heap_setCell _ _ _ _ (show B + 1 ≠ B + 1 + 1 by omega)]; exact h.hR
 ·rw [← he]; exact Lib.heap_setCell_same h.hC v
 ·rw [Below.heap_setCell _ _ _ _ (show g ≠ B + 1 + 1 by omega)]; exact h.hG
theorem Df {B b : Nat} {w w2 : World} (h : Below B w w2) (hB : B ≤ b) (v0 v1 v2 v3 v4 v5 : Value) : Below B w ((((((w2.setCell ⟨b, 0, none⟩ v0).setCell ⟨b, 1, none⟩ v1).setCell ⟨b, 2, none⟩ v2).setCell ⟨b, 3, none⟩ v3).setCell ⟨b, 4, none⟩ v4).setCell ⟨b, 5, none⟩ v5) :=
 (((((h.setCell (p := ⟨b, 0, none⟩) hB v0).setCell (p := ⟨b, 1, none⟩) hB v1).setCell (p := ⟨b, 2, none⟩) hB v2).setCell (p := ⟨b, 3, none⟩) hB v3).setCell (p := ⟨b, 4, none⟩) hB v4).setCell (p := ⟨b, 5, none⟩) hB v5
theorem DZ {b : Nat} {w2 : World} {T : TypeId} {fr : Nat × Nat} {a0 a1 a2 a3 a4 a5 : Value} (h : w2.heap[b]? = some (.cells #[a0, a1, a2, a3, a4, a5] T fr)) (v0 v1 v2 v3 v4 v5 : Value) :
  ((((((w2.setCell ⟨b, 0, none⟩ v0).setCell ⟨b, 1, none⟩ v1).setCell ⟨b, 2, none⟩ v2).setCell ⟨b, 3, none⟩ v3).setCell ⟨b, 4, none⟩ v4).setCell ⟨b, 5, none⟩ v5).heap[b]? = some (.cells #[v0, v1, v2, v3, v4, v5] T fr) :=
 Lib.heap_setCell_same (Lib.heap_setCell_same (Lib.heap_setCell_same (Lib.heap_setCell_same (Lib.heap_setCell_same (Lib.heap_setCell_same h v0) v1) v2) v3) v4) v5
theorem E6 {fn : Func} {p u : Tmp} (h : fn.results = #[.cell p 42, .tmp u]) {tmps : Array Value} {w : World} {b : Nat} (hp : tmps.getD p undef = .pointer (some ⟨b, 0, none⟩)) {v0 v1 v2 v3 v4 v5 : Value} (hb : w.heap[b]? = some (.cells #[v0, v1, v2, v3, v4, v5] 42 (0, 0))) :
  (results fn tmps).run prog w = .ok (.tuple #[.agg #[v0, v1, v2, v3, v4, v5], tmps.getD u undef]) w := by
 have hld := run_loadVar_row (P := prog) w b 42 42 #[v0, v1, v2, v3, v4, v5] (0, 0) _ hb underlying42 rfl (by kernel_rfl)
 rw [results_cell_tmp h, hp]
 simp [asAddr, Result.andThen, hld]
theorem Ih.L2 {B g : Nat} {F cur : Array Value} {cm : Command} {w : World} (h : Ih B g F cur cm w) :
  (w.cell? ⟨B + 1, 0, none⟩ = some (.int .i64 0) ∧ w.cell? ⟨B + 1, 1, none⟩ = some (.int .i64 0) ∧ w.cell? ⟨B + 1, 2, none⟩ = some (.int .i64 0) ∧ w.cell? ⟨B + 1, 3, none⟩ = some (.int .i64 0) ∧ w.cell? ⟨B + 1, 4, none⟩ = some (.bool false) ∧ w.cell? ⟨B + 1, 5, none⟩ = some (.string ⟨#[]⟩)) ∧
  (w.frozen? ⟨B + 1, 0, none⟩ = false ∧ w.frozen? ⟨B + 1, 1, none⟩ = false ∧ w.frozen? ⟨B + 1, 2, none⟩ = false ∧ w.frozen? ⟨B + 1, 3, none⟩ = false ∧ w.frozen? ⟨B + 1, 4, none⟩ = false ∧ w.frozen? ⟨B + 1, 5, none⟩ = false) := by
 have c := Lib.cell_of_heap h.hR
 refine ⟨⟨?_, ?_, ?_, ?_, ?_, ?_⟩, Lib.frozen_of_heap h.hR 0, Lib.frozen_of_heap h.hR 1, Lib.frozen_of_heap h.hR 2, Lib.frozen_of_heap h.hR 3, Lib.frozen_of_heap h.hR 4, Lib.frozen_of_heap h.hR 5⟩ <;> rw [c] <;> rfl
theorem Ih.EI {B g : Nat} {F cur : Array Value} {cm : Command} {w : World} (h : Ih B g F cur cm w) :
  w.cell? ⟨B + 1 + 1, 0, none⟩ = some (.int .i64 cm.1) ∧ w.cell? ⟨B + 1 + 1, 1, none⟩ = some (.int .i64 cm.2.1) ∧ w.cell? ⟨B + 1 + 1, 2, none⟩ = some (.int .i64 cm.2.2.1) ∧ w.cell? ⟨B + 1 + 1, 3, none⟩ = some (.int .i64 cm.2.2.2.1) ∧ w.cell? ⟨B + 1 + 1, 4, none⟩ = some (.bool cm.2.2.2.2.1) ∧ w.cell? ⟨B + 1 + 1, 5, none⟩ = some (.string ⟨(cm.2.2.2.2.2 : Bs).toArray⟩) := by
 have c := Lib.cell_of_heap h.hC
 refine ⟨?_, ?_, ?_, ?_, ?_, ?_⟩ <;> rw [c] <;> rfl
theorem Rf {b c : Bool} {k o : Nat} (h : (Bc b c)[k]? = some o) : o = 1 ∨ o = 2 ∨ o = 3 := by
 have := List.mem_of_getElem? h
 cases b <;> cases c <;> simp [Bc] at this <;> omega
theorem Ih.Pv {B g : Nat} {F cur : Array Value} {cm : Command} {w : World} (h : Ih B g F cur cm w) {o : Nat} (ho : o = 1 ∨ o = 2 ∨ o = 3) : ∃ m, w.cell? ⟨B + 1 + 1, o, none⟩ = some (.int .i64 m) ∧ w.frozen? ⟨B + 1 + 1, o, none⟩ = false := by
 obtain ⟨_, c1, c2, c3, _, _⟩ := h.EI
 rcases ho with rfl | rfl | rfl
 ·exact ⟨_, c1, Lib.frozen_of_heap h.hC 1⟩
 ·exact ⟨_, c2, Lib.frozen_of_heap h.hC 2⟩
 ·exact ⟨_, c3, Lib.frozen_of_heap h.hC 3⟩
theorem Qy {wd : Bs} {kd : Int} {dn b c tx : Bool} {ns : List Int} {n : Int} {t : Bs} {o : Nat} (h : (Bc b c)[ns.length]? = some o) :
  (Lk (D5 (wd, (kd, (dn, (b, (c, tx))))) ns t)).setIfInBounds o (.int .i64 n) = Lk (D5 (wd, (kd, (dn, (b, (c, tx))))) (ns ++ [n]) t) := by
 match ns, h with
 | [], h =>
  have : o = 1 := by cases b <;> cases c <;> simp [Bc] at h <;> omega
  subst this
  cases b <;> cases c <;> rfl
 | [x], h =>
  cases b <;> cases c <;> simp [Bc] at h <;> subst h <;> rfl
 | [x, y], h =>
  cases b <;> cases c <;> simp [Bc] at h <;> subst h <;> rfl
 | _ :: _ :: _ :: _, h =>
  exfalso
  cases b <;> cases c <;> simp [Bc] at h
theorem P7 {l : List Bs} {k : Nat} {s : Bs} {ns : List Int} (hk : l[k]? = some s) (h : CV (l.take k) = some ns) (hv : HD s = none) : CV l = none := by
 have e : l.take (k + 1) = l.take k ++ [s] := by rw [List.take_add_one, hk]; rfl
 rw [← List.take_append_drop (k + 1) l]
 refine MG _ _ ?_
 rw [e, IQ, h, hv]
 rfl
theorem P8 {l : List Bs} {k : Nat} {s : Bs} {ns : List Int} {n : Int} (hk : l[k]? = some s) (h : CV (l.take k) = some ns) (hv : HD s = some n) : CV (l.take (k + 1)) = some (ns ++ [n]) := by
 have e : l.take (k + 1) = l.take k ++ [s] := by rw [List.take_add_one, hk]; rfl
 rw [e, IQ, h, hv]
 rfl
set_option maxHeartbeats 4000000 in
set_option maxRecDepth 1000000 in
theorem Rv (hN : Gl (Pg.of prog)) (wd : Bs) (kd : Int) (dn b c tx : Bool) (l : List Bs) (hl : l.length ≤ 1000000) (hs : ∀ s ∈ l, s.length ≤ 1000000) (a : Option Addr) (cp : Nat) (hcp : l.length ≤ cp) (w : World) (hw : Late (Pg.of prog) w) (hv : Ui w a l) :
  Calls prog 57 #[.agg #[.string ⟨wd.toArray⟩, .int .i64 kd, .bool dn, .bool b, .bool c, .bool tx], .slice a l.length cp] w fun e w' => e = .returned (.tuple #[.agg (Lk (EG (wd, (kd, (dn, (b, (c, tx))))) l).1), .bool (EG (wd, (kd, (dn, (b, (c, tx))))) l).2]) ∧ Below w.heap.size w w' := by
 generalize hrf : EG (wd, (kd, (dn, (b, (c, tx))))) l = RF
 go_enter func57, ntmps57
 go_wp2_with (go_at_call 54; refine (N0 wd kd dn b c tx _ _).mono ?_)
 rintro e w2 ⟨v, rfl, own, b2⟩
 obtain ⟨z2, bb, hF, hR, hC⟩ := W0 b2
 obtain ⟨g, cap, cur, rfl, hg, hG, hcur⟩ : ∃ g cap cur, v = .slice (some ⟨g, 0, none⟩) (Bc b c).length cap ∧ w.heap.size + 3 ≤ g ∧ w2.heap[g]? = some (.cells cur 99 (0, 0)) ∧ cur.toList.take (Bc b c).length = (Bc b c).map (Tt (w.heap.size + 1 + 1)) := by
  rcases own.2 with ⟨_, hn⟩ | ⟨g, cap, cur, hv, hg, hG, _, _, _, htk⟩
  ·exact absurd hn (by simp [Bc])
  ·exact ⟨g, cap, cur, hv, by simpa using hg, hG, by simpa using htk⟩
 have hI : Ih w.heap.size g #[.string ⟨wd.toArray⟩, .int .i64 kd, .bool dn, .bool b, .bool c, .bool tx] cur (kd, (0, (0, (0, (dn, []))))) w2 := ⟨hg, hF, hR, hC, hG⟩
 have cF := Lib.cell_of_heap hF
 have c5 : w2.cell? ⟨w.heap.size, 5, none⟩ = some (.bool tx) := by rw [cF]; rfl
 have cR := Lib.cell_of_heap hR
 have r0 : w2.cell? ⟨w.heap.size + 1, 0, none⟩ = some (.int .i64 0) := by rw [cR]; rfl
 have r1 : w2.cell? ⟨w.heap.size + 1, 1, none⟩ = some (.int .i64 0) := by rw [cR]; rfl
 have r2 : w2.cell? ⟨w.heap.size + 1, 2, none⟩ = some (.int .i64 0) := by rw [cR]; rfl
 have r3 : w2.cell? ⟨w.heap.size + 1, 3, none⟩ = some (.int .i64 0) := by rw [cR]; rfl
 have r4 : w2.cell? ⟨w.heap.size + 1, 4, none⟩ = some (.bool false) := by rw [cR]; rfl
 have r5 : w2.cell? ⟨w.heap.size + 1, 5, none⟩ = some (.string ⟨#[]⟩) := by rw [cR]; rfl
 have q0 : w2.frozen? ⟨w.heap.size + 1, 0, none⟩ = false := Lib.frozen_of_heap hR 0
 have q1 : w2.frozen? ⟨w.heap.size + 1, 1, none⟩ = false := Lib.frozen_of_heap hR 1
 have q2 : w2.frozen? ⟨w.heap.size + 1, 2, none⟩ = false := Lib.frozen_of_heap hR 2
 have q3 : w2.frozen? ⟨w.heap.size + 1, 3, none⟩ = false := Lib.frozen_of_heap hR 3
 have q4 : w2.frozen? ⟨w.heap.size + 1, 4, none⟩ = false := Lib.frozen_of_heap hR 4
 have q5 : w2.frozen? ⟨w.heap.size + 1, 5, none⟩ = false := Lib.frozen_of_heap hR 5
 clear own b2 cF cR
 cases tx with
 | false =>
  have hrn : F0 (wd, (kd, (dn, (b, (c, false))))) l [] = RF := by rw [← hrf]; rfl
  clear hrf
  by_cases hn : l.length = (Bc b c).length
  ·go_wp2
   clear r0 r1 r2 r3 r4 r5 q0 q1 q2 q3 q4 q5 c5 hR hC hF hG
   go_loopw [46] (fun i wr => ∃ k : Nat, k ≤ l.length ∧ i = .int .i64 k ∧ (∃ ns, CV (l.take k) = some ns ∧ Ih w.heap.size g #[.string ⟨wd.toArray⟩, .int .i64 kd, .bool dn, .bool b, .bool c, .bool false] cur (D5 (wd, (kd, (dn, (b, (c, false))))) ns []) wr) ∧ Below w.heap.size w wr) (fun i _ => l.length - (Lib.intOf i).toNat)
   case atStart => exact ⟨0, by omega, rfl, ⟨[], rfl, by cases b <;> cases c <;> exact hI⟩, bb⟩
   case round =>
    obtain ⟨k, hk, hi, ⟨ns, hns, hR⟩, hbw⟩ := hrel
    subst hi
    have hlate : Late (Pg.of prog) wr := hw.of hbw
    have hnl := H9 hns
    rw [List.length_take, Nat.min_eq_left hk] at hnl
    by_cases hks : k < l.length
    ·obtain ⟨ba, off, rfl, hba, x0⟩ := hv.at_ k l[k] (List.getElem?_eq_getElem hks)
     have c0 := (hbw.cell (p := ⟨ba, off + k, none⟩) hba).trans x0
     have hsk : l[k]? = some l[k] := List.getElem?_eq_getElem hks
     have hsl := hs l[k] (List.getElem_mem hks)
     generalize l[k] = s at c0 hsk hsl
     go_wp2_with (go_at_call 76; refine (JE hN s hsl _ hlate).mono ?_)
     rintro e W2 ⟨rfl, b4⟩
     have hR2 := hR.kept b4
     have bw2 : Below w.heap.size w W2 := hbw.trans (b4.mono hbw.size)
     clear c0 b4 hR
     obtain ⟨⟨r0, r1, r2, r3, r4, r5⟩, q0, q1, q2, q3, q4, q5⟩ := hR2.L2
     have hnv : HD s = if (Gw (s, 0)).2.2 = true ∧ (Gw (s, 0)).2.1 = s.length then some (Gw (s, 0)).1 else none := rfl
     generalize Gw (s, 0) = r at hnv
     obtain ⟨n, en, ok⟩ := r
     dsimp only at hnv
     by_cases hgood : ok = true ∧ en = s.length
     ·obtain ⟨rfl, rfl⟩ := hgood
      rw [if_pos ⟨rfl, rfl⟩] at hnv
      have hnx := P8 hsk hns hnv
      obtain ⟨o, ho⟩ : ∃ o, (Bc b c)[k]? = some o := ⟨_, List.getElem?_eq_getElem (by omega)⟩
      obtain ⟨mv, cm, fm⟩ := hR2.Pv (Rf ho)
      have cg : W2.cell? ⟨g, k, none⟩ = some (.pointer (some ⟨w.heap.size + 1 + 1, o, none⟩)) := by
       rw [Lib.cell_of_heap hR2.hG]
       have h1 := congrArg (fun z => z[k]?) hcur
       simp only [List.getElem?_take, List.getElem?_map, ho, Option.map_some] at h1
       rw [if_pos (by omega)] at h1
       simpa [Tt] using h1
      have ho2 := ho
      rw [← hnl] at ho2
      have hput := hR2.put (o := o) (v := .int .i64 n) (Qy (n := n) ho2)
      clear r0 r1 r2 r3 r4 r5 q0 q1 q2 q3 q4 q5
      go_wp2
      refine ⟨⟨k + 1, by omega, by simp, ⟨ns ++ [n], hnx, hput⟩, bw2.setCell (p := ⟨w.heap.size + 1 + 1, o, none⟩) (by simp only; omega) _⟩, ?_⟩
      simp only [Lib.intOf]
      omega
     ·rw [if_neg hgood] at hnv
      have hz : RF = (Da, false) := by rw [← hrn]; simp [F0, hn, P7 hsk hns hnv]
      clear hrn
      subst hz
      cases ok with
      | false =>
       go_wp2
       (try simp only [Exit.inBlock, Exit.then])
       exact bodyPost_ret (E6 rfl rfl (DZ hR2.hR _ _ _ _ _ _)) rfl ⟨rfl, Df bw2 (by omega) _ _ _ _ _ _⟩
      | true =>
       have hne : ¬ en = s.length := fun h => hgood ⟨rfl, h⟩
       go_wp2
       (try simp only [Exit.inBlock, Exit.then])
       exact bodyPost_ret (E6 rfl rfl (DZ hR2.hR _ _ _ _ _ _)) rfl ⟨rfl, Df bw2 (by omega) _ _ _ _ _ _⟩
    ·have hke : k = l.length := by omega
     subst hke
     rw [List.take_length] at hns
     have hz : RF = (D5 (wd, (kd, (dn, (b, (c, false))))) ns [], true) := by rw [← hrn]; simp [F0, hn, hns]
     clear hrn
     generalize D5 (wd, (kd, (dn, (b, (c, false))))) ns [] = CM at hz hR
     subst hz
     obtain ⟨⟨r0, r1, r2, r3, r4, r5⟩, q0, q1, q2, q3, q4, q5⟩ := hR.L2
     obtain ⟨c0, c1, c2, c3, c4, c5⟩ := hR.EI
     obtain ⟨z0, z1, z2', z3, z4, z5⟩ := CM
     dsimp only at c0 c1 c2 c3 c4 c5
     go_wp2
     (try simp only [Exit.inBlock, Exit.then])
     exact bodyPost_ret (E6 rfl rfl (DZ hR.hR _ _ _ _ _ _)) rfl ⟨rfl, Df hbw (by omega) _ _ _ _ _ _⟩
  ·have hz : RF = (Da, false) := by rw [← hrn]; simp [F0, hn]
   clear hrn
   subst hz
   go_wp2
   (try simp only [Exit.inBlock, Exit.then])
   exact bodyPost_ret (E6 rfl rfl (DZ hR _ _ _ _ _ _)) rfl ⟨rfl, Df bb (by omega) _ _ _ _ _ _⟩
 | true =>
  match hlen0 : l.length with
  | 0 =>
   have hl0 : l = [] := List.eq_nil_of_length_eq_zero hlen0
   have hz : RF = (Da, false) := by rw [← hrf, hl0]; rfl
   clear hrf
   subst hz
   go_wp2
   (try simp only [Exit.inBlock, Exit.then])
   exact bodyPost_ret (E6 rfl rfl (DZ hR _ _ _ _ _ _)) rfl ⟨rfl, Df bb (by omega) _ _ _ _ _ _⟩
  | m + 1 =>
   obtain ⟨s0, hs0⟩ : ∃ s0, l[m]? = some s0 := ⟨_, List.getElem?_eq_getElem (by omega)⟩
   obtain ⟨l2, hl2⟩ : ∃ l2, l2 = l.take m := ⟨_, rfl⟩
   have hlen : l2.length = m := by rw [hl2, List.length_take]; omega
   have hrn : F0 (wd, (kd, (dn, (b, (c, true))))) l2 s0 = RF := by
    rw [← hrf]
    unfold EG
    rw [if_pos rfl, if_neg (by intro h; rw [h] at hlen0; cases hlen0), hlen0, show m + 1 - 1 = m from rfl, ← hl2]
    congr 1
    rw [List.getD_eq_getElem?_getD, hs0]
    rfl
   clear hrf
   have hv2 : Ui w a l2 := ⟨fun k s hk => hv.at_ k s (by
    rw [hl2, List.getElem?_take] at hk
    split at hk
    ·exact hk
    ·cases hk)⟩
   have hs2 : ∀ s ∈ l2, s.length ≤ 1000000 := fun s hm => hs s (List.mem_of_mem_take (hl2 ▸ hm))
   have hm6 : m ≤ 1000000 := by omega
   have hcp2 : m ≤ cp := by omega
   have hm0 : (((m : Int) + 1) == 0) = false := by rw [beq_eq_false_iff_ne]; omega
   obtain ⟨ba0, off0, rfl, hba0, x00⟩ := hv.at_ m s0 hs0
   have x01 := (bb.cell (p := ⟨ba0, off0 + m, none⟩) hba0).trans x00
   have k5 : w2.cell? ⟨w.heap.size + 1 + 1, 5, none⟩ = some (.string ⟨#[]⟩) := by rw [Lib.cell_of_heap hC]; rfl
   have p5 : w2.frozen? ⟨w.heap.size + 1 + 1, 5, none⟩ = false := Lib.frozen_of_heap hC 5
   have hI2 : Ih w.heap.size g #[.string ⟨wd.toArray⟩, .int .i64 kd, .bool dn, .bool b, .bool c, .bool true] cur (kd, (0, (0, (0, (dn, s0))))) (w2.setCell ⟨w.heap.size + 1 + 1, 5, none⟩ (.string ⟨(s0 : Bs).toArray⟩)) := hI.put rfl
   have bb2 : Below w.heap.size w (w2.setCell ⟨w.heap.size + 1 + 1, 5, none⟩ (.string ⟨(s0 : Bs).toArray⟩)) := bb.setCell (p := ⟨w.heap.size + 1 + 1, 5, none⟩) (by simp only; omega) _
   clear r0 r1 r2 r3 r4 r5 q0 q1 q2 q3 q4 q5 hR hC hF hG hs hv hs0 x00
   by_cases hn : (Bc b c).length = m
   ·go_wp2
    clear k5 p5 x01 c5 hI
    go_loopw [46] (fun i wr => ∃ k : Nat, k ≤ m ∧ i = .int .i64 k ∧ (∃ ns, CV (l2.take k) = some ns ∧ Ih w.heap.size g #[.string ⟨wd.toArray⟩, .int .i64 kd, .bool dn, .bool b, .bool c, .bool true] cur (D5 (wd, (kd, (dn, (b, (c, true))))) ns s0) wr) ∧ Below w.heap.size w wr) (fun i _ => m - (Lib.intOf i).toNat)
    case atStart => exact ⟨0, by omega, rfl, ⟨[], rfl, by cases b <;> cases c <;> exact hI2⟩, bb2⟩
    case round =>
     obtain ⟨k, hk, hi, ⟨ns, hns, hR⟩, hbw⟩ := hrel
     subst hi
     have hlate : Late (Pg.of prog) wr := hw.of hbw
     have hnl := H9 hns
     rw [List.length_take, hlen, Nat.min_eq_left hk] at hnl
     by_cases hks : k < m
     ·obtain ⟨ba, off, hab, hba, x0⟩ := hv2.at_ k l2[k] (List.getElem?_eq_getElem (by omega))
      cases hab
      have c0 := (hbw.cell (p := ⟨ba0, off0 + k, none⟩) hba).trans x0
      have hsk : l2[k]? = some l2[k] := List.getElem?_eq_getElem (by omega)
      have hsl := hs2 l2[k] (List.getElem_mem (by omega))
      generalize l2[k] = s at c0 hsk hsl
      go_wp2_with (go_at_call 76; refine (JE hN s hsl _ hlate).mono ?_)
      rintro e W2 ⟨rfl, b4⟩
      have hR2 := hR.kept b4
      have bw2 : Below w.heap.size w W2 := hbw.trans (b4.mono hbw.size)
      clear c0 b4 hR
      obtain ⟨⟨r0, r1, r2, r3, r4, r5⟩, q0, q1, q2, q3, q4, q5⟩ := hR2.L2
      have hnv : HD s = if (Gw (s, 0)).2.2 = true ∧ (Gw (s, 0)).2.1 = s.length then some (Gw (s, 0)).1 else none := rfl
      generalize Gw (s, 0) = r at hnv
      obtain ⟨n, en, ok⟩ := r
      dsimp only at hnv
      by_cases hgood : ok = true ∧ en = s.length
      ·obtain ⟨rfl, rfl⟩ := hgood
       rw [if_pos ⟨rfl, rfl⟩] at hnv
       have hnx := P8 hsk hns hnv
       obtain ⟨o, ho⟩ : ∃ o, (Bc b c)[k]? = some o := ⟨_, List.getElem?_eq_getElem (by omega)⟩
       obtain ⟨mv, cm, fm⟩ := hR2.Pv (Rf ho)
       have cg : W2.cell? ⟨g, k, none⟩ = some (.pointer (some ⟨w.heap.size + 1 + 1, o, none⟩)) := by
        rw [Lib.cell_of_heap hR2.hG]
        have h1 := congrArg (fun z => z[k]?) hcur
        simp only [List.getElem?_take, List.getElem?_map, ho, Option.map_some] at h1
        rw [if_pos (by omega)] at h1
        simpa [Tt] using h1
       have ho2 := ho
       rw [← hnl] at ho2
       have hput := hR2.put (o := o) (v := .int .i64 n) (Qy (n := n) ho2)
       clear r0 r1 r2 r3 r4 r5 q0 q1 q2 q3 q4 q5
       go_wp2
       go_roundw
       case rel => exact ⟨k + 1, by omega, by simp, ⟨ns ++ [n], hnx, hput⟩, bw2.setCell (p := ⟨w.heap.size + 1 + 1, o, none⟩) (by simp only; omega) _⟩
       case measure =>
        simp only [Lib.intOf]
        omega
      ·rw [if_neg hgood] at hnv
       have hz : RF = (Da, false) := by rw [← hrn]; simp [F0, hlen, hn, P7 hsk hns hnv]
       clear hrn
       subst hz
       cases ok with
       | false =>
        go_wp2
        (try simp only [Exit.inBlock, Exit.then])
        exact bodyPost_ret (E6 rfl rfl (DZ hR2.hR _ _ _ _ _ _)) rfl ⟨rfl, Df bw2 (by omega) _ _ _ _ _ _⟩
       | true =>
        have hne : ¬ en = s.length := fun h => hgood ⟨rfl, h⟩
        go_wp2
        (try simp only [Exit.inBlock, Exit.then])
        exact bodyPost_ret (E6 rfl rfl (DZ hR2.hR _ _ _ _ _ _)) rfl ⟨rfl, Df bw2 (by omega) _ _ _ _ _ _⟩
     ·have hke : k = m := by omega
      subst hke
      rw [List.take_of_length_le (by omega)] at hns
      have hz : RF = (D5 (wd, (kd, (dn, (b, (c, true))))) ns s0, true) := by rw [← hrn]; simp [F0, hlen, hn, hns]
      clear hrn
      generalize D5 (wd, (kd, (dn, (b, (c, true))))) ns s0 = CM at hz hR
      subst hz
      obtain ⟨⟨r0, r1, r2, r3, r4, r5⟩, q0, q1, q2, q3, q4, q5⟩ := hR.L2
      obtain ⟨c0, c1, c2, c3, c4, c5⟩ := hR.EI
      obtain ⟨z0, z1, z2', z3, z4, z5⟩ := CM
      dsimp only at c0 c1 c2 c3 c4 c5
      go_wp2
      (try simp only [Exit.inBlock, Exit.then])
      exact bodyPost_ret (E6 rfl rfl (DZ hR.hR _ _ _ _ _ _)) rfl ⟨rfl, Df hbw (by omega) _ _ _ _ _ _⟩
   ·have hz : RF = (Da, false) := by rw [← hrn]; unfold F0; rw [if_neg (by dsimp only; rw [hlen]; exact fun h => hn h.symm)]
    clear hrn
    subst hz
    obtain ⟨⟨r0, r1, r2, r3, r4, r5⟩, q0, q1, q2, q3, q4, q5⟩ := hI2.L2
    have hR2 := hI2.hR
    have hn2 : ¬ m = (Bc b c).length := fun h => hn h.symm
    go_wp2
    (try simp only [Exit.inBlock, Exit.then])
    exact bodyPost_ret (E6 rfl rfl (DZ hR2 _ _ _ _ _ _)) rfl ⟨rfl, Df bb2 (by omega) _ _ _ _ _ _⟩
theorem Wo (hN : Gl (Pg.of prog)) : LO (Pg.of prog) := by
 rintro ⟨⟨wd, kd, dn, b, c, tx⟩, l⟩ hl hs
 refine Fn.N2 (S := AO) rfl rfl ((wd, (kd, (dn, (b, (c, tx))))), l) (EG (wd, (kd, (dn, (b, (c, tx))))) l) () rfl fun f fn hf hn => ?_
 have hfi : f = 57 := Ka (by kernel_rfl) hf hn
 subst hfi
 have hfe := Option.some.inj (hf.symm.trans func57)
 subst hfe
 refine ⟨by kernel_rfl, by kernel_rfl, fun μ sv w vs hsv hw hargs => ?_⟩
 obtain ⟨hsize, hat⟩ := hargs
 have hsv : svs μ dv dl [.agg (Dp.ex .leaf (wd, (kd, (dn, (b, (c, tx)))))), .one (.sl .brw .leaf .str l)] sv := hsv
 match sv, hsv with
 | [s0, s1], ⟨⟨m0, e0, r0⟩, ⟨a1, e1, r1⟩, _⟩ =>
  have r0 := (Hp Dp .leaf rfl (wd, (kd, (dn, (b, (c, tx))))) m0).1 r0
  have r1 : a1 = .sl .brw 1 (l.map (BT.str.enc .leaf)) := r1
  subst e0 e1 r0 r1
  obtain ⟨C0, f0, _, h0⟩ := hat 0 _ rfl
  obtain ⟨C1, f1, _, h1⟩ := hat 1 _ rfl
  obtain ⟨cs, hc0, hc1⟩ := h0
  have hcs := HL hc1
  have hv0 : vs.getD 0 undef = .agg #[.string ⟨wd.toArray⟩, .int .i64 kd, .bool dn, .bool b, .bool c, .bool tx] := by
   rw [hc0]
   have := congrArg List.toArray hcs
   simp only [Array.toArray_toList] at this
   rw [this]
   rfl
  have hlit : ∀ x ∈ l.map (BT.str.enc .leaf), ∀ a ∈ x, ∃ u, a = AV.lit u := by
   intro x hx a ha
   obtain ⟨s, _, rfl⟩ := List.mem_map.1 hx
   have ha : a ∈ [AV.lit (.string ⟨s.toArray⟩)] := ha
   rw [List.mem_singleton.1 ha]
   exact ⟨_, rfl⟩
  have h1 : RV C1 w (.sl .brw 1 (l.map (BT.str.enc .leaf))) (vs.getD 1 undef) f1 := h1
  obtain ⟨hrd, _⟩ := Sv h1 hlit
  obtain ⟨a, cp, hv1, hst⟩ : ∃ a cp, vs.getD 1 undef = .slice a l.length cp ∧ Ui w a l := by
   rcases hrd with ⟨hnil, a, cp, hv⟩ | ⟨bb, off, cp, hv, hb, hc⟩
   ·have hnil : l = [] := by simpa using hnil
    subst hnil
    exact ⟨a, cp, hv, ⟨fun k s hk => by simp at hk⟩⟩
   ·exact ⟨some ⟨bb, off, none⟩, cp, by simpa using hv, ⟨fun k s hk => ⟨bb, off, rfl, hb, hc k _ (Ks l hk)⟩⟩⟩
  rw [hv1] at h1
  have hcp := Xu h1
  have hvs : vs = #[.agg #[.string ⟨wd.toArray⟩, .int .i64 kd, .bool dn, .bool b, .bool c, .bool tx], .slice a l.length cp] := by
   apply Array.ext
   ·simpa using hsize
   ·intro i hi1 hi2
    have hi : i = 0 ∨ i = 1 := by simp at hi2; omega
    rcases hi with rfl | rfl
    ·have : vs.getD 0 undef = vs[0] := by simp [hi1]
     rw [← this, hv0]; rfl
    ·have : vs.getD 1 undef = vs[1] := by simp [hi1]
     rw [← this, hv1]; rfl
  subst hvs
  exact Rv hN wd kd dn b c tx l hl hs a cp hcp w hw hst
end Go.Proofs.Tryd
