/- regex.Parse, walked: what its deferred closure does. -/
import Derived.Test.YtbandpkgjepklaaFwD
import Derived.Test.YtbandpkgjepklaaKS0
import Derived.Tactics2
import Derived.Defers
import Derived.Recover
import Derived.WalkKit
import Derived.Laws.Pointers
import Derived.Laws.Externs
import Derived.Test.YtbandpkgjepklaaChecked
set_option linter.unusedVariables false
set_option linter.unusedSimpArgs false
open Array renaming getElem?_push → Qa0, size_push → Qa1
open Nat renaming le_refl → Qa2
namespace Go.Proofs.Try
open Go.RowKit Go.VS
theorem Aak (v : Value) (w : World) : (Instr.typeAssert (.iface 26 v) 20 26 true).run prog w = .ok (.tuple #[v, .bool true]) w := by kernel_rfl
theorem Aaj (w : World) : (Instr.typeAssert .nilIface 20 26 true).run prog w = .ok (.tuple #[.int .i64 0, .bool false]) w := by kernel_rfl
set_option maxHeartbeats 1000000 in
set_option maxRecDepth 100000 in
theorem OM (p q : Addr) (x y : Value) (c : Int) (w : World) (hp : w.cell? p = some x) (hpz : w.frozen? p = false) (hq : w.cell? q = some y) (hqz : w.frozen? q = false) (hne : q ≠ p) :
  CallsD prog 32 #[.pointer (some p), .pointer (some q)] (.panicking [{ v := .iface 26 (.int .i64 c), recovered := false }]) w fun e u' w' =>
   e = .returned (.tuple #[]) ∧ u' = .panicking [{ v := .iface 26 (.int .i64 c), recovered := true }] ∧ w' = (w.setCell p (.slice none 0 0)).setCell q (.int .i64 c) := by
 refine callsD_of_wpS func32 rfl fun c₀ cs hu => ?_
 apply wpS_seq; apply wpS_region; simp [wpOpsS, go_sem, recoverD, hu, ntmps32, Exit.thenS, Aak]; apply wpS_seq; apply wpS_region; simp [wpOpsS, go_sem, ntmps32, Exit.thenS]; refine wpS_cond (t := true) (by simp [Act.eval, Array.replicate]) ?_; simp only [if_true]; apply wpS_region; have h1 : (w.setCell p (.slice none 0 0)).cell? q = some y := (World.cell?_setCell_other w p q _ hne.symm).trans hq
 have h2 : (w.setCell p (.slice none 0 0)).frozen? q = false := by simp [go_sem, hqz]
 simp [wpOpsS, go_sem, hp, hpz, h1, h2, bodyPostS, results, results32]
theorem UM (p q : Addr) (w : World) :
  CallsD prog 32 #[.pointer (some p), .pointer (some q)] .returning w fun e u' w' => e = .returned (.tuple #[]) ∧ u' = .returning ∧ w' = w := by
 refine callsD_of_wpS func32 rfl fun c₀ cs hu => ?_
 apply wpS_seq; apply wpS_region; simp [wpOpsS, go_sem, recoverD, hu, ntmps32, Exit.thenS, Aaj]; apply wpS_seq; apply wpS_region; simp [wpOpsS, go_sem, ntmps32, Exit.thenS]; refine wpS_cond (t := false) (by simp [Act.eval, Array.replicate]) ?_; simp only [Bool.false_eq_true, if_false]; refine wpS_of_wp (wp_skip ?_); cases c₀; simp_all [bodyPostS, results, results32]
def Zr (s : Bs) : Value → Prop := fun v => ∃ c, Mo s = .error c ∧ v = Kl c
def QW (w : World) (s : Bs) (e : Ending) (w' : World) : Prop := Below w.heap.size w w' ∧ ∃ (ns : Value) (f : List Nat) (z : Nat → Prop), e = .returned (.tuple #[ns, .int .i64 (D4 s).2]) ∧
 RVs (hctx prog z) w' ((BT.sl Fc).enc (.node .own (.pair .leaf (.pair .leaf (.pair .leaf (.pair .leaf (.node .imm .leaf)))))) (D4 s).1) [ns] f ∧ f.Nodup ∧ (∀ b ∈ f, w.heap.size ≤ b ∧ b < w'.heap.size ∧ ¬ z b) ∧ (∀ b, z b → w.heap.size ≤ b ∧ b < w'.heap.size)
def pvS (s : Bs) : Value := .string (ByteArray.mk s.toArray)
def W3 (w : World) (s : Bs) : World := ((w.alloc (Obj.cells #[Value.slice none 0 0] 25)).alloc (Obj.cells #[Value.int IntKind.i64 0] 26)).alloc (Obj.cells #[pvS s, Value.int IntKind.i64 0, Value.int IntKind.i64 0, Value.slice none 0 0] 68)
theorem NB (w : World) (s : Bs) : (W3 w s).heap.size = w.heap.size + 3 := by simp only [W3, World.alloc, Qa1]
theorem YY (w : World) (s : Bs) {b : Nat} (h : b < w.heap.size) : (W3 w s).heap[b]? = w.heap[b]? := by
 simp only [W3, World.alloc]; rw [Qa0, if_neg (by rw [Qa1, Qa1]; omega), Qa0, if_neg (by rw [Qa1]; omega), Qa0, if_neg (by omega)]
theorem AaW (w : World) (s : Bs) : (W3 w s).heap[w.heap.size]? = some (Obj.cells #[Value.slice none 0 0] 25 (0, 0)) := by
 simp only [W3, World.alloc]; rw [Qa0, if_neg (by rw [Qa1, Qa1]; omega), Qa0, if_neg (by rw [Qa1]; omega), Qa0, if_pos rfl]
theorem AaX (w : World) (s : Bs) : (W3 w s).heap[w.heap.size + 1]? = some (Obj.cells #[Value.int IntKind.i64 0] 26 (0, 0)) := by
 simp only [W3, World.alloc]; rw [Qa0, if_neg (by rw [Qa1, Qa1]; omega), Qa0, if_pos (by rw [Qa1])]
theorem AaY (w : World) (s : Bs) : (W3 w s).heap[w.heap.size + 2]? = some (Obj.cells #[pvS s, Value.int IntKind.i64 0, Value.int IntKind.i64 0, Value.slice none 0 0] 68 (0, 0)) := by
 simp only [W3, World.alloc]; rw [Qa0, if_pos (by rw [Qa1, Qa1])]
theorem Abz (w : World) (s : Bs) : (W3 w s).os = w.os ∧ (W3 w s).tape = w.tape ∧ (W3 w s).output = w.output := ⟨rfl, rfl, rfl⟩
abbrev NTT : TT := .node .own (.pair .leaf (.pair .leaf (.pair .leaf (.pair .leaf (.node .imm .leaf)))))
structure Aae (w : World) (s : Bs) (e : Ending) (w' : World) : Prop where
 old : ∀ b', b' < w.heap.size + 2 → w'.heap[b']? = (W3 w s).heap[b']?
 os : w'.os = w.os
 tape : w'.tape = w.tape
 out : w'.output = w.output
 size : w.heap.size + 3 ≤ w'.heap.size
 res : (∃ (v : Value) (k : Int) (b : Nat) (l : List Go.VS.Node) (nv : Value) (f' : List Nat) (z : Nat → Prop) (ty' : TypeId), Mo s = .ok (k, (b, l)) ∧ e = .returned v ∧
   w'.heap[w.heap.size + 2]? = some (.cells #[pvS s, .int .i64 b, .int .i64 0, nv] ty' (0, 0)) ∧ RVs (hctx prog z) w' ((BT.sl Fc).enc NTT l) [nv] f' ∧ f'.Nodup ∧
   (∀ b' ∈ f', w.heap.size + 3 ≤ b' ∧ b' < w'.heap.size ∧ ¬ z b') ∧ (∀ b', z b' → w.heap.size + 3 ≤ b' ∧ b' < w'.heap.size)) ∨
  (∃ c : Int, Mo s = .error c ∧ e = .panicked [{ v := Kl c, recovered := false }])
theorem YE (s : Bs) (hpat : Go.VS.Fn ⟨prog, Zr s⟩ Un AQ (PSt s 0 0 []) fun (q : Int) (e : Aa) => OkR s 0 (Mo s) q e) (w : World) (hw : Late (Pg.of prog) w) :
  Calls prog 33 #[.pointer (some ⟨w.heap.size + 2, 0, none⟩)] (W3 w s) (Aae w s) := by
 obtain ⟨lw, hg, hlw⟩ := hw
 have hle : ∀ b', b' < lw.heap.size → b' < w.heap.size := fun b' hb => by
  have := hlw b' hb
  rcases Nat.lt_or_ge b' w.heap.size with h | h
  ·exact h
  ·rw [Array.getElem?_eq_none h, Array.getElem?_eq_getElem hb] at this; cases this
 refine (WA (P := ⟨prog, Zr s⟩) (by rfl) hpat func33 (by kernel_rfl) (F := fun _ => False) (b := w.heap.size + 2) (cs := #[pvS s, .int .i64 0, .int .i64 0, .slice none 0 0]) (ty := 68) (lw := lw) hg ?hlt (AaY w s) ?hcs).mono ?post
 case hlt =>
  intro b' hb'; have h1 := hle b' hb'; exact ⟨by rw [NB]; omega, id, by omega, (YY w s h1).trans (hlw b' hb')⟩
 case hcs =>
  intro C; exact .cons _ _ [] _ _ [] (.lit _ rfl) (.cons _ _ [] _ _ [] (.lit _ rfl) (.cons _ _ [] _ _ [] (.lit _ rfl) (.cons _ _ [] _ _ [] (.slNil _ _) .nil)))
 case post =>
  rintro e w' ⟨hfr, hos, htp, hout, hsz', hres⟩; rw [NB] at hsz'; refine ⟨fun b' hb' => hfr b' (by rw [NB]; omega) id (by omega), hos, htp, hout, hsz', ?_⟩
  rcases hres with ⟨v, rfl, k, e', hok, cs', ty', f', z, hb', hrv, hnd, hnb, hf', hz⟩ | ⟨v, rfl, c, hc, rfl⟩
  ·obtain ⟨b, l, hR, rfl⟩ := hok; have hrv : RVs (hctx prog z) w' (.lit (pvS s) :: .lit (.int .i64 ((b : Nat) : Int)) :: .lit (.int .i64 0) :: (BT.sl Fc).enc NTT l) cs'.toList f' := hrv; obtain ⟨v1, m1, f1, g1, e1, rfl, h1, hrv⟩ := hrv.cons_inv; obtain ⟨v2, m2, f2, g2, rfl, rfl, h2, hrv⟩ := hrv.cons_inv; obtain ⟨v3, m3, f3, g3, rfl, rfl, h3, hrv⟩ := hrv.cons_inv
   obtain ⟨a, ha⟩ : ∃ a, (BT.sl Fc).enc NTT l = [a] := ⟨_, rfl⟩
   rw [ha] at hrv; obtain ⟨nv, rfl, hr⟩ := hrv.BW; have q1 := h1.FA; have q2 := h2.FA; have q3 := h3.FA; have z1 := h1.DV rfl; have z2 := h2.DV rfl; have z3 := h3.DV rfl; subst q1 q2 q3 z1 z2 z3
   have ecs : cs' = #[pvS s, .int .i64 b, .int .i64 0, nv] := by
    have := congrArg List.toArray e1; simpa using this
   subst ecs; refine .inl ⟨v, k, b, l, nv, g3, z, ty', hR, rfl, hb', by rw [ha]; exact RVs.one hr, by simpa using hnd, fun b' hb' => ?_, fun b' hb' => ?_⟩
   ·obtain ⟨q1, q2, q3⟩ := hf' b' (by simpa using hb'); rw [NB] at q2; exact ⟨q2.resolve_left id, q1, q3⟩
   ·obtain ⟨q1, q2, q3⟩ := hz b' hb'; rw [NB] at q2; exact ⟨q2.resolve_left id, q1⟩
  ·exact .inr ⟨c, hc, rfl⟩
theorem TU {w wF : World} {s : Bs} {c : Int} (hp : D4 s = ([], c)) (hb : Below w.heap.size w wF) : QW w s (.returned (.tuple #[.slice none 0 0, .int .i64 c])) wF := by
 refine ⟨hb, .slice none 0 0, [], fun _ => False, by rw [hp], ?_, List.nodup_nil, (fun b hb => nomatch hb), (fun b (hb : False) => hb.elim)⟩; rw [hp]; exact RVs.one (.slNil _ _)
theorem GF {w : World} {b i : Nat} {cs : Array Value} {t : TypeId} (h : w.heap[b]? = some (.cells cs t (0, 0))) : w.frozen? ⟨b, i, none⟩ = false := by
 simp [World.frozen?, h]
theorem AaO {C : Ctx} {w : World} {τ : Tag} {k : Nat} {xs : List (List AV)} {v : Value} {f : List Nat} (h : RV C w (.sl τ k xs) v f) : ∃ a n c, v = .slice a n c := by
 cases h <;> exact ⟨_, _, _, rfl⟩
structure Door (w : World) (w' : World) : Prop where
 h0 : w'.heap[w.heap.size]? = some (Obj.cells #[Value.slice none 0 0] 25 (0, 0))
 h1 : w'.heap[w.heap.size + 1]? = some (Obj.cells #[Value.int IntKind.i64 0] 26 (0, 0))
 bel : Below w.heap.size w w'
theorem Aae.door {w w' : World} {s : Bs} {e : Ending} (h : Aae w s e w') : Door w w' :=
 ⟨(h.old _ (by omega)).trans (AaW w s), (h.old _ (by omega)).trans (AaX w s), ⟨h.os, h.tape, h.out, by have := h.size; omega, fun k hk => (h.old k (by omega)).trans (YY w s hk)⟩⟩
theorem Door.c0 {w w' : World} (h : Door w w') : w'.cell? ⟨w.heap.size, 0, none⟩ = some (.slice none 0 0) := by simp [World.cell?, h.h0]
theorem Door.c1 {w w' : World} (h : Door w w') : w'.cell? ⟨w.heap.size + 1, 0, none⟩ = some (.int .i64 0) := by simp [World.cell?, h.h1]
theorem O0 {w w' : World} {n : Nat} {i j : Nat} (hb : Below w.heap.size w w') (hi : w.heap.size ≤ n) (v : Value) : Below w.heap.size w (w'.setCell ⟨n, i, none⟩ v) :=
 ⟨hb.os, hb.tape, hb.output, by rw [World.size_setCell]; exact hb.size, fun k hk => (heap_setCell_other w' _ k v (by show k ≠ n; omega)).trans (hb.block k hk)⟩
theorem panics {w w' : World} {s : Bs} {c : Int} (hd : Door w w') (hp : D4 s = ([], c)) :
  CallsD prog 32 #[.pointer (some ⟨w.heap.size, 0, none⟩), .pointer (some ⟨w.heap.size + 1, 0, none⟩)] (.panicking [{ v := .iface 26 (.int .i64 c), recovered := false }]) w' fun e u' wF =>
   e = .returned (.tuple #[]) ∧ u' = .panicking [{ v := .iface 26 (.int .i64 c), recovered := true }] ∧ wF.cell? ⟨w.heap.size, 0, none⟩ = some (.slice none 0 0) ∧ wF.cell? ⟨w.heap.size + 1, 0, none⟩ = some (.int .i64 c) ∧ QW w s (.returned (.tuple #[.slice none 0 0, .int .i64 c])) wF := by
 have hne : (⟨w.heap.size + 1, 0, none⟩ : Addr) ≠ ⟨w.heap.size, 0, none⟩ := by
  intro h; have := congrArg Addr.block h; simp at this
 refine (OM ⟨w.heap.size, 0, none⟩ ⟨w.heap.size + 1, 0, none⟩ _ _ c w' hd.c0 (GF hd.h0) hd.c1 (GF hd.h1) hne).mono ?_; rintro e u wF ⟨rfl, rfl, rfl⟩; have a1 := one_setCell (u := .slice none 0 0) hd.h0
 have a2 : (w'.setCell ⟨w.heap.size, 0, none⟩ (.slice none 0 0)).heap[w.heap.size + 1]? = some (Obj.cells #[Value.int IntKind.i64 0] 26 (0, 0)) := (heap_setCell_other w' _ _ _ (by show w.heap.size + 1 ≠ w.heap.size; omega)).trans hd.h1
 have a3 := one_setCell (u := .int .i64 c) a2; have a4 := (heap_setCell_other (w'.setCell ⟨w.heap.size, 0, none⟩ (.slice none 0 0)) ⟨w.heap.size + 1, 0, none⟩ w.heap.size (.int .i64 c) (by show w.heap.size ≠ w.heap.size + 1; omega)).trans a1
 refine ⟨rfl, rfl, by simp [World.cell?, a4], by simp [World.cell?, a3], TU hp (O0 (j := 0) (O0 (j := 0) hd.bel (Qa2 _) _) (by omega) _)⟩
set_option maxHeartbeats 2000000 in
set_option maxRecDepth 100000 in
theorem U7 (s : Bs) (hs : ¬ (s.length : Int) > 256) (hpat : Go.VS.Fn ⟨prog, Zr s⟩ Un AQ (PSt s 0 0 []) fun (q : Int) (e : Aa) => OkR s 0 (Mo s) q e) (w : World) (hw : Late (Pg.of prog) w) :
  Calls prog 12 #[.string (ByteArray.mk s.toArray)] w (QW w s) := by
 have hmf : ∀ (fn : Go.Fn) (first cap : Array Value) (w : World), (Instr.makeFunc fn first cap).run prog w = .ok (.func fn first cap) w := fun _ _ _ _ => rfl
 have hpn : ∀ (t : TypeId) (v : Value) (w : World), (Instr.panic (.iface t v)).run prog w = .halt (.panic (.iface t v)) w := fun _ _ _ => rfl
 have hsz : ((ByteArray.mk s.toArray).size : Int) = s.length := by simp [ByteArray.size]
 have hs' : ¬ ((ByteArray.mk s.toArray).size : Int) > 256 := by rw [hsz]; exact hs
 have hsn : ¬ s.length > 256 := by omega
 have hcall := YE s hpat w hw; unfold W3 pvS at hcall
 go_enter_defers func12, ntmps12
 go_wp2_with (go_at_call 33; refine hcall.mono ?_)
 rintro e w' hP; have hd := hP.door
 rcases hP.res with ⟨v, k, b, l, nv, f', z, ty', hR, rfl, hb', hrv, hnd, hf', hz⟩ | ⟨c, hc, rfl⟩
 ·have c0 := hd.c0; have c1 := hd.c1
  have c2 : w'.cell? ⟨w.heap.size + 2, 1, none⟩ = some (.int .i64 b) := by
   simp [World.cell?, hb']
  obtain ⟨na, nn, nc, rfl⟩ : ∃ a n c, nv = .slice a n c := by
   obtain ⟨u, hu, hr⟩ := RVs.BW (show RVs (hctx prog z) w' [_] [nv] f' from hrv); cases hu; exact AaO hr
  have c3 : w'.cell? ⟨w.heap.size + 2, 3, none⟩ = some (.slice na nn nc) := by
   simp [World.cell?, hb']
  have f0 := GF (i := 0) hd.h0; have f1 := GF (i := 0) hd.h1; have a1 := one_setCell (u := .slice na nn nc) hd.h0; have a2 : (w'.setCell ⟨w.heap.size, 0, none⟩ (.slice na nn nc)).heap[w.heap.size + 1]? = some (Obj.cells #[Value.int IntKind.i64 0] 26 (0, 0)) := (heap_setCell_other w' _ _ _ (by show w.heap.size + 1 ≠ w.heap.size; omega)).trans hd.h1
  have d1 : (w'.setCell ⟨w.heap.size, 0, none⟩ (.slice na nn nc)).cell? ⟨w.heap.size + 1, 0, none⟩ = some (.int .i64 0) := by simp [World.cell?, a2]
  have d2 := GF (i := 0) a2
  go_wp2
  ·rename_i hlt
   have hp : D4 s = ([], 40) := by
    unfold D4; rw [if_neg hsn, show CP s 51 0 0 [] = .ok (k, (b, l)) from hR]; dsimp only; rw [if_pos (by omega)]
   refine leaves_cons (f := 32) (args := #[.pointer (some ⟨w.heap.size, 0, none⟩), .pointer (some ⟨w.heap.size + 1, 0, none⟩)]) (by simp) (by simp [go_sem]) ?_; refine (panics hd hp).mono ?_; rintro e u wF ⟨rfl, rfl, q0, q1, hq⟩; simp [Leaves, settle, results, results12, go_sem, q0, q1]; exact hq
  ·rename_i hlt
   have hp : D4 s = (l, 0) := by
    unfold D4; rw [if_neg hsn, show CP s 51 0 0 [] = .ok (k, (b, l)) from hR]; dsimp only; rw [if_neg (by omega)]
   refine leaves_cons (f := 32) (args := #[.pointer (some ⟨w.heap.size, 0, none⟩), .pointer (some ⟨w.heap.size + 1, 0, none⟩)]) (by simp) (by simp [go_sem]) ?_; refine (UM _ _ _).mono ?_; rintro e u wF ⟨rfl, rfl, rfl⟩; have a3 := one_setCell (u := .int .i64 0) a2
   have a4 := (heap_setCell_other (w'.setCell ⟨w.heap.size, 0, none⟩ (.slice na nn nc)) ⟨w.heap.size + 1, 0, none⟩ w.heap.size (.int .i64 0) (by show w.heap.size ≠ w.heap.size + 1; omega)).trans a1
   have q0 : ((w'.setCell ⟨w.heap.size, 0, none⟩ (.slice na nn nc)).setCell ⟨w.heap.size + 1, 0, none⟩ (.int .i64 0)).cell? ⟨w.heap.size, 0, none⟩ = some (.slice na nn nc) := by simp [World.cell?, a4]
   have q1 : ((w'.setCell ⟨w.heap.size, 0, none⟩ (.slice na nn nc)).setCell ⟨w.heap.size + 1, 0, none⟩ (.int .i64 0)).cell? ⟨w.heap.size + 1, 0, none⟩ = some (.int .i64 0) := by simp [World.cell?, a3]
   have hq : QW w s (.returned (.tuple #[.slice na nn nc, .int .i64 0])) ((w'.setCell ⟨w.heap.size, 0, none⟩ (.slice na nn nc)).setCell ⟨w.heap.size + 1, 0, none⟩ (.int .i64 0)) := by
    have far : ∀ b', w.heap.size + 3 ≤ b' → ((w'.setCell ⟨w.heap.size, 0, none⟩ (.slice na nn nc)).setCell ⟨w.heap.size + 1, 0, none⟩ (.int .i64 0)).heap[b']? = w'.heap[b']? := fun b' hb' =>
     (heap_setCell_other _ _ _ _ (by show b' ≠ w.heap.size + 1; omega)).trans (heap_setCell_other _ _ _ _ (by show b' ≠ w.heap.size; omega))
    refine ⟨O0 (j := 0) (O0 (j := 0) hd.bel (Qa2 _) _) (by omega) _, .slice na nn nc, f', z, by rw [hp], ?_, hnd, fun b' hb' => ?_, fun b' hb' => ?_⟩
    ·rw [hp]; exact hrv.frame ⟨rfl, fun _ _ => rfl, Qa2 _, fun _ h => h, fun _ h => h⟩ (fun b' hb' => far b' (hz b' hb').1) (fun b' hb' => far b' (hf' b' hb').1)
    ·have := hf' b' hb'; exact ⟨by omega, by simpa using this.2.1, this.2.2⟩
    ·have := hz b' hb'; exact ⟨by omega, by simpa using this.2⟩
   simp [Leaves, settle, results, results12, go_sem, q0, q1]; exact hq
 ·have hp : D4 s = ([], c) := by
   unfold D4; rw [if_neg hsn, show CP s 51 0 0 [] = .error c from hc]
  refine leaves_cons (f := 32) (args := #[.pointer (some ⟨w.heap.size, 0, none⟩), .pointer (some ⟨w.heap.size + 1, 0, none⟩)]) (by simp) (by simp [go_sem]) ?_; refine (panics hd hp).mono ?_; rintro e u wF ⟨rfl, rfl, q0, q1, hq⟩; simp [Leaves, settle, results, results12, go_sem, q0, q1]; exact hq
def W2 (w : World) : World := (w.alloc (Obj.cells #[Value.slice none 0 0] 25)).alloc (Obj.cells #[Value.int IntKind.i64 1] 26)
theorem WH {w : World} {s : Bs} (hp : D4 s = ([], 1)) : (W2 w).cell? ⟨w.heap.size, 0, none⟩ = some (.slice none 0 0) ∧ (W2 w).cell? ⟨w.heap.size + 1, 0, none⟩ = some (.int .i64 1) ∧ QW w s (.returned (.tuple #[.slice none 0 0, .int .i64 1])) (W2 w) := by
 have e0 : (W2 w).heap[w.heap.size]? = some (Obj.cells #[Value.slice none 0 0] 25 (0, 0)) := by
  simp only [W2, World.alloc]; rw [Qa0, if_neg (by rw [Qa1]; omega), Qa0, if_pos rfl]
 have e1 : (W2 w).heap[w.heap.size + 1]? = some (Obj.cells #[Value.int IntKind.i64 1] 26 (0, 0)) := by
  simp only [W2, World.alloc]; rw [Qa0, if_pos (by rw [Qa1])]
 refine ⟨by simp [World.cell?, e0], by simp [World.cell?, e1], TU hp (((Below.refl _ w).alloc (Qa2 _) _).alloc ?_ _)⟩; simp only [World.alloc, Qa1]; omega
set_option maxHeartbeats 1000000 in
set_option maxRecDepth 100000 in
theorem Xb (s : Bs) (hs : (s.length : Int) > 256) (w : World) : Calls prog 12 #[.string (ByteArray.mk s.toArray)] w (QW w s) := by
 have hmf : ∀ (fn : Go.Fn) (first cap : Array Value) (w : World), (Instr.makeFunc fn first cap).run prog w = .ok (.func fn first cap) w := fun _ _ _ _ => rfl
 have hsz : ((ByteArray.mk s.toArray).size : Int) = s.length := by simp [ByteArray.size]
 have hs' : ((ByteArray.mk s.toArray).size : Int) > 256 := by rw [hsz]; exact hs
 have hp : D4 s = ([], 1) := by
  unfold D4; rw [if_pos (by omega)]
 go_enter_defers func12, ntmps12
 go_wp2
 obtain ⟨q0, q1, hq⟩ := WH hp (w := w); change bodyPostD _ _ _ _ _ (W2 w); generalize W2 w = W at q0 q1 hq ⊢; simp [bodyPostD, Leaves, settle, results, results12, go_sem, q0, q1]; exact hq
theorem YB (hpat : QX (Pg.of prog)) : Hk (Pg.of prog) := by
 intro s; rw [← W8]
 refine Fn.Yy (ps := [.val false .str .leaf]) (t := Fc) (tt := NTT) rfl rfl s (D4 s).1 (D4 s).2 () (K := fun (d : List Go.VS.Node × Int) _ => d = D4 s) rfl fun f fn hf hn => ?_
 have hfi : f = 12 := O8 (by kernel_rfl) hf hn; subst hfi; have hfe := Option.some.inj (hf.symm.trans func12); subst hfe; refine ⟨by kernel_rfl, by kernel_rfl, fun w hw => ?_⟩
 by_cases h : (s.length : Int) > 256
 ·exact (Xb s h w).mono fun e w' ⟨h1, h2⟩ => ⟨h1, .inl h2⟩
 ·exact (U7 s h (hpat (Zr s) s (by omega) (fun c hc => ⟨c, hc, rfl⟩)) w hw).mono fun e w' ⟨h1, h2⟩ => ⟨h1, .inl h2⟩
end Go.Proofs.Try
