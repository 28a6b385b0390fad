/- tree.Apply, walked. -/
import Derived.Test.YtdnomijflodcgaaGreatDoorKKH
import Derived.Shelf.SlicesQ.IndexFunc
set_option linter.unusedVariables false
set_option linter.unusedSimpArgs false
set_option linter.unusedSectionVars false
namespace Go.Proofs.Tryz
open Go.Shelf Go.RowKit Go.VS Go Go.Maps Go.Sort
set_option maxHeartbeats 1000000 in
theorem Amb (a : Option Addr) (c : Nat) (fv : Value) (W : World) : Calls prog 88 #[.slice a 0 c, fv] W fun e w' => e = .returned (.int .i64 (-1)) ∧ Below W.heap.size W w' := by
 go_enter func88, ntmps88
 go_wp2
 refine wp_loop_rounds 1 ?_
 rw [rounds_succ]
 go_wp2
 go_ret
 exact ⟨rfl, Below.refl _ W⟩
set_option maxHeartbeats 1000000 in
theorem Al9 (a : Option Addr) (c : Nat) (fv : Value) (W : World) : Calls prog 48 #[.slice a 0 c, fv] W fun e w' => e = .returned (.bool false) ∧ Below W.heap.size W w' := by
 go_enter func48, ntmps48
 go_wp2_with (go_at_call 88; refine (Amb a c fv W).mono ?_; rintro e w1 ⟨rfl, hB1⟩)
 go_ret
 exact ⟨rfl, hB1⟩
theorem AlO (a b : List Bh) (d : List Af3) (hd : ∀ t ∈ d, t.1.length ≤ 140737488351232) (hn : d.length ≤ 1000000) (pd : Option Addr) (cd : Nat) (R1 R2 n1 n2 B9 B10 : Nat) (W : World) (hv : Ai6 W pd d) (hMa : MG W R1 n1 (D0 a)) (hMb : MG W R2 n2 (D0 b)) (h9 : W.cell? ⟨B9, 0, none⟩ = some (.map (some R1))) (h10 : W.cell? ⟨B10, 0, none⟩ = some (.map (some R2))) (l9 : B9 < W.heap.size) (l10 : B10 < W.heap.size) :
  Calls prog 48 #[.slice pd d.length cd, .func (.func 69) #[] #[.pointer (some ⟨B9, 0, none⟩), .pointer (some ⟨B10, 0, none⟩)]] W fun e w' => e = .returned (.bool (!d.all (Ald a b))) ∧ Below W.heap.size W w' := by
 by_cases hne : d = []
 ·subst hne
  exact Al9 pd cd _ W
 ·have h0 : 0 < d.length := List.length_pos_iff.2 hne
  obtain ⟨bl, off, rfl, hbl, _, _⟩ := hv.at_ 0 _ (List.getElem?_eq_getElem h0)
  obtain ⟨zs, hz⟩ := AjR d hd
  have hzl : zs.length = d.length := by rw [← hz, List.length_map]
  have hp : PredBelow prog 69 #[.pointer (some ⟨B9, 0, none⟩), .pointer (some ⟨B10, 0, none⟩)] (fun x : DB => .agg (AkV x).toArray) (fun x => !Ald a b x.1) W := fun W' x hB => by
   have hc9 : W'.cell? ⟨B9, 0, none⟩ = some (.map (some R1)) := (hB.cell (p := ⟨B9, 0, none⟩) l9).trans h9
   have hc10 : W'.cell? ⟨B10, 0, none⟩ = some (.map (some R2)) := (hB.cell (p := ⟨B10, 0, none⟩) l10).trans h10
   have hs := hB.size
   refine (Al4 a b x R1 R2 n1 n2 B9 B10 W' (hMa.below hB hMa.lt) (hMb.below hB hMb.lt) hc9 hc10 (by omega) (by omega)).mono ?_
   rintro e w1 ⟨rfl, hB1⟩
   exact ⟨rfl, hB.trans (hB1.mono hs)⟩
  have hcon := AnyQ.slices_ContainsFunc Tryz.cfD 2 Tryz.isAgg67 Tryz.sizeOf67 AkV (fun _ => rfl) (fun x => !Ald a b x.1) 69 #[.pointer (some ⟨B9, 0, none⟩), .pointer (some ⟨B10, 0, none⟩)] (enters_of func69 (by kernel_rfl) rfl) bl off d.length cd zs W hp (by omega) (by omega) hbl (fun j hj i v hi => by
   have hj' : j < d.length := by omega
   obtain ⟨b', off', he, _, q0, q1⟩ := hv.at_ j _ (List.getElem?_eq_getElem hj')
   cases he
   have hx : (zs[j]!).1 = d[j] := by
    rw [getElem!_pos zs j hj]
    have : (zs.map (·.1))[j]? = d[j]? := by rw [hz]
    rw [List.getElem?_map, List.getElem?_eq_getElem hj, List.getElem?_eq_getElem hj'] at this
    exact Option.some.inj this
   unfold AkV at hi
   rw [hx] at hi
   match i, hi with
   | 0, hi => simp [AiC] at hi; rw [← hi]; exact q0
   | 1, hi => simp [AiC] at hi; rw [← hi]; exact q1
   | i + 2, hi => simp [AiC] at hi)
  refine hcon.mono ?_
  rintro e w' ⟨rfl, hB⟩
  refine ⟨?_, hB⟩
  have e1 : (zs.take d.length).any (fun x => !Ald a b x.1) = !d.all (Ald a b) := by
   rw [List.take_of_length_le (by omega), ← List.not_all_eq_any_not, ← hz, List.all_map]
   rfl
  rw [e1]
section
variable (a b : List Bh) (d : List Af3) (pa pb pd : Option Addr) (ca cb cd : Nat) (w : World)
set_option maxHeartbeats 1000000 in
theorem AlY (E : Int) (hE : ¬ E = 0) (hbo : Calls prog 66 #[.slice pa a.length ca, .slice pb b.length cb] w fun e w' => e = .returned (.int .i64 E) ∧ Below w.heap.size w w') :
  Calls prog 28 #[.slice pa a.length ca, .slice pb b.length cb, .slice pd d.length cd] w fun e w' => e = .returned (.tuple #[.slice none 0 0, .int .i64 E]) ∧ Below w.heap.size w w' := by
 go_enter func28, ntmps28
 go_wp2_with (go_at_call 66; refine hbo.mono ?_; rintro e w1 ⟨rfl, hB1⟩)
 go_ret2
 exact ⟨rfl, hB1⟩
set_option maxHeartbeats 1000000 in
theorem AlZ (hn : d.length ≤ 1000000) (hl : ∀ t ∈ d, t.1.length ≤ 140737488351232) (hv : Ai6 w pd d) (hp : Ale d [] = false) (hbo : Calls prog 66 #[.slice pa a.length ca, .slice pb b.length cb] w fun e w' => e = .returned (.int .i64 0) ∧ Below w.heap.size w w') :
  Calls prog 28 #[.slice pa a.length ca, .slice pb b.length cb, .slice pd d.length cd] w fun e w' => e = .returned (.tuple #[.slice none 0 0, .int .i64 2]) ∧ Below w.heap.size w w' := by
 have hcon := fun W hW => Alq d hn hl pd cd W hW
 rw [hp] at hcon
 clear hp
 go_enter func28, ntmps28
 have honce : True := trivial
 go_wp2_with (go_at_call 66; have hx := honce; clear hx honce; refine hbo.mono ?_; rintro e w1 ⟨rfl, hB1⟩)
 go_wp2_with (go_at_call 67; refine (hcon w1 (hv.below hB1)).mono ?_; rintro e w2 ⟨rfl, hB2⟩)
 go_ret2
 exact ⟨rfl, hB1.trans (hB2.mono hB1.size)⟩
set_option maxHeartbeats 2000000 in
theorem Al0 (ha : Kw a) (hb : Kw b) (hn : d.length ≤ 1000000) (hl : ∀ t ∈ d, t.1.length ≤ 140737488351232) (hva : Zm w pa a) (hvb : Zm w pb b) (hv : Ai6 w pd d) (hp : Ale d [] = true) (hps : d.all (Ald a b) = false) (hbo : Calls prog 66 #[.slice pa a.length ca, .slice pb b.length cb] w fun e w' => e = .returned (.int .i64 0) ∧ Below w.heap.size w w') :
  Calls prog 28 #[.slice pa a.length ca, .slice pb b.length cb, .slice pd d.length cd] w fun e w' => e = .returned (.tuple #[.slice none 0 0, .int .i64 5]) ∧ Below w.heap.size w w' := by
 have hcon := fun W hW => Alq d hn hl pd cd W hW
 rw [hp] at hcon
 have hcf := fun R1 R2 n1 n2 B9 B10 W => AlO a b d hl hn pd cd R1 R2 n1 n2 B9 B10 W
 rw [hps] at hcf
 clear hp hps
 go_enter func28, ntmps28
 have honce : True := trivial
 go_wp2_with (go_at_call 66; have hx := honce; clear hx honce; refine hbo.mono ?_; rintro e w1 ⟨rfl, hB1⟩)
 have honce : True := trivial
 go_wp2_with (go_at_call 67; have hx := honce; clear hx honce; refine (hcon w1 (hv.below hB1)).mono ?_; rintro e w2 ⟨rfl, hB2⟩)
 have hB02 := hB1.trans (hB2.mono hB1.size)
 have hva2 := hva.below hB02
 have honce : True := trivial
 go_wp2_with (go_at_call 68; have hx := honce; clear hx honce; refine (UZ a ha.1 ha.2 pa ca w2 hva2).mono ?_; rintro e w3 ⟨rfl, hMa, hB3⟩)
 have hB03 := hB02.trans (hB3.mono hB02.size)
 have hvb3 := hvb.below hB03
 have hlta := hMa.lt
 have honce : True := trivial
 go_wp2_with (go_at_call 68; have hx := honce; clear hx honce; refine (UZ b hb.1 hb.2 pb cb w3 hvb3).mono ?_; rintro e w4 ⟨rfl, hMb, hB4⟩)
 have hB04 := hB03.trans (hB4.mono hB03.size)
 have hMa4 := hMa.below hB4 hlta
 have hv4 := hv.below hB04
 clear hva2 hvb3 hB1 hB2 hB3 hB4 hB02 hB03 hMa hlta
 have hcon3 := hcf w2.heap.size w3.heap.size a.length b.length w4.heap.size (w4.heap.size + 1) ((w4.alloc (.cells #[.map (some w2.heap.size)] 95)).alloc (.cells #[.map (some w3.heap.size)] 95))
  (hv4.below (((Below.refl _ w4).alloc (Nat.le_refl _) _).alloc (by simp) _)) ((hMa4.alloc _).alloc _) ((hMb.alloc _).alloc _) (by simp) (by simp) (by simp; omega) (by simp)
 generalize w2.heap.size = R1 at *
 generalize w3.heap.size = R2 at *
 go_wp2_with (go_at_call 48; refine hcon3.mono ?_; rintro e w5 ⟨rfl, hB5⟩)
 go_ret2
 exact ⟨rfl, ((hB04.alloc hB04.size _).alloc (by have := hB04.size; simp; omega) _).trans (hB5.mono (by have := hB04.size; simp; omega))⟩
end
end Go.Proofs.Tryz
