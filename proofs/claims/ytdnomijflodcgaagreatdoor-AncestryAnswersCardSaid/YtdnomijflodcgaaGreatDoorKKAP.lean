/- ancestry.Bases and Independent, walked; as contracts. -/
import Derived.Test.YtdnomijflodcgaaGreatDoorKKAO
import Derived.Test.YtdnomijflodcgaaGreatDoorKKRW
set_option linter.unusedVariables false
set_option linter.unusedSimpArgs false
namespace Go.Proofs.Tryz
open Go.Shelf Go.RowKit Go.VS Go Go.Sort
theorem PL.later {g : List Ai} {pa : Option Addr} {ca : Nat} {w w' : World} (h : PL g pa ca w) (hb : Below w.heap.size w w') : PL g pa ca w' := fun W c hB hc => h W c (hb.trans (hB.mono hb.size)) hc
theorem Aa0 {C : Ctx} {w : World} {B : Nat} {t : List Bool} {v : Value} {f : List Nat} (h : RV C w (.sl .own 1 (t.map (BT.bool.enc .leaf))) v f) (hf : ∀ b ∈ f, B ≤ b) : ∃ a c, v = .slice a t.length c ∧ NV w B a t := by
 rcases Zd h with ⟨hn, a, c, rfl⟩ | ⟨b, off, c, rfl, hlt, hat⟩
 ·have hn : t = [] := List.map_eq_nil_iff.1 hn; subst hn; exact ⟨a, c, rfl, ⟨fun k x hx => nomatch hx⟩⟩
 ·refine ⟨some ⟨b, off, none⟩, c, by rw [List.length_map], ⟨fun k x hx => ⟨b, off, rfl, ?_, hlt, ?_⟩⟩⟩
  ·have hb : b ∈ f := by
    generalize ha : AV.sl .own 1 (t.map (BT.bool.enc .leaf)) = q at h; generalize hq : Value.slice (some ⟨b, off, none⟩) (t.map (BT.bool.enc .leaf)).length c = u at h
    cases h with
    | own k' xs' b' off' cap cs e f hb hs hc hm hk hr =>
     simp only [Value.slice.injEq, Option.some.injEq, Addr.mk.injEq] at hq; rw [hq.1.1]; simp
    | shr τ k' xs' b' off' cap cs e fz ht hz hi hb hs hc hk hr => simp only [AV.sl.injEq] at ha; exact absurd ha.1.symm ht
    | slNil τ k' => simp at hq
    | shrE τ k' a cap ht => simp only [AV.sl.injEq] at ha; exact absurd ha.1.symm ht
    | _ => cases ha
   exact hf b hb
  ·have := PD (enc := BT.bool.enc .leaf) (k := 1) (fun x => Dm _ _ x) t (j := k) (x := x) (c := 0) hx (by omega); obtain ⟨u, g, hu, hr⟩ := hat k (.lit (.bool x)) (by rw [Nat.mul_one, Nat.add_zero] at this; exact this)
   have := RV.Dr hr; subst this; exact hu
theorem AfM (B : Nat) {ops : Array Oper} {rest : List Oper} {o : Oper} {a : Act} {Q : Exit → Act → World → Prop} {s x : Operand} {w1 : World} {v : Value} {l : List Int} {g : Nat} {p : Int}
  (hgd : o.guard = none) (ho : o.op = .call { callee := .builtin .append, args := #[s, x], argTypes := #[22, 22] }) (hs : a.eval s = v) (hown : Fs w1 B v l)
  (hx : a.eval x = .slice (some ⟨g, 0, none⟩) 1 1) (hc0 : w1.cell? ⟨g, 0, none⟩ = some (.int .i64 p)) (hn : l.length ≤ 100000000) (hB : B ≤ w1.heap.size)
  (hk : ∀ v' w', Fs w' B v' (l ++ [p]) → w1.grownBy w' v.ownBlock → wpList prog ops Q rest (a.put o.dst v') w') : wpList prog ops Q (o :: rest) a w1 := by
 obtain ⟨i0, hi, hz0, hz1, hz2⟩ := info_parts (P := prog) (e := 3) (z := .int .i64 0) (size := 1) (bytes := 8) (by kernel_rfl); refine wpList_append_own w1 hgd s x 22 ho B 3 i0 (.int .i64 0) 1 8 underlying22 hi hz0 hz1 hz2 rfl (by decide) v l.length _ hs hown ⟨g, 0, none⟩ 1 1 [.int .i64 p] hx rfl ?_ ?_ ?_ ?_ hB ?_
 ·intro j u hj
  match j, hj with
  | 0, hj =>
   have : Value.int .i64 p = u := by simpa using hj
   subst this; exact hc0
  | j + 1, hj => simp at hj
 ·intro u hu; simp only [List.mem_cons, List.not_mem_nil, or_false] at hu
  rcases hu with rfl
  rfl
 ·unfold maxLen; omega
 ·omega
 ·intro v' w' h1 h2 _; refine hk v' w' ?_ h2; unfold Fs; rw [List.length_append, List.map_append]; exact h1
def cmL (x y : List Bool) (k : Nat) : List Int := (rng k).filter fun i => x.getD i.toNat false && y.getD i.toNat false
theorem Aa8 (x y : List Bool) (k : Nat) : cmL x y (k + 1) = cmL x y k ++ (if (x.getD k false && y.getD k false) = true then [(k : Int)] else []) := by
 unfold cmL; rw [NJ, List.filter_append]
 congr 1
 simp only [List.filter_cons, List.filter_nil, Int.toNat_natCast]
theorem YL (x y : List Bool) (k : Nat) : (cmL x y k).length ≤ k := by
 unfold cmL; exact Nat.le_trans (List.length_filter_le _ _) (by rw [FM]; exact Nat.le_refl _)
set_option maxHeartbeats 1000000 in
theorem Zu (pa : Option Addr) (n ca : Nat) (a b : Int) (w : World) (Q : Int → Prop) (hQ : ∀ r, Q r → ¬ r = 0)
  (hck : Calls prog 56 #[.slice pa n ca, .slice (some ⟨w.heap.size, 0, none⟩) 2 2] (w.alloc (.cells #[.int .i64 a, .int .i64 b] 3)) fun e w' => ∃ r, Q r ∧ e = .returned (.int .i64 r) ∧ Below (w.alloc (.cells #[.int .i64 a, .int .i64 b] 3)).heap.size (w.alloc (.cells #[.int .i64 a, .int .i64 b] 3)) w') :
  Calls prog 23 #[.slice pa n ca, .int .i64 a, .int .i64 b] w fun e w' => ∃ r, Q r ∧ e = .returned (.tuple #[.slice none 0 0, .int .i64 r]) ∧ Below w.heap.size w w' := by
 have hB0 : Below w.heap.size w (w.alloc (.cells #[.int .i64 a, .int .i64 b] 3)) := (Below.refl _ w).alloc (Nat.le_refl _) _
 go_enter func23, ntmps23
 go_wp2_with (go_at_call 56; refine hck.mono ?_; rintro e w1 ⟨E, hq, rfl, hB1⟩; have hE := hQ E hq)
 go_ret2
 exact ⟨E, hq, rfl, hB0.trans (hB1.mono hB0.size)⟩
set_option maxHeartbeats 1000000 in
theorem Ac2 (pa al : Option Addr) (n ca m cl : Nat) (w : World) (Q : Int → Prop) (hQ : ∀ r, Q r → ¬ r = 0)
  (hck : Calls prog 56 #[.slice pa n ca, .slice al m cl] w fun e w' => ∃ r, Q r ∧ e = .returned (.int .i64 r) ∧ Below w.heap.size w w') :
  Calls prog 25 #[.slice pa n ca, .slice al m cl] w fun e w' => ∃ r, Q r ∧ e = .returned (.tuple #[.slice none 0 0, .int .i64 r]) ∧ Below w.heap.size w w' := by
 go_enter func25, ntmps25
 go_wp2_with (go_at_call 56; refine hck.mono ?_; rintro e w1 ⟨E, hq, rfl, hB1⟩; have hE := hQ E hq)
 go_ret2
 exact ⟨E, hq, rfl, hB1⟩
set_option maxHeartbeats 4000000 in
set_option maxRecDepth 1000000 in
theorem AaX (g : List Ai) (pa : Option Addr) (ca : Nat) (a b : Int) (w : World) (hn : g.length ≤ 1000000) (ha : inR g a) (hb : inR g b) (hanc : PL g pa ca w)
  (hck : Calls prog 56 #[.slice pa g.length ca, .slice (some ⟨w.heap.size, 0, none⟩) 2 2] (w.alloc (.cells #[.int .i64 a, .int .i64 b] 3)) fun e w' => e = .returned (.int .i64 0) ∧ Below (w.alloc (.cells #[.int .i64 a, .int .i64 b] 3)).heap.size (w.alloc (.cells #[.int .i64 a, .int .i64 b] 3)) w') :
  Calls prog 23 #[.slice pa g.length ca, .int .i64 a, .int .i64 b] w fun e w' => ∃ v d, (∃ L, Ew g (fun x => Rch g a x ∧ Rch g b x) L ∧ FV g L d) ∧ Fs w' w.heap.size v d ∧ e = .returned (.tuple #[v, .int .i64 0]) ∧ Below w.heap.size w w' := by
 have hB0 : Below w.heap.size w (w.alloc (.cells #[.int .i64 a, .int .i64 b] 3)) := (Below.refl _ w).alloc (Nat.le_refl _) _
 go_enter func23, ntmps23
 have honce : True := trivial; have honce2 : True := trivial
 go_wp2_with (first | (go_at_call 56; have hx := honce; clear hx honce; refine hck.mono ?_; rintro e w1 ⟨rfl, hB1⟩; have hB01 := hB0.trans (hB1.mono hB0.size); clear hB1 hck) | (go_at_call 57; have hx := honce2; clear hx honce2; refine (hanc w1 a hB01 ha).mono ?_; rintro e w2 ⟨px, cx, x, hX, rfl, hbx, hB2⟩; have hB02 := hB01.trans (hB2.mono hB01.size); clear hB01) | (go_at_call 57; refine (hanc w2 b hB02 hb).mono ?_; rintro e w3 ⟨py, cy, y, hY, rfl, hby, hB3⟩; have hB03 := hB02.trans (hB3.mono hB02.size); have hbx3 := hbx.below hB3; clear hB02 hB3 hbx))
 have hxl : x.length = g.length := hX.1; have hyl : y.length = g.length := hY.1; have h0 : Fs w3 w3.heap.size (.slice none 0 0) (cmL x y 0) := V6 _ _
 go_loopw [11, 29] (fun v i wr => ∃ k : Nat, k ≤ g.length ∧ i = .int .i64 k ∧ Fs wr w3.heap.size v (cmL x y k) ∧ Below w3.heap.size w3 wr) (fun _ i _ => g.length - (Lib.intOf i).toNat)
 case atStart => exact ⟨0, Nat.zero_le _, rfl, h0, Below.refl _ w3⟩
 case round =>
  clear h0; obtain ⟨k, hk, hi, hown, hB⟩ := hrel; subst hi
  by_cases hks : k < g.length
  ·obtain ⟨b1, o1, rfl, _, l1, q1⟩ := hbx3.at_ k x[k] (List.getElem?_eq_getElem (by omega)); obtain ⟨b2, o2, rfl, _, l2, q2⟩ := hby.at_ k y[k] (List.getElem?_eq_getElem (by omega)); have c1 := (hB.cell (p := ⟨b1, o1 + k, none⟩) l1).trans q1; have c2 := (hB.cell (p := ⟨b2, o2 + k, none⟩) l2).trans q2; have hnx := Aa8 x y k; have hol := YL x y k
   rw [getD_eq (l := x) (by omega), getD_eq (l := y) (by omega)] at hnx; generalize x[k] = r1 at c1 hnx; generalize y[k] = r2 at c2 hnx; clear q1 q2
   cases hr : r1 && r2 with
   | false =>
    rw [hr, if_neg (by decide), List.append_nil] at hnx; rw [← hnx] at hown
    cases r1 with
    | false =>
     go_wp2
     go_roundw
     case rel => exact ⟨k + 1, by omega, by simp, hown, hB⟩
     case measure => simp only [Lib.intOf]; omega
    | true =>
     have hr : r2 = false := hr; subst hr
     go_wp2
     go_roundw
     case rel => exact ⟨k + 1, by omega, by simp, hown, hB⟩
     case measure => simp only [Lib.intOf]; omega
   | true =>
    rw [hr, if_pos rfl] at hnx
    have hr1 : r1 = true := by cases r1 <;> simp at hr; rfl
    have hr2 : r2 = true := by cases r2 <;> simp at hr; rfl
    subst hr1 hr2; clear hr; have hsz := hB.size
    go_wp2_with (at_builtin; refine AfM w3.heap.size (p := (k : Int)) rfl rfl rfl (X1 hown _) rfl ?b0 ?b1 ?b2 ?b3)
    case b0 => simp
    case b1 => omega
    case b2 => simp; omega
    case b3 =>
     intro v2 w8 hown8 hg8; rw [← hnx] at hown8; have hB8 := below_grow (hB.alloc hsz _) hg8 (fun i hi => (World.ownsRow.lt hown i hi).1) (Nat.le_refl _)
     go_wp2
     go_roundw
     case rel => exact ⟨k + 1, by omega, by simp, hown8, hB8⟩
     case measure => simp only [Lib.intOf]; omega
  ·have hke : k = g.length := by omega
   subst hke
   have hset : Ew g (fun z => Rch g a z ∧ Rch g b z) (cmL x y g.length) := ⟨fun z => x.getD z.toNat false && y.getD z.toNat false, fun z hz => by
    rw [Bool.and_eq_true, Io hX hz, Io hY hz], rfl⟩
   have hol := YL x y g.length; have hcon := O3 g (cmL x y g.length) pa ca u11 w3.heap.size wr hn (by omega) (fun z hz => (hset.mem.1 hz).1) hown (hanc.later (hB03.trans (hB.mono hB03.size))); have hrow := QV hown; generalize cmL x y g.length = L at hset hcon hown; clear hanc hbx3 hby
   go_wp2_with (go_at_call 61; refine hcon.mono ?_; rintro e w5 ⟨v5, d5, hd5, rfl, hown5, hg5⟩)
   go_ret2
   have hB05 := hB03.trans (hB.mono hB03.size); exact ⟨_, d5, ⟨L, hset, hd5⟩, S8 hown5 hB03.size, rfl, below_grow hB05 hg5 (fun i hi => Nat.le_trans hB03.size (hrow i hi)) (Nat.le_refl _)⟩
set_option maxHeartbeats 4000000 in
set_option maxRecDepth 1000000 in
theorem Aer (g : List Ai) (pa : Option Addr) (ca : Nat) (l : List Int) (al : Option Addr) (cl : Nat) (w : World) (hn : g.length ≤ 1000000) (hl : l.length ≤ 1000000) (hr : ∀ x ∈ l, inR g x) (hanc : PL g pa ca w) (hla : W7 w al l)
  (hck : Calls prog 56 #[.slice pa g.length ca, .slice al l.length cl] w fun e w' => e = .returned (.int .i64 0) ∧ Below w.heap.size w w') :
  Calls prog 25 #[.slice pa g.length ca, .slice al l.length cl] w fun e w' => ∃ v d, (∃ L, Ew g (fun x => x ∈ l) L ∧ FV g L d) ∧ Fs w' w.heap.size v d ∧ e = .returned (.tuple #[v, .int .i64 0]) ∧ Below w.heap.size w w' := by
 have hs : (l.mergeSort fun x y => decide (x ≤ y)).Pairwise fun x y => x ≤ y := by
  have := List.pairwise_mergeSort (le := fun x y : Int => decide (x ≤ y)) (fun a b c h1 h2 => by simp only [decide_eq_true_eq] at *; omega) (fun a b => by simp only [Bool.or_eq_true, decide_eq_true_eq]; omega) l
  exact this.imp fun h => by simpa using h
 have hm : ∀ x, x ∈ (l.mergeSort fun x y => decide (x ≤ y)) ↔ x ∈ l := fun x => (List.mergeSort_perm l _).mem_iff
 have hml : (l.mergeSort fun x y => decide (x ≤ y)).length = l.length := (List.mergeSort_perm l _).length_eq; obtain ⟨hc1, hc2⟩ := Vb hs
 have hset : Ew g (fun x => x ∈ l) (Lib.compact (l.mergeSort fun x y => decide (x ≤ y))) := QE hc1 fun x => by
  rw [hc2, hm]; exact ⟨fun h => ⟨hr x h, h⟩, fun h => h.2⟩
 have hsl := hset.len
 have hsr : ∀ x ∈ Lib.compact (l.mergeSort fun x y => decide (x ≤ y)), inR g x := fun x hx => (hset.mem.1 hx).1
 have hsort := fun B v W h => WA B v l W h (by omega)
 have hcmp := fun B v W h => U9 B v (l.mergeSort fun x y => decide (x ≤ y)) W h (by omega)
 generalize (l.mergeSort fun x y => decide (x ≤ y)) = m at *
 have hcl := fun W h => TL l al cl W h (by omega)
 clear hs hm hml hc1 hc2
 go_enter func25, ntmps25
 go_wp2_with (first | (go_at_call 56; refine hck.mono ?_; rintro e w1 ⟨rfl, hB1⟩) | (go_at_call 63; refine (hcl w1 (hla.below hB1)).mono ?_; rintro e w2 ⟨v2, rfl, hown2, hB2⟩; have hB02 := hB1.trans (hB2.mono hB1.size); have hr2 := QV hown2; have hs1 := hB1.size) | (go_at_call 64; refine (hsort _ v2 w2 hown2).mono ?_; rintro e w3 ⟨rfl, hg3, hown3⟩; have hB03 := below_grow hB02 hg3 (fun i hi => Nat.le_trans hs1 (hr2 i hi)) (Nat.le_refl _)) | (go_at_call 65; refine (hcmp _ v2 w3 hown3).mono ?_; rintro e w4 ⟨v4, rfl, hg4, hown4⟩; have hB04 := below_grow hB03 hg4 (fun i hi => Nat.le_trans hs1 (hr2 i hi)) (Nat.le_refl _); have hr4 := QV hown4) | (go_at_call 61; refine (O3 g (Lib.compact m) pa ca v4 _ w4 hn (by omega) hsr hown4 (hanc.later hB04)).mono ?_; rintro e w5 ⟨v5, d5, hd5, rfl, hown5, hg5⟩))
 go_ret2
 exact ⟨_, d5, ⟨_, hset, hd5⟩, S8 hown5 hs1, rfl, below_grow hB04 hg5 (fun i hi => Nat.le_trans hs1 (hr4 i hi)) (Nat.le_refl _)⟩
end Go.Proofs.Tryz
