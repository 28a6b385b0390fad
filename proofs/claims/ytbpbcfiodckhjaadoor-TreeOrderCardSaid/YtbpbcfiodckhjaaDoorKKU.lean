/- tree.permitted and tree.possible, walked. -/
import Derived.Test.YtbpbcfiodckhjaaDoorKKX
import Derived.Test.YtbpbcfiodckhjaaDoorKKY
import Derived.Test.YtbpbcfiodckhjaaDoorKSpApp
set_option linter.unusedVariables false
set_option linter.unusedSimpArgs false
namespace Go.Proofs.Tryd
open Go.Shelf Go.RowKit Go.VS Go Go.Maps
structure Abp (w : World) (a : Option Addr) (l : List A0) : Prop where
 at_ : ∀ (k : Nat) (x : A0), l[k]? = some x → ∃ b off, a = some ⟨b, off, none⟩ ∧ b < w.heap.size ∧ w.cell? ⟨b, off + k * 2, none⟩ = some (.string ⟨x.1.toArray⟩) ∧ w.cell? ⟨b, off + k * 2 + 1, none⟩ = some (.int .i64 x.2)
theorem Abp.below {w w' : World} {a : Option Addr} {l : List A0} (h : Abp w a l) (hb : Below w.heap.size w w') : Abp w' a l :=
 ⟨fun k x hx => by
  obtain ⟨b, off, h1, h2, h3, h4⟩ := h.at_ k x hx
  exact ⟨b, off, h1, Nat.lt_of_lt_of_le h2 hb.size, (hb.cell (p := ⟨b, off + k * 2, none⟩) h2).trans h3, (hb.cell (p := ⟨b, off + k * 2 + 1, none⟩) h2).trans h4⟩⟩
theorem Ab4 {C : Ctx} {w : World} {l : List A0} {v : Value} {f : List Nat} (h : RV C w (.sl .brw 2 (l.map ((BT.pair .str (.int .i64)).enc .leaf))) v f) : ∃ a c, v = .slice a l.length c ∧ Abp w a l := by
 obtain ⟨a, c, hv, hc⟩ := Zu (t := .pair .str (.int .i64)) rfl h
 refine ⟨a, c, hv, ⟨fun k x hx => ?_⟩⟩
 obtain ⟨b, off, h1, h2, h3⟩ := hc k x hx
 exact ⟨b, off, h1, h2, h3 0 _ rfl, h3 1 _ rfl⟩
def MB (w : World) (b n : Nat) (g : Bs → Option Bool) : Prop := Cx prog 9 (Elt.bool underlying4) w b n g
theorem Acl (w : World) : (zeroValue 4).run prog w = .ok ((Elt.bool (P := prog) underlying4).val false) w := Tryd.zeroValue4 w
def Abk (s : List Bs) : Bs → Option Bool := fun p => if p ∈ s then some true else none
theorem Ab7 (s : List Bs) (p : Bs) : ∀ x, Abk (p :: s) x = gput (Abk s) p true x := fun x => by
 unfold Abk gput
 dsimp only
 by_cases h : x = p
 ·rw [if_pos h, if_pos (by rw [h]; exact List.mem_cons_self ..)]
 ·rw [if_neg h]
  by_cases h2 : x ∈ s
  ·rw [if_pos h2, if_pos (List.mem_cons_of_mem _ h2)]
  ·rw [if_neg h2, if_neg (fun h3 => (List.mem_cons.1 h3).elim h h2)]
theorem Ab6 (s : List Bs) (p : Bs) : (Abk s p).getD false = decide (p ∈ s) := by
 unfold Abk
 by_cases h : p ∈ s
 ·rw [if_pos h, decide_eq_true h]; rfl
 ·rw [if_neg h, decide_eq_false h]; rfl
def PM (d : List A0) (RF : Bool) (R : Nat) (w : World) (k : Nat) (wr : World) : Prop := AaL (d.drop k) ((d.take k).map (·.1)).reverse = RF ∧ MB wr R k (Abk ((d.take k).map (·.1)).reverse) ∧ Below w.heap.size w wr
set_option maxHeartbeats 2000000 in
set_option maxRecDepth 1000000 in
theorem Aa3 (d : List A0) (hn : d.length ≤ 1000000) (hl : ∀ t ∈ d, t.1.length ≤ 140737488351232) (a : Option Addr) (c : Nat) (w : World) (hv : Abp w a d) :
  Calls prog 62 #[.slice a d.length c] w fun e w' => e = .returned (.bool (AaL d [])) ∧ Below w.heap.size w w' := by
 generalize hRF : AaL d [] = RF
 go_enter func62, ntmps62
 have hmk : (Instr.makeMap 103 none).run prog w = .ok (.map (some w.heap.size)) (w.alloc (.map #[] 0)) := rfl
 go_wp2
 have h0 : PM d RF w.heap.size w 0 (w.alloc (.map #[] 0)) := ⟨hRF, Cx.congr (Cx.made (Elt.bool underlying4) w) fun k => rfl, (Below.refl _ w).alloc (Nat.le_refl _) _⟩
 generalize w.alloc (.map #[] 0) = w1 at h0 ⊢
 clear hRF hmk
 go_loopw [9] (fun i wr => ∃ k : Nat, k ≤ d.length ∧ i = .int .i64 k ∧ PM d RF w.heap.size w k wr) (fun i _ => d.length - (Lib.intOf i).toNat)
 case atStart => exact ⟨0, Nat.zero_le _, rfl, h0⟩
 case round =>
  clear h0
  obtain ⟨k, hk, hi, hP, hM, hB⟩ := hrel
  subst hi
  by_cases hks : k < d.length
  ·obtain ⟨bl, off, rfl, hbl, q0, q1⟩ := hv.at_ k d[k] (List.getElem?_eq_getElem hks)
   have c0 := (hB.cell (p := ⟨bl, off + k * 2, none⟩) hbl).trans q0
   have c1 := (hB.cell (p := ⟨bl, off + k * 2 + 1, none⟩) hbl).trans q1
   have hl1 := hl _ (List.getElem_mem hks)
   rw [List.drop_eq_getElem_cons hks, AaL] at hP
   have hrv : ((d.take (k + 1)).map (·.1)).reverse = d[k].1 :: ((d.take k).map (·.1)).reverse := by
    rw [List.take_succ_eq_append_getElem hks, List.map_append, List.reverse_append]
    rfl
   have hfin : ∀ W : World, AaL (d.drop (k + 1)) (d[k].1 :: ((d.take k).map (·.1)).reverse) = RF → MB W w.heap.size (k + 1) (Abk (d[k].1 :: ((d.take k).map (·.1)).reverse)) → Below w.heap.size w W → PM d RF w.heap.size w (k + 1) W := fun W h1 h2 h3 => ⟨by rw [hrv]; exact h1, by rw [hrv]; exact h2, h3⟩
   clear hrv q0 q1
   generalize ((d.take k).map (·.1)).reverse = sn at hP hM hfin
   generalize hx : d[k] = x at c0 c1 hl1 hP hfin
   clear hx
   obtain ⟨p, kd⟩ := x
   dsimp only at c0 c1 hl1 hP hfin
   have hM2 := Cx.alloc hM (.cells #[.string ⟨p.toArray⟩, .int .i64 kd] 56)
   have hB2 := hB.alloc hB.size (.cells #[.string ⟨p.toArray⟩, .int .i64 kd] 56)
   have hlk := Cx.Y8 hM2 underlying9 (t := 103) underlying103 (Acl _) trivial (k := p) (by unfold maxLen; omega)
   rw [Ab6] at hlk
   have hlk2 : (Instr.lookup 103 (.map (some w.heap.size)) (.string ⟨p.toArray⟩) false).run prog (wr.alloc (.cells #[.string ⟨p.toArray⟩, .int .i64 kd] 56)) = .ok (.bool (decide (p ∈ sn))) (wr.alloc (.cells #[.string ⟨p.toArray⟩, .int .i64 kd] 56)) := hlk
   clear hlk hM
   by_cases h1 : kd < 1
   ·obtain rfl : RF = false := by rw [← hP, if_pos (.inl h1)]
    clear hP hfin
    go_wp2
    go_ret
    exact ⟨rfl, hB2⟩
   ·by_cases h2 : 3 < kd
    ·obtain rfl : RF = false := by rw [← hP, if_pos (.inr (.inl h2))]
     clear hP hfin
     go_wp2
     go_ret
     exact ⟨rfl, hB2⟩
    ·have h2' : ¬ kd > 3 := h2
     by_cases h3 : p ∈ sn
     ·obtain rfl : RF = false := by rw [← hP, if_pos (.inr (.inr h3))]
      rw [decide_eq_true h3] at hlk2
      clear hP hfin h3
      go_wp2
      go_ret
      exact ⟨rfl, hB2⟩
     ·rw [if_neg (fun h => h.elim (fun h => h1 h) fun h => h.elim (fun h => h2 h) h3)] at hP
      rw [decide_eq_false h3] at hlk2
      clear h3
      obtain ⟨w3, hrun, hM3, hg3⟩ := Cx.put hM2 underlying9 (t := 103) underlying103 (by unfold maxLen; omega) (k := p) (by unfold maxLen; omega) (v := true) trivial
      have hrun : (Instr.mapUpdate 103 (.map (some w.heap.size)) (.string ⟨p.toArray⟩) (.bool true)).run prog (wr.alloc (.cells #[.string ⟨p.toArray⟩, .int .i64 kd] 56)) = .ok () w3 := hrun
      have hB3 : Below w.heap.size w w3 := Mi hB2 hg3 (Nat.le_refl _) (Nat.le_refl _)
      have hf := hfin w3 hP (Cx.congr hM3 (Ab7 sn p)) hB3
      clear hfin hP hM3 hg3 hM2
      go_wp2
      go_roundw
      case rel => exact ⟨k + 1, by omega, by simp, hf⟩
      case measure => simp only [Lib.intOf]; omega
  ·have hke : k = d.length := by omega
   subst hke
   rw [List.drop_length, AaL] at hP
   subst hP
   go_wp2
   go_ret
   exact ⟨rfl, hB⟩
set_option maxHeartbeats 2000000 in
set_option maxRecDepth 1000000 in
theorem AbH (a b : List Aw) (x : A0) (hx : x.1.length ≤ 140737488351232) (R1 R2 n1 n2 : Nat) (w : World) (hMa : MG w R1 n1 (AU a)) (hMb : MG w R2 n2 (AU b)) :
  Calls prog 65 #[.agg #[.string ⟨x.1.toArray⟩, .int .i64 x.2], .map (some R1), .map (some R2)] w fun e w' => e = .returned (.bool (AaJ a b x)) ∧ Below w.heap.size w w' := by
 generalize hRF : AaJ a b x = RF
 obtain ⟨p, kd⟩ := x
 dsimp only at hx ⊢
 unfold AaJ at hRF
 dsimp only at hRF
 have hMa2 := Cx.alloc hMa (.cells #[.string ⟨p.toArray⟩, .int .i64 kd] 56)
 have hMb2 := Cx.alloc hMb (.cells #[.string ⟨p.toArray⟩, .int .i64 kd] 56)
 have hB2 := (Below.refl _ w).alloc (Nat.le_refl _) (.cells #[.string ⟨p.toArray⟩, .int .i64 kd] 56)
 have hlk1 := Cx.look hMa2 underlying9 (t := 88) underlying88 (Wc _) (by show ([] : Bs).length ≤ maxLen; unfold maxLen; simp) (k := p) (by unfold maxLen; omega)
 have hlk2 := Cx.look hMb2 underlying9 (t := 88) underlying88 (Wc _) (by show ([] : Bs).length ≤ maxLen; unfold maxLen; simp) (k := p) (by unfold maxLen; omega)
 generalize (AU a p).isSome = s1 at hlk1 hRF
 generalize (AU b p).isSome = s2 at hlk2 hRF
 generalize (Elt.str (P := prog) underlying9).val ((AU a p).getD []) = v1 at hlk1
 generalize (Elt.str (P := prog) underlying9).val ((AU b p).getD []) = v2 at hlk2
 have hlk1' : (Instr.lookup 88 (.map (some R1)) (.string ⟨p.toArray⟩) true).run prog (w.alloc (.cells #[.string ⟨p.toArray⟩, .int .i64 kd] 56)) = .ok (.tuple #[v1, .bool s1]) (w.alloc (.cells #[.string ⟨p.toArray⟩, .int .i64 kd] 56)) := hlk1
 have hlk2' : (Instr.lookup 88 (.map (some R2)) (.string ⟨p.toArray⟩) true).run prog (w.alloc (.cells #[.string ⟨p.toArray⟩, .int .i64 kd] 56)) = .ok (.tuple #[v2, .bool s2]) (w.alloc (.cells #[.string ⟨p.toArray⟩, .int .i64 kd] 56)) := hlk2
 clear hlk1 hlk2 hMa hMb hMa2 hMb2
 by_cases h1 : kd = 1
 ·rw [if_pos h1] at hRF
  subst h1
  subst hRF
  go_enter func65, ntmps65
  cases s1 <;> cases s2 <;> (go_wp2; go_ret; exact ⟨rfl, hB2⟩)
 ·by_cases h2 : kd = 2
  ·rw [if_neg h1, if_pos h2] at hRF
   subst h2
   subst hRF
   go_enter func65, ntmps65
   cases s1 <;> cases s2 <;> (go_wp2; go_ret; exact ⟨rfl, hB2⟩)
  ·rw [if_neg h1, if_neg h2] at hRF
   subst hRF
   go_enter func65, ntmps65
   cases s1 <;> cases s2 <;> (go_wp2; go_ret; exact ⟨rfl, hB2⟩)
end Go.Proofs.Tryd
