/- tree.permitted and tree.possible, walked. -/
import Derived.Test.YtdnomijflodcgaaGreatDoorKKX
import Derived.Test.YtdnomijflodcgaaGreatDoorKKY
import Derived.Test.YtdnomijflodcgaaGreatDoorKKDS
import Derived.Test.YtdnomijflodcgaaGreatDoorKSm0
set_option linter.unusedVariables false
set_option linter.unusedSimpArgs false
namespace Go.Proofs.Tryz
open Go.Shelf Go.RowKit Go.VS Go Go.Maps
def MB (w : World) (b n : Nat) (g : Bs → Option Bool) : Prop := Ec prog 9 (Elt.bool underlying4) w b n g
theorem AmA (w : World) : (zeroValue 4).run prog w = .ok ((Elt.bool (P := prog) underlying4).val false) w := Tryz.zeroValue4 w
def AlF (s : List Bs) : Bs → Option Bool := fun p => if p ∈ s then some true else none
theorem Amp (s : List Bs) (p : Bs) : ∀ x, AlF (p :: s) x = gput (AlF s) p true x := fun x => by
 unfold AlF gput
 dsimp only
 by_cases h : x = p
 ·rw [if_pos h, if_pos (by rw [h]; exact List.mem_cons_self ..)]
 ·rw [if_neg h]
  by_cases h2 : x ∈ s
  ·rw [if_pos h2, if_pos (List.mem_cons_of_mem _ h2)]
  ·rw [if_neg h2, if_neg (fun h3 => (List.mem_cons.1 h3).elim h h2)]
theorem Amo (s : List Bs) (p : Bs) : (AlF s p).getD false = decide (p ∈ s) := by
 unfold AlF
 by_cases h : p ∈ s
 ·rw [if_pos h, decide_eq_true h]; rfl
 ·rw [if_neg h, decide_eq_false h]; rfl
def PM (d : List Af3) (RF : Bool) (R : Nat) (w : World) (k : Nat) (wr : World) : Prop := Ale (d.drop k) ((d.take k).map (·.1)).reverse = RF ∧ MB wr R k (AlF ((d.take k).map (·.1)).reverse) ∧ Below w.heap.size w wr
set_option maxHeartbeats 2000000 in
set_option maxRecDepth 1000000 in
theorem Alq (d : List Af3) (hn : d.length ≤ 1000000) (hl : ∀ t ∈ d, t.1.length ≤ 140737488351232) (a : Option Addr) (c : Nat) (w : World) (hv : Ai6 w a d) :
  Calls prog 67 #[.slice a d.length c] w fun e w' => e = .returned (.bool (Ale d [])) ∧ Below w.heap.size w w' := by
 generalize hRF : Ale d [] = RF
 go_enter func67, ntmps67
 have hmk : (Instr.makeMap 127 none).run prog w = .ok (.map (some w.heap.size)) (w.alloc (.map #[] 0)) := rfl
 go_wp2
 have h0 : PM d RF w.heap.size w 0 (w.alloc (.map #[] 0)) := ⟨hRF, Ec.congr (Ec.made (Elt.bool underlying4) w) fun k => rfl, (Below.refl _ w).alloc (Nat.le_refl _) _⟩
 generalize w.alloc (.map #[] 0) = w1 at h0 ⊢
 clear hRF hmk
 go_loopw [9] (fun i wr => ∃ k : Nat, k ≤ d.length ∧ i = .int .i64 k ∧ PM d RF w.heap.size w k wr) (fun i _ => d.length - (Lib.intOf i).toNat)
 case atStart => exact ⟨0, Nat.zero_le _, rfl, h0⟩
 case round =>
  clear h0
  obtain ⟨k, hk, hi, hP, hM, hB⟩ := hrel
  subst hi
  by_cases hks : k < d.length
  ·obtain ⟨bl, off, rfl, hbl, q0, q1⟩ := hv.at_ k d[k] (List.getElem?_eq_getElem hks)
   have c0 := (hB.cell (p := ⟨bl, off + k * 2, none⟩) hbl).trans q0
   have c1 := (hB.cell (p := ⟨bl, off + k * 2 + 1, none⟩) hbl).trans q1
   have hl1 := hl _ (List.getElem_mem hks)
   rw [List.drop_eq_getElem_cons hks, Ale] at hP
   have hrv : ((d.take (k + 1)).map (·.1)).reverse = d[k].1 :: ((d.take k).map (·.1)).reverse := by
    rw [List.take_succ_eq_append_getElem hks, List.map_append, List.reverse_append]
    rfl
   have hfin : ∀ W : World, Ale (d.drop (k + 1)) (d[k].1 :: ((d.take k).map (·.1)).reverse) = RF → MB W w.heap.size (k + 1) (AlF (d[k].1 :: ((d.take k).map (·.1)).reverse)) → Below w.heap.size w W → PM d RF w.heap.size w (k + 1) W := fun W h1 h2 h3 => ⟨by rw [hrv]; exact h1, by rw [hrv]; exact h2, h3⟩
   clear hrv q0 q1
   generalize ((d.take k).map (·.1)).reverse = sn at hP hM hfin
   generalize hx : d[k] = x at c0 c1 hl1 hP hfin
   clear hx
   obtain ⟨p, kd⟩ := x
   dsimp only at c0 c1 hl1 hP hfin
   have hM2 := Ec.alloc hM (.cells #[.string ⟨p.toArray⟩, .int .i64 kd] 67)
   have hB2 := hB.alloc hB.size (.cells #[.string ⟨p.toArray⟩, .int .i64 kd] 67)
   have hlk := Ec.Af1 hM2 underlying9 (t := 127) underlying127 (AmA _) trivial (k := p) (by unfold maxLen; omega)
   rw [Amo] at hlk
   have hlk2 : (Instr.lookup 127 (.map (some w.heap.size)) (.string ⟨p.toArray⟩) false).run prog (wr.alloc (.cells #[.string ⟨p.toArray⟩, .int .i64 kd] 67)) = .ok (.bool (decide (p ∈ sn))) (wr.alloc (.cells #[.string ⟨p.toArray⟩, .int .i64 kd] 67)) := hlk
   clear hlk hM
   by_cases h1 : kd < 1
   ·obtain rfl : RF = false := by rw [← hP, if_pos (.inl h1)]
    clear hP hfin
    go_wp2
    go_ret
    exact ⟨rfl, hB2⟩
   ·by_cases h2 : 3 < kd
    ·obtain rfl : RF = false := by rw [← hP, if_pos (.inr (.inl h2))]
     clear hP hfin
     go_wp2
     go_ret
     exact ⟨rfl, hB2⟩
    ·have h2' : ¬ kd > 3 := h2
     by_cases h3 : p ∈ sn
     ·obtain rfl : RF = false := by rw [← hP, if_pos (.inr (.inr h3))]
      rw [decide_eq_true h3] at hlk2
      clear hP hfin h3
      go_wp2
      go_ret
      exact ⟨rfl, hB2⟩
     ·rw [if_neg (fun h => h.elim (fun h => h1 h) fun h => h.elim (fun h => h2 h) h3)] at hP
      rw [decide_eq_false h3] at hlk2
      clear h3
      obtain ⟨w3, hrun, hM3, hg3⟩ := Ec.put hM2 underlying9 (t := 127) underlying127 (by unfold maxLen; omega) (k := p) (by unfold maxLen; omega) (v := true) trivial
      have hrun : (Instr.mapUpdate 127 (.map (some w.heap.size)) (.string ⟨p.toArray⟩) (.bool true)).run prog (wr.alloc (.cells #[.string ⟨p.toArray⟩, .int .i64 kd] 67)) = .ok () w3 := hrun
      have hB3 : Below w.heap.size w w3 := P5 hB2 hg3 (Nat.le_refl _) (Nat.le_refl _)
      have hf := hfin w3 hP (Ec.congr hM3 (Amp sn p)) hB3
      clear hfin hP hM3 hg3 hM2
      go_wp2
      go_roundw
      case rel => exact ⟨k + 1, by omega, by simp, hf⟩
      case measure => simp only [Lib.intOf]; omega
  ·have hke : k = d.length := by omega
   subst hke
   rw [List.drop_length, Ale] at hP
   subst hP
   go_wp2
   go_ret
   exact ⟨rfl, hB⟩
set_option maxHeartbeats 2000000 in
set_option maxRecDepth 1000000 in
theorem Al3 (a b : List Bh) (x : Af3) (hx : x.1.length ≤ 140737488351232) (R1 R2 n1 n2 : Nat) (w : World) (hMa : MG w R1 n1 (D0 a)) (hMb : MG w R2 n2 (D0 b)) :
  Calls prog 70 #[.agg #[.string ⟨x.1.toArray⟩, .int .i64 x.2], .map (some R1), .map (some R2)] w fun e w' => e = .returned (.bool (Ald a b x)) ∧ Below w.heap.size w w' := by
 generalize hRF : Ald a b x = RF
 obtain ⟨p, kd⟩ := x
 dsimp only at hx ⊢
 unfold Ald at hRF
 dsimp only at hRF
 have hMa2 := Ec.alloc hMa (.cells #[.string ⟨p.toArray⟩, .int .i64 kd] 67)
 have hMb2 := Ec.alloc hMb (.cells #[.string ⟨p.toArray⟩, .int .i64 kd] 67)
 have hB2 := (Below.refl _ w).alloc (Nat.le_refl _) (.cells #[.string ⟨p.toArray⟩, .int .i64 kd] 67)
 have hlk1 := Ec.look hMa2 underlying9 (t := 95) underlying95 (AfI _) (by show ([] : Bs).length ≤ maxLen; unfold maxLen; simp) (k := p) (by unfold maxLen; omega)
 have hlk2 := Ec.look hMb2 underlying9 (t := 95) underlying95 (AfI _) (by show ([] : Bs).length ≤ maxLen; unfold maxLen; simp) (k := p) (by unfold maxLen; omega)
 generalize (D0 a p).isSome = s1 at hlk1 hRF
 generalize (D0 b p).isSome = s2 at hlk2 hRF
 generalize (Elt.str (P := prog) underlying9).val ((D0 a p).getD []) = v1 at hlk1
 generalize (Elt.str (P := prog) underlying9).val ((D0 b p).getD []) = v2 at hlk2
 have hlk1' : (Instr.lookup 95 (.map (some R1)) (.string ⟨p.toArray⟩) true).run prog (w.alloc (.cells #[.string ⟨p.toArray⟩, .int .i64 kd] 67)) = .ok (.tuple #[v1, .bool s1]) (w.alloc (.cells #[.string ⟨p.toArray⟩, .int .i64 kd] 67)) := hlk1
 have hlk2' : (Instr.lookup 95 (.map (some R2)) (.string ⟨p.toArray⟩) true).run prog (w.alloc (.cells #[.string ⟨p.toArray⟩, .int .i64 kd] 67)) = .ok (.tuple #[v2, .bool s2]) (w.alloc (.cells #[.string ⟨p.toArray⟩, .int .i64 kd] 67)) := hlk2
 clear hlk1 hlk2 hMa hMb hMa2 hMb2
 by_cases h1 : kd = 1
 ·rw [if_pos h1] at hRF
  subst h1
  subst hRF
  go_enter func70, ntmps70
  cases s1 <;> cases s2 <;> (go_wp2; go_ret; exact ⟨rfl, hB2⟩)
 ·by_cases h2 : kd = 2
  ·rw [if_neg h1, if_pos h2] at hRF
   subst h2
   subst hRF
   go_enter func70, ntmps70
   cases s1 <;> cases s2 <;> (go_wp2; go_ret; exact ⟨rfl, hB2⟩)
  ·rw [if_neg h1, if_neg h2] at hRF
   subst hRF
   go_enter func70, ntmps70
   cases s1 <;> cases s2 <;> (go_wp2; go_ret; exact ⟨rfl, hB2⟩)
end Go.Proofs.Tryz
