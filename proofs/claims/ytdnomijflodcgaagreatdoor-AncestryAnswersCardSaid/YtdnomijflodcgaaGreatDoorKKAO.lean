/- ancestry.independent, Bases, Independent: walked; as contracts. -/
import Derived.Test.YtdnomijflodcgaaGreatDoorKKAN
import Derived.Test.YtdnomijflodcgaaGreatDoorKS0
set_option linter.unusedVariables false
set_option linter.unusedSimpArgs false
namespace Go.Proofs.Tryz
open Go.Shelf Go.RowKit Go.VS Go Go.Sort
theorem VE {w : World} {B : Nat} {v : Value} {l : List Int} (h : Fs w B v l) : ∃ a c, v = .slice a l.length c ∧ W7 w a l := by
 obtain ⟨hlen, h⟩ := h
 rcases h with ⟨rfl, hn⟩ | ⟨g, cap, cur, rfl, hg, hb, hnc, hcm, hcs, htk⟩
 ·have hn : l = [] := List.length_eq_zero_iff.1 hn; subst hn; exact ⟨none, 0, rfl, ⟨fun k x hx => nomatch hx⟩⟩
 ·rw [Nat.mul_one] at htk; refine ⟨some ⟨g, 0, none⟩, cap, rfl, ⟨fun k x hx => ⟨g, 0, rfl, (Array.getElem?_eq_some_iff.1 hb).1, ?_⟩⟩⟩; obtain ⟨hk, he⟩ := List.getElem?_eq_some_iff.1 hx
  have h1 : (cur.toList.take l.length)[k]? = (l.map (Value.int .i64))[k]? := by rw [htk]
  rw [List.getElem?_take_of_lt hk, List.getElem?_map, hx, Array.getElem?_toList] at h1; rw [Nat.zero_add]; exact (AG hb k).trans h1
def PL (g : List Ai) (pa : Option Addr) (ca : Nat) (w : World) : Prop := ∀ (W : World) (c : Int), Below w.heap.size w W → inR g c → Calls prog 57 #[.slice pa g.length ca, .int .i64 c] W fun e w' => ∃ pt ct t, L0 g [c] t ∧ e = .returned (.slice pt g.length ct) ∧ NV w' W.heap.size pt t ∧ Below W.heap.size W w'
set_option maxHeartbeats 4000000 in
set_option maxRecDepth 1000000 in
theorem O3 (g : List Ai) (l : List Int) (pa : Option Addr) (ca : Nat) (v : Value) (B : Nat) (w : World) (hn : g.length ≤ 1000000) (hl : l.length ≤ 1000000) (hr : ∀ x ∈ l, inR g x) (hown : Fs w B v l) (hanc : PL g pa ca w) :
  Calls prog 61 #[.slice pa g.length ca, v] w fun e w' => ∃ v' d, FV g l d ∧ e = .returned v' ∧ Fs w' B v' d ∧ w.grownBy w' v.ownBlock := by
 obtain ⟨al, cl, rfl, hla⟩ := VE hown; obtain ⟨i0, hi, hz0, hz1, hz2⟩ := info_parts (P := prog) (e := 4) (z := .bool false) (size := 1) (bytes := 1) (by kernel_rfl)
 go_enter func61, ntmps61
 go_wp2_with (at_make; refine wpList_make_full _ rfl _ _ 85 rfl w.heap.size 4 i0 (.bool false) 1 underlying85 hi hz0 hz1 _ _ _ _ g.length rfl rfl rfl rfl ?m1 ?m2 ?m3 ?_)
 case m1 => rw [hz2]; omega
 case m2 => unfold maxLen; omega
 case m3 => exact Nat.le_refl _
 intro w1 hown1 hgr1
 have hlv : w.heap.size < w1.heap.size := by
  have := (World.ownsRow.lt hown1 w.heap.size rfl).2; exact this
 rw [toList_madeCells_one] at hown1
 have hown1' : w1.ownsRow w.heap.size 4 1 (.slice (some ⟨w.heap.size, 0, none⟩) g.length g.length) g.length ((List.replicate g.length false).map Value.bool) := by rw [List.map_replicate]; exact hown1
 have hB1 : Below w.heap.size w w1 := below_grow (Below.refl _ w) hgr1 (fun i h => nomatch h) (Nat.le_refl _)
 have hCv : Ly (w1.alloc (.cells #[.slice (some ⟨w.heap.size, 0, none⟩) g.length g.length] 85)) g.length w.heap.size w1.heap.size (List.replicate g.length false) := ⟨by simp, World.ownsRow.alloc hown1' _, by simp, hlv, by simp⟩
 have hB2 : Below w.heap.size w (w1.alloc (.cells #[.slice (some ⟨w.heap.size, 0, none⟩) g.length g.length] 85)) := hB1.alloc (by omega) _
 have hL0 : CvL g (l.take 0) (List.replicate g.length false) := fun j hj => by
  rw [EC hj]; exact ⟨fun h => (nomatch h), fun ⟨f, hf, _⟩ => by simp at hf⟩
 clear hown1 hown1' hgr1 hB1
 go_wp2
 generalize w1.heap.size = Bc at *; generalize hBv : w.heap.size = Bv at *
 go_loopw [15] (fun i wr => ∃ k : Nat, k ≤ l.length ∧ i = .int .i64 k ∧ ∃ s, Ly wr g.length Bv Bc s ∧ CvL g (l.take k) s ∧ Below w.heap.size w wr) (fun i _ => l.length - (Lib.intOf i).toNat)
 case atStart => exact ⟨0, Nat.zero_le _, rfl, _, hCv, hL0, by rw [hBv]; exact hB2⟩
 case round =>
  clear hCv hL0 hB2; obtain ⟨k, hk, hi, s, hCv, hL, hB⟩ := hrel; subst hi
  by_cases hks : k < l.length
  ·obtain ⟨bl, off, rfl, hbl, q0⟩ := hla.at_ k l[k] (List.getElem?_eq_getElem hks); have c0 := (hB.cell (p := ⟨bl, off + k, none⟩) hbl).trans q0; have hcr := hr _ (List.getElem_mem hks)
   have hnx := fun t s' => CvL.next (k := k) (s := s) (t := t) (s' := s') (List.getElem?_eq_getElem hks) hCv.len hL
   generalize l[k] = c at c0 hcr hnx; have hcon := hanc wr c hB hcr; clear q0 hL
   go_wp2_with (go_at_call 57; refine hcon.mono ?_; rintro e w3 ⟨pt, ct, t, hT, rfl, hbt, hB3⟩)
   have hBw := hB.trans (hB3.mono hB.size); have hCv3 := hCv.below hB3; have hcl := hCv.lc; have hvl := hCv.lv; have htl : t.length = g.length := hT.1; have hsl := hCv.len
   go_loopw [23] (fun i wq => ∃ j : Nat, j ≤ g.length ∧ i = .int .i64 j ∧ ∃ s', Ly wq g.length Bv Bc s' ∧ CvK s t c j s' ∧ NV wq wr.heap.size pt t ∧ Below w.heap.size w wq) (fun i _ => g.length - (Lib.intOf i).toNat)
   case atStart => exact ⟨0, Nat.zero_le _, rfl, s, hCv3, CvK.zero s t c, hbt, hBw⟩
   case round =>
    clear hcon hbt hBw hB3 hCv3 hCv; obtain ⟨j, hj, hi, s', hCq, hK, hbt, hBq⟩ := hrel; subst hi
    by_cases hjs : j < g.length
    ·obtain ⟨bt, ot, rfl, hge, hltt, ct0⟩ := hbt.at_ j t[j] (List.getElem?_eq_getElem (by omega)); obtain ⟨cv0, cf0⟩ := hCq.cell hjs; have hcel := hCq.cel; have hnxK := hK.next (by omega) (by rw [hCq.len, hsl]); rw [getD_eq (l := t) (by omega)] at hnxK
     have hput : ∀ x, Ly (wr.drew.setCell ⟨Bv, j, none⟩ (.bool x)) g.length Bv Bc (s'.set j x) := fun x => hCq.drew.put j x
     have hbput : ∀ x, NV (wr.drew.setCell ⟨Bv, j, none⟩ (.bool x)) _ (some ⟨bt, ot, none⟩) t := fun x => hbt.drew.put (p := ⟨Bv, j, none⟩) (by show Bv < _; omega) _
     have hBput : ∀ x, Below w.heap.size w (wr.drew.setCell ⟨Bv, j, none⟩ (.bool x)) := fun x => hBq.drew.setCell (p := ⟨Bv, j, none⟩) (by show w.heap.size ≤ Bv; omega) _
     have cv1 : wr.drew.cell? ⟨Bv, j, none⟩ = some (.bool (s'.getD j false)) := cv0; have cf1 : wr.drew.frozen? ⟨Bv, j, none⟩ = false := cf0; clear hbt hCq hK hBq hnx hT hcr hanc hr hla hown c0 hi hz0 hz1 hz2; generalize t[j] = b1 at ct0 hnxK; generalize s'.getD j false = b0 at cv0 cv1 hnxK
     cases b0 with
     | true =>
      rw [Bool.true_or] at hnxK
      go_wp2_with fail
      go_region
      go_wp2
      go_roundw
      case rel => exact ⟨j + 1, by omega, by simp, _, hput true, hnxK, hbput true, hBput true⟩
      case measure => simp only [Lib.intOf]; omega
     | false =>
      cases b1 with
      | false =>
       rw [Bool.false_and, Bool.or_false] at hnxK
       go_wp2_with fail
       go_region
       go_wp2
       go_roundw
       case rel => exact ⟨j + 1, by omega, by simp, _, hput false, hnxK, hbput false, hBput false⟩
       case measure => simp only [Lib.intOf]; omega
      | true =>
       by_cases hjc : (j : Int) = c
       ·rw [decide_eq_false (by simpa using hjc), Bool.and_false, Bool.or_false] at hnxK; subst hjc
        go_wp2_with fail
        go_region
        go_wp2
        go_roundw
        case rel => exact ⟨j + 1, by omega, by simp, _, hput false, hnxK, hbput false, hBput false⟩
        case measure => simp only [Lib.intOf]; omega
       ·rw [decide_eq_true hjc, Bool.and_true, Bool.or_true] at hnxK; have hbn : ((j : Int) != c) = true := bne_iff_ne.2 hjc
        go_wp2_with fail
        go_region
        go_wp2
        go_roundw
        case rel => exact ⟨j + 1, by omega, by simp, _, hput true, hnxK, hbput true, hBput true⟩
        case measure => simp only [Lib.intOf]; omega
    ·have hje : j = g.length := by omega
     subst hje
     go_wp2
     go_roundw
     case rel => exact ⟨k + 1, by omega, by simp, s', hCq, hnx t s' hT hK, hBq⟩
     case measure => simp only [Lib.intOf]; omega
  ·have hke : k = l.length := by omega
   subst hke; rw [List.take_length] at hL
   have hr2 : ∀ x ∈ l, 0 ≤ x ∧ x < (g.length : Int) := fun x hx => hr x hx
   have hown2 : Fs wr B (.slice al l.length cl) l := X2 hown hB
   have hlt := fun k hk => (World.ownsRow.lt hown k hk).2
   have hcon := Xz B (.slice al l.length cl) l s Bv Bc wr hown2 hr2 (by omega) hCv ⟨fun e => by have := hlt _ e; omega, fun e => by have := hlt _ e; omega⟩
   have hind : FV g l (l.filter fun x => !s.getD x.toNat false) := ⟨fun x => !s.getD x.toNat false, fun x hx => by
    have h1 := hr2 x hx; have h2 := hL x.toNat (by omega); rw [show ((x.toNat : Nat) : Int) = x by omega] at h2; show (!s.getD x.toNat false) = true ↔ _; rw [← h2]; generalize s.getD x.toNat false = r
    cases r <;> decide, rfl⟩
   clear hL hown hown2 hanc hla
   go_wp2_with (go_at_call 90; refine hcon.mono ?_; rintro e w5 ⟨v5, rfl, hg5, hown5⟩)
   go_ret
   exact ⟨_, _, hind, rfl, hown5, ⟨hg5.os.trans hB.os, hg5.tape.trans hB.tape, hg5.output.trans hB.output, Nat.le_trans hB.size hg5.size, fun i hi hne => (hg5.block i (by have := hB.size; omega) hne).trans (hB.block i hi)⟩⟩
end Go.Proofs.Tryz
