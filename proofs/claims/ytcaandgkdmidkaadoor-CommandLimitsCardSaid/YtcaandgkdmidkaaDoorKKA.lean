/- ref02.All, walked. -/
import Derived.Test.YtcaandgkdmidkaaDoorKKShelf
import Derived.Test.YtcaandgkdmidkaaDoorKSpAll
import Derived.Test.YtcaandgkdmidkaaDoorFwD
import Derived.Lib.AppendStr
import Derived.Lib.BufferRead
import Derived.Laws.IdiomStrings
import Derived.WalkKit
import Derived.Test.YtcaandgkdmidkaaDoorChecked
set_option linter.unusedVariables false
set_option linter.unusedSimpArgs false
namespace Go.Proofs.Tryd
open Go.Shelf Go.RowKit Go.VS
structure Ui (w : World) (a : Option Addr) (l : List Bs) : Prop where
 at_ : ∀ (k : Nat) (s : Bs), l[k]? = some s → ∃ b off, a = some ⟨b, off, none⟩ ∧ b < w.heap.size ∧ w.cell? ⟨b, off + k, none⟩ = some (.string ⟨s.toArray⟩)
theorem RZ : ∀ (l : List Bs) (k : Nat), (l.take k).flatten.length ≤ l.flatten.length
 | [], k => by simp
 | s :: l, 0 => by simp
 | s :: l, k + 1 => by
  have := RZ l k
  simp only [List.take_succ_cons, List.flatten_cons, List.length_append]
  omega
theorem NH : ∀ (l : List Bs) (k : Nat) (s : Bs), l[k]? = some s → (l.take (k + 1)).flatten = (l.take k).flatten ++ s
 | [], k, s, h => nomatch h
 | t :: l, 0, s, h => by
  obtain rfl : t = s := by simpa using h
  simp
 | t :: l, k + 1, s, h => by
  rw [List.take_succ_cons, List.flatten_cons, NH l k s (by simpa using h), List.take_succ_cons, List.flatten_cons, List.append_assoc]
theorem Ri {w : World} {B : Nat} {v : Value} {l : Bs} (h : w.ownsRow B 5 1 v l.length (Lib.byteCells l)) : (convert 75 9 v).run prog w = .ok (.string ⟨l.toArray⟩) w := by
 rcases h.2 with ⟨rfl, h0⟩ | ⟨g, cap, cur, rfl, _, hg, _, _, _, htk⟩
 ·have : l = [] := List.eq_nil_of_length_eq_zero h0
  subst this
  exact Lib.run_convert_nil_bytes w 75 9 5 0 underlying75 underlying5 underlying9
 ·exact run_convert_bytes_back w 75 9 5 ⟨g, 0, none⟩ cap l underlying75 underlying5 underlying9 (Lib.bytes_of_row hg (by simpa using htk))
set_option maxHeartbeats 2000000 in
set_option maxRecDepth 1000000 in
theorem SJ (l : List Bs) (hl : l.flatten.length ≤ 100000000) (hn : l.length ≤ 140737488351232) (a : Option Addr) (c : Nat) (w : World) (hv : Ui w a l) :
  Calls prog 51 #[.slice a l.length c] w fun e w' => e = .returned (.string ⟨l.flatten.toArray⟩) ∧ Below w.heap.size w w' := by
 obtain ⟨i0, hi, hz0, hz1, hz2⟩ := info_parts (P := prog) (e := 5) (z := .int .u8 0) (size := 1) (bytes := 1) (by kernel_rfl)
 go_enter func51, ntmps51
 go_wp2
 go_loopw [3, 4] (fun v i wr => ∃ k : Nat, k ≤ l.length ∧ i = .int .i64 k ∧ wr.ownsRow w.heap.size 5 1 v (l.take k).flatten.length (Lib.byteCells (l.take k).flatten) ∧ Below w.heap.size w wr) (fun _ i _ => l.length - (Lib.intOf i).toNat)
 case atStart => exact ⟨0, by omega, rfl, World.ownsRow_nil _ _ _ _, Below.refl _ w⟩
 case round =>
  obtain ⟨k, hk, hi', hown, hbw⟩ := hrel
  subst hi'
  have hsz : w.heap.size ≤ wr.heap.size := hbw.size
  by_cases hks : k < l.length
  ·obtain ⟨b, off, rfl, hb, q0⟩ := hv.at_ k l[k] (List.getElem?_eq_getElem hks)
   have c0 := (hbw.cell (p := ⟨b, off + k, none⟩) hb).trans q0
   have hnx := NH l k l[k] (List.getElem?_eq_getElem hks)
   have hle := RZ l (k + 1)
   generalize hs : l[k] = s at c0 hnx
   rw [hnx, List.length_append] at hle
   go_wp2_with (at_builtin; refine Lib.wpList_append_own_string _ rfl _ _ 75 9 rfl w.heap.size 5 i0 underlying75 underlying9 hi hz0 hz1 hz2 _ _ _ rfl hown ⟨s.toArray⟩ rfl ?a3 ?a4 ?a5 ?_)
   case a3 => show _ + s.length ≤ maxLen; unfold maxLen; omega
   case a4 => show _ + s.length ≤ _; omega
   case a5 => exact hsz
   intro v2 w2 own2 gr _
   go_wp2
   go_roundw
   case rel =>
    refine ⟨k + 1, by omega, by simp, ?_, hbw.trans ?_⟩
    ·rw [hnx, List.length_append, Lib.byteCells_append]
     have e9 : (List.take k (List.map List.length l)).sum = (l.take k).flatten.length := by simp [List.length_flatten, List.map_take]
     rw [e9] at own2
     exact own2
    ·exact ⟨gr.os, gr.tape, gr.output, gr.size, fun j hj => gr.block j (by omega) (fun e => by
      have := (hown.lt j e.symm).1
      omega)⟩
   case measure =>
    simp only [Lib.intOf]
    omega
  ·have hke : k = l.length := by omega
   subst hke
   rw [List.take_length] at hown
   have hcv := Ri hown
   go_wp2
   go_ret
   exact ⟨rfl, hbw⟩
theorem Ks : ∀ (l : List Bs) {k : Nat} {s : Bs}, l[k]? = some s → (l.map (BT.str.enc .leaf)).flatten[k]? = some (AV.lit (.string ⟨s.toArray⟩))
 | [], _, _, h => nomatch h
 | t :: l, 0, s, h => by
  obtain rfl : t = s := by simpa using h
  rfl
 | t :: l, k + 1, s, h => Ks l (k := k) (s := s) (by simpa using h)
theorem Ya : YC (Pg.of prog) := by
 intro l hl hl2
 refine Fn.N1 (S := Pb) rfl rfl l l.flatten () rfl fun f fn hf hn => ?_
 have hfi : f = 51 := Ka (by kernel_rfl) hf hn
 subst hfi
 have hfe := Option.some.inj (hf.symm.trans func51)
 subst hfe
 refine ⟨by kernel_rfl, by kernel_rfl, fun μ sv w vs hsv hw hargs => ?_⟩
 obtain ⟨hsize, hat⟩ := hargs
 have hsv : svs μ dv dl [.one (.sl .brw .leaf .str l)] sv := hsv
 match sv, hsv with
 | [s0], ⟨⟨a0, e0, r0⟩, _⟩ =>
  have r0 : a0 = .sl .brw 1 (l.map (BT.str.enc .leaf)) := r0
  subst e0 r0
  obtain ⟨C0, f0, _, h0⟩ := hat 0 _ rfl
  have hlit : ∀ x ∈ l.map (BT.str.enc .leaf), ∀ a ∈ x, ∃ u, a = AV.lit u := by
   intro x hx a ha
   obtain ⟨s, _, rfl⟩ := List.mem_map.1 hx
   have ha : a ∈ [AV.lit (.string ⟨s.toArray⟩)] := ha
   rw [List.mem_singleton.1 ha]
   exact ⟨_, rfl⟩
  obtain ⟨hrd, _⟩ := Sv (show RV C0 w (.sl .brw 1 (l.map (BT.str.enc .leaf))) (vs.getD 0 undef) f0 from h0) hlit
  obtain ⟨a, c, hv0, hst⟩ : ∃ a c, vs.getD 0 undef = .slice a l.length c ∧ Ui w a l := by
   rcases hrd with ⟨hnil, a, c, hv⟩ | ⟨b, off, c, hv, hb, hc⟩
   ·have hnil : l = [] := by simpa using hnil
    subst hnil
    exact ⟨a, c, hv, ⟨fun k s hk => by simp at hk⟩⟩
   ·exact ⟨some ⟨b, off, none⟩, c, by simpa using hv, ⟨fun k s hk => ⟨b, off, rfl, hb, hc k _ (Ks l hk)⟩⟩⟩
  have hvs : vs = #[.slice a l.length c] := by
   apply Array.ext
   ·simpa using hsize
   ·intro i hi1 hi2
    have hi : i = 0 := by simp at hi2; omega
    subst hi
    have : vs.getD 0 undef = vs[0] := by simp [hi1]
    rw [← this, hv0]; rfl
  subst hvs
  exact SJ l hl (by omega) a c w hst
end Go.Proofs.Tryd
