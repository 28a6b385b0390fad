/- changes.Everywhere, walked: the paths that are in all lists. -/
import Derived.Test.YtdnomijflodcgaaDoorKKDS
import Derived.Test.YtdnomijflodcgaaDoorKKShelf
import Derived.Test.YtdnomijflodcgaaDoorKKE2
import Derived.Test.YtdnomijflodcgaaDoorKSm3
import Derived.Shelf.SlicesQ.IndexFunc
set_option linter.unusedVariables false
set_option linter.unusedSimpArgs false
namespace Go.Proofs.Tryd
open Go.Shelf Go.RowKit Go.VS Go Go.Maps Go.Sort
set_option maxHeartbeats 1000000 in
theorem ZX (a : Option Addr) (c : Nat) (fv : Value) (W : World) : Calls prog 67 #[.slice a 0 c, fv] W fun e w' => e = .returned (.int .i64 (-1)) ∧ Below W.heap.size W w' := by
 go_enter func67, ntmps67
 go_wp2
 refine wp_loop_rounds 1 ?_
 rw [rounds_succ]
 go_wp2
 go_ret
 exact ⟨rfl, Below.refl _ W⟩
set_option maxHeartbeats 1000000 in
theorem Zn (a : Option Addr) (c : Nat) (fv : Value) (W : World) : Calls prog 44 #[.slice a 0 c, fv] W fun e w' => e = .returned (.bool false) ∧ Below W.heap.size W w' := by
 go_enter func44, ntmps44
 go_wp2_with (go_at_call 67; refine (ZX a c fv W).mono ?_; rintro e w1 ⟨rfl, hB1⟩)
 go_ret
 exact ⟨rfl, hB1⟩
set_option maxHeartbeats 1000000 in
theorem Wr (x : DB) (p : Bs) (Bd : Nat) (W : World) (hp : p.length ≤ 140737488351232) (hd : W.cell? ⟨Bd, 0, none⟩ = some (.string ⟨p.toArray⟩)) (ld : Bd < W.heap.size) :
  Calls prog 45 #[.agg #[.string ⟨x.1.1.toArray⟩, .int .i64 x.1.2], .pointer (some ⟨Bd, 0, none⟩)] W fun e w' => e = .returned (.bool (x.1.1 == p)) ∧ Below W.heap.size W w' := by
 obtain ⟨⟨q, kd⟩, hq⟩ := x
 dsimp only at hq ⊢
 have nd : Bd ≠ W.heap.size := by omega
 have hB2 := (Below.refl _ W).alloc (Nat.le_refl _) (.cells #[.string ⟨q.toArray⟩, .int .i64 kd] 36)
 go_enter func45, ntmps45
 go_wp2
 go_ret
 exact ⟨by simp, hB2⟩
theorem ZW (l : List AE) (hl : ∀ t ∈ l, t.1.length ≤ 140737488351232) (hn : l.length ≤ 1000000) (p : Bs) (hp : p.length ≤ 140737488351232) (pl : Option Addr) (cl : Nat) (Bd : Nat) (W : World) (hv : RT W pl l) (hd : W.cell? ⟨Bd, 0, none⟩ = some (.string ⟨p.toArray⟩)) (ld : Bd < W.heap.size) :
  Calls prog 44 #[.slice pl l.length cl, .func (.func 45) #[] #[.pointer (some ⟨Bd, 0, none⟩)]] W fun e w' => e = .returned (.bool (Jh l p)) ∧ Below W.heap.size W w' := by
 by_cases hne : l = []
 ·subst hne
  exact Zn pl cl _ W
 ·have h0 : 0 < l.length := List.length_pos_iff.2 hne
  obtain ⟨bl, off, rfl, hbl, _, _⟩ := hv.at_ 0 _ (List.getElem?_eq_getElem h0)
  obtain ⟨zs, hz⟩ := Xi l hl
  have hzl : zs.length = l.length := by rw [← hz, List.length_map]
  have hpr : PredBelow prog 45 #[.pointer (some ⟨Bd, 0, none⟩)] (fun x : DB => .agg (Acz x).toArray) (fun x => x.1.1 == p) W := fun W' x hB => by
   have hc := (hB.cell (p := ⟨Bd, 0, none⟩) ld).trans hd
   have hs := hB.size
   refine (Wr x p Bd W' hp hc (by omega)).mono ?_
   rintro e w1 ⟨rfl, hB1⟩
   exact ⟨rfl, hB.trans (hB1.mono hs)⟩
  have hcon := AnyQ.slices_ContainsFunc Tryd.cfD 2 Tryd.isAgg36 Tryd.sizeOf36 Acz (fun _ => rfl) (fun x => x.1.1 == p) 45 #[.pointer (some ⟨Bd, 0, none⟩)] (enters_of func45 (by kernel_rfl) rfl) bl off l.length cl zs W hpr (by omega) (by omega) hbl (fun j hj i v hi => by
   have hj' : j < l.length := by omega
   obtain ⟨b', off', he, _, q0, q1⟩ := hv.at_ j _ (List.getElem?_eq_getElem hj')
   cases he
   have hx : (zs[j]!).1 = l[j] := by
    rw [getElem!_pos zs j hj]
    have : (zs.map (·.1))[j]? = l[j]? := by rw [hz]
    rw [List.getElem?_map, List.getElem?_eq_getElem hj, List.getElem?_eq_getElem hj'] at this
    exact Option.some.inj this
   unfold Acz at hi
   rw [hx] at hi
   match i, hi with
   | 0, hi => simp [O9] at hi; rw [← hi]; exact q0
   | 1, hi => simp [O9] at hi; rw [← hi]; exact q1
   | i + 2, hi => simp [O9] at hi)
  refine hcon.mono ?_
  rintro e w' ⟨rfl, hB⟩
  refine ⟨?_, hB⟩
  have e1 : (zs.take l.length).any (fun x => x.1.1 == p) = Jh l p := by
   rw [List.take_of_length_le (by omega)]
   unfold Jh
   rw [← hz, List.any_map]
   rfl
  rw [e1]
set_option maxHeartbeats 1000000 in
theorem TJ (l : List AE) (hl : ∀ t ∈ l, t.1.length ≤ 140737488351232) (hn : l.length ≤ 1000000) (p : Bs) (hp : p.length ≤ 140737488351232) (pl : Option Addr) (cl : Nat) (Bd : Nat) (W : World) (hv : RT W pl l) (hd : W.cell? ⟨Bd, 0, none⟩ = some (.string ⟨p.toArray⟩)) (ld : Bd < W.heap.size) :
  Calls prog 43 #[.slice pl l.length cl, .pointer (some ⟨Bd, 0, none⟩)] W fun e w' => e = .returned (.bool (Jh l p)) ∧ Below W.heap.size W w' := by
 have hcon := ZW l hl hn p hp pl cl Bd W hv hd ld
 generalize Jh l p = r at hcon ⊢
 go_enter func43, ntmps43
 go_wp2_with (go_at_call 44; refine hcon.mono ?_; rintro e w1 ⟨rfl, hB1⟩)
 go_ret
 exact ⟨rfl, hB1⟩
set_option maxHeartbeats 1000000 in
theorem TK (l : List AE) (hl : ∀ t ∈ l, t.1.length ≤ 140737488351232) (hn : l.length ≤ 1000000) (p : Bs) (hp : p.length ≤ 140737488351232) (pl : Option Addr) (cl : Nat) (Bd Bi : Nat) (W : World) (hv : RT W pl l) (hd : W.cell? ⟨Bd, 0, none⟩ = some (.string ⟨p.toArray⟩)) (ld : Bd < W.heap.size)
  (hi : W.cell? ⟨Bi, 0, none⟩ = some (.func (.func 43) #[] #[.pointer (some ⟨Bd, 0, none⟩)])) (li : Bi < W.heap.size) :
  Calls prog 47 #[.slice pl l.length cl, .pointer (some ⟨Bi, 0, none⟩)] W fun e w' => e = .returned (.bool (!Jh l p)) ∧ Below W.heap.size W w' := by
 have hcon := TJ l hl hn p hp pl cl Bd W hv hd ld
 have eg : ∀ args w, (callFunc 43 args).run prog w = .ok (.enter 43 args) w := enters_of func43 (by kernel_rfl) rfl
 generalize Jh l p = r at hcon ⊢
 go_enter func47, ntmps47
 go_wp2_with (go_at_fn 43; refine hcon.mono ?_; rintro e w1 ⟨rfl, hB1⟩)
 go_ret
 exact ⟨rfl, hB1⟩
structure XE (w : World) (a : Option Addr) (L : List (List AE)) : Prop where
 at_ : ∀ (k : Nat) (l : List AE), L[k]? = some l → ∃ b off pl cl, a = some ⟨b, off, none⟩ ∧ b < w.heap.size ∧ w.cell? ⟨b, off + k, none⟩ = some (.slice pl l.length cl) ∧ RT w pl l
theorem XE.below {w w' : World} {a : Option Addr} {L : List (List AE)} (h : XE w a L) (hb : Below w.heap.size w w') : XE w' a L :=
 ⟨fun k l hk => by
  obtain ⟨b, off, pl, cl, h1, h2, h3, h4⟩ := h.at_ k l hk
  exact ⟨b, off, pl, cl, h1, Nat.lt_of_lt_of_le h2 hb.size, (hb.cell (p := ⟨b, off + k, none⟩) h2).trans h3, h4.below hb⟩⟩
structure XD (w : World) (a : Option Addr) (L : List (List AE)) (p : Bs) (Bd Bi : Nat) : Prop where
 ls : XE w a L
 d : w.cell? ⟨Bd, 0, none⟩ = some (.string ⟨p.toArray⟩)
 ld : Bd < w.heap.size
 i : w.cell? ⟨Bi, 0, none⟩ = some (.func (.func 43) #[] #[.pointer (some ⟨Bd, 0, none⟩)])
 li : Bi < w.heap.size
theorem XD.below {w w' : World} {a : Option Addr} {L : List (List AE)} {p : Bs} {Bd Bi : Nat} (h : XD w a L p Bd Bi) (hb : Below w.heap.size w w') : XD w' a L p Bd Bi :=
 ⟨h.ls.below hb, (hb.cell (p := ⟨Bd, 0, none⟩) h.ld).trans h.d, Nat.lt_of_lt_of_le h.ld hb.size, (hb.cell (p := ⟨Bi, 0, none⟩) h.li).trans h.i, Nat.lt_of_lt_of_le h.li hb.size⟩
theorem XF (L : List (List AE)) (p : Bs) {k : Nat} (h : k < L.length) : FA (L.take (k + 1)) p = (FA (L.take k) p && Jh L[k] p) := by
 have := QU L p h
 rwa [getD_eq h] at this
theorem Y1 {L : List (List AE)} {p : Bs} {k : Nat} (h : k < L.length) (hb : Jh L[k] p = false) : FA L p = false := by
 unfold FA
 rw [List.all_eq_false]
 exact ⟨_, List.getElem_mem h, by rw [hb]; simp⟩
set_option maxHeartbeats 2000000 in
theorem Ya (L : List (List AE)) (hl : ∀ l ∈ L, l.length ≤ 1000000 ∧ ∀ t ∈ l, t.1.length ≤ 140737488351232) (hn : L.length ≤ 1000000) (p : Bs) (hp : p.length ≤ 140737488351232) (pa : Option Addr) (ca : Nat) (Bd Bi : Nat) (W : World) (hE : XD W pa L p Bd Bi) :
  Calls prog 68 #[.slice pa L.length ca, .func (.func 47) #[] #[.pointer (some ⟨Bi, 0, none⟩)]] W fun e w' => (∃ r : Int, e = .returned (.int .i64 r) ∧ decide (r ≥ 0) = !FA L p) ∧ Below W.heap.size W w' := by
 have eg : ∀ args w, (callFunc 47 args).run prog w = .ok (.enter 47 args) w := enters_of func47 (by kernel_rfl) rfl
 go_enter func68, ntmps68
 go_wp2
 go_loopw [8] (fun i wr => ∃ k : Nat, k ≤ L.length ∧ i = .int .i64 k ∧ FA (L.take k) p = true ∧ Below W.heap.size W wr) (fun i _ => L.length - (Lib.intOf i).toNat)
 case atStart => exact ⟨0, Nat.zero_le _, rfl, rfl, Below.refl _ W⟩
 case round =>
  obtain ⟨k, hk, hi, ha, hB⟩ := hrel
  subst hi
  by_cases hks : k < L.length
  ·obtain ⟨b, off, pl, cl, rfl, hb, q0, hv⟩ := hE.ls.at_ k L[k] (List.getElem?_eq_getElem hks)
   have c0 := (hB.cell (p := ⟨b, off + k, none⟩) hb).trans q0
   have hnx := XF L p hks
   rw [ha, Bool.true_and] at hnx
   have hbad := fun h => Y1 (p := p) hks h
   obtain ⟨hln, hlt⟩ := hl _ (List.getElem_mem hks)
   have hE2 := hE.below hB
   have hcon := TK L[k] hlt hln p hp pl cl Bd Bi wr (hv.below hB) hE2.d hE2.ld hE2.i hE2.li
   generalize L[k] = l at c0 hnx hbad hcon
   clear hE2 hlt hv q0 hE
   cases hr : Jh l p with
   | true =>
    rw [hr] at hcon hnx
    clear hbad hr
    go_wp2_with (go_at_fn 47; refine hcon.mono ?_; rintro e w1 ⟨rfl, hB1⟩)
    go_roundw
    case rel => exact ⟨k + 1, by omega, by simp, hnx, hB.trans (hB1.mono hB.size)⟩
    case measure => simp only [Lib.intOf]; omega
   | false =>
    rw [hr] at hcon
    have hb2 := hbad hr
    clear hbad hr
    go_wp2_with (go_at_fn 47; refine hcon.mono ?_; rintro e w1 ⟨rfl, hB1⟩)
    go_ret
    refine ⟨⟨_, rfl, ?_⟩, hB.trans (hB1.mono hB.size)⟩
    rw [hb2]
    simp
  ·have hke : k = L.length := by omega
   subst hke
   rw [List.take_length] at ha
   go_wp2
   go_ret
   exact ⟨⟨_, rfl, by rw [ha]; rfl⟩, hB⟩
set_option maxHeartbeats 1000000 in
theorem XT (L : List (List AE)) (hl : ∀ l ∈ L, l.length ≤ 1000000 ∧ ∀ t ∈ l, t.1.length ≤ 140737488351232) (hn : L.length ≤ 1000000) (p : Bs) (hp : p.length ≤ 140737488351232) (pa : Option Addr) (ca : Nat) (Bd Bi : Nat) (W : World) (hE : XD W pa L p Bd Bi) :
  Calls prog 46 #[.slice pa L.length ca, .func (.func 47) #[] #[.pointer (some ⟨Bi, 0, none⟩)]] W fun e w' => e = .returned (.bool (!FA L p)) ∧ Below W.heap.size W w' := by
 have hcon := Ya L hl hn p hp pa ca Bd Bi W hE
 generalize (!FA L p) = r at hcon ⊢
 go_enter func46, ntmps46
 go_wp2_with (go_at_call 68; refine hcon.mono ?_; rintro e w1 ⟨⟨q, rfl, hq⟩, hB1⟩)
 go_ret
 exact ⟨by subst hq; rfl, hB1⟩
end Go.Proofs.Tryd
