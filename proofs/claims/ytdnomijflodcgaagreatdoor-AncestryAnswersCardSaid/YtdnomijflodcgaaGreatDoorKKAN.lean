/- ancestry.independent, walked. -/
import Derived.Test.YtdnomijflodcgaaGreatDoorKKRI
import Derived.Test.YtdnomijflodcgaaGreatDoorKS0
import Derived.Shelf.SlicesE.DeleteFunc
set_option linter.unusedVariables false
set_option linter.unusedSimpArgs false
namespace Go.Proofs.Tryz
open Go.Shelf Go.RowKit Go.VS Go Go.Sort
set_option maxHeartbeats 1000000 in
theorem AbG (a : Option Addr) (c : Nat) (fv : Value) (W : World) : Calls prog 131 #[.slice a 0 c, fv] W fun e w' => e = .returned (.int .i64 (-1)) ∧ w' = W := by
 go_enter func131, ntmps131
 go_wp2
 refine wp_loop_rounds 1 ?_; rw [rounds_succ]
 go_wp2
 go_ret
 exact ⟨rfl, rfl⟩
set_option maxHeartbeats 1000000 in
theorem ZE (a : Option Addr) (c : Nat) (fv : Value) (W : World) : Calls prog 90 #[.slice a 0 c, fv] W fun e w' => e = .returned (.slice a 0 c) ∧ w' = W := by
 go_enter func90, ntmps90
 go_wp2_with (go_at_call 131; refine (AbG a c fv W).mono ?_; rintro e w1 ⟨rfl, rfl⟩)
 go_ret
 exact ⟨rfl, rfl⟩
structure Ly (w : World) (n Bv Bc : Nat) (s : List Bool) : Prop where
 len : s.length = n
 own : w.ownsRow Bv 4 1 (.slice (some ⟨Bv, 0, none⟩) n n) n (s.map Value.bool)
 cel : w.cell? ⟨Bc, 0, none⟩ = some (.slice (some ⟨Bv, 0, none⟩) n n)
 lv : Bv < Bc
 lc : Bc < w.heap.size
theorem Ly.below {w w' : World} {n Bv Bc : Nat} {s : List Bool} (h : Ly w n Bv Bc s) (hb : Below w.heap.size w w') : Ly w' n Bv Bc s where
 len := h.len
 own := by
  refine ⟨h.own.1, ?_⟩
  rcases h.own.2 with h | ⟨g, cap, cur, h1, h2, h3, h4⟩
  ·exact .inl h
  ·have hlt : g < w.heap.size := (Array.getElem?_eq_some_iff.1 h3).1; exact .inr ⟨g, cap, cur, h1, h2, (hb.block g hlt).trans h3, h4⟩
 cel := (hb.cell (p := ⟨Bc, 0, none⟩) h.lc).trans h.cel
 lv := h.lv
 lc := Nat.lt_of_lt_of_le h.lc hb.size
theorem Ly.cell {w : World} {n Bv Bc : Nat} {s : List Bool} (h : Ly w n Bv Bc s) {j : Nat} (hj : j < n) : w.cell? ⟨Bv, j, none⟩ = some (.bool (s.getD j false)) ∧ w.frozen? ⟨Bv, j, none⟩ = false := by
 refine ⟨?_, World.ownsRow.frozenAt h.own j⟩; rw [World.ownsRow.cellAt h.own j (by omega), List.getElem?_map, getD_eq (by rw [h.len]; exact hj), List.getElem?_eq_getElem (by rw [h.len]; exact hj)]
 rfl
theorem Ly.put {w : World} {n Bv Bc : Nat} {s : List Bool} (h : Ly w n Bv Bc s) (j : Nat) (x : Bool) : Ly (w.setCell ⟨Bv, j, none⟩ (.bool x)) n Bv Bc (s.set j x) where
 len := by rw [List.length_set]; exact h.len
 own := by
  have := (World.ownsRow.stored h.own j (.bool x)).1; rw [List.map_set]; exact this
 cel := by
  have hlv := h.lv; rw [← h.cel]; unfold World.cell?; rw [Below.heap_setCell _ _ _ _ (show Bc ≠ Bv by omega)]
 lv := h.lv
 lc := by have := h.lc; simpa using this
theorem Ly.drew {w : World} {n Bv Bc : Nat} {s : List Bool} (h : Ly w n Bv Bc s) : Ly w.drew n Bv Bc s := ⟨h.len, h.own, h.cel, h.lv, h.lc⟩
structure NV (w : World) (B : Nat) (a : Option Addr) (s : List Bool) : Prop where
 at_ : ∀ (k : Nat) (x : Bool), s[k]? = some x → ∃ b off, a = some ⟨b, off, none⟩ ∧ B ≤ b ∧ b < w.heap.size ∧ w.cell? ⟨b, off + k, none⟩ = some (.bool x)
theorem NV.below {w w' : World} {B : Nat} {a : Option Addr} {s : List Bool} (h : NV w B a s) (hb : Below w.heap.size w w') : NV w' B a s :=
 ⟨fun k x hk => by
  obtain ⟨b, off, h1, h0, h2, h3⟩ := h.at_ k x hk
  exact ⟨b, off, h1, h0, Nat.lt_of_lt_of_le h2 hb.size, (hb.cell (p := ⟨b, off + k, none⟩) h2).trans h3⟩⟩
theorem NV.put {w : World} {B : Nat} {a : Option Addr} {s : List Bool} (h : NV w B a s) {p : Addr} (hp : p.block < B) (u : Value) : NV (w.setCell p u) B a s :=
 ⟨fun k x hk => by
  obtain ⟨b, off, h1, h0, h2, h3⟩ := h.at_ k x hk; refine ⟨b, off, h1, h0, by simpa using h2, ?_⟩; rw [← h3]; unfold World.cell?
  rw [Below.heap_setCell _ _ _ _ (show b ≠ p.block by omega)]⟩
theorem NV.drew {w : World} {B : Nat} {a : Option Addr} {s : List Bool} (h : NV w B a s) : NV w.drew B a s := ⟨h.at_⟩
def CvK (s t : List Bool) (c : Int) (k : Nat) (s' : List Bool) : Prop := ∀ j, j < s.length → s'.getD j false = (s.getD j false || (decide (j < k) && (t.getD j false && decide ((j : Int) ≠ c))))
theorem CvK.zero (s t : List Bool) (c : Int) : CvK s t c 0 s := fun j hj => by simp
theorem CvK.next {s t s' : List Bool} {c : Int} {k : Nat} (h : CvK s t c k s') (hk : k < s.length) (hl : s'.length = s.length) : CvK s t c (k + 1) (s'.set k (s'.getD k false || (t.getD k false && decide ((k : Int) ≠ c)))) := fun j hj => by
 have h1 := h j hj; have h2 := h k hk; rw [E4 (by omega)]
 by_cases e : k = j
 ·subst e; rw [if_pos rfl, h1]; simp
 ·rw [if_neg e, h1]
  have : decide (j < k + 1) = decide (j < k) := by
   by_cases h3 : j < k
   ·rw [decide_eq_true h3, decide_eq_true (by omega)]
   ·rw [decide_eq_false h3, decide_eq_false (by omega)]
  rw [this]
def CvL (g : List Ai) (l : List Int) (s : List Bool) : Prop := ∀ j, j < g.length → (s.getD j false = true ↔ Cov g l (j : Int))
theorem CvL.next {g : List Ai} {l : List Int} {k : Nat} {s t s' : List Bool} {c : Int} (hk : l[k]? = some c) (hs : s.length = g.length) (h : CvL g (l.take k) s) (ht : L0 g [c] t) (hn : CvK s t c g.length s') : CvL g (l.take (k + 1)) s' := fun j hj => by
 have hjr : inR g (j : Int) := ⟨Int.natCast_nonneg _, by omega⟩
 have h1 := h j hj; have h2 := Io ht hjr; rw [Int.toNat_natCast] at h2; rw [hn j (by omega), decide_eq_true hj, Bool.true_and, Bool.or_eq_true, Bool.and_eq_true, decide_eq_true_eq, h1, h2, List.take_add_one, hk]; unfold Cov; constructor
 ·rintro (⟨f, hf, h3⟩ | ⟨h3, h4⟩)
  ·exact ⟨f, List.mem_append_left _ hf, h3⟩
  ·exact ⟨c, List.mem_append_right _ (List.mem_singleton_self _), fun e => h4 e.symm, h3⟩
 ·rintro ⟨f, hf, h3⟩
  rcases List.mem_append.1 hf with hf | hf
  ·exact .inl ⟨f, hf, h3⟩
  ·rw [show f = c from List.mem_singleton.1 hf] at h3; exact .inr ⟨h3.2, fun e => h3.1 e.symm⟩
abbrev RgI (n : Nat) := {x : Int // 0 ≤ x ∧ x < (n : Int)}
theorem VM (n : Nat) : ∀ l : List Int, (∀ x ∈ l, 0 ≤ x ∧ x < (n : Int)) → ∃ zs : List (RgI n), zs.map (·.1) = l
 | [], _ => ⟨[], rfl⟩
 | x :: l, h => by
  obtain ⟨zs, hz⟩ := VM n l fun t ht => h t (List.mem_cons_of_mem _ ht)
  exact ⟨⟨x, h x (List.mem_cons_self ..)⟩ :: zs, by rw [List.map_cons, hz]⟩
def XA {n : Nat} (x : RgI n) : Value := .int .i64 x.1
set_option maxHeartbeats 1000000 in
theorem Ub {n : Nat} (x : RgI n) (s : List Bool) (Bv Bc : Nat) (W : World) (hc : W.cell? ⟨Bc, 0, none⟩ = some (.slice (some ⟨Bv, 0, none⟩) n n)) (hv : W.cell? ⟨Bv, x.1.toNat, none⟩ = some (.bool (s.getD x.1.toNat false))) :
  Calls prog 91 #[.int .i64 x.1, .pointer (some ⟨Bc, 0, none⟩)] W fun e w' => e = .returned (.bool (s.getD x.1.toNat false)) ∧ w' = W := by
 obtain ⟨x, h0, h1⟩ := x
 obtain ⟨k, rfl⟩ : ∃ k : Nat, x = k := ⟨x.toNat, by omega⟩
 dsimp only at hv ⊢; rw [Int.toNat_natCast] at hv ⊢; generalize s.getD k false = r at hv ⊢
 go_enter func91, ntmps91
 go_wp2
 go_ret
 exact ⟨rfl, rfl⟩
theorem Xz {n : Nat} (B : Nat) (v : Value) (l : List Int) (s : List Bool) (Bv Bc : Nat) (W : World) (hown : Fs W B v l) (hr : ∀ x ∈ l, 0 ≤ x ∧ x < (n : Int)) (hl : l.length ≤ 4000000) (hcv : Ly W n Bv Bc s) (hne : v.ownBlock ≠ some Bv ∧ v.ownBlock ≠ some Bc) :
  Calls prog 90 #[v, .func (.func 91) #[] #[.pointer (some ⟨Bc, 0, none⟩)]] W fun e w' => ∃ v', e = .returned v' ∧ W.grownBy w' v.ownBlock ∧ Fs w' B v' (l.filter fun x => !s.getD x.toNat false) := by
 have hown' := hown; obtain ⟨hlen, h⟩ := hown
 by_cases hnil : l = []
 ·subst hnil
  have hv : ∃ a c, v = .slice a 0 c := by
   rcases h with ⟨rfl, _⟩ | ⟨g, cap, cur, rfl, _⟩
   ·exact ⟨none, 0, rfl⟩
   ·exact ⟨_, _, rfl⟩
  obtain ⟨a, c, rfl⟩ := hv; refine (ZE a c _ W).mono ?_; rintro e w' ⟨rfl, rfl⟩; exact ⟨_, rfl, ⟨rfl, rfl, rfl, Nat.le_refl _, fun _ _ _ => rfl⟩, hown'⟩
 rcases h with ⟨rfl, hn⟩ | ⟨g, cap, cur, rfl, hg, hb, hnc, hcm, hcs, htk⟩
 ·exact absurd (List.length_eq_zero_iff.1 hn) hnil
 ·obtain ⟨x0, hx0⟩ : ∃ x0, x0 ∈ l := List.exists_mem_of_ne_nil l hnil
  have i0 : Inhabited (RgI n) := ⟨⟨x0, hr x0 hx0⟩⟩
  obtain ⟨zs, hz⟩ := VM n l hr
  have hzl : zs.length = l.length := by rw [← hz, List.length_map]
  have hmap : zs.map XA = l.map (Value.int .i64) := by rw [← hz, List.map_map]; rfl
  rw [Nat.mul_one] at htk; have hlt : g < W.heap.size := (Array.getElem?_eq_some_iff.1 hb).1
  have hgv : g ≠ Bv := fun e => hne.1 (by rw [e]; rfl)
  have hgc : g ≠ Bc := fun e => hne.2 (by rw [e]; rfl)
  have hpc : ∀ (W' : World) (x : RgI n), (∀ b, b = Bv ∨ b = Bc → W'.heap[b]? = W.heap[b]?) → FnGives prog 91 #[.pointer (some ⟨Bc, 0, none⟩)] #[XA x] (.bool (s.getD x.1.toNat false)) W' := fun W' x hB => by
   have hc1 : W'.cell? ⟨Bc, 0, none⟩ = some (.slice (some ⟨Bv, 0, none⟩) n n) := by rw [← hcv.cel]; unfold World.cell?; rw [hB Bc (.inr rfl)]
   have hx := x.2
   have hc2 : W'.cell? ⟨Bv, x.1.toNat, none⟩ = some (.bool (s.getD x.1.toNat false)) := by rw [← (hcv.cell (j := x.1.toNat) (by omega)).1]; unfold World.cell?; rw [hB Bv (.inl rfl)]
   refine (Ub x s Bv Bc W' hc1 hc2).mono ?_; rintro e w' ⟨rfl, rfl⟩; exact ⟨rfl, 0, rfl⟩
  have hlv := hcv.lv; have hlc := hcv.lc
  have hcon := AnyE.slices_DeleteFunc Tryz.AfQ XA (fun x => rfl) (fun x => s.getD x.1.toNat false) 91 #[.pointer (some ⟨Bc, 0, none⟩)] (enters_of func91 (by kernel_rfl) rfl) ⟨0, by have := hr x0 hx0; omega⟩ (fun w => Tryz.zeroValue3 w) g 0 cap zs.toArray W
   (fun W' x hB => hpc W' x fun b hb => hB.block b (by omega))
   (fun m os dk x _ => hpc _ x fun b hb => by
    have hbl : b < W.heap.size := by omega
    have hbg : g ≠ b := by rcases hb with rfl | rfl <;> assumption
    unfold sortWorld; rw [heap_grow_old _ _ (by simpa using hbl)]
    simp [putRow, mapBlock, Sort.ahead, Array.getElem?_modify, hbg])
   (Ox (l := zs) hb (by rw [hzl, hmap]; exact htk)) (by rw [List.size_toArray]; omega) (by rw [List.size_toArray]; omega)
  rw [List.size_toArray] at hcon; rw [hzl] at hcon; refine hcon.mono ?_; rintro e w' ⟨rfl, q, rfl⟩
  have hfl : (zs.filter fun x => !s.getD x.1.toNat false).map XA = (l.filter fun x => !s.getD x.toNat false).map (Value.int .i64) := by
   rw [← hz, List.filter_map, List.map_map]; rfl
  have hfl2 : (zs.filter fun x => !s.getD x.1.toNat false).length = (l.filter fun x => !s.getD x.toNat false).length := by
   have := congrArg List.length hfl; simpa using this
  have hle := List.length_filter_le (fun x : RgI n => !s.getD x.1.toNat false) zs
  have ht : (zs.toArray.toList.filter fun x => !s.getD x.1.toNat false) = zs.filter fun x => !s.getD x.1.toNat false := rfl
  rw [ht]; generalize hF : (zs.filter fun x => !s.getD x.1.toNat false) = F at hfl hfl2 hle
  have hdl : (F ++ List.replicate (l.length - F.length) (⟨0, by have := hr x0 hx0; omega⟩ : RgI n)).length = l.length := by rw [List.length_append, List.length_replicate]; omega
  rw [show ∀ d : Array (RgI n), putRow XA (Sort.ahead W q) g 0 d = grow (putRow XA (Sort.ahead W q) g 0 d) #[] from fun d => (grow_empty _).symm]; refine ⟨_, rfl, Ot _, ?_⟩; have := QX (enc := XA) (n := q) (os := #[]) (d := F ++ List.replicate (l.length - F.length) (⟨0, by have := hr x0 hx0; omega⟩ : RgI n)) (m := F.length) (by omega) hg hb (by omega) hcm hcs
  rw [List.take_left, hfl] at this; unfold Fs; rw [← hfl2]; exact this
end Go.Proofs.Tryz
