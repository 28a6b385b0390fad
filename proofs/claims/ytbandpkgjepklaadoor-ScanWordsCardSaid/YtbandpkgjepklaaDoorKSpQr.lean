/- Words read back. -/
import Derived.Test.YtbandpkgjepklaaDoorKSpBack
import Derived.Test.YtbandpkgjepklaaDoorKSpWrd
set_option linter.unusedVariables false
set_option linter.unusedSimpArgs false
namespace Go.VS
variable {P : Program}
def up (l : Bs) : List Int := l.map fun b => ((b.toNat : Nat) : Int)
theorem strOf_up (l : Bs) : strOf (up l) = l := by
 unfold strOf up
 rw [List.map_map]
 refine (List.map_congr_left (g := id) fun b _ => ?_).trans (List.map_id l)
 simp
theorem oct3 : ∀ n : Nat, n < 256 → (UInt8.ofNat (48 + n / 64)).toNat = 48 + n / 64 ∧ (UInt8.ofNat (48 + n / 8 % 8)).toNat = 48 + n / 8 % 8 ∧ (UInt8.ofNat (48 + n % 8)).toNat = 48 + n % 8 := by decide +kernel
theorem octF_of {s : Bs} {i n : Nat} (hn : n < 256) (hl : i + 3 ≤ s.length) (h0 : byt s i = 48 + n / 64) (h1 : byt s (i + 1) = 48 + n / 8 % 8) (h2 : byt s (i + 2) = 48 + n % 8) : octF s i = some (n : Int) := by
 have hO : ∀ j, j < 3 → isO s (i + j) = true := fun j hj => by
  unfold isO
  have : j = 0 ∨ j = 1 ∨ j = 2 := by omega
  rcases this with rfl | rfl | rfl
  ·rw [Nat.add_zero, h0]; simp; omega
  ·rw [h1]; simp; omega
  ·rw [h2]; simp; omega
 have hv : octV s i 3 = (n : Int) := by
  simp only [octV, Nat.add_zero, h0, h1, h2]
  omega
 unfold octF
 rw [hv, if_pos ⟨List.all_eq_true.2 fun j hj => hO j (List.mem_range.1 hj), by omega⟩]
theorem esc_step (b : UInt8) (p r : Bs) (f : Nat) (acc : List Int) : qdN (p ++ (escB b ++ r)) (f + 1) acc p.length = qdN (p ++ (escB b ++ r)) f (acc ++ [((b.toNat : Nat) : Int)]) (p.length + (escB b).length) := by
 have hb : b.toNat < 256 := UInt8.toNat_lt b
 have hk : ∀ k, byt (p ++ (escB b ++ r)) (p.length + k) = byt (escB b ++ r) k := byt_app p _
 have h0 := hk 0
 have h1 := hk 1
 have h2 := hk 2
 have h3 := hk 3
 clear hk
 rw [Nat.add_zero] at h0
 have hln : (p ++ (escB b ++ r)).length = p.length + (escB b).length + r.length := by simp; omega
 have ne : ∀ v : UInt8, b ≠ v → ((b.toNat : Nat) : Int) ≠ ((v.toNat : Nat) : Int) := fun v hv e => hv (UInt8.toNat_inj.1 (by omega))
 generalize hs : p ++ (escB b ++ r) = s at *
 clear hs
 rw [qdN]
 unfold escB at h0 h1 h2 h3 hln ⊢
 by_cases c1 : b = 34 ∨ b = 92
 ·rw [if_pos c1] at h0 h1 hln ⊢
  simp only [List.cons_append, List.nil_append, byt_cons, byt_cons1] at h0 h1
  simp only [List.length_cons, List.length_nil] at hln ⊢
  have h34 : byt s p.length = 92 := h0
  have hbb : byt s (p.length + 1) = 34 ∨ byt s (p.length + 1) = 92 := by
   rw [h1]
   rcases c1 with rfl | rfl
   ·exact .inl rfl
   ·exact .inr rfl
  rw [if_pos (by omega), if_neg (by omega), if_pos h34]
  have : escG s (p.length + 1) = some (((b.toNat : Nat) : Int), p.length + 2) := by
   unfold escG
   rw [if_pos (by omega), if_pos hbb, h1]
  rw [this]
 rw [if_neg c1] at h0 h1 h2 h3 hln ⊢
 have n34 : ((b.toNat : Nat) : Int) ≠ 34 := ne 34 fun h => c1 (.inl h)
 have n92 : ((b.toNat : Nat) : Int) ≠ 92 := ne 92 fun h => c1 (.inr h)
 by_cases c2 : b = 10
 ·rw [if_pos c2] at h0 h1 hln ⊢
  simp only [List.cons_append, List.nil_append, byt_cons, byt_cons1] at h0 h1
  simp only [List.length_cons, List.length_nil] at hln ⊢
  have h34 : byt s p.length = 92 := h0
  have h110 : byt s (p.length + 1) = 110 := h1
  rw [if_pos (by omega), if_neg (by omega), if_pos h34]
  have : escG s (p.length + 1) = some (((b.toNat : Nat) : Int), p.length + 2) := by
   unfold escG
   rw [if_pos (by omega), if_neg (by omega), if_pos h110, c2]
   rfl
  rw [this]
 rw [if_neg c2] at h0 h1 h2 h3 hln ⊢
 by_cases c3 : b = 9
 ·rw [if_pos c3] at h0 h1 hln ⊢
  simp only [List.cons_append, List.nil_append, byt_cons, byt_cons1] at h0 h1
  simp only [List.length_cons, List.length_nil] at hln ⊢
  have h34 : byt s p.length = 92 := h0
  have h116 : byt s (p.length + 1) = 116 := h1
  rw [if_pos (by omega), if_neg (by omega), if_pos h34]
  have : escG s (p.length + 1) = some (((b.toNat : Nat) : Int), p.length + 2) := by
   unfold escG
   rw [if_pos (by omega), if_neg (by omega), if_neg (by omega), if_pos h116, c3]
   rfl
  rw [this]
 rw [if_neg c3] at h0 h1 h2 h3 hln ⊢
 by_cases c4 : b.toNat < 32 ∨ 126 < b.toNat
 ·rw [if_pos c4] at h0 h1 h2 h3 hln ⊢
  simp only [List.cons_append, List.nil_append, byt_cons, byt_cons1] at h0 h1 h2 h3
  simp only [List.length_cons, List.length_nil] at hln ⊢
  have h34 : byt s p.length = 92 := h0
  obtain ⟨o1, o2, o3⟩ := oct3 b.toNat hb
  rw [o1] at h1
  have h2 : byt s (p.length + 2) = ((UInt8.ofNat (48 + b.toNat / 8 % 8)).toNat : Nat) := h2
  have h3 : byt s (p.length + 3) = ((UInt8.ofNat (48 + b.toNat % 8)).toNat : Nat) := h3
  rw [o2] at h2
  rw [o3] at h3
  rw [if_pos (by omega), if_neg (by omega), if_pos h34]
  have : escG s (p.length + 1) = some (((b.toNat : Nat) : Int), p.length + 4) := by
   unfold escG
   rw [if_pos (by omega), if_neg (by omega), if_neg (by omega), if_neg (by omega), octF_of hb (by omega) (by rw [h1]; omega) (by rw [h2]; omega) (by rw [h3]; omega)]
   rfl
  rw [this]
 ·rw [if_neg c4] at h0 hln ⊢
  simp only [List.cons_append, List.nil_append, byt_cons] at h0
  simp only [List.length_cons, List.length_nil] at hln ⊢
  rw [if_pos (by omega), if_neg (by omega), if_neg (by omega), h0]
theorem esc_ge : ∀ s : Bs, s.length ≤ (s.flatMap escB).length
 | [] => by simp
 | b :: s => by
  have : 0 < (escB b).length := by
   unfold escB
   repeat' split
   all_goals simp
  have := esc_ge s
  simp only [List.flatMap_cons, List.length_append, List.length_cons]
  omega
theorem esc_le4 : ∀ s : Bs, (s.flatMap escB).length ≤ 4 * s.length
 | [] => by simp
 | b :: s => by
  have := esc_le b
  have := esc_le4 s
  simp only [List.flatMap_cons, List.length_append, List.length_cons]
  omega
theorem qd_run : ∀ (l p r : Bs) (f : Nat) (acc : List Int), l.length < f → qdN (p ++ (l.flatMap escB ++ (34 :: r))) f acc p.length = some (acc ++ up l, p.length + (l.flatMap escB).length + 1)
 | [], p, r, f + 1, acc, _ => by
  rw [qdN, List.flatMap_nil, List.nil_append, byt_app0, byt_cons, if_pos (by simp), if_pos (by decide)]
  simp [up]
 | b :: l, p, r, f + 1, acc, h => by
  have e : p ++ ((b :: l).flatMap escB ++ (34 :: r)) = p ++ (escB b ++ (l.flatMap escB ++ (34 :: r))) := by simp
  have e2 : p ++ (escB b ++ (l.flatMap escB ++ (34 :: r))) = (p ++ escB b) ++ (l.flatMap escB ++ (34 :: r)) := by simp
  rw [e, esc_step, e2, show p.length + (escB b).length = (p ++ escB b).length by simp, qd_run l (p ++ escB b) r f _ (by simp at h; omega)]
  simp [up]
  omega
 | _, _, _, 0, _, h => absurd h (by omega)
theorem pl_run : ∀ (l p r : Bs) (f : Nat), l.all plainB = true → (r = [] ∨ plainF (byt r 0) = false) → l.length < f → plN (p ++ (l ++ r)) f p.length = p.length + l.length
 | [], p, r, f + 1, _, hr, _ => by
  rw [plN, List.nil_append, byt_app0]
  rcases hr with rfl | hr
  ·rw [if_neg (by simp)]; rfl
  ·rw [if_neg (by rw [hr]; simp)]; rfl
 | b :: l, p, r, f + 1, h, hr, hf => by
  have hp : plainB b = true := by simp at h; exact h.1
  have hl : l.all plainB = true := by simp at h; simpa using h.2
  have e : p ++ (b :: l ++ r) = (p ++ [b]) ++ (l ++ r) := by simp
  rw [plN, byt_app0, List.cons_append, byt_cons, if_pos ⟨by simp, hp⟩]
  rw [show p ++ b :: (l ++ r) = (p ++ [b]) ++ (l ++ r) by simp, show p.length + 1 = (p ++ [b]).length by simp, pl_run l (p ++ [b]) r f hl hr (by simp at hf; omega)]
  simp
  omega
 | _, _, _, 0, _, _, h => absurd h (by omega)
theorem cut_app (p w r : Bs) : cutF (p ++ (w ++ r)) (p.length : Nat) ((p.length + w.length : Nat) : Int) = w := by
 unfold cutF
 rw [show ((p.length : Nat) : Int).toNat = p.length by omega, show ((p.length + w.length : Nat) : Int).toNat = p.length + w.length by omega]
 rw [← List.append_assoc, List.take_left' (by simp), List.drop_left]
theorem unq_back (p s r : Bs) (hr : r = [] ∨ plainF (byt r 0) = false) : unqF (p ++ (quoteF s ++ r), ((p.length : Nat) : Int)) = (s, (((p.length + (quoteF s).length : Nat) : Int), true)) := by
 unfold unqF
 dsimp only
 have hi : ((p.length : Nat) : Int).toNat = p.length := by omega
 rw [hi, byt_app0]
 have hq : 0 < (quoteF s).length := by
  unfold quoteF
  split
  ·rename_i h
   cases s with
   | nil => cases h
   | cons => simp
  ·simp
 rw [if_neg (by rw [List.length_append, List.length_append]; omega), byt_left _ _ hq]
 by_cases hp : (!s.isEmpty && s.all plainB) = true
 ·have e : quoteF s = s := by unfold quoteF; rw [if_pos hp]
  rw [e] at hq ⊢
  simp only [Bool.and_eq_true] at hp
  have h0 : byt s 0 ≠ 34 := by
   cases s with
   | nil => cases hq
   | cons b s =>
    have := hp.2
    simp only [List.all_cons, Bool.and_eq_true] at this
    rw [byt_cons]
    intro h
    have := this.1
    unfold plainB at this
    rw [h] at this
    exact absurd this (by decide)
  have hpl : plE (p ++ (s ++ r)) p.length = p.length + s.length := pl_run s p r _ hp.2 hr (by simp; omega)
  rw [if_neg h0, hpl, if_neg (by omega), cut_app]
 ·have e : quoteF s = 34 :: (s.flatMap escB ++ [34]) := by unfold quoteF; rw [if_neg hp]
  have h0 : byt (quoteF s) 0 = 34 := by rw [e]; rfl
  rw [if_pos h0]
  have e2 : p ++ (quoteF s ++ r) = (p ++ [34]) ++ (s.flatMap escB ++ (34 :: r)) := by rw [e]; simp
  have hqd : qdF (p ++ (quoteF s ++ r)) (p.length + 1) = some (up s, p.length + (quoteF s).length) := by
   unfold qdF
   have hf : s.length < (p ++ (quoteF s ++ r)).length + 1 := by
    have := esc_ge s
    rw [e]
    simp only [List.length_append, List.length_cons, List.length_nil]
    omega
   generalize (p ++ (quoteF s ++ r)).length + 1 = f at hf
   rw [e2, show p.length + 1 = (p ++ [34]).length by simp, qd_run s (p ++ [34]) r f [] hf, e]
   simp
   omega
  rw [hqd]
  dsimp only
  rw [strOf_up, cut_app, if_pos rfl]
theorem quote_len (s : Bs) : (quoteF s).length ≤ 4 * s.length + 2 := by
 unfold quoteF
 split
 ·omega
 ·have := esc_le4 s
  simp only [List.length_append, List.length_cons, List.length_nil]
  omega
end Go.VS
