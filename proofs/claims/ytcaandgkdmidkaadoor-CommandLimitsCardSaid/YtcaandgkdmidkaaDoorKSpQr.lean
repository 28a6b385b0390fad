/- Words read back. -/
import Derived.Test.YtcaandgkdmidkaaDoorKSpBack
import Derived.Test.YtcaandgkdmidkaaDoorKSpWrd
import Derived.Test.YtcaandgkdmidkaaDoorKSpPri
set_option linter.unusedVariables false
set_option linter.unusedSimpArgs false
namespace Go.VS
variable {P : Pg}
def up (l : Bs) : List Int := l.map fun b => ((b.toNat : Nat) : Int)
theorem Vz (l : Bs) : strOf (up l) = l := by
 unfold strOf up
 rw [List.map_map]
 refine (List.map_congr_left (g := id) fun b _ => ?_).trans (List.map_id l)
 simp
theorem Wd {s : Bs} {i n : Nat} (hn : n < 256) (hl : i + 3 ≤ s.length) (h0 : byt s i = 48 + n / 64) (h1 : byt s (i + 1) = 48 + n / 8 % 8) (h2 : byt s (i + 2) = 48 + n % 8) : OP s i = some (n : Int) := by
 have hO : ∀ j, j < 3 → isO s (i + j) = true := fun j hj => by
  unfold isO
  have : j = 0 ∨ j = 1 ∨ j = 2 := by omega
  rcases this with rfl | rfl | rfl
  ·rw [Nat.add_zero, h0]; simp; omega
  ·rw [h1]; simp; omega
  ·rw [h2]; simp; omega
 have hv : P9 s i 3 = (n : Int) := by
  simp only [P9, Nat.add_zero, h0, h1, h2]
  omega
 unfold OP
 rw [hv, if_pos ⟨List.all_eq_true.2 fun j hj => hO j (List.mem_range.1 hj), by omega⟩]
theorem UK (b : UInt8) (p r : Bs) (f : Nat) (acc : List Int) : qdN (p ++ (BF b ++ r)) (f + 1) acc p.length = qdN (p ++ (BF b ++ r)) f (acc ++ [((b.toNat : Nat) : Int)]) (p.length + (BF b).length) := by
 have hb : b.toNat < 256 := UInt8.toNat_lt b
 have hk : ∀ k, byt (p ++ (BF b ++ r)) (p.length + k) = byt (BF b ++ r) k := Lx p _
 have h0 := hk 0
 have h1 := hk 1
 have h2 := hk 2
 have h3 := hk 3
 clear hk
 rw [Nat.add_zero] at h0
 have hln : (p ++ (BF b ++ r)).length = p.length + (BF b).length + r.length := by simp; omega
 have ne : ∀ v : UInt8, b ≠ v → ((b.toNat : Nat) : Int) ≠ ((v.toNat : Nat) : Int) := fun v hv e => hv (UInt8.toNat_inj.1 (by omega))
 generalize hs : p ++ (BF b ++ r) = s at *
 clear hs
 rw [qdN]
 unfold BF at h0 h1 h2 h3 hln ⊢
 by_cases c1 : b = 34 ∨ b = 92
 ·rw [if_pos c1] at h0 h1 hln ⊢
  simp only [List.cons_append, List.nil_append, B2, HY] at h0 h1
  simp only [List.length_cons, List.length_nil] at hln ⊢
  have h34 : byt s p.length = 92 := h0
  have hbb : byt s (p.length + 1) = 34 ∨ byt s (p.length + 1) = 92 := by
   rw [h1]
   rcases c1 with rfl | rfl
   ·exact .inl rfl
   ·exact .inr rfl
  rw [if_pos (by omega), if_neg (by omega), if_pos h34]
  have : Ll s (p.length + 1) = some (((b.toNat : Nat) : Int), p.length + 2) := by
   unfold Ll
   rw [if_pos (by omega), if_pos hbb, h1]
  rw [this]
 rw [if_neg c1] at h0 h1 h2 h3 hln ⊢
 have n34 : ((b.toNat : Nat) : Int) ≠ 34 := ne 34 fun h => c1 (.inl h)
 have n92 : ((b.toNat : Nat) : Int) ≠ 92 := ne 92 fun h => c1 (.inr h)
 by_cases c2 : b = 10
 ·rw [if_pos c2] at h0 h1 hln ⊢
  simp only [List.cons_append, List.nil_append, B2, HY] at h0 h1
  simp only [List.length_cons, List.length_nil] at hln ⊢
  have h34 : byt s p.length = 92 := h0
  have h110 : byt s (p.length + 1) = 110 := h1
  rw [if_pos (by omega), if_neg (by omega), if_pos h34]
  have : Ll s (p.length + 1) = some (((b.toNat : Nat) : Int), p.length + 2) := by
   unfold Ll
   rw [if_pos (by omega), if_neg (by omega), if_pos h110, c2]
   rfl
  rw [this]
 rw [if_neg c2] at h0 h1 h2 h3 hln ⊢
 by_cases c3 : b = 9
 ·rw [if_pos c3] at h0 h1 hln ⊢
  simp only [List.cons_append, List.nil_append, B2, HY] at h0 h1
  simp only [List.length_cons, List.length_nil] at hln ⊢
  have h34 : byt s p.length = 92 := h0
  have h116 : byt s (p.length + 1) = 116 := h1
  rw [if_pos (by omega), if_neg (by omega), if_pos h34]
  have : Ll s (p.length + 1) = some (((b.toNat : Nat) : Int), p.length + 2) := by
   unfold Ll
   rw [if_pos (by omega), if_neg (by omega), if_neg (by omega), if_pos h116, c3]
   rfl
  rw [this]
 rw [if_neg c3] at h0 h1 h2 h3 hln ⊢
 by_cases c4 : b.toNat < 32 ∨ 126 < b.toNat
 ·rw [if_pos c4] at h0 h1 h2 h3 hln ⊢
  simp only [List.cons_append, List.nil_append, B2, HY] at h0 h1 h2 h3
  simp only [List.length_cons, List.length_nil] at hln ⊢
  have h34 : byt s p.length = 92 := h0
  obtain ⟨o1, o2, o3⟩ := Yd b.toNat hb
  rw [o1] at h1
  have h2 : byt s (p.length + 2) = ((UInt8.ofNat (48 + b.toNat / 8 % 8)).toNat : Nat) := h2
  have h3 : byt s (p.length + 3) = ((UInt8.ofNat (48 + b.toNat % 8)).toNat : Nat) := h3
  rw [o2] at h2
  rw [o3] at h3
  rw [if_pos (by omega), if_neg (by omega), if_pos h34]
  have : Ll s (p.length + 1) = some (((b.toNat : Nat) : Int), p.length + 4) := by
   unfold Ll
   rw [if_pos (by omega), if_neg (by omega), if_neg (by omega), if_neg (by omega), Wd hb (by omega) (by rw [h1]; omega) (by rw [h2]; omega) (by rw [h3]; omega)]
   rfl
  rw [this]
 ·rw [if_neg c4] at h0 hln ⊢
  simp only [List.cons_append, List.nil_append, B2] at h0
  simp only [List.length_cons, List.length_nil] at hln ⊢
  rw [if_pos (by omega), if_neg (by omega), if_neg (by omega), h0]
theorem Q0 : ∀ s : Bs, s.length ≤ (s.flatMap BF).length
 | [] => by simp
 | b :: s => by
  have : 0 < (BF b).length := by
   unfold BF
   repeat' split
   all_goals simp
  have := Q0 s
  simp only [List.flatMap_cons, List.length_append, List.length_cons]
  omega
theorem Ve : ∀ (l p r : Bs) (f : Nat) (acc : List Int), l.length < f → qdN (p ++ (l.flatMap BF ++ (34 :: r))) f acc p.length = some (acc ++ up l, p.length + (l.flatMap BF).length + 1)
 | [], p, r, f + 1, acc, _ => by
  rw [qdN, List.flatMap_nil, List.nil_append, Fm, B2, if_pos (by simp), if_pos (by decide)]
  simp [up]
 | b :: l, p, r, f + 1, acc, h => by
  have e : p ++ ((b :: l).flatMap BF ++ (34 :: r)) = p ++ (BF b ++ (l.flatMap BF ++ (34 :: r))) := by simp
  have e2 : p ++ (BF b ++ (l.flatMap BF ++ (34 :: r))) = (p ++ BF b) ++ (l.flatMap BF ++ (34 :: r)) := by simp
  rw [e, UK, e2, show p.length + (BF b).length = (p ++ BF b).length by simp, Ve l (p ++ BF b) r f _ (by simp at h; omega)]
  simp [up]
  omega
 | _, _, _, 0, _, h => absurd h (by omega)
theorem Vc : ∀ (l p r : Bs) (f : Nat), l.all CE = true → (r = [] ∨ C5 (byt r 0) = false) → l.length < f → plN (p ++ (l ++ r)) f p.length = p.length + l.length
 | [], p, r, f + 1, _, hr, _ => by
  rw [plN, List.nil_append, Fm]
  rcases hr with rfl | hr
  ·rw [if_neg (by simp)]; rfl
  ·rw [if_neg (by rw [hr]; simp)]; rfl
 | b :: l, p, r, f + 1, h, hr, hf => by
  have hp : CE b = true := by simp at h; exact h.1
  have hl : l.all CE = true := by simp at h; simpa using h.2
  have e : p ++ (b :: l ++ r) = (p ++ [b]) ++ (l ++ r) := by simp
  rw [plN, Fm, List.cons_append, B2, if_pos ⟨by simp, hp⟩]
  rw [show p ++ b :: (l ++ r) = (p ++ [b]) ++ (l ++ r) by simp, show p.length + 1 = (p ++ [b]).length by simp, Vc l (p ++ [b]) r f hl hr (by simp at hf; omega)]
  simp
  omega
 | _, _, _, 0, _, _, h => absurd h (by omega)
theorem RT (p w r : Bs) : DG (p ++ (w ++ r)) (p.length : Nat) ((p.length + w.length : Nat) : Int) = w := by
 unfold DG
 rw [show ((p.length : Nat) : Int).toNat = p.length by omega, show ((p.length + w.length : Nat) : Int).toNat = p.length + w.length by omega]
 rw [← List.append_assoc, List.take_left' (by simp), List.drop_left]
theorem QI (p s r : Bs) (hr : r = [] ∨ C5 (byt r 0) = false) : FL (p ++ (Ar s ++ r), ((p.length : Nat) : Int)) = (s, (((p.length + (Ar s).length : Nat) : Int), true)) := by
 unfold FL
 dsimp only
 have hi : ((p.length : Nat) : Int).toNat = p.length := by omega
 rw [hi, Fm]
 have hq : 0 < (Ar s).length := by
  unfold Ar
  split
  ·rename_i h
   cases s with
   | nil => cases h
   | cons => simp
  ·simp
 rw [if_neg (by rw [List.length_append, List.length_append]; omega), L0 _ _ hq]
 by_cases hp : (!s.isEmpty && s.all CE) = true
 ·have e : Ar s = s := by unfold Ar; rw [if_pos hp]
  rw [e] at hq ⊢
  simp only [Bool.and_eq_true] at hp
  have h0 : byt s 0 ≠ 34 := by
   cases s with
   | nil => cases hq
   | cons b s =>
    have := hp.2
    simp only [List.all_cons, Bool.and_eq_true] at this
    rw [B2]
    intro h
    have := this.1
    unfold CE at this
    rw [h] at this
    exact absurd this (by decide)
  have hpl : plE (p ++ (s ++ r)) p.length = p.length + s.length := Vc s p r _ hp.2 hr (by simp; omega)
  rw [if_neg h0, hpl, if_neg (by omega), RT]
 ·have e : Ar s = 34 :: (s.flatMap BF ++ [34]) := by unfold Ar; rw [if_neg hp]
  have h0 : byt (Ar s) 0 = 34 := by rw [e]; rfl
  rw [if_pos h0]
  have e2 : p ++ (Ar s ++ r) = (p ++ [34]) ++ (s.flatMap BF ++ (34 :: r)) := by rw [e]; simp
  have hqd : qdF (p ++ (Ar s ++ r)) (p.length + 1) = some (up s, p.length + (Ar s).length) := by
   unfold qdF
   have hf : s.length < (p ++ (Ar s ++ r)).length + 1 := by
    have := Q0 s
    rw [e]
    simp only [List.length_append, List.length_cons, List.length_nil]
    omega
   generalize (p ++ (Ar s ++ r)).length + 1 = f at hf
   rw [e2, show p.length + 1 = (p ++ [34]).length by simp, Ve s (p ++ [34]) r f [] hf, e]
   simp
   omega
  rw [hqd]
  dsimp only
  rw [Vz, RT, if_pos rfl]
end Go.VS
