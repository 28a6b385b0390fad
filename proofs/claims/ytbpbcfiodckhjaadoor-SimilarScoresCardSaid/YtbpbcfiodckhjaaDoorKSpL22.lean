/- The statements about how alike two blobs are. -/
import Derived.Test.YtbpbcfiodckhjaaDoorKSpSim
import Derived.Test.YtbpbcfiodckhjaaDoorKSpRTree
import Derived.Test.YtbpbcfiodckhjaaDoorKSpLn
set_option linter.unusedVariables false
set_option linter.unusedSimpArgs false
namespace Go.VS
variable {P : Pg}
def Xl (P : Pg) : Prop := ∀ s : Bs, s.length ≤ 140737488351232 → Fn P zS8 WL s fun (d : List Bs × Int) _ => d = if Hu s = 0 then (lnF s, 0) else ([], 1)
theorem X9 (h : Has P WX) (hC : Vp P) (hL : VF P) : Xl P := by
 intro s hs
 refine XK h ?_
 unfold Xp
 refine (hC s hs).to ?_
 rintro (d : Int) _ hd
 have hd : d = Hu s := hd
 subst hd
 refine ⟨fun hb => ?_, fun hb => ?_⟩
 ·rw [if_neg (by simpa using hb)]
 ·have hb : Hu s = 0 := by simpa using hb
  rw [if_pos hb]
  have hs2 : s.length ≤ 1048576 := by
   unfold Hu at hb
   split at hb
   ·cases hb
   ·omega
  refine (hL s (by omega)).to ?_
  rintro (d : List Bs) _ hd
  have hd : d = lnF s := hd
  rw [hd]
def Xv (P : Pg) : Prop := ∀ x : List Bs × Bs, x.1.length ≤ 1000000 → Fn P zS0 WG x fun (d : Int) _ => d = ((x.1.count x.2 : Nat) : Int)
theorem Yx (h : Has P WZ) : Xv P := by
 rintro ⟨l, s⟩ hl
 dsimp only at hl
 refine XN h ?_
 unfold Xw
 dsimp only
 refine AX.mid (fun d => d = ((l.count s : Nat) : Int)) ?_ fun _ h => h
 refine EM.of (fun q => (0 ≤ q.2 ∧ q.2 ≤ l.length) ∧ q.1 = (((l.take q.2.toNat).count s : Nat) : Int)) (fun q => (l.length - q.2).toNat) ⟨⟨Int.le_refl _, Int.natCast_nonneg _⟩, rfl⟩ ?_
 rintro ⟨c, i⟩ ⟨⟨i0, i1⟩, hc⟩
 dsimp only at i0 i1 hc ⊢
 have hcl : (l.take i.toNat).count s ≤ l.length := Nat.le_trans List.count_le_length (by rw [List.length_take]; omega)
 refine ⟨fun hi => ?_, fun hi => ?_⟩
 ·have hi := of_decide_eq_true hi
  have hi2 : i.toNat < l.length := by omega
  have hnx : (l.take (i.toNat + 1)).count s = (l.take i.toNat).count s + if l.getD i.toNat [] = s then 1 else 0 := by
   rw [List.take_add_one, List.getElem?_eq_getElem hi2, List.count_append, List.getD_eq_getElem?_getD, List.getElem?_eq_getElem hi2]
   simp only [Option.toList_some, Option.getD_some, List.count_singleton, beq_iff_eq]
  refine AX.mid (fun d => d = (((l.take (i.toNat + 1)).count s : Nat) : Int)) ⟨⟨i0, hi⟩, hi2, ?_⟩ ?_
  ·refine AX.mid (fun d => d = (((l.take (i.toNat + 1)).count s : Nat) : Int)) ⟨fun hb => ?_, fun hb => ?_⟩ fun _ h => h
   ·rw [w64 (by omega) (by omega), hnx, if_pos (by simpa using hb), hc]
    rfl
   ·rw [hnx, if_neg (by simpa using hb), hc]
    rfl
  ·rintro d rfl
   rw [w64 (by omega) (by omega)]
   exact ⟨⟨⟨by omega, by omega⟩, by rw [show (i + 1).toNat = i.toNat + 1 by omega]⟩, by omega⟩
 ·have hi := of_decide_eq_false hi
  rw [hc, List.take_of_length_le (by omega)]
theorem Xv.at (h : Xv P) {l : List Bs} {s : Bs} (hl : l.length ≤ 1000000) {K : Int → Unit → Prop} (hk : K ((l.count s : Nat) : Int) ()) : Fn P zS0 WG (l, s) K :=
 (h (l, s) hl).to fun (d : Int) _ hd => by
  have hd : d = ((l.count s : Nat) : Int) := hd
  subst hd
  exact hk
def foF (x : List Bs) : Nat → List Bs
 | 0 => []
 | k + 1 => if x.getD k [] ∈ x.take k then foF x k else x.getD k [] :: foF x k
theorem X0 (x : List Bs) (t : Bs) : ∀ k, k ≤ x.length → (t ∈ foF x k ↔ t ∈ x.take k)
 | 0, _ => by simp [foF]
 | k + 1, hk => by
  have ih := X0 x t k (by omega)
  have hg : x.take (k + 1) = x.take k ++ [x.getD k []] := by
   rw [List.take_add_one, List.getElem?_eq_getElem (by omega), List.getD_eq_getElem?_getD, List.getElem?_eq_getElem (by omega)]
   rfl
  rw [foF, hg, List.mem_append, List.mem_singleton]
  split
  ·rename_i h
   rw [ih]
   exact ⟨.inl, fun h2 => h2.elim id fun e => e ▸ h⟩
  ·rw [List.mem_cons, ih]
   exact ⟨fun h2 => h2.elim .inr .inl, fun h2 => h2.elim .inr .inl⟩
theorem XM (x : List Bs) : ∀ k, k ≤ x.length → (foF x k).Nodup
 | 0, _ => List.nodup_nil
 | k + 1, hk => by
  rw [foF]
  split
  ·exact XM x k (by omega)
  ·rename_i h
   exact List.nodup_cons.2 ⟨fun h2 => h ((X0 x _ k (by omega)).1 h2), XM x k (by omega)⟩
theorem Ya (x y : List Bs) : ∀ {l m : List Bs}, l.Nodup → m.Nodup → (∀ t, t ∈ l ↔ t ∈ m) → W7 x y l = W7 x y m
 | [], m, _, _, h => by
  cases m with
  | nil => rfl
  | cons a m => have := (h a).2 (List.mem_cons_self ..); cases this
 | a :: l, m, hl, hm, h => by
  have hl2 := List.nodup_cons.1 hl
  rw [XD x y ((h a).1 (List.mem_cons_self ..)), W7, Ya x y hl2.2 (hm.erase a) fun t => ?_]
  rw [hm.mem_erase_iff, ← h t, List.mem_cons]
  exact ⟨fun ht => ⟨fun e => hl2.1 (e ▸ ht), .inr ht⟩, fun ⟨h1, h2⟩ => h2.elim (fun e => absurd e h1) id⟩
def Xb (P : Pg) : Prop := ∀ x : Bs × Bs, x.1.length ≤ 140737488351232 → x.2.length ≤ 140737488351232 → Fn P zS6 WK x fun (d : Int × Int) _ => d = WT x.1 x.2
theorem Yn (h : Has P WY) (hS : Xl P) (hM : Xv P) : Xb P := by
 rintro ⟨a, b⟩ ha hb
 dsimp only at ha hb
 refine XL h ?_
 unfold Xq
 dsimp only
 refine (hS a ha).to ?_
 rintro (d : List Bs × Int) _ hd
 have hd : d = if Hu a = 0 then (lnF a, 0) else ([], 1) := hd
 unfold WT
 by_cases hca : Hu a = 0
 ·rw [if_pos hca] at hd
  subst hd
  refine ⟨fun h => absurd h (by simp), fun _ => ?_⟩
  rw [if_neg (by simp [hca])]
  refine (hS b hb).to ?_
  rintro (d : List Bs × Int) _ hd
  have hd : d = if Hu b = 0 then (lnF b, 0) else ([], 1) := hd
  by_cases hcb : Hu b = 0
  ·rw [if_pos hcb] at hd
   subst hd
   refine ⟨fun h => absurd h (by simp), fun _ => ?_⟩
   rw [if_neg (by simp [hcb])]
   dsimp only
   refine ⟨fun he => by rw [if_pos (by simpa using he)], fun he => ?_⟩
   have hab : a ≠ b := by simpa using he
   rw [if_neg hab]
   have ha1 : a.length ≤ 1048576 ∧ (lnF a).length ≤ 4096 := by unfold Hu at hca; split at hca; cases hca; omega
   have hb1 : b.length ≤ 1048576 ∧ (lnF b).length ≤ 4096 := by unfold Hu at hcb; split at hcb; cases hcb; omega
   have hlm : ∀ s ∈ lnF a, s.length ≤ 1048576 := fun s hs => Nat.le_trans (XF hs) ha1.1
   have hcm := XS (y := lnF b) ha1.2 hlm
   refine AX.mid (fun c => c = Xg (lnF a) (lnF b)) ?_ ?_
   ·obtain ⟨_, hx4⟩ := ha1
    obtain ⟨_, hy4⟩ := hb1
    clear hcm hca hcb he hab
    generalize lnF a = x at hx4 hlm ⊢
    generalize lnF b = y at hy4 ⊢
    have hpre : ∀ k, k ≤ x.length → 0 ≤ W7 x y (foF x k) ∧ W7 x y (foF x k) ≤ 17592186044416 := fun k hk => by
     have h1 := Xd (y := y) hx4 (l := foF x k) fun s hs => hlm s (List.mem_of_mem_take ((X0 x s k hk).1 hs))
     have h2 : (foF x k).length ≤ k := by
      clear h1 hk
      induction k with
      | zero => exact Nat.le_refl _
      | succ k ih => rw [foF]; split; omega; rw [List.length_cons]; omega
     omega
    refine EM.of (fun q => (0 ≤ q.2 ∧ q.2 ≤ x.length) ∧ q.1 = W7 x y (foF x q.2.toNat)) (fun q => (x.length - q.2).toNat) ⟨⟨Int.le_refl _, Int.natCast_nonneg _⟩, rfl⟩ ?_
    rintro ⟨c, i⟩ ⟨⟨i0, i1⟩, hc⟩
    dsimp only at i0 i1 hc ⊢
    refine ⟨fun hi => ?_, fun hi => ?_⟩
    ·have hi := of_decide_eq_true hi
     have hi2 : i.toNat < x.length := by omega
     have hp1 := hpre i.toNat (by omega)
     have hp2 := hpre (i.toNat + 1) (by omega)
     refine AX.mid (fun d => d = W7 x y (foF x (i.toNat + 1))) ?_ ?_
     ·refine AX.mid (fun d => d = !decide (x.getD i.toNat [] ∈ x.take i.toNat)) ⟨⟨i0, by omega⟩, ⟨i0, hi⟩, hi2, ⟨by omega, hM.at (by rw [List.length_take]; omega) ?_⟩, trivial⟩ ?_
      ·show ((((x.take i.toNat).count (x.getD i.toNat []) : Nat) : Int) == 0) = _
       by_cases hm : x.getD i.toNat [] ∈ x.take i.toNat
       ·have := List.count_pos_iff.2 hm
        rw [decide_eq_true hm, beq_eq_false_iff_ne.2 (by omega)]
        rfl
       ·rw [decide_eq_false hm, List.count_eq_zero_of_not_mem hm]
        rfl
      ·rintro d rfl
       refine AX.mid (fun d => d = W7 x y (foF x (i.toNat + 1))) ⟨fun hb => ?_, fun hb => ?_⟩ fun _ h => h
       ·have hm : x.getD i.toNat [] ∉ x.take i.toNat := by simpa using hb
        have hs2 : W7 x y (foF x (i.toNat + 1)) = Xr x y (x.getD i.toNat []) + W7 x y (foF x i.toNat) := by rw [foF, if_neg hm, W7]
        have htb := Xu (y := y) hx4 (hlm (x.getD i.toNat []) (Kw hi2))
        have hfin : IntKind.i64.wrap (c + IntKind.i64.wrap ((if ((y.count (x.getD i.toNat []) : Nat) : Int) < ((x.count (x.getD i.toNat []) : Nat) : Int) then ((y.count (x.getD i.toNat []) : Nat) : Int) else ((x.count (x.getD i.toNat []) : Nat) : Int)) * (((x.getD i.toNat []).length : Nat) : Int))) = W7 x y (foF x (i.toNat + 1)) := by
         show IntKind.i64.wrap (c + IntKind.i64.wrap (Xr x y (x.getD i.toNat []))) = _
         rw [w64 (n := Xr x y (x.getD i.toNat [])) (by omega) (by omega), w64 (by omega) (by omega), hs2, hc]
         omega
        refine AX.mid (fun d => d = W7 x y (foF x (i.toNat + 1))) ?_ fun _ h => h
        repeat' (first | exact trivial | exact hi2 | exact i0 | exact hi | exact hfin | apply And.intro | (refine hM.at (by omega) ?_))
       ·have hm : x.getD i.toNat [] ∈ x.take i.toNat := by simpa using hb
        rw [foF, if_pos hm]
        exact hc
     ·rintro d rfl
      rw [w64 (by omega) (by omega)]
      exact ⟨⟨⟨by omega, by omega⟩, by rw [show (i + 1).toNat = i.toNat + 1 by omega]⟩, by omega⟩
    ·have hi := of_decide_eq_false hi
     rw [hc, show i.toNat = x.length by omega]
     exact Ya x y (XM x _ (Nat.le_refl _)) (Xy x) fun t => by rw [X0 x t _ (Nat.le_refl _), Xm, List.take_length]
   ·rintro c rfl
    have hmx : XE a b ≠ 0 := fun h => hab (by
     unfold XE at h
     have h2 : a.length = 0 ∧ b.length = 0 := by split at h <;> omega
     rw [List.length_eq_zero_iff.1 h2.1, List.length_eq_zero_iff.1 h2.2])
    have hm0 : 0 < XE a b := by unfold XE at hmx ⊢; split at hmx <;> split <;> omega
    refine ⟨hmx, ?_⟩
    have hr : IntKind.i64.wrap (Int.tdiv (IntKind.i64.wrap (100 * Xg (lnF a) (lnF b))) (XE a b)) = X7 a b := by
     rw [w64 (n := 100 * Xg (lnF a) (lnF b)) (by omega) (by omega)]
     unfold X7
     rw [Int.tdiv_eq_ediv_of_nonneg (by omega)]
     have h1 : 0 ≤ 100 * Xg (lnF a) (lnF b) / XE a b := Int.ediv_nonneg (by omega) (by omega)
     have h2 : 100 * Xg (lnF a) (lnF b) / XE a b ≤ 100 * Xg (lnF a) (lnF b) := Int.ediv_le_self _ (by omega)
     exact w64 (by omega) (by omega)
    show ((if 99 < IntKind.i64.wrap (Int.tdiv (IntKind.i64.wrap (100 * Xg (lnF a) (lnF b))) (XE a b)) then (99 : Int) else IntKind.i64.wrap (Int.tdiv (IntKind.i64.wrap (100 * Xg (lnF a) (lnF b))) (XE a b))), (0 : Int)) = _
    rw [hr]
  ·rw [if_neg hcb] at hd
   subst hd
   exact ⟨fun _ => by rw [if_pos (by simpa using hcb)], fun h => absurd h (by simp)⟩
 ·rw [if_neg hca] at hd
  subst hd
  exact ⟨fun _ => by rw [if_pos (by simpa using hca)], fun h => absurd h (by simp)⟩
end Go.VS
