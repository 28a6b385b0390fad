/- Scores are symmetric. -/
import Derived.Test.YtbpbcfiodckhjaaDoorKSpL22b
set_option linter.unusedVariables false
set_option linter.unusedSimpArgs false
namespace Go.VS
variable {P : Pg}
theorem YT (x y : List Bs) (s : Bs) : Xr x y s = Xr y x s := by
 unfold Xr
 congr 1
 split <;> split <;> omega
theorem YO {x y : List Bs} {s : Bs} (h : s ∉ y) : Xr x y s = 0 := by
 unfold Xr
 rw [List.count_eq_zero_of_not_mem h]
 split
 ·simp
 ·have : x.count s = 0 := by omega
  rw [this]; simp
theorem YP (x y : List Bs) : ∀ l : List Bs, W7 x y l = W7 y x l
 | [] => rfl
 | s :: l => by rw [W7, W7, YT, YP x y l]
theorem YK (x y : List Bs) (p : Bs → Bool) : ∀ l : List Bs, (∀ s ∈ l, p s = false → Xr x y s = 0) → W7 x y l = W7 x y (l.filter p)
 | [], _ => rfl
 | s :: l, h => by
  have ih := YK x y p l fun t ht => h t (List.mem_cons_of_mem _ ht)
  rw [W7, List.filter_cons]
  cases hp : p s with
  | true => rw [if_pos rfl, W7, ih]
  | false => rw [if_neg (by simp), h s (List.mem_cons_self ..) hp, ih]; omega
theorem YU (x y : List Bs) : Xg x y = Xg y x := by
 unfold Xg
 rw [YK x y (fun s => decide (s ∈ y)) (ddF x) fun s _ hp => YO (by simpa using hp),
  YK y x (fun s => decide (s ∈ x)) (ddF y) fun s _ hp => YO (by simpa using hp), YP x y]
 refine Ya y x ((Xy x).filter _) ((Xy y).filter _) fun t => ?_
 rw [List.mem_filter, List.mem_filter, Xm, Xm, decide_eq_true_eq, decide_eq_true_eq]
 exact And.comm
theorem YN {a b : Bs} (ha : Hu a = 0) (hb : Hu b = 0) : WT a b = if a = b then (100, 0) else (if 99 < X7 a b then 99 else X7 a b, 0) := by
 unfold WT
 rw [ha, hb]
 rfl
theorem YQ {a b : Bs} (ha : Hu a = 0) (hb : Hu b = 0) : WT a b = WT b a := by
 rw [YN ha hb, YN hb ha]
 by_cases h : a = b
 ·rw [if_pos h, if_pos h.symm]
 ·have hr : X7 a b = X7 b a := by
   unfold X7
   rw [YU (lnF a) (lnF b), show XE a b = XE b a by unfold XE; split <;> split <;> omega]
  rw [if_neg h, if_neg (show ¬ b = a from fun e => h e.symm), hr]
theorem YI {a : Bs} (h : a.length ≤ 4096) : Hu a = 0 := by
 unfold Hu
 have := XA a []
 rw [if_neg]
 unfold lnF
 omega
theorem YS {a b : Bs} (ha : a.length ≤ 4096) (hb : b.length ≤ 4096) : (WT a b).2 = 0 ∧ 0 ≤ (WT a b).1 ∧ (WT a b).1 ≤ 100 ∧ ((WT a b).1 = 100 ↔ a = b) := by
 have h1 := YI ha
 have h2 := YI hb
 have hcm := XS (x := lnF a) (y := lnF b) (Nat.le_trans (XA a []) ha) fun s hs => by have := XF hs; omega
 have hm : 0 ≤ XE a b := by unfold XE; split <;> omega
 have hr : 0 ≤ X7 a b := by
  unfold X7
  rw [Int.tdiv_eq_ediv_of_nonneg (by omega)]
  exact Int.ediv_nonneg (by omega) hm
 rw [YN h1 h2]
 by_cases h : a = b
 ·rw [if_pos h]
  exact ⟨rfl, by decide, by decide, fun _ => h, fun _ => rfl⟩
 ·rw [if_neg h]
  refine ⟨rfl, ?_, ?_, fun e => ?_, fun e => absurd e h⟩
  ·dsimp only; split <;> omega
  ·dsimp only; split <;> omega
  ·dsimp only at e; split at e <;> omega
theorem YM : ∀ (s acc : Bs), (lnN acc s).flatten.length ≤ acc.length + s.length
 | [], acc => by rw [lnN]; exact Nat.zero_le _
 | b :: r, acc => by
  rw [lnN]
  split
  ·have := YM r []
   simp only [List.flatten_cons, List.length_append, List.length_cons, List.length_nil] at this ⊢
   omega
  ·have := YM r (acc ++ [b])
   simp only [List.length_append, List.length_cons, List.length_nil] at this ⊢
   omega
def YL (P : Pg) : Prop := ∀ x : Bs × (List Int × Int), x.1.length ≤ 1000 → (0 ≤ x.2.2 ∧ x.2.2 ≤ 1000000) → Fn P zS7 WR x fun (d : Bs) _ => d.length ≤ 5 * x.1.length
theorem YV (h : Has P Xf) (hA : Nk P) (hL : V9 P) (hN : VF P) : YL P := by
 rintro ⟨s, raw, fr⟩ hs ⟨f0, f1⟩
 dsimp only at hs f0 f1
 refine X4 h ?_
 unfold XH
 dsimp only
 refine (hN s (by omega)).to ?_
 rintro (l : List Bs) _ hl
 have hl : l = lnF s := hl
 have hlen : l.length ≤ s.length := by rw [hl]; exact XA s []
 have hfl : l.flatten.length ≤ s.length := by rw [hl]; have := YM s []; simp only [List.length_nil] at this; unfold lnF; omega
 clear hl
 have hpre : ∀ k, k < l.length → (l.take (k + 1)).flatten.length = (l.take k).flatten.length + (l.getD k []).length := fun k hk => by
  rw [List.take_add_one, List.getElem?_eq_getElem hk, List.flatten_append, List.length_append, List.getD_eq_getElem?_getD, List.getElem?_eq_getElem hk]
  simp
 have hle : ∀ k, (l.take k).flatten.length ≤ l.flatten.length := fun k => by
  have : l.flatten.length = (l.take k).flatten.length + (l.drop k).flatten.length := by rw [← List.length_append, ← List.flatten_append, List.take_append_drop]
  omega
 rw [w64 (n := fr + 40) (by omega) (by omega)]
 refine AX.mid (fun d => d.length ≤ 5 * s.length) ?_ fun _ h => h
 refine EM.of (fun q => (0 ≤ q.2 ∧ q.2 ≤ l.length) ∧ (q.1.length : Int) ≤ 4 * q.2 + ((l.take q.2.toNat).flatten.length : Nat)) (fun q => (l.length - q.2).toNat) ⟨⟨Int.le_refl _, Int.natCast_nonneg _⟩, by simp⟩ ?_
 rintro ⟨d, i⟩ ⟨⟨i0, i1⟩, hd⟩
 dsimp only at i0 i1 hd ⊢
 have hti := hle i.toNat
 refine ⟨fun hi => ?_, fun hi => by omega⟩
 have hi := of_decide_eq_true hi
 have hi2 : i.toNat < l.length := by omega
 have hp := hpre i.toNat hi2
 have htj := hle (i.toNat + 1)
 refine AX.mid (fun d => (d.length : Int) ≤ 4 * (i + 1) + ((l.take (i.toNat + 1)).flatten.length : Nat)) ?_ fun d hd => ?_
 ·rw [w64 (n := fr + i) (by omega) (by omega), w64 (n := fr + 40 + i) (by omega) (by omega)]
  refine hA.at (by omega) ⟨by decide, ?_⟩
  refine AX.mid (fun e => (e.length : Int) ≤ 4 * i + ((l.take i.toNat).flatten.length : Nat) + 4) ⟨fun _ => by omega, fun _ => ?_⟩ fun e he => ?_
  ·refine AX.mid (fun e => (e.length : Int) ≤ 4 * i + ((l.take i.toNat).flatten.length : Nat) + 4) ⟨fun _ => ?_, fun _ => by omega⟩ fun _ h => h
   refine hA.at (by omega) ((hL _).to ?_)
   rintro (ln : Bs) _ hln
   have hln : ln.length ≤ 3 := hln
   refine ⟨by omega, by rw [List.length_append]; simp only [List.length_cons, List.length_nil]; omega, ?_⟩
   try dsimp only
   rw [List.length_append, List.length_append]
   simp only [List.length_cons, List.length_nil]
   omega
  ·refine ⟨⟨i0, hi⟩, hi2, by omega, ?_⟩
   try dsimp only
   rw [List.length_append]
   omega
 ·rw [w64 (by omega) (by omega), show (i + 1).toNat = i.toNat + 1 by omega]
  exact ⟨⟨⟨by omega, by omega⟩, hd⟩, by omega⟩
end Go.VS
