/- Trees: which are valid. -/
import Derived.Test.YtdnomijflodcgaaDoorKSpOrd
import Derived.Test.YtdnomijflodcgaaDoorKSpRPath
import Derived.Test.YtdnomijflodcgaaDoorKSpTxt
set_option linter.unusedVariables false
set_option linter.unusedSimpArgs false
namespace Go.VS
variable {P : Pg}
theorem E0 : ∀ x : Bs, Op.bytesLess x x = false
 | [] => rfl
 | a :: x => by
  unfold Op.bytesLess
  rw [E0 x]
  simp
theorem H3 : ∀ {x y z : Bs}, Op.bytesLess x y = true → Op.bytesLess y z = true → Op.bytesLess x z = true
 | x, y, [], _, h2 => by unfold Op.bytesLess at h2; cases y <;> cases h2
 | x, [], c :: z, h1, _ => by unfold Op.bytesLess at h1; cases x <;> cases h1
 | [], b :: y, c :: z, _, _ => rfl
 | a :: x, b :: y, c :: z, h1, h2 => by
  unfold Op.bytesLess at h1 h2 ⊢
  simp only [Bool.or_eq_true, Bool.and_eq_true, decide_eq_true_eq, beq_iff_eq] at h1 h2 ⊢
  rcases h1 with h1 | ⟨rfl, h1⟩
  ·rcases h2 with h2 | ⟨rfl, h2⟩
   ·exact .inl (UInt8.lt_trans h1 h2)
   ·exact .inl h1
  ·rcases h2 with h2 | ⟨rfl, h2⟩
   ·exact .inl h2
   ·exact .inr ⟨rfl, H3 h1 h2⟩
theorem QY : ∀ (x : Bs) (b : UInt8) (r : Bs), Op.bytesLess x (x ++ b :: r) = true
 | [], b, r => rfl
 | a :: x, b, r => by
  rw [List.cons_append]
  unfold Op.bytesLess
  rw [QY x b r]
  simp
theorem Aa0 {p : Bs} {j : Nat} (h : j < p.length) : Op.bytesLess (p.take j) p = true := by
 have := QY (p.take j) (p.getD j 0) (p.drop (j + 1))
 rwa [← XW h, List.take_append_drop] at this
def RX (a b : Bs) : Bool := cond (cond (decide (((List.length b : Nat) : Int) > ((List.length a : Nat) : Int))) ((List.take (Int.toNat ((List.length a : Nat) : Int)) b) == a) false) (((UInt8.toNat (List.getD b (Int.toNat ((List.length a : Nat) : Int)) 0) : Nat) : Int) == (47 : Int)) false
theorem QT {a b : Bs} : RX a b = true ↔ a.length < b.length ∧ b.take a.length = a ∧ b.getD a.length 0 = 47 := by
 unfold RX
 rw [show Int.toNat ((List.length a : Nat) : Int) = a.length from rfl, Ad3]
 by_cases h : a.length < b.length
 ·rw [show decide (((List.length b : Nat) : Int) > ((List.length a : Nat) : Int)) = true from decide_eq_true (by omega), cond_true]
  by_cases h2 : b.take a.length = a
  ·rw [h2, show (a == a) = true from beq_self_eq_true a, cond_true]
   simp [h]
  ·rw [show (List.take a.length b == a) = false from beq_eq_false_iff_ne.2 h2]
   simp [h2]
 ·rw [show decide (((List.length b : Nat) : Int) > ((List.length a : Nat) : Int)) = false from decide_eq_false (by omega)]
  simp [h]
theorem D8 : ∀ (l : List AA) (p : Bs), (AQ l p).isSome = true ↔ ∃ f ∈ l, f.1 = p
 | [], p => by simp [AQ]
 | f :: r, p => by
  have ih := D8 r p
  rw [AQ]
  cases hb : AQ r p with
  | some v =>
   rw [hb] at ih
   simp only [Option.isSome_some, true_iff] at ih ⊢
   obtain ⟨g, hg, e⟩ := ih
   exact ⟨g, List.mem_cons_of_mem _ hg, e⟩
  | none =>
   rw [hb] at ih
   dsimp only
   by_cases hp : p = f.1
   ·rw [if_pos hp]
    simp only [Option.isSome_some, true_iff]
    exact ⟨f, List.mem_cons_self .., hp.symm⟩
   ·rw [if_neg hp]
    simp only [Option.isSome_none, Bool.false_eq_true, false_iff]
    rintro ⟨g, hg, e⟩
    rcases List.mem_cons.1 hg with rfl | hg
    ·exact hp e.symm
    ·have := ih.2 ⟨g, hg, e⟩
     cases this
abbrev pth (l : List AA) (i : Nat) : Bs := (l.getD i ([], [])).1
def JK (l : List AA) : Prop := ∀ i, i < l.length → ∀ k, k < i → Op.bytesLess (pth l k) (pth l i) = true ∧ RX (pth l k) (pth l i) = false
theorem UG (l : List AA) : PR l = true ↔ JK l := by
 unfold PR
 rw [List.all_eq_true]
 constructor
 ·intro h
  have hadj : ∀ i, 0 < i → i < l.length → Op.bytesLess (pth l (i - 1)) (pth l i) = true := fun i h0 hi => by
   have := h i (List.mem_range.2 hi)
   simp only [Bool.and_eq_true, Bool.or_eq_true, beq_iff_eq] at this
   rcases this.1 with h1 | h1
   ·omega
   ·exact h1
  have hch : ∀ i, i < l.length → ∀ k, k < i → Op.bytesLess (pth l k) (pth l i) = true := by
   intro i
   induction i with
   | zero => intro _ k hk; omega
   | succ i ih =>
    intro hi k hk
    have h1 := hadj (i + 1) (by omega) hi
    rw [Nat.add_sub_cancel] at h1
    by_cases hki : k = i
    ·subst hki; exact h1
    ·exact H3 (ih (by omega) k (by omega)) h1
  intro i hi k hk
  refine ⟨hch i hi k hk, ?_⟩
  rw [Bool.eq_false_iff]
  intro ha
  obtain ⟨a1, a2, a3⟩ := QT.1 ha
  have hn := h i (List.mem_range.2 hi)
  simp only [Bool.and_eq_true, Bool.not_eq_true'] at hn
  have hn := hn.2
  unfold Xn at hn
  rw [List.any_eq_false] at hn
  refine hn (pth l k).length (List.mem_range.2 a1) ?_
  rw [Bool.and_eq_true]
  refine ⟨(D8 l _).2 ⟨l.getD k ([], []), BK (by omega), a2.symm⟩, beq_iff_eq.2 a3⟩
 ·intro h i hi
  have hi := List.mem_range.1 hi
  simp only [Bool.and_eq_true, Bool.or_eq_true, beq_iff_eq, Bool.not_eq_true']
  refine ⟨?_, ?_⟩
  ·by_cases h0 : i = 0
   ·exact .inl h0
   ·exact .inr (h i hi (i - 1) (by omega)).1
  ·unfold Xn
   rw [List.any_eq_false]
   intro j hj hb
   have hj : j < (pth l i).length := List.mem_range.1 hj
   rw [Bool.and_eq_true] at hb
   obtain ⟨hb1, hb2⟩ := hb
   obtain ⟨f, hf, hfe⟩ := (D8 l _).1 hb1
   obtain ⟨m, hm⟩ := List.getElem?_of_mem hf
   have hml : m < l.length := (List.getElem?_eq_some_iff.1 hm).1
   have hpm : pth l m = (pth l i).take j := by
    unfold pth
    rw [List.getD_eq_getElem?_getD, hm]
    exact hfe
   have hlen : ((pth l i).take j).length = j := by rw [List.length_take]; exact Nat.min_eq_left (by omega)
   rcases Nat.lt_trichotomy m i with h1 | h1 | h1
   ·have := (h i hi m h1).2
    rw [Bool.eq_false_iff] at this
    refine this (QT.2 ⟨by rw [hpm, hlen]; exact hj, by rw [hpm, hlen], by rw [hpm, hlen]; exact beq_iff_eq.1 hb2⟩)
   ·subst h1
    have := congrArg List.length hpm
    rw [hlen] at this
    exact absurd hj (by rw [this]; exact Nat.lt_irrefl _)
   ·have h2 := (h m hml i h1).1
    have h3 := Aa0 hj
    rw [← hpm] at h3
    have h4 := E0 (pth l i)
    rw [H3 h2 h3] at h4
    cases h4
def Ex (l : List AA) : Int :=
 if l.length > 200 then 1 else if l.all (fun f => EF f.1 == 0) = false then 210 else if PR l = false then 211 else if l.all (fun f => Jg f.2 == 0) = false then 1 else 0
def Fk (l : List AA) : Prop := l.length ≤ 1000000 ∧ ∀ f ∈ l, f.1.length ≤ 140737488351232 ∧ f.2.length ≤ 140737488351232
theorem Fk.at {l : List AA} (h : Fk l) {i : Nat} (hi : i < l.length) : (l.getD i ([], [])).1.length ≤ 140737488351232 ∧ (l.getD i ([], [])).2.length ≤ 140737488351232 := h.2 _ (BK hi)
def Vw (P : Pg) : Prop := ∀ f : AA, f.1.length ≤ 140737488351232 → Fn P zS6 CJ f fun (d : Bool) _ => d = (EF f.1 != 0)
theorem Ac9 (h : Has P E8) (hC : Fb P) : Vw P := by
 intro f hf
 refine Oi h ?_
 unfold Jo
 exact hC.at hf rfl
def Vx (P : Pg) : Prop := ∀ f : AA, f.2.length ≤ 140737488351232 → Fn P zS7 CL f fun (d : Bool) _ => d = (Jg f.2 != 0)
theorem Ada (h : Has P E9) (hC : M4 P) : Vx P := by
 intro f hf
 refine Oj h ?_
 unfold Jp
 refine (hC _ hf).to ?_
 rintro (d : Int) _ hd
 have hd : d = Jg f.2 := hd
 rw [hd]
def Vy (P : Pg) : Prop := ∀ l : List AA, Fk l → Fn P zS2 Aw (l, ()) fun (d : Int) _ => decide (d ≥ 0) = l.any fun f => EF f.1 != 0
theorem Y2 {α : Type} {l : List α} {p : α → Bool} {i : Nat} {d : α} (hi : i < l.length) (h : p (l.getD i d) = true) : l.any p = true := List.any_eq_true.2 ⟨_, BK hi, h⟩
theorem Y4 {α : Type} {l : List α} {p : α → Bool} {d : α} (h : ∀ j, j < l.length → p (l.getD j d) = false) : l.any p = false := by
 rw [List.any_eq_false]
 intro x hx
 obtain ⟨j, hj⟩ := List.getElem?_of_mem hx
 have hl : j < l.length := (List.getElem?_eq_some_iff.1 hj).1
 have := h j hl
 rw [List.getD_eq_getElem?_getD, hj, Option.getD_some] at this
 rw [this]; simp
theorem Adb (h : Has P A1) (hC : Vw P) : Vy P := by
 intro l hl
 refine De h ?_
 unfold BZ
 dsimp only
 refine Ai.mid (fun _ => (l.any fun f => EF f.1 != 0) = false) ?_ fun _ h => by rw [h]; rfl
 refine Bl.of (fun q => (0 ≤ q.2 ∧ q.2 ≤ l.length) ∧ ∀ j, j < q.2.toNat → (EF (l.getD j ([], [])).1 != 0) = false) (fun q => (l.length - q.2).toNat) ⟨⟨Int.le_refl _, by dsimp only; omega⟩, fun j hj => absurd hj (by simp)⟩ ?_
 rintro ⟨q, i⟩ ⟨⟨i0, i1⟩, hq⟩
 dsimp only at i0 i1 hq ⊢
 have hln := hl.1
 refine ⟨fun hi => ?_, fun hi => ?_⟩
 ·have hi := of_decide_eq_true hi
  have hi2 : i.toNat < l.length := by omega
  refine Ai.mid (fun _ => (EF (l.getD i.toNat ([], [])).1 != 0) = false) ⟨⟨i0, hi⟩, hi2, (hC _ (hl.at hi2).1).to ?_⟩ fun _ hn => ?_
  ·rintro (d : Bool) _ hd
   have hd : d = _ := hd
   subst hd
   refine ⟨fun hb => ?_, fun hb => hb⟩
   rw [Y2 (d := ([], [])) hi2 hb, decide_eq_true (by omega)]
  ·rw [w64 (by omega) (by omega)]
   refine ⟨⟨⟨by omega, by omega⟩, fun j hj => ?_⟩, by omega⟩
   by_cases hji : j = i.toNat
   ·subst hji; exact hn
   ·exact hq j (by omega)
 ·have hi := of_decide_eq_false hi
  exact Y4 (d := ([], [])) fun j hj => hq j (by omega)
def Vz (P : Pg) : Prop := ∀ l : List AA, Fk l → Fn P zS2 Ax (l, ()) fun (d : Int) _ => decide (d ≥ 0) = l.any fun f => Jg f.2 != 0
theorem Adc (h : Has P A2) (hC : Vx P) : Vz P := by
 intro l hl
 refine Df h ?_
 unfold B0
 dsimp only
 refine Ai.mid (fun _ => (l.any fun f => Jg f.2 != 0) = false) ?_ fun _ h => by rw [h]; rfl
 refine Bl.of (fun q => (0 ≤ q.2 ∧ q.2 ≤ l.length) ∧ ∀ j, j < q.2.toNat → (Jg (l.getD j ([], [])).2 != 0) = false) (fun q => (l.length - q.2).toNat) ⟨⟨Int.le_refl _, by dsimp only; omega⟩, fun j hj => absurd hj (by simp)⟩ ?_
 rintro ⟨q, i⟩ ⟨⟨i0, i1⟩, hq⟩
 dsimp only at i0 i1 hq ⊢
 have hln := hl.1
 refine ⟨fun hi => ?_, fun hi => ?_⟩
 ·have hi := of_decide_eq_true hi
  have hi2 : i.toNat < l.length := by omega
  refine Ai.mid (fun _ => (Jg (l.getD i.toNat ([], [])).2 != 0) = false) ⟨⟨i0, hi⟩, hi2, (hC _ (hl.at hi2).2).to ?_⟩ fun _ hn => ?_
  ·rintro (d : Bool) _ hd
   have hd : d = _ := hd
   subst hd
   refine ⟨fun hb => ?_, fun hb => hb⟩
   rw [Y2 (d := ([], [])) hi2 hb, decide_eq_true (by omega)]
  ·rw [w64 (by omega) (by omega)]
   refine ⟨⟨⟨by omega, by omega⟩, fun j hj => ?_⟩, by omega⟩
   by_cases hji : j = i.toNat
   ·subst hji; exact hn
   ·exact hq j (by omega)
 ·have hi := of_decide_eq_false hi
  exact Y4 (d := ([], [])) fun j hj => hq j (by omega)
def VA (P : Pg) : Prop := ∀ l : List AA, Fk l → Fn P zS3 Ar (l, ()) fun (d : Bool) _ => d = l.any fun f => EF f.1 != 0
theorem Ade (h : Has P AW) (hI : Vy P) : VA P := by
 intro l hl
 refine CW h ?_
 unfold BM
 exact (hI l hl).to fun (d : Int) _ hd => hd
def VB (P : Pg) : Prop := ∀ l : List AA, Fk l → Fn P zS3 Au (l, ()) fun (d : Bool) _ => d = l.any fun f => Jg f.2 != 0
theorem Adf (h : Has P AX) (hI : Vz P) : VB P := by
 intro l hl
 refine CX h ?_
 unfold BN
 exact (hI l hl).to fun (d : Int) _ hd => hd
theorem Y3 {α : Type} (l : List α) (p : α → Int) : (l.any fun f => p f != 0) = !(l.all fun f => p f == 0) := by
 induction l with
 | nil => rfl
 | cons a l ih => rw [List.any_cons, List.all_cons, ih, Bool.not_and]; rfl
def Et (P : Pg) : Prop := ∀ l : List AA, Fk l → Fn P Vm BQ l fun (d : Int) _ => d = Ex l
theorem S8 (h : Has P E7) (h1 : VA P) (hO : Lg P) (h2 : VB P) : Et P := by
 intro l hl
 refine K6 h ?_
 unfold Iw
 unfold Ex
 refine Ai.mid (fun _ => l.length ≤ 200 ∧ l.all (fun f => EF f.1 == 0) = true ∧ PR l = true ∧ l.all (fun f => Jg f.2 == 0) = true) ?_ fun _ hh => by
  obtain ⟨a1, a2, a3, a4⟩ := hh
  rw [if_neg (by omega), if_neg (by rw [a2]; simp), if_neg (by rw [a3]; simp), if_neg (by rw [a4]; simp)]
 refine ⟨fun hc => ?_, fun hc => ?_⟩
 ·have hc := of_decide_eq_true hc
  rw [if_pos (by omega)]
 have hc := of_decide_eq_false hc
 rw [if_neg (by omega)]
 refine (h1 l hl).to ?_
 rintro (d : Bool) _ hd
 have hd : d = _ := hd
 rw [Y3 l fun f => EF f.1] at hd
 subst hd
 refine ⟨fun hb => ?_, fun hb => ?_⟩
 ·rw [if_pos (by simpa using hb)]
 have hb : l.all (fun f => EF f.1 == 0) = true := by simpa using hb
 rw [if_neg (by rw [hb]; simp)]
 refine (hO l hl.1 hl.2).to ?_
 rintro (d : Bool) _ hd
 have hd : d = PR l := hd
 subst hd
 refine ⟨fun hb2 => ?_, fun hb2 => ?_⟩
 ·rw [if_pos (by simpa using hb2)]
 have hb2 : PR l = true := by simpa using hb2
 rw [if_neg (by rw [hb2]; simp)]
 refine (h2 l hl).to ?_
 rintro (d : Bool) _ hd
 have hd : d = _ := hd
 rw [Y3 l fun f => Jg f.2] at hd
 subst hd
 refine ⟨fun hb3 => ?_, fun hb3 => ?_⟩
 ·rw [if_pos (by simpa using hb3)]
 have hb3 : l.all (fun f => Jg f.2 == 0) = true := by simpa using hb3
 exact ⟨by omega, hb, hb2, hb3⟩
theorem Et.at (h : Et P) {l : List AA} (hl : Fk l) {K : Int → Unit → Prop} (hk : K (Ex l) ()) : Fn P Vm BQ l K :=
 (h l hl).to fun (d : Int) _ hd => by
  have hd : d = Ex l := hd
  subst hd
  exact hk
end Go.VS
