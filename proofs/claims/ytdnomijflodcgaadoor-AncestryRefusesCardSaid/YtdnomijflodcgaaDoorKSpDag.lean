/- Graphs: the document's check and the program's. -/
import Derived.Test.YtdnomijflodcgaaDoorKSpUp
import Derived.Test.YtdnomijflodcgaaDoorKSpTree
import Derived.Test.YtdnomijflodcgaaDoorKSpRTree
set_option linter.unusedVariables false
set_option linter.unusedSimpArgs false
namespace Go.VS
variable {P : Pg}
def Ia (g : List Aq) : Prop := g.length ≤ 300 ∧ ∀ c ∈ g, c.1.length ≤ 32
def UY (n : Nat) (l : List Int) (j : Nat) : Prop := (0 ≤ l.getD j 0 ∧ l.getD j 0 < (n : Int)) ∧ l.getD j 0 ∉ l.take j
def UZ (n : Nat) (l : List Int) : Prop := ∀ j, j < l.length → UY n l j
def HN (g : List Aq) : Prop := ∀ c ∈ g, UZ g.length c.1
def Oe (g : List Aq) : Prop := ∀ c ∈ g, 0 ≤ c.2.1 ∧ c.2.1 ≤ 2147483647
def HF : List Aq → Int
 | [] => 0
 | c :: g => if Ex c.2.2 ≠ 0 then Ex c.2.2 else HF g
def DF (g : List Aq) (e : Int) : Prop := (¬Ia g → e = 1) ∧ (Ia g → ¬HN g → e = 230) ∧ (Ia g → HN g → L8 g → e = 231) ∧ (Ia g → HN g → ¬L8 g → ¬Oe g → e = 3) ∧ (Ia g → HN g → ¬L8 g → Oe g → e = HF g)
theorem IE {g : List Aq} {e d : Int} (h : DF g e) (k : DF g d) : e = d := by
 by_cases h1 : Ia g
 ·by_cases h2 : HN g
  ·by_cases h3 : L8 g
   ·rw [h.2.2.1 h1 h2 h3, k.2.2.1 h1 h2 h3]
   ·by_cases h4 : Oe g
    ·rw [h.2.2.2.2 h1 h2 h3 h4, k.2.2.2.2 h1 h2 h3 h4]
    ·rw [h.2.2.2.1 h1 h2 h3 h4, k.2.2.2.1 h1 h2 h3 h4]
  ·rw [h.2.1 h1 h2, k.2.1 h1 h2]
 ·rw [h.1 h1, k.1 h1]
theorem AcD {g : List Aq} (h : ¬Ia g) : DF g 1 := ⟨fun _ => rfl, fun k => absurd k h, fun k => absurd k h, fun k => absurd k h, fun k => absurd k h⟩
theorem AcE {g : List Aq} (k : Ia g) (h : ¬HN g) : DF g 230 := ⟨fun h => absurd k h, fun _ _ => rfl, fun _ k => absurd k h, fun _ k => absurd k h, fun _ k => absurd k h⟩
theorem AcF {g : List Aq} (k : Ia g) (k2 : HN g) (h : L8 g) : DF g 231 := ⟨fun h => absurd k h, fun _ h => absurd k2 h, fun _ _ _ => rfl, fun _ _ k => absurd h k, fun _ _ k => absurd h k⟩
theorem AcG {g : List Aq} (k : Ia g) (k2 : HN g) (h : ¬L8 g) (h4 : ¬Oe g) : DF g 3 := ⟨fun h => absurd k h, fun _ h => absurd k2 h, fun _ _ k => absurd k h, fun _ _ _ _ => rfl, fun _ _ _ k => absurd k h4⟩
theorem SB {g : List Aq} (k : Ia g) (k2 : HN g) (h : ¬L8 g) (h4 : Oe g) {e : Int} (he : e = HF g) : DF g e := ⟨fun h => absurd k h, fun _ h => absurd k2 h, fun _ _ k => absurd k h, fun _ _ _ k => absurd h4 k, fun _ _ _ _ => he⟩
theorem EM {g : List Aq} {i : Nat} (hi : i < g.length) : g.getD i ([], (0, [])) ∈ g := BK hi
theorem Aac {g : List Aq} {i j : Nat} (hi : i < g.length) (hj : j < (g.getD i ([], (0, []))).1.length) (h : ¬UY g.length (g.getD i ([], (0, []))).1 j) : ¬HN g := fun k => h (k _ (EM hi) j hj)
theorem El {α : Type} {l : List α} {d : α} {p : α → Prop} (h : ∀ j, j < l.length → p (l.getD j d)) : ∀ x ∈ l, p x := by
 intro x hx
 obtain ⟨j, hj⟩ := List.getElem?_of_mem hx
 have hl : j < l.length := (List.getElem?_eq_some_iff.1 hj).1
 have := h j hl
 rw [List.getD_eq_getElem?_getD, hj, Option.getD_some] at this
 exact this
theorem Fq {g : List Aq} (h : HN g) : Vl g := by
 intro c hc p hp
 obtain ⟨j, hj⟩ := List.getElem?_of_mem hp
 have hl : j < (BF g c).length := (List.getElem?_eq_some_iff.1 hj).1
 have := (h _ (EM (g := g) (i := c.toNat) (by have := hc.1; have := hc.2; omega)) j hl).1
 have e : (BF g c).getD j 0 = p := by rw [List.getD_eq_getElem?_getD, hj, Option.getD_some]
 have this : 0 ≤ (BF g c).getD j 0 ∧ (BF g c).getD j 0 < (g.length : Int) := this
 rw [e] at this
 exact this
theorem AbJ {g : List Aq} (h : HN g) : ndG g := by
 intro c hc
 have hr : UZ g.length (BF g c) := h _ (EM (g := g) (i := c.toNat) (by have := hc.1; have := hc.2; omega))
 rw [List.nodup_iff_pairwise_ne, List.pairwise_iff_getElem]
 intro i j hi hj hij e
 refine (hr j hj).2 ?_
 rw [List.getD_eq_getElem?_getD, List.getElem?_eq_getElem hj, Option.getD_some, ← e]
 refine List.mem_of_getElem? (i := i) ?_
 rw [List.getElem?_take_of_lt hij, List.getElem?_eq_getElem hi]
theorem Mr {g : List Aq} (h : Ia g) : ∀ c, inR g c → (BF g c).length ≤ 1000000 := fun c hc => by
 have := h.2 _ (EM (g := g) (i := c.toNat) (by have := hc.1; have := hc.2; omega))
 have : (BF g c).length ≤ 32 := this
 omega
theorem WJ {g : List Aq} {i : Nat} (hi : i < g.length) : HF (g.drop i) = if Ex (g.getD i ([], (0, []))).2.2 ≠ 0 then Ex (g.getD i ([], (0, []))).2.2 else HF (g.drop (i + 1)) := by
 rw [List.drop_eq_getElem_cons hi, List.getD_eq_getElem?_getD, List.getElem?_eq_getElem hi, Option.getD_some]
 rfl
theorem Xp (x : Int) (n : Nat) : (cond (decide (x < 0)) true (decide (x ≥ (n : Int)))) = false ↔ (0 ≤ x ∧ x < (n : Int)) := by
 rw [Bool.cond_eq_ite]
 by_cases h : x < 0
 ·rw [if_pos (decide_eq_true h)]
  exact ⟨fun k => (by cases k), fun k => absurd k.1 (by omega)⟩
 ·rw [if_neg (by simpa using h)]
  exact ⟨fun k => (by have := of_decide_eq_false k; omega), fun k => decide_eq_false (by omega)⟩
theorem Xv (x : Int) : (cond (decide (x < (0 : Int))) true (decide (x > (2147483647 : Int)))) = false ↔ (0 ≤ x ∧ x ≤ 2147483647) := by
 rw [Bool.cond_eq_ite]
 by_cases h : x < 0
 ·rw [if_pos (decide_eq_true h)]
  exact ⟨fun k => (by cases k), fun k => absurd k.1 (by omega)⟩
 ·rw [if_neg (by simpa using h)]
  exact ⟨fun k => (by have := of_decide_eq_false k; omega), fun k => decide_eq_false (by omega)⟩
def RW (P : Pg) : Prop := ∀ x : List Int × Int, x.1.length ≤ 1000000 → Fn P "slices.Index[[]int,int]" Bp x fun (d : Int) _ => decide (d ≥ 0) = true ↔ x.2 ∈ x.1
theorem AbT (h : Has P C6) : RW P := by
 rintro ⟨l, v⟩ hl
 dsimp only at hl
 refine H8 h ?_
 unfold Fc
 dsimp only
 refine Ai.mid (fun _ => v ∉ l) ?_ fun _ h => ⟨fun k => absurd (of_decide_eq_true k) (by omega), fun k => absurd k h⟩
 refine Bl.of (fun q => (0 ≤ q.2 ∧ q.2 ≤ l.length) ∧ ∀ j, j < q.2.toNat → l.getD j 0 ≠ v) (fun q => (l.length - q.2).toNat) ⟨⟨Int.le_refl _, by dsimp only; omega⟩, fun j hj => absurd hj (by simp)⟩ ?_
 rintro ⟨q, i⟩ ⟨⟨i0, i1⟩, hq⟩
 dsimp only at i0 i1 hq ⊢
 refine ⟨fun hi => ?_, fun hi => ?_⟩
 ·have hi := of_decide_eq_true hi
  have hi2 : i.toNat < l.length := by omega
  refine Ai.mid (fun _ => l.getD i.toNat 0 ≠ v) ⟨⟨i0, hi⟩, hi2, fun hb => ?_, fun hb => ?_⟩ fun _ hn => ?_
  ·have e : v = l.getD i.toNat 0 := by simpa using hb
   exact ⟨fun _ => e ▸ BK hi2, fun _ => decide_eq_true (by omega)⟩
  ·exact fun e => by rw [e] at hb; simp at hb
  ·rw [w64 (by omega) (by omega)]
   refine ⟨⟨⟨by omega, by omega⟩, fun j hj => ?_⟩, by omega⟩
   by_cases hji : j = i.toNat
   ·subst hji; exact hn
   ·exact hq j (by omega)
 ·have hi := of_decide_eq_false hi
  exact fun hv => El (p := fun x => x ≠ v) (d := 0) (fun j hj => hq j (by omega)) v hv rfl
def ON (P : Pg) : Prop := ∀ x : List Int × Int, x.1.length ≤ 1000000 → Fn P "slices.Contains[[]int,int]" Bg x fun (d : Bool) _ => d = true ↔ x.2 ∈ x.1
theorem Aal (h : Has P Cy) (hI : RW P) : ON P := by
 intro x hx
 refine G1 h ?_
 unfold ED
 exact (hI x hx).to fun (d : Int) _ hd => hd
def Ahc (P : Pg) : Prop := ∀ x : List Int × Int, x.1.length ≤ 1000000 → Fn P WR Ag4 x fun (d : Bool) _ => d = true ↔ x.2 ∈ x.1
theorem Ahg (h : Has P Ag8) : Ahc P := by
 rintro ⟨l, v⟩ hl
 dsimp only at hl
 refine Ahd h ?_
 unfold Ahb
 dsimp only
 refine Ai.mid (fun _ => v ∉ l) ?_ fun _ h => ⟨fun k => (by cases k), fun k => absurd k h⟩
 refine Bl.of (fun q => (0 ≤ q.2 ∧ q.2 ≤ l.length) ∧ ∀ j, j < q.2.toNat → l.getD j 0 ≠ v) (fun q => (l.length - q.2).toNat) ⟨⟨Int.le_refl _, by dsimp only; omega⟩, fun j hj => absurd hj (by simp)⟩ ?_
 rintro ⟨q, i⟩ ⟨⟨i0, i1⟩, hq⟩
 dsimp only at i0 i1 hq ⊢
 refine ⟨fun hi => ?_, fun hi => ?_⟩
 ·have hi := of_decide_eq_true hi
  have hi2 : i.toNat < l.length := by omega
  refine Ai.mid (fun _ => l.getD i.toNat 0 ≠ v) ⟨⟨i0, hi⟩, hi2, fun hb => ?_, fun hb => ?_⟩ fun _ hn => ?_
  ·have e : l.getD i.toNat 0 = v := by simpa using hb
   exact ⟨fun _ => e ▸ BK hi2, fun _ => rfl⟩
  ·exact fun e => by rw [e] at hb; simp at hb
  ·rw [w64 (by omega) (by omega)]
   refine ⟨⟨⟨by omega, by omega⟩, fun j hj => ?_⟩, by omega⟩
   by_cases hji : j = i.toNat
   ·subst hji; exact hn
   ·exact hq j (by omega)
 ·have hi := of_decide_eq_false hi
  exact fun hv => El (p := fun x => x ≠ v) (d := 0) (fun j hj => hq j (by omega)) v hv rfl
def Vs (P : Pg) : Prop := ∀ l : List Aq, l.length ≤ 1000000 → Fn P zS0 Ap (l, ()) fun (d : Int) _ => decide (d ≥ 0) = false ↔ ∀ c ∈ l, c.1.length ≤ 32
theorem Ac4 (h : Has P AO) (h1 : Has P EU) : Vs P := by
 intro l hl
 refine CO h ?_
 unfold BJ
 dsimp only
 refine Ai.mid (fun _ => ∀ c ∈ l, c.1.length ≤ 32) ?_ fun _ h => ⟨fun _ => h, fun _ => rfl⟩
 refine Bl.of (fun q => (0 ≤ q.2 ∧ q.2 ≤ l.length) ∧ ∀ j, j < q.2.toNat → (l.getD j ([], (0, []))).1.length ≤ 32) (fun q => (l.length - q.2).toNat) ⟨⟨Int.le_refl _, by dsimp only; omega⟩, fun j hj => absurd hj (by simp)⟩ ?_
 rintro ⟨q, i⟩ ⟨⟨i0, i1⟩, hq⟩
 dsimp only at i0 i1 hq ⊢
 refine ⟨fun hi => ?_, fun hi => ?_⟩
 ·have hi := of_decide_eq_true hi
  have hi2 : i.toNat < l.length := by omega
  refine Ai.mid (fun _ => (l.getD i.toNat ([], (0, []))).1.length ≤ 32) ⟨⟨i0, hi⟩, hi2, Np h1 ⟨fun hb => ?_, fun hb => ?_⟩⟩ fun _ hn => ?_
  ·have hb := of_decide_eq_true hb
   have hb : (((l.getD i.toNat ([], (0, []))).1.length : Nat) : Int) > 32 := hb
   exact ⟨fun k => absurd (of_decide_eq_false k) (by omega), fun k => absurd (k _ (EM hi2)) (by omega)⟩
  ·have hb := of_decide_eq_false hb
   have hb : ¬((((l.getD i.toNat ([], (0, []))).1.length : Nat) : Int) > 32) := hb
   show (l.getD i.toNat ([], (0, []))).1.length ≤ 32
   omega
  ·rw [w64 (by omega) (by omega)]
   refine ⟨⟨⟨by omega, by omega⟩, fun j hj => ?_⟩, by omega⟩
   by_cases hji : j = i.toNat
   ·subst hji; exact hn
   ·exact hq j (by omega)
 ·have hi := of_decide_eq_false hi
  exact El (d := ([], (0, []))) fun j hj => hq j (by omega)
def Vu (P : Pg) : Prop := ∀ l : List Aq, l.length ≤ 1000000 → Fn P zS1 Al (l, ()) fun (d : Bool) _ => d = false ↔ ∀ c ∈ l, c.1.length ≤ 32
theorem Ac6 (h : Has P AK) (hI : Vs P) : Vu P := by
 intro l hl
 refine CA h ?_
 unfold Bz
 exact (hI l hl).to fun (d : Int) _ hd => hd
def Lc (P : Pg) : Prop := ∀ l : List Aq, Fn P AaE Da l fun (d : Bool) _ => d = true ↔ Ia l
theorem Wy (h : Has P FP) (hX : Vu P) : Lc P := by
 intro l
 refine Pj h ?_
 unfold K1
 refine Ai.mid (fun d => l.length ≤ 300 → (d = false ↔ ∀ c ∈ l, c.1.length ≤ 32)) ⟨fun hc => ?_, fun hc hl => absurd (of_decide_eq_false hc) (by omega), trivial⟩ fun d hd => ?_
 ·have hc := of_decide_eq_true hc
  exact (hX l (by omega)).to fun (d : Bool) _ hd _ => hd
 ·by_cases hl : l.length ≤ 300
  ·have hd := hd hl
   rw [decide_eq_true (show ((l.length : Nat) : Int) ≤ 300 by omega)]
   unfold Ia
   cases d with
   | false => exact ⟨fun _ => ⟨hl, hd.1 rfl⟩, fun _ => rfl⟩
   | true => exact ⟨fun k => (by cases k), fun k => (by have := hd.2 k.2; cases this)⟩
  ·rw [decide_eq_false (show ¬((l.length : Nat) : Int) ≤ 300 by omega)]
   exact ⟨fun k => (by cases k), fun k => absurd k.1 hl⟩
def Vt (P : Pg) : Prop := ∀ l : List Aq, l.length ≤ 1000000 → Fn P zS0 Av (l, ()) fun (d : Int) _ => decide (d ≥ 0) = false ↔ Oe l
theorem Ac5 (h : Has P AY) (h1 : Has P FO) : Vt P := by
 intro l hl
 refine CY h ?_
 unfold BO
 dsimp only
 refine Ai.mid (fun _ => Oe l) ?_ fun _ h => ⟨fun _ => h, fun _ => rfl⟩
 refine Bl.of (fun q => (0 ≤ q.2 ∧ q.2 ≤ l.length) ∧ ∀ j, j < q.2.toNat → 0 ≤ (l.getD j ([], (0, []))).2.1 ∧ (l.getD j ([], (0, []))).2.1 ≤ 2147483647) (fun q => (l.length - q.2).toNat) ⟨⟨Int.le_refl _, by dsimp only; omega⟩, fun j hj => absurd hj (by simp)⟩ ?_
 rintro ⟨q, i⟩ ⟨⟨i0, i1⟩, hq⟩
 dsimp only at i0 i1 hq ⊢
 refine ⟨fun hi => ?_, fun hi => ?_⟩
 ·have hi := of_decide_eq_true hi
  have hi2 : i.toNat < l.length := by omega
  refine Ai.mid (fun _ => 0 ≤ (l.getD i.toNat ([], (0, []))).2.1 ∧ (l.getD i.toNat ([], (0, []))).2.1 ≤ 2147483647) ⟨⟨i0, hi⟩, hi2, Ph h1 ⟨fun hb => ?_, fun hb => ?_⟩⟩ fun _ hn => ?_
  ·refine ⟨fun k => absurd (of_decide_eq_false k) (by omega), fun k => ?_⟩
   have := (Xv _).2 (k _ (EM hi2))
   exact absurd (this.symm.trans hb) (by simp)
  ·exact (Xv _).1 hb
  ·rw [w64 (by omega) (by omega)]
   refine ⟨⟨⟨by omega, by omega⟩, fun j hj => ?_⟩, by omega⟩
   by_cases hji : j = i.toNat
   ·subst hji; exact hn
   ·exact hq j (by omega)
 ·have hi := of_decide_eq_false hi
  exact El (d := ([], (0, []))) (p := fun c => 0 ≤ c.2.1 ∧ c.2.1 ≤ 2147483647) fun j hj => hq j (by omega)
def Vv (P : Pg) : Prop := ∀ l : List Aq, l.length ≤ 1000000 → Fn P zS1 Ao (l, ()) fun (d : Bool) _ => d = false ↔ Oe l
theorem Ac7 (h : Has P AN) (hI : Vt P) : Vv P := by
 intro l hl
 refine CG h ?_
 unfold BD
 exact (hI l hl).to fun (d : Int) _ hd => hd
def Lf (P : Pg) : Prop := ∀ g : List Aq, Ia g → Fn P AaF Db g fun (d : Bool) _ => d = true ↔ HN g
theorem WC (h : Has P FQ) (hC : ON P) : Lf P := by
 intro g hlim
 refine Pk h ?_
 unfold K2
 have hg := hlim.1
 refine Ai.mid (fun _ => HN g) ?_ fun _ h => ⟨fun _ => h, fun _ => rfl⟩
 refine Bl.of (fun q => (0 ≤ q.2 ∧ q.2 ≤ g.length) ∧ ∀ j, j < q.2.toNat → UZ g.length (g.getD j ([], (0, []))).1) (fun q => (g.length - q.2).toNat) ⟨⟨Int.le_refl _, by dsimp only; omega⟩, fun j hj => absurd hj (by simp)⟩ ?_
 rintro ⟨q, i⟩ ⟨⟨i0, i1⟩, hq⟩
 dsimp only at i0 i1 hq ⊢
 refine ⟨fun hi => ?_, fun hi => ?_⟩
 ·have hi := of_decide_eq_true hi
  have hi2 : i.toNat < g.length := by omega
  have hl : (g.getD i.toNat ([], (0, []))).1.length ≤ 32 := hlim.2 _ (EM hi2)
  have hbad : ∀ j, j < (g.getD i.toNat ([], (0, []))).1.length → ¬UY g.length (g.getD i.toNat ([], (0, []))).1 j → ¬HN g := fun j hj => Aac hi2 hj
  refine Ai.mid (fun _ => UZ g.length (g.getD i.toNat ([], (0, []))).1) ⟨⟨i0, hi⟩, hi2, ?_⟩ fun _ hn => ?_
  ·show Ai (D := Bool) _ _
   have ez : g.getD i.toNat Ak = g.getD i.toNat ([], (0, [])) := rfl
   rw [ez]
   generalize (g.getD i.toNat ([], (0, []))).1 = l at hl hbad ⊢
   refine Ai.mid (fun _ => UZ g.length l) ?_ fun _ h => h
   refine Bl.of (fun q => (0 ≤ q.2 ∧ q.2 ≤ l.length) ∧ ∀ j, j < q.2.toNat → UY g.length l j) (fun q => (l.length - q.2).toNat) ⟨⟨Int.le_refl _, by dsimp only; omega⟩, fun j hj => absurd hj (by simp)⟩ ?_
   rintro ⟨r, k⟩ ⟨⟨k0, k1⟩, hk⟩
   dsimp only at k0 k1 hk ⊢
   refine ⟨fun hki => ?_, fun hki => ?_⟩
   ·have hki := of_decide_eq_true hki
    have hk2 : k.toNat < l.length := by omega
    have hou := Xp (l.getD k.toNat 0) g.length
    generalize (cond (decide (l.getD k.toNat 0 < 0)) true (decide (l.getD k.toNat 0 ≥ (g.length : Int)))) = b at hou ⊢
    refine Ai.mid (fun _ => UY g.length l k.toNat) ⟨⟨k0, hki⟩, hk2, fun _ => ⟨k0, by omega⟩, ?_⟩ fun _ hn => ?_
    ·refine Ai.mid (fun d => b = false → (d = true ↔ l.getD k.toNat 0 ∈ l.take k.toNat)) ⟨fun hc => ?_, fun hc h => (by rw [hc] at h; cases h), trivial⟩ fun d hd => ⟨fun hb => ?_, fun hb => ?_⟩
     ·exact (hC (l.take k.toNat, l.getD k.toNat 0) (by rw [List.length_take]; omega)).to fun (d : Bool) _ hd _ => hd
     ·refine ⟨fun k => (by cases k), fun hr => absurd hr (hbad k.toNat hk2 fun ha => ?_)⟩
      have hbf := hou.2 ha.1
      rw [hbf] at hb
      exact ha.2 ((hd hbf).1 hb)
     ·cases b with
      | true => cases hb
      | false => exact ⟨hou.1 rfl, fun hm => (by have := (hd rfl).2 hm; rw [this] at hb; cases hb)⟩
    ·rw [w64 (by omega) (by omega)]
     refine ⟨⟨⟨by omega, by omega⟩, fun j hj => ?_⟩, by omega⟩
     by_cases hji : j = k.toNat
     ·subst hji; exact hn
     ·exact hk j (by omega)
   ·have hki := of_decide_eq_false hki
    exact fun j hj => hk j (by omega)
  ·rw [w64 (by omega) (by omega)]
   refine ⟨⟨⟨by omega, by omega⟩, fun j hj => ?_⟩, by omega⟩
   by_cases hji : j = i.toNat
   ·subst hji; exact hn
   ·exact hq j (by omega)
 ·have hi := of_decide_eq_false hi
  exact El (d := ([], (0, []))) (p := fun c => UZ g.length c.1) fun j hj => hq j (by omega)
def MR (g : List Aq) : Prop := ∀ c ∈ g, ∀ f ∈ c.2.2, f.1.length ≤ 140737488351232 ∧ f.2.length ≤ 140737488351232
def Aee (l : List AA) : Prop := ∀ f ∈ l, f.1.length ≤ 140737488351232 ∧ f.2.length ≤ 140737488351232
def HH (P : Pg) : Prop := ∀ l : List AA, Aee l → Fn P Vm BQ l fun (d : Int) _ => d = Ex l
theorem QP (h : Has P E7) (hT : Et P) : HH P := by
 intro l hl
 by_cases hn : l.length ≤ 1000000
 ·exact hT l ⟨hn, hl⟩
 ·refine K6 h ?_
  unfold Iw
  refine Ai.mid (fun _ => False) ⟨fun hc => ?_, fun hc => absurd (of_decide_eq_false hc) (by omega)⟩ fun _ hh => hh.elim
  unfold Ex
  rw [if_pos (by omega)]
def AhE (P : Pg) : Prop := ∀ l : List AA, Aee l → Fn P zS8 Ahk l fun (d : Int) _ => d = Ex l
theorem Aid (h : Has P Ahu) (hT : Ahw P) : AhE P := by
 intro l hl
 by_cases hn : l.length ≤ 1000000
 ·exact hT l ⟨hn, hl⟩
 ·refine AhR h ?_
  unfold AhH
  refine ⟨fun hc => ?_, fun hc => absurd (of_decide_eq_false hc) (by omega)⟩
  unfold Ex
  rw [if_pos (by omega)]
def Jk (P : Pg) : Prop := ∀ g : List Aq, MR g → Fn P AaJ DO g fun (d : Int) _ => DF g d
theorem Va (h : Has P Hs) (hL : Lc P) (hR : Lf P) (hU : M7 P) (hX : Vv P) (hT : HH P) : Jk P := by
 intro g hs
 refine Sg h ?_
 unfold NJ
 refine Ai.mid (fun _ => Ia g ∧ HN g ∧ ¬L8 g ∧ Oe g) ?_ fun d2 hh => ?_
 ·refine (hL g).to ?_
  rintro (d : Bool) _ hd
  have hd : d = true ↔ Ia g := hd
  refine ⟨fun hb => AcD fun k => (by rw [hd.2 k] at hb; cases hb), fun hb => ?_⟩
  have k1 : Ia g := hd.1 (by cases d with | true => rfl | false => cases hb)
  clear hd hb
  refine (hR g k1).to ?_
  rintro (d : Bool) _ hd
  have hd : d = true ↔ HN g := hd
  refine ⟨fun hb => AcE k1 fun k => (by rw [hd.2 k] at hb; cases hb), fun hb => ?_⟩
  have k2 : HN g := hd.1 (by cases d with | true => rfl | false => cases hb)
  clear hd hb
  have hg := k1.1
  refine (hU g (by omega) (Fq k2) (AbJ k2) (Mr k1)).to ?_
  rintro (u : List Int) _ hu
  have hu : UpG g u := hu
  have hcy := Adk (Fq k2) hu
  refine ⟨fun hb => AcF k1 k2 (hcy.1 (by have := of_decide_eq_true hb; omega)), fun hb => ?_⟩
  have k3 : ¬L8 g := fun k => by have := hcy.2 k; have := of_decide_eq_false hb; omega
  refine (hX g (by omega)).to ?_
  rintro (d : Bool) _ hd
  have hd : d = false ↔ Oe g := hd
  exact ⟨fun hb => AcG k1 k2 k3 fun k => (by rw [hd.2 k] at hb; cases hb), fun hb => ⟨k1, k2, k3, hd.1 hb⟩⟩
 ·obtain ⟨k1, k2, k3, k4⟩ := hh
  have hg := k1.1
  refine Ai.mid (fun _ => HF g = 0) ?_ fun _ h => SB k1 k2 k3 k4 h.symm
  refine Bl.of (fun q => (0 ≤ q.2 ∧ q.2 ≤ g.length) ∧ HF g = HF (g.drop q.2.toNat)) (fun q => (g.length - q.2).toNat) ⟨⟨Int.le_refl _, by dsimp only; omega⟩, rfl⟩ ?_
  rintro ⟨q, i⟩ ⟨⟨i0, i1⟩, hq⟩
  dsimp only at i0 i1 hq ⊢
  refine ⟨fun hi => ?_, fun hi => ?_⟩
  ·have hi := of_decide_eq_true hi
   have hi2 : i.toNat < g.length := by omega
   rw [WJ hi2] at hq
   refine Ai.mid (fun _ => Ex (g.getD i.toNat ([], (0, []))).2.2 = 0) ⟨⟨i0, hi⟩, hi2, (hT _ (hs _ (EM hi2))).to ?_⟩ fun _ hn => ?_
   ·rintro (d : Int) _ hd
    have hd : d = Ex (g.getD i.toNat ([], (0, []))).2.2 := hd
    rw [← hd] at hq ⊢
    refine ⟨fun hb => SB k1 k2 k3 k4 ?_, fun hb => by simpa using hb⟩
    rw [hq, if_pos (by simpa using hb)]
   ·rw [if_neg (by simpa using hn)] at hq
    rw [w64 (by omega) (by omega)]
    refine ⟨⟨⟨by omega, by omega⟩, ?_⟩, by omega⟩
    rw [hq, show (i + 1).toNat = i.toNat + 1 by omega]
  ·have hi := of_decide_eq_false hi
   show HF g = 0
   rw [hq, List.drop_of_length_le (by omega)]
   rfl
end Go.VS
