/- Graphs: the document's check and the program's. -/
import Derived.Test.YtdnomijflodcgaaDoorKSpUp
import Derived.Test.YtdnomijflodcgaaDoorKSpTree
import Derived.Test.YtdnomijflodcgaaDoorKSpRTree
set_option linter.unusedVariables false
set_option linter.unusedSimpArgs false
namespace Go.VS
variable {P : Pg}
def HE (g : List Ay) : Prop := g.length ≤ 300 ∧ ∀ c ∈ g, c.1.length ≤ 32
def Nw (n : Nat) (l : List Int) (j : Nat) : Prop := (0 ≤ l.getD j 0 ∧ l.getD j 0 < (n : Int)) ∧ l.getD j 0 ∉ l.take j
def Qa (n : Nat) (l : List Int) : Prop := ∀ j, j < l.length → Nw n l j
def Hg (g : List Ay) : Prop := ∀ c ∈ g, Qa g.length c.1
def ME (g : List Ay) : Prop := ∀ c ∈ g, 0 ≤ c.2.1 ∧ c.2.1 ≤ 2147483647
def Gc : List Ay → Int
 | [] => 0
 | c :: g => if Du c.2.2 ≠ 0 then Du c.2.2 else Gc g
def DE (g : List Ay) (e : Int) : Prop := (¬HE g → e = 1) ∧ (HE g → ¬Hg g → e = 230) ∧ (HE g → Hg g → K0 g → e = 231) ∧ (HE g → Hg g → ¬K0 g → ¬ME g → e = 3) ∧ (HE g → Hg g → ¬K0 g → ME g → e = Gc g)
theorem EO {g : List Ay} {e d : Int} (h : DE g e) (k : DE g d) : e = d := by
 by_cases h1 : HE g
 ·by_cases h2 : Hg g
  ·by_cases h3 : K0 g
   ·rw [h.2.2.1 h1 h2 h3, k.2.2.1 h1 h2 h3]
   ·by_cases h4 : ME g
    ·rw [h.2.2.2.2 h1 h2 h3 h4, k.2.2.2.2 h1 h2 h3 h4]
    ·rw [h.2.2.2.1 h1 h2 h3 h4, k.2.2.2.1 h1 h2 h3 h4]
  ·rw [h.2.1 h1 h2, k.2.1 h1 h2]
 ·rw [h.1 h1, k.1 h1]
theorem UP {g : List Ay} (h : ¬HE g) : DE g 1 := ⟨fun _ => rfl, fun k => absurd k h, fun k => absurd k h, fun k => absurd k h, fun k => absurd k h⟩
theorem Yd {g : List Ay} (k : HE g) (h : ¬Hg g) : DE g 230 := ⟨fun h => absurd k h, fun _ _ => rfl, fun _ k => absurd k h, fun _ k => absurd k h, fun _ k => absurd k h⟩
theorem Ye {g : List Ay} (k : HE g) (k2 : Hg g) (h : K0 g) : DE g 231 := ⟨fun h => absurd k h, fun _ h => absurd k2 h, fun _ _ _ => rfl, fun _ _ k => absurd h k, fun _ _ k => absurd h k⟩
theorem Yf {g : List Ay} (k : HE g) (k2 : Hg g) (h : ¬K0 g) (h4 : ¬ME g) : DE g 3 := ⟨fun h => absurd k h, fun _ h => absurd k2 h, fun _ _ k => absurd k h, fun _ _ _ _ => rfl, fun _ _ _ k => absurd k h4⟩
theorem OS {g : List Ay} (k : HE g) (k2 : Hg g) (h : ¬K0 g) (h4 : ME g) {e : Int} (he : e = Gc g) : DE g e := ⟨fun h => absurd k h, fun _ h => absurd k2 h, fun _ _ k => absurd k h, fun _ _ _ k => absurd h4 k, fun _ _ _ _ => he⟩
theorem Dz {g : List Ay} {i : Nat} (hi : i < g.length) : g.getD i ([], (0, [])) ∈ g := B3 hi
theorem TP {g : List Ay} {i j : Nat} (hi : i < g.length) (hj : j < (g.getD i ([], (0, []))).1.length) (h : ¬Nw g.length (g.getD i ([], (0, []))).1 j) : ¬Hg g := fun k => h (k _ (Dz hi) j hj)
theorem DI {α : Type} {l : List α} {d : α} {p : α → Prop} (h : ∀ j, j < l.length → p (l.getD j d)) : ∀ x ∈ l, p x := by
 intro x hx
 obtain ⟨j, hj⟩ := List.getElem?_of_mem hx
 have hl : j < l.length := (List.getElem?_eq_some_iff.1 hj).1
 have := h j hl
 rw [List.getD_eq_getElem?_getD, hj, Option.getD_some] at this
 exact this
theorem GZ {g : List Ay} (h : Hg g) : Uh g := by
 intro c hc p hp
 obtain ⟨j, hj⟩ := List.getElem?_of_mem hp
 have hl : j < (Bh g c).length := (List.getElem?_eq_some_iff.1 hj).1
 have := (h _ (Dz (g := g) (i := c.toNat) (by have := hc.1; have := hc.2; omega)) j hl).1
 have e : (Bh g c).getD j 0 = p := by rw [List.getD_eq_getElem?_getD, hj, Option.getD_some]
 have this : 0 ≤ (Bh g c).getD j 0 ∧ (Bh g c).getD j 0 < (g.length : Int) := this
 rw [e] at this
 exact this
theorem ZN {g : List Ay} (h : Hg g) : ndG g := by
 intro c hc
 have hr : Qa g.length (Bh g c) := h _ (Dz (g := g) (i := c.toNat) (by have := hc.1; have := hc.2; omega))
 rw [List.nodup_iff_pairwise_ne, List.pairwise_iff_getElem]
 intro i j hi hj hij e
 refine (hr j hj).2 ?_
 rw [List.getD_eq_getElem?_getD, List.getElem?_eq_getElem hj, Option.getD_some, ← e]
 refine List.mem_of_getElem? (i := i) ?_
 rw [List.getElem?_take_of_lt hij, List.getElem?_eq_getElem hi]
theorem LP {g : List Ay} (h : HE g) : ∀ c, inR g c → (Bh g c).length ≤ 1000000 := fun c hc => by
 have := h.2 _ (Dz (g := g) (i := c.toNat) (by have := hc.1; have := hc.2; omega))
 have : (Bh g c).length ≤ 32 := this
 omega
theorem PI {g : List Ay} {i : Nat} (hi : i < g.length) : Gc (g.drop i) = if Du (g.getD i ([], (0, []))).2.2 ≠ 0 then Du (g.getD i ([], (0, []))).2.2 else Gc (g.drop (i + 1)) := by
 rw [List.drop_eq_getElem_cons hi, List.getD_eq_getElem?_getD, List.getElem?_eq_getElem hi, Option.getD_some]
 rfl
theorem RH (x : Int) (n : Nat) : (cond (decide (x < 0)) true (decide (x ≥ (n : Int)))) = false ↔ (0 ≤ x ∧ x < (n : Int)) := by
 rw [Bool.cond_eq_ite]
 by_cases h : x < 0
 ·rw [if_pos (decide_eq_true h)]
  exact ⟨fun k => (by cases k), fun k => absurd k.1 (by omega)⟩
 ·rw [if_neg (by simpa using h)]
  exact ⟨fun k => (by have := of_decide_eq_false k; omega), fun k => decide_eq_false (by omega)⟩
theorem N0 (x : Int) : (cond (decide (x < (0 : Int))) true (decide (x > (2147483647 : Int)))) = false ↔ (0 ≤ x ∧ x ≤ 2147483647) := by
 rw [Bool.cond_eq_ite]
 by_cases h : x < 0
 ·rw [if_pos (decide_eq_true h)]
  exact ⟨fun k => (by cases k), fun k => absurd k.1 (by omega)⟩
 ·rw [if_neg (by simpa using h)]
  exact ⟨fun k => (by have := of_decide_eq_false k; omega), fun k => decide_eq_false (by omega)⟩
def Q9 (P : Pg) : Prop := ∀ x : List Int × Int, x.1.length ≤ 1000000 → Fn P "slices.Index[[]int,int]" Bi x fun (d : Int) _ => decide (d ≥ 0) = true ↔ x.2 ∈ x.1
theorem ZZ (h : Has P CU) : Q9 P := by
 rintro ⟨l, v⟩ hl
 dsimp only at hl
 refine H5 h ?_
 unfold E4
 dsimp only
 refine Aj.mid (fun _ => v ∉ l) ?_ fun _ h => ⟨fun k => absurd (of_decide_eq_true k) (by omega), fun k => absurd k h⟩
 refine A3.of (fun q => (0 ≤ q.2 ∧ q.2 ≤ l.length) ∧ ∀ j, j < q.2.toNat → l.getD j 0 ≠ v) (fun q => (l.length - q.2).toNat) ⟨⟨Int.le_refl _, by dsimp only; omega⟩, fun j hj => absurd hj (by simp)⟩ ?_
 rintro ⟨q, i⟩ ⟨⟨i0, i1⟩, hq⟩
 dsimp only at i0 i1 hq ⊢
 refine ⟨fun hi => ?_, fun hi => ?_⟩
 ·have hi := of_decide_eq_true hi
  have hi2 : i.toNat < l.length := by omega
  refine Aj.mid (fun _ => l.getD i.toNat 0 ≠ v) ⟨⟨i0, hi⟩, hi2, fun hb => ?_, fun hb => ?_⟩ fun _ hn => ?_
  ·have e : v = l.getD i.toNat 0 := by simpa using hb
   exact ⟨fun _ => e ▸ B3 hi2, fun _ => decide_eq_true (by omega)⟩
  ·exact fun e => by rw [e] at hb; simp at hb
  ·rw [w64 (by omega) (by omega)]
   refine ⟨⟨⟨by omega, by omega⟩, fun j hj => ?_⟩, by omega⟩
   by_cases hji : j = i.toNat
   ·subst hji; exact hn
   ·exact hq j (by omega)
 ·have hi := of_decide_eq_false hi
  exact fun hv => DI (p := fun x => x ≠ v) (d := 0) (fun j hj => hq j (by omega)) v hv rfl
def N4 (P : Pg) : Prop := ∀ x : List Int × Int, x.1.length ≤ 1000000 → Fn P "slices.Contains[[]int,int]" A9 x fun (d : Bool) _ => d = true ↔ x.2 ∈ x.1
theorem Yz (h : Has P Cn) (hI : Q9 P) : N4 P := by
 intro x hx
 refine GQ h ?_
 unfold Er
 exact (hI x hx).to fun (d : Int) _ hd => hd
def Ul (P : Pg) : Prop := ∀ l : List Ay, l.length ≤ 1000000 → Fn P zS3 Ap (l, ()) fun (d : Int) _ => decide (d ≥ 0) = false ↔ ∀ c ∈ l, c.1.length ≤ 32
theorem Aa4 (h : Has P AK) (h1 : Has P EG) : Ul P := by
 intro l hl
 refine CA h ?_
 unfold BA
 dsimp only
 refine Aj.mid (fun _ => ∀ c ∈ l, c.1.length ≤ 32) ?_ fun _ h => ⟨fun _ => h, fun _ => rfl⟩
 refine A3.of (fun q => (0 ≤ q.2 ∧ q.2 ≤ l.length) ∧ ∀ j, j < q.2.toNat → (l.getD j ([], (0, []))).1.length ≤ 32) (fun q => (l.length - q.2).toNat) ⟨⟨Int.le_refl _, by dsimp only; omega⟩, fun j hj => absurd hj (by simp)⟩ ?_
 rintro ⟨q, i⟩ ⟨⟨i0, i1⟩, hq⟩
 dsimp only at i0 i1 hq ⊢
 refine ⟨fun hi => ?_, fun hi => ?_⟩
 ·have hi := of_decide_eq_true hi
  have hi2 : i.toNat < l.length := by omega
  refine Aj.mid (fun _ => (l.getD i.toNat ([], (0, []))).1.length ≤ 32) ⟨⟨i0, hi⟩, hi2, MQ h1 ⟨fun hb => ?_, fun hb => ?_⟩⟩ fun _ hn => ?_
  ·have hb := of_decide_eq_true hb
   have hb : (((l.getD i.toNat ([], (0, []))).1.length : Nat) : Int) > 32 := hb
   exact ⟨fun k => absurd (of_decide_eq_false k) (by omega), fun k => absurd (k _ (Dz hi2)) (by omega)⟩
  ·have hb := of_decide_eq_false hb
   have hb : ¬((((l.getD i.toNat ([], (0, []))).1.length : Nat) : Int) > 32) := hb
   show (l.getD i.toNat ([], (0, []))).1.length ≤ 32
   omega
  ·rw [w64 (by omega) (by omega)]
   refine ⟨⟨⟨by omega, by omega⟩, fun j hj => ?_⟩, by omega⟩
   by_cases hji : j = i.toNat
   ·subst hji; exact hn
   ·exact hq j (by omega)
 ·have hi := of_decide_eq_false hi
  exact DI (d := ([], (0, []))) fun j hj => hq j (by omega)
def Un (P : Pg) : Prop := ∀ l : List Ay, l.length ≤ 1000000 → Fn P zS4 Al (l, ()) fun (d : Bool) _ => d = false ↔ ∀ c ∈ l, c.1.length ≤ 32
theorem Aa6 (h : Has P AG) (hI : Ul P) : Un P := by
 intro l hl
 refine Cq h ?_
 unfold Bn
 exact (hI l hl).to fun (d : Int) _ hd => hd
def KJ (P : Pg) : Prop := ∀ l : List Ay, Fn P YR CW l fun (d : Bool) _ => d = true ↔ HE l
theorem Vg (h : Has P FE) (hX : Un P) : KJ P := by
 intro l
 refine Oz h ?_
 unfold Kl
 refine Aj.mid (fun d => l.length ≤ 300 → (d = false ↔ ∀ c ∈ l, c.1.length ≤ 32)) ⟨fun hc => ?_, fun hc hl => absurd (of_decide_eq_false hc) (by omega), trivial⟩ fun d hd => ?_
 ·have hc := of_decide_eq_true hc
  exact (hX l (by omega)).to fun (d : Bool) _ hd _ => hd
 ·by_cases hl : l.length ≤ 300
  ·have hd := hd hl
   rw [decide_eq_true (show ((l.length : Nat) : Int) ≤ 300 by omega)]
   unfold HE
   cases d with
   | false => exact ⟨fun _ => ⟨hl, hd.1 rfl⟩, fun _ => rfl⟩
   | true => exact ⟨fun k => (by cases k), fun k => (by have := hd.2 k.2; cases this)⟩
  ·rw [decide_eq_false (show ¬((l.length : Nat) : Int) ≤ 300 by omega)]
   exact ⟨fun k => (by cases k), fun k => absurd k.1 hl⟩
def Um (P : Pg) : Prop := ∀ l : List Ay, l.length ≤ 1000000 → Fn P zS3 Au (l, ()) fun (d : Int) _ => decide (d ≥ 0) = false ↔ ME l
theorem Aa5 (h : Has P AR) (h1 : Has P FD) : Um P := by
 intro l hl
 refine CO h ?_
 unfold BG
 dsimp only
 refine Aj.mid (fun _ => ME l) ?_ fun _ h => ⟨fun _ => h, fun _ => rfl⟩
 refine A3.of (fun q => (0 ≤ q.2 ∧ q.2 ≤ l.length) ∧ ∀ j, j < q.2.toNat → 0 ≤ (l.getD j ([], (0, []))).2.1 ∧ (l.getD j ([], (0, []))).2.1 ≤ 2147483647) (fun q => (l.length - q.2).toNat) ⟨⟨Int.le_refl _, by dsimp only; omega⟩, fun j hj => absurd hj (by simp)⟩ ?_
 rintro ⟨q, i⟩ ⟨⟨i0, i1⟩, hq⟩
 dsimp only at i0 i1 hq ⊢
 refine ⟨fun hi => ?_, fun hi => ?_⟩
 ·have hi := of_decide_eq_true hi
  have hi2 : i.toNat < l.length := by omega
  refine Aj.mid (fun _ => 0 ≤ (l.getD i.toNat ([], (0, []))).2.1 ∧ (l.getD i.toNat ([], (0, []))).2.1 ≤ 2147483647) ⟨⟨i0, hi⟩, hi2, Oy h1 ⟨fun hb => ?_, fun hb => ?_⟩⟩ fun _ hn => ?_
  ·refine ⟨fun k => absurd (of_decide_eq_false k) (by omega), fun k => ?_⟩
   have := (N0 _).2 (k _ (Dz hi2))
   exact absurd (this.symm.trans hb) (by simp)
  ·exact (N0 _).1 hb
  ·rw [w64 (by omega) (by omega)]
   refine ⟨⟨⟨by omega, by omega⟩, fun j hj => ?_⟩, by omega⟩
   by_cases hji : j = i.toNat
   ·subst hji; exact hn
   ·exact hq j (by omega)
 ·have hi := of_decide_eq_false hi
  exact DI (d := ([], (0, []))) (p := fun c => 0 ≤ c.2.1 ∧ c.2.1 ≤ 2147483647) fun j hj => hq j (by omega)
def Uo (P : Pg) : Prop := ∀ l : List Ay, l.length ≤ 1000000 → Fn P zS4 Ao (l, ()) fun (d : Bool) _ => d = false ↔ ME l
theorem Aa7 (h : Has P AH) (hI : Um P) : Uo P := by
 intro l hl
 refine Cw h ?_
 unfold Bt
 exact (hI l hl).to fun (d : Int) _ hd => hd
def KL (P : Pg) : Prop := ∀ g : List Ay, HE g → Fn P YS CX g fun (d : Bool) _ => d = true ↔ Hg g
theorem Vj (h : Has P FF) (hC : N4 P) : KL P := by
 intro g hlim
 refine OA h ?_
 unfold Km
 have hg := hlim.1
 refine Aj.mid (fun _ => Hg g) ?_ fun _ h => ⟨fun _ => h, fun _ => rfl⟩
 refine A3.of (fun q => (0 ≤ q.2 ∧ q.2 ≤ g.length) ∧ ∀ j, j < q.2.toNat → Qa g.length (g.getD j ([], (0, []))).1) (fun q => (g.length - q.2).toNat) ⟨⟨Int.le_refl _, by dsimp only; omega⟩, fun j hj => absurd hj (by simp)⟩ ?_
 rintro ⟨q, i⟩ ⟨⟨i0, i1⟩, hq⟩
 dsimp only at i0 i1 hq ⊢
 refine ⟨fun hi => ?_, fun hi => ?_⟩
 ·have hi := of_decide_eq_true hi
  have hi2 : i.toNat < g.length := by omega
  have hl : (g.getD i.toNat ([], (0, []))).1.length ≤ 32 := hlim.2 _ (Dz hi2)
  have hbad : ∀ j, j < (g.getD i.toNat ([], (0, []))).1.length → ¬Nw g.length (g.getD i.toNat ([], (0, []))).1 j → ¬Hg g := fun j hj => TP hi2 hj
  refine Aj.mid (fun _ => Qa g.length (g.getD i.toNat ([], (0, []))).1) ⟨⟨i0, hi⟩, hi2, ?_⟩ fun _ hn => ?_
  ·show Aj (D := Bool) _ _
   have ez : g.getD i.toNat Ai = g.getD i.toNat ([], (0, [])) := rfl
   rw [ez]
   generalize (g.getD i.toNat ([], (0, []))).1 = l at hl hbad ⊢
   refine Aj.mid (fun _ => Qa g.length l) ?_ fun _ h => h
   refine A3.of (fun q => (0 ≤ q.2 ∧ q.2 ≤ l.length) ∧ ∀ j, j < q.2.toNat → Nw g.length l j) (fun q => (l.length - q.2).toNat) ⟨⟨Int.le_refl _, by dsimp only; omega⟩, fun j hj => absurd hj (by simp)⟩ ?_
   rintro ⟨r, k⟩ ⟨⟨k0, k1⟩, hk⟩
   dsimp only at k0 k1 hk ⊢
   refine ⟨fun hki => ?_, fun hki => ?_⟩
   ·have hki := of_decide_eq_true hki
    have hk2 : k.toNat < l.length := by omega
    have hou := RH (l.getD k.toNat 0) g.length
    generalize (cond (decide (l.getD k.toNat 0 < 0)) true (decide (l.getD k.toNat 0 ≥ (g.length : Int)))) = b at hou ⊢
    refine Aj.mid (fun _ => Nw g.length l k.toNat) ⟨⟨k0, hki⟩, hk2, fun _ => ⟨k0, by omega⟩, ?_⟩ fun _ hn => ?_
    ·refine Aj.mid (fun d => b = false → (d = true ↔ l.getD k.toNat 0 ∈ l.take k.toNat)) ⟨fun hc => ?_, fun hc h => (by rw [hc] at h; cases h), trivial⟩ fun d hd => ⟨fun hb => ?_, fun hb => ?_⟩
     ·exact (hC (l.take k.toNat, l.getD k.toNat 0) (by rw [List.length_take]; omega)).to fun (d : Bool) _ hd _ => hd
     ·refine ⟨fun k => (by cases k), fun hr => absurd hr (hbad k.toNat hk2 fun ha => ?_)⟩
      have hbf := hou.2 ha.1
      rw [hbf] at hb
      exact ha.2 ((hd hbf).1 hb)
     ·cases b with
      | true => cases hb
      | false => exact ⟨hou.1 rfl, fun hm => (by have := (hd rfl).2 hm; rw [this] at hb; cases hb)⟩
    ·rw [w64 (by omega) (by omega)]
     refine ⟨⟨⟨by omega, by omega⟩, fun j hj => ?_⟩, by omega⟩
     by_cases hji : j = k.toNat
     ·subst hji; exact hn
     ·exact hk j (by omega)
   ·have hki := of_decide_eq_false hki
    exact fun j hj => hk j (by omega)
  ·rw [w64 (by omega) (by omega)]
   refine ⟨⟨⟨by omega, by omega⟩, fun j hj => ?_⟩, by omega⟩
   by_cases hji : j = i.toNat
   ·subst hji; exact hn
   ·exact hq j (by omega)
 ·have hi := of_decide_eq_false hi
  exact DI (d := ([], (0, []))) (p := fun c => Qa g.length c.1) fun j hj => hq j (by omega)
def M3 (g : List Ay) : Prop := ∀ c ∈ g, ∀ f ∈ c.2.2, f.1.length ≤ 140737488351232 ∧ f.2.length ≤ 140737488351232
def AbR (l : List AJ) : Prop := ∀ f ∈ l, f.1.length ≤ 140737488351232 ∧ f.2.length ≤ 140737488351232
def Hz (P : Pg) : Prop := ∀ l : List AJ, AbR l → Fn P zS2 BJ l fun (d : Int) _ => d = Du l
theorem Qh (h : Has P EW) (hT : Ej P) : Hz P := by
 intro l hl
 by_cases hn : l.length ≤ 1000000
 ·exact hT l ⟨hn, hl⟩
 ·refine Kv h ?_
  unfold Im
  refine Aj.mid (fun _ => False) ⟨fun hc => ?_, fun hc => absurd (of_decide_eq_false hc) (by omega)⟩ fun _ hh => hh.elim
  unfold Du
  rw [if_pos (by omega)]
def I9 (P : Pg) : Prop := ∀ g : List Ay, M3 g → Fn P Z9 DF g fun (d : Int) _ => DE g d
theorem T6 (h : Has P Hl) (hL : KJ P) (hR : KL P) (hU : Mv P) (hX : Uo P) (hT : Hz P) : I9 P := by
 intro g hs
 refine Rn h ?_
 unfold M9
 refine Aj.mid (fun _ => HE g ∧ Hg g ∧ ¬K0 g ∧ ME g) ?_ fun d2 hh => ?_
 ·refine (hL g).to ?_
  rintro (d : Bool) _ hd
  have hd : d = true ↔ HE g := hd
  refine ⟨fun hb => UP fun k => (by rw [hd.2 k] at hb; cases hb), fun hb => ?_⟩
  have k1 : HE g := hd.1 (by cases d with | true => rfl | false => cases hb)
  clear hd hb
  refine (hR g k1).to ?_
  rintro (d : Bool) _ hd
  have hd : d = true ↔ Hg g := hd
  refine ⟨fun hb => Yd k1 fun k => (by rw [hd.2 k] at hb; cases hb), fun hb => ?_⟩
  have k2 : Hg g := hd.1 (by cases d with | true => rfl | false => cases hb)
  clear hd hb
  have hg := k1.1
  refine (hU g (by omega) (GZ k2) (ZN k2) (LP k1)).to ?_
  rintro (u : List Int) _ hu
  have hu : UpG g u := hu
  have hcy := Abi (GZ k2) hu
  refine ⟨fun hb => Ye k1 k2 (hcy.1 (by have := of_decide_eq_true hb; omega)), fun hb => ?_⟩
  have k3 : ¬K0 g := fun k => by have := hcy.2 k; have := of_decide_eq_false hb; omega
  refine (hX g (by omega)).to ?_
  rintro (d : Bool) _ hd
  have hd : d = false ↔ ME g := hd
  exact ⟨fun hb => Yf k1 k2 k3 fun k => (by rw [hd.2 k] at hb; cases hb), fun hb => ⟨k1, k2, k3, hd.1 hb⟩⟩
 ·obtain ⟨k1, k2, k3, k4⟩ := hh
  have hg := k1.1
  refine Aj.mid (fun _ => Gc g = 0) ?_ fun _ h => OS k1 k2 k3 k4 h.symm
  refine A3.of (fun q => (0 ≤ q.2 ∧ q.2 ≤ g.length) ∧ Gc g = Gc (g.drop q.2.toNat)) (fun q => (g.length - q.2).toNat) ⟨⟨Int.le_refl _, by dsimp only; omega⟩, rfl⟩ ?_
  rintro ⟨q, i⟩ ⟨⟨i0, i1⟩, hq⟩
  dsimp only at i0 i1 hq ⊢
  refine ⟨fun hi => ?_, fun hi => ?_⟩
  ·have hi := of_decide_eq_true hi
   have hi2 : i.toNat < g.length := by omega
   rw [PI hi2] at hq
   refine Aj.mid (fun _ => Du (g.getD i.toNat ([], (0, []))).2.2 = 0) ⟨⟨i0, hi⟩, hi2, (hT _ (hs _ (Dz hi2))).to ?_⟩ fun _ hn => ?_
   ·rintro (d : Int) _ hd
    have hd : d = Du (g.getD i.toNat ([], (0, []))).2.2 := hd
    rw [← hd] at hq ⊢
    refine ⟨fun hb => OS k1 k2 k3 k4 ?_, fun hb => by simpa using hb⟩
    rw [hq, if_pos (by simpa using hb)]
   ·rw [if_neg (by simpa using hn)] at hq
    rw [w64 (by omega) (by omega)]
    refine ⟨⟨⟨by omega, by omega⟩, ?_⟩, by omega⟩
    rw [hq, show (i + 1).toNat = i.toNat + 1 by omega]
  ·have hi := of_decide_eq_false hi
   show Gc g = 0
   rw [hq, List.drop_of_length_le (by omega)]
   rfl
end Go.VS
