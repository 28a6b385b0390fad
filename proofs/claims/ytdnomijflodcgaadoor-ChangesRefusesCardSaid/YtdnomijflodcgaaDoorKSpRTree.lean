/- The document's trees. -/
import Derived.Test.YtdnomijflodcgaaDoorKSpTree
set_option linter.unusedVariables false
set_option linter.unusedSimpArgs false
namespace Go.VS
variable {P : Pg}
def Ms (P : Pg) : Prop := ∀ x : Bs × Bs, x.1.length ≤ 140737488351232 → x.2.length ≤ 140737488351232 → Fn P YT C3 x fun (d : Bool) _ => d = F6 x.1 x.2
theorem W0 (h : Has P FJ) : Ms P := by
 rintro ⟨a, b⟩ ha hb
 dsimp only at ha hb
 refine OE h ?_
 unfold Kq
 dsimp only
 refine ⟨fun hc => ?_, fun hc => ?_, rfl⟩
 ·have hc := of_decide_eq_true hc
  exact ⟨by omega, by omega⟩
 ·rw [Bool.cond_eq_ite] at hc
  split at hc
  ·rename_i h1
   have h1 := of_decide_eq_true h1
   exact ⟨by omega, by omega⟩
  ·cases hc
def Hy (P : Pg) : Prop := ∀ s : Bs, s.length ≤ 140737488351232 → Fn P YV CY s fun (d : Int) _ => d = He s
theorem Qf (h : Has P FH) (hL : KK P) : Hy P := by
 intro s hs
 refine OC h ?_
 unfold Ko
 refine ⟨fun hc => ?_, fun hc => ?_⟩
 ·have hc := of_decide_eq_true hc
  refine ⟨fun _ => ?_, fun h => (nomatch h)⟩
  unfold He
  rw [if_pos (.inl (by omega))]
 ·have hc := of_decide_eq_false hc
  refine (hL s (by omega)).to ?_
  rintro (d : List Bs) _ hd
  have hd : d = lnF s := hd
  subst hd
  simp only [cond_false]
  unfold He
  refine ⟨fun h1 => ?_, fun h1 => ?_⟩
  ·have h1 := of_decide_eq_true h1
   rw [if_pos (.inr (by omega))]
  ·have h1 := of_decide_eq_false h1
   rw [if_neg (by omega)]
theorem SA {l : List AJ} {i : Nat} (hi : i < l.length) (hl : ¬ l.length > 200) (h : CI (l.getD i ([], [])).1 ≠ 0) : Du l = 210 := by
 unfold Du
 rw [if_neg hl, if_pos]
 rw [List.all_eq_false]
 exact ⟨_, B3 hi, by simpa using h⟩
theorem Xn {α : Type} {l : List α} {p : α → Bool} {d : α} (h : ∀ j, j < l.length → p (l.getD j d) = true) : l.all p = true := by
 rw [List.all_eq_true]
 intro x hx
 obtain ⟨j, hj⟩ := List.getElem?_of_mem hx
 have hl : j < l.length := (List.getElem?_eq_some_iff.1 hj).1
 have := h j hl
 rwa [List.getD_eq_getElem?_getD, hj, Option.getD_some] at this
def Ex (P : Pg) : Prop := ∀ l : List AJ, ER l → Fn P Vv Cd l fun (d : Int) _ => d = Du l
theorem Qg (h : Has P Ev) (hP : Ew P) (hA : Ms P) (hT : Hy P) : Ex P := by
 intro l hl
 have hln := hl.1
 refine Jn h ?_
 unfold HA
 refine ⟨fun hc => ?_, fun hc => ?_⟩
 ·have hc := of_decide_eq_true hc
  unfold Du
  rw [if_pos (by omega)]
 have hc := of_decide_eq_false hc
 have hc2 : ¬ l.length > 200 := by omega
 refine Aj.mid (fun _ => ∀ j, j < l.length → CI (l.getD j ([], [])).1 = 0) ?_ ?_
 ·refine A3.of (fun q => (0 ≤ q.2 ∧ q.2 ≤ l.length) ∧ ∀ j, j < q.2.toNat → CI (l.getD j ([], [])).1 = 0) (fun q => (l.length - q.2).toNat) ⟨⟨Int.le_refl _, by dsimp only; omega⟩, fun j hj => absurd hj (by simp)⟩ ?_
  rintro ⟨q, i⟩ ⟨⟨i0, i1⟩, hq⟩
  dsimp only at i0 i1 hq ⊢
  refine ⟨fun hi => ?_, fun hi => ?_⟩
  ·have hi := of_decide_eq_true hi
   have hi2 : i.toNat < l.length := by omega
   refine Aj.mid (fun _ => CI (l.getD i.toNat ([], [])).1 = 0) ⟨⟨i0, hi⟩, hi2, hP.at (hl.at hi2).1 ⟨fun hb => ?_, fun hb => ?_⟩⟩ fun _ hn => ?_
   ·exact (SA hi2 hc2 (by simpa using hb)).symm
   ·simpa using hb
   ·rw [w64 (by omega) (by omega)]
    refine ⟨⟨⟨by omega, by omega⟩, fun j hj => ?_⟩, by omega⟩
    by_cases hji : j = i.toNat
    ·subst hji; exact hn
    ·exact hq j (by omega)
  ·have hi := of_decide_eq_false hi
   exact fun j hj => hq j (by omega)
 intro q hp
 have hpa : l.all (fun f => CI f.1 == 0) = true := Xn (d := ([], [])) fun j hj => by rw [hp j hj]; rfl
 have hbad : ∀ i k, i < l.length → k < i → (Op.bytesLess (pth l k) (pth l i) = false ∨ F6 (pth l k) (pth l i) = true) → (211 : Int) = Du l := by
  intro i k hi hk hv
  unfold Du
  rw [if_neg hc2, if_neg (by rw [hpa]; simp), if_pos]
  rw [Bool.eq_false_iff]
  intro ho
  have := (O7 l).1 ho i hi k hk
  rcases hv with hv | hv
  ·rw [this.1] at hv; cases hv
  ·rw [this.2] at hv; cases hv
 clear hp
 refine Aj.mid (fun _ => JA l) ?_ ?_
 ·refine A3.of (fun q => (0 ≤ q.2 ∧ q.2 ≤ l.length) ∧ ∀ i, i < q.2.toNat → ∀ k, k < i → Op.bytesLess (pth l k) (pth l i) = true ∧ F6 (pth l k) (pth l i) = false) (fun q => (l.length - q.2).toNat) ⟨⟨Int.le_refl _, by dsimp only; omega⟩, fun j hj => absurd hj (by simp)⟩ ?_
  rintro ⟨q', i⟩ ⟨⟨i0, i1⟩, hq⟩
  dsimp only at i0 i1 hq ⊢
  refine ⟨fun hi => ?_, fun hi => ?_⟩
  ·have hi := of_decide_eq_true hi
   have hi2 : i.toNat < l.length := by omega
   refine Aj.mid (fun _ => ∀ k, k < i.toNat → Op.bytesLess (pth l k) (pth l i.toNat) = true ∧ F6 (pth l k) (pth l i.toNat) = false) ?_ fun _ hn => ?_
   ·refine Aj.mid (fun _ => ∀ k, k < i.toNat → Op.bytesLess (pth l k) (pth l i.toNat) = true ∧ F6 (pth l k) (pth l i.toNat) = false) ?_ fun _ h => h
    refine A3.of (fun q => (0 ≤ q.2 ∧ q.2 ≤ i) ∧ ∀ k, k < q.2.toNat → Op.bytesLess (pth l k) (pth l i.toNat) = true ∧ F6 (pth l k) (pth l i.toNat) = false) (fun q => (i - q.2).toNat) ⟨⟨Int.le_refl _, i0⟩, fun j hj => absurd hj (by simp)⟩ ?_
    rintro ⟨q2, k⟩ ⟨⟨k0, k1⟩, hk⟩
    dsimp only at k0 k1 hk ⊢
    refine ⟨fun hki => ?_, fun hki => ?_⟩
    ·have hki := of_decide_eq_true hki
     have hk2 : k.toNat < l.length := by omega
     refine Aj.mid (fun _ => Op.bytesLess (pth l k.toNat) (pth l i.toNat) = true ∧ F6 (pth l k.toNat) (pth l i.toNat) = false) ?_ fun _ hn => ?_
     ·refine Aj.mid (fun d => d = (!(Op.bytesLess (pth l k.toNat) (pth l i.toNat)) || F6 (pth l k.toNat) (pth l i.toNat))) ?_ ?_
      ·refine ⟨⟨k0, by omega⟩, hk2, ⟨i0, by omega⟩, hi2, fun _ => ⟨k0, by omega⟩, fun _ => hk2, fun _ => ⟨i0, by omega⟩, fun _ => hi2, ?_, trivial⟩
       refine Aj.mid (fun d => (!(Op.bytesLess (pth l k.toNat) (pth l i.toNat))) = false → d = F6 (pth l k.toNat) (pth l i.toNat)) ⟨fun _ => (hA (pth l k.toNat, pth l i.toNat) (hl.at hk2).1 (hl.at hi2).1).to fun (d : Bool) _ hd _ => hd, (by intro hb hb2; rw [hb] at hb2; cases hb2), trivial⟩ ?_
       intro d hd
       cases hb : (!(Op.bytesLess (pth l k.toNat) (pth l i.toNat))) with
       | true => rfl
       | false => exact hd hb
      ·rintro d rfl
       refine ⟨fun hb => ?_, fun hb => ?_⟩
       ·refine hbad i.toNat k.toNat hi2 (by omega) ?_
        simpa using hb
       ·simpa using hb
     ·rw [w64 (by omega) (by omega)]
      refine ⟨⟨⟨by omega, by omega⟩, fun j hj => ?_⟩, by omega⟩
      by_cases hji : j = k.toNat
      ·subst hji; exact hn
      ·exact hk j (by omega)
    ·have hki := of_decide_eq_false hki
     exact fun j hj => hk j (by omega)
   ·rw [w64 (by omega) (by omega)]
    refine ⟨⟨⟨by omega, by omega⟩, fun j hj => ?_⟩, by omega⟩
    by_cases hji : j = i.toNat
    ·subst hji; exact hn
    ·exact hq j (by omega)
  ·have hi := of_decide_eq_false hi
   exact fun j hj => hq j (by omega)
 intro q ho
 have hob := (O7 l).2 ho
 clear ho hbad
 refine Aj.mid (fun _ => Du l = 0) ?_ fun _ h => h.symm
 refine A3.of (fun q => (0 ≤ q.2 ∧ q.2 ≤ l.length) ∧ ∀ j, j < q.2.toNat → He (l.getD j ([], [])).2 = 0) (fun q => (l.length - q.2).toNat) ⟨⟨Int.le_refl _, by dsimp only; omega⟩, fun j hj => absurd hj (by simp)⟩ ?_
 rintro ⟨q', i⟩ ⟨⟨i0, i1⟩, hq⟩
 dsimp only at i0 i1 hq ⊢
 refine ⟨fun hi => ?_, fun hi => ?_⟩
 ·have hi := of_decide_eq_true hi
  have hi2 : i.toNat < l.length := by omega
  refine Aj.mid (fun _ => He (l.getD i.toNat ([], [])).2 = 0) ⟨⟨i0, hi⟩, hi2, (hT _ (hl.at hi2).2).to ?_⟩ fun _ hn => ?_
  ·rintro (d : Int) _ hd
   have hd : d = He (l.getD i.toNat ([], [])).2 := hd
   subst hd
   refine ⟨fun hb => ?_, fun hb => ?_⟩
   ·unfold Du
    rw [if_neg hc2, if_neg (by rw [hpa]; simp), if_neg (by rw [hob]; simp), if_pos]
    rw [List.all_eq_false]
    exact ⟨_, B3 (d := ([], [])) hi2, by simpa using hb⟩
   ·simpa using hb
  ·rw [w64 (by omega) (by omega)]
   refine ⟨⟨⟨by omega, by omega⟩, fun j hj => ?_⟩, by omega⟩
   by_cases hji : j = i.toNat
   ·subst hji; exact hn
   ·exact hq j (by omega)
 ·have hi := of_decide_eq_false hi
  unfold Du
  rw [if_neg hc2, if_neg (by rw [hpa]; simp), if_neg (by rw [hob]; simp), if_neg]
  rw [Xn (d := ([], [])) (p := fun f : AJ => He f.2 == 0) fun j hj => by rw [hq j (by omega)]; rfl]
  simp
theorem Ex.at (h : Ex P) {l : List AJ} (hl : ER l) {K : Int → Unit → Prop} (hk : K (Du l) ()) : Fn P Vv Cd l K :=
 (h l hl).to fun (d : Int) _ hd => by
  have hd : d = Du l := hd
  subst hd
  exact hk
def findF : List AJ → Bs → Bs × Bool
 | [], _ => ([], false)
 | f :: r, p => if f.1 = p then (f.2, true) else findF r p
theorem Wp {l : List AJ} {i : Nat} (hi : i < l.length) (p : Bs) : findF (l.drop i) p = if (l.getD i ([], [])).1 = p then ((l.getD i ([], [])).2, true) else findF (l.drop (i + 1)) p := by
 rw [List.drop_eq_getElem_cons hi, findF, getD_eq hi]
def Ja (P : Pg) : Prop := ∀ x : List AJ × Bs, x.1.length ≤ 1000000 → Fn P zS6 Cz x fun (d : Bs × Bool) _ => d = findF x.1 x.2
theorem YE (h : Has P Hn) : Ja P := by
 rintro ⟨l, p⟩ hl
 dsimp only at hl
 refine Rp h ?_
 unfold Nb
 dsimp only
 refine Aj.mid (fun _ => findF l p = ([], false)) ?_ fun _ h => h.symm
 refine A3.of (fun q => (0 ≤ q.2.2 ∧ q.2.2 ≤ l.length) ∧ findF (l.drop q.2.2.toNat) p = findF l p) (fun q => (l.length - q.2.2).toNat) ⟨⟨Int.le_refl _, by dsimp only; omega⟩, rfl⟩ ?_
 rintro ⟨q1, q2, i⟩ ⟨⟨i0, i1⟩, hq⟩
 dsimp only at i0 i1 hq ⊢
 refine ⟨fun hi => ?_, fun hi => ?_⟩
 ·have hi := of_decide_eq_true hi
  have hi2 : i.toNat < l.length := by omega
  rw [Wp hi2] at hq
  refine Aj.mid (fun _ => (l.getD i.toNat ([], [])).1 ≠ p) ⟨⟨i0, hi⟩, hi2, fun hb => ?_, fun hb => beq_eq_false_iff_ne.1 hb⟩ fun _ hn => ?_
  ·rw [if_pos (eq_of_beq hb)] at hq
   exact hq
  ·rw [if_neg hn] at hq
   rw [w64 (by omega) (by omega), show (i + 1).toNat = i.toNat + 1 by omega]
   exact ⟨⟨⟨by omega, by omega⟩, hq⟩, by omega⟩
 ·have hi := of_decide_eq_false hi
  rw [List.drop_of_length_le (by omega)] at hq
  exact hq.symm
theorem Ja.at (h : Ja P) {l : List AJ} {p : Bs} (hl : l.length ≤ 1000000) {K : Bs × Bool → Unit → Prop} (hk : K (findF l p) ()) : Fn P zS6 Cz (l, p) K :=
 (h (l, p) hl).to fun (d : Bs × Bool) _ hd => by
  have hd : d = findF l p := hd
  subst hd
  exact hk
end Go.VS
