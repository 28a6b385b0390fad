/- The document's trees. -/
import Derived.Test.YtdnomijflodcgaaDoorKSpTree
set_option linter.unusedVariables false
set_option linter.unusedSimpArgs false
namespace Go.VS
variable {P : Pg}
def Ah2 (P : Pg) : Prop := ∀ x : Bs × Bs, x.1.length ≤ 140737488351232 → x.2.length ≤ 140737488351232 → Fn P Ab2 Ahp x fun (d : Bool) _ => d = RX x.1 x.2
theorem Aiv (h : Has P AhB) : Ah2 P := by
 rintro ⟨a, b⟩ ha hb
 dsimp only at ha hb
 refine Ah8 h ?_
 unfold AhV
 dsimp only
 refine ⟨fun hc => ?_, fun hc => ?_, rfl⟩
 ·have hc := of_decide_eq_true hc
  exact ⟨by omega, by omega⟩
 ·rw [Bool.cond_eq_ite] at hc
  split at hc
  ·rename_i h1
   have h1 := of_decide_eq_true h1
   exact ⟨by omega, by omega⟩
  ·cases hc
def AhG (P : Pg) : Prop := ∀ s : Bs, s.length ≤ 140737488351232 → Fn P YU Aho s fun (d : Int) _ => d = Jg s
theorem Aik (h : Has P AhA) (hL : Ld P) : AhG P := by
 intro s hs
 refine Ah7 h ?_
 unfold AhU
 refine ⟨fun hc => ?_, fun hc => ?_⟩
 ·have hc := of_decide_eq_true hc
  refine ⟨fun _ => ?_, fun h => (nomatch h)⟩
  unfold Jg
  rw [if_pos (.inl (by omega))]
 ·have hc := of_decide_eq_false hc
  refine (hL s (by omega)).to ?_
  rintro (d : List Bs) _ hd
  have hd : d = lnF s := hd
  subst hd
  simp only [cond_false]
  unfold Jg
  refine ⟨fun h1 => ?_, fun h1 => ?_⟩
  ·have h1 := of_decide_eq_true h1
   rw [if_pos (.inr (by omega))]
  ·have h1 := of_decide_eq_false h1
   rw [if_neg (by omega)]
theorem Aio {l : List AA} {i : Nat} (hi : i < l.length) (hl : ¬ l.length > 200) (h : EF (l.getD i ([], [])).1 ≠ 0) : Ex l = 210 := by
 unfold Ex
 rw [if_neg hl, if_pos]
 rw [List.all_eq_false]
 exact ⟨_, BK hi, by simpa using h⟩
theorem Aix {α : Type} {l : List α} {p : α → Bool} {d : α} (h : ∀ j, j < l.length → p (l.getD j d) = true) : l.all p = true := by
 rw [List.all_eq_true]
 intro x hx
 obtain ⟨j, hj⟩ := List.getElem?_of_mem hx
 have hl : j < l.length := (List.getElem?_eq_some_iff.1 hj).1
 have := h j hl
 rwa [List.getD_eq_getElem?_getD, hj, Option.getD_some] at this
def Ahw (P : Pg) : Prop := ∀ l : List AA, Fk l → Fn P zS8 Ahk l fun (d : Int) _ => d = Ex l
theorem Ail (h : Has P Ahu) (hP : Ahv P) (hA : Ah2 P) (hT : AhG P) : Ahw P := by
 intro l hl
 have hln := hl.1
 refine AhR h ?_
 unfold AhH
 refine ⟨fun hc => ?_, fun hc => ?_⟩
 ·have hc := of_decide_eq_true hc
  unfold Ex
  rw [if_pos (by omega)]
 have hc := of_decide_eq_false hc
 have hc2 : ¬ l.length > 200 := by omega
 refine Ai.mid (fun _ => ∀ j, j < l.length → EF (l.getD j ([], [])).1 = 0) ?_ ?_
 ·refine Bl.of (fun q => (0 ≤ q.2 ∧ q.2 ≤ l.length) ∧ ∀ j, j < q.2.toNat → EF (l.getD j ([], [])).1 = 0) (fun q => (l.length - q.2).toNat) ⟨⟨Int.le_refl _, by dsimp only; omega⟩, fun j hj => absurd hj (by simp)⟩ ?_
  rintro ⟨q, i⟩ ⟨⟨i0, i1⟩, hq⟩
  dsimp only at i0 i1 hq ⊢
  refine ⟨fun hi => ?_, fun hi => ?_⟩
  ·have hi := of_decide_eq_true hi
   have hi2 : i.toNat < l.length := by omega
   refine Ai.mid (fun _ => EF (l.getD i.toNat ([], [])).1 = 0) ⟨⟨i0, hi⟩, hi2, hP.at (hl.at hi2).1 ⟨fun hb => ?_, fun hb => ?_⟩⟩ fun _ hn => ?_
   ·exact (Aio hi2 hc2 (by simpa using hb)).symm
   ·simpa using hb
   ·rw [w64 (by omega) (by omega)]
    refine ⟨⟨⟨by omega, by omega⟩, fun j hj => ?_⟩, by omega⟩
    by_cases hji : j = i.toNat
    ·subst hji; exact hn
    ·exact hq j (by omega)
  ·have hi := of_decide_eq_false hi
   exact fun j hj => hq j (by omega)
 intro q hp
 have hpa : l.all (fun f => EF f.1 == 0) = true := Aix (d := ([], [])) fun j hj => by rw [hp j hj]; rfl
 have hbad : ∀ i k, i < l.length → k < i → (Op.bytesLess (pth l k) (pth l i) = false ∨ RX (pth l k) (pth l i) = true) → (211 : Int) = Ex l := by
  intro i k hi hk hv
  unfold Ex
  rw [if_neg hc2, if_neg (by rw [hpa]; simp), if_pos]
  rw [Bool.eq_false_iff]
  intro ho
  have := (UG l).1 ho i hi k hk
  rcases hv with hv | hv
  ·rw [this.1] at hv; cases hv
  ·rw [this.2] at hv; cases hv
 clear hp
 refine Ai.mid (fun _ => JK l) ?_ ?_
 ·refine Bl.of (fun q => (0 ≤ q.2 ∧ q.2 ≤ l.length) ∧ ∀ i, i < q.2.toNat → ∀ k, k < i → Op.bytesLess (pth l k) (pth l i) = true ∧ RX (pth l k) (pth l i) = false) (fun q => (l.length - q.2).toNat) ⟨⟨Int.le_refl _, by dsimp only; omega⟩, fun j hj => absurd hj (by simp)⟩ ?_
  rintro ⟨q', i⟩ ⟨⟨i0, i1⟩, hq⟩
  dsimp only at i0 i1 hq ⊢
  refine ⟨fun hi => ?_, fun hi => ?_⟩
  ·have hi := of_decide_eq_true hi
   have hi2 : i.toNat < l.length := by omega
   refine Ai.mid (fun _ => ∀ k, k < i.toNat → Op.bytesLess (pth l k) (pth l i.toNat) = true ∧ RX (pth l k) (pth l i.toNat) = false) ?_ fun _ hn => ?_
   ·refine Ai.mid (fun _ => ∀ k, k < i.toNat → Op.bytesLess (pth l k) (pth l i.toNat) = true ∧ RX (pth l k) (pth l i.toNat) = false) ?_ fun _ h => h
    refine Bl.of (fun q => (0 ≤ q.2 ∧ q.2 ≤ i) ∧ ∀ k, k < q.2.toNat → Op.bytesLess (pth l k) (pth l i.toNat) = true ∧ RX (pth l k) (pth l i.toNat) = false) (fun q => (i - q.2).toNat) ⟨⟨Int.le_refl _, i0⟩, fun j hj => absurd hj (by simp)⟩ ?_
    rintro ⟨q2, k⟩ ⟨⟨k0, k1⟩, hk⟩
    dsimp only at k0 k1 hk ⊢
    refine ⟨fun hki => ?_, fun hki => ?_⟩
    ·have hki := of_decide_eq_true hki
     have hk2 : k.toNat < l.length := by omega
     refine Ai.mid (fun _ => Op.bytesLess (pth l k.toNat) (pth l i.toNat) = true ∧ RX (pth l k.toNat) (pth l i.toNat) = false) ?_ fun _ hn => ?_
     ·refine Ai.mid (fun d => d = (!(Op.bytesLess (pth l k.toNat) (pth l i.toNat)) || RX (pth l k.toNat) (pth l i.toNat))) ?_ ?_
      ·refine ⟨⟨k0, by omega⟩, hk2, ⟨i0, by omega⟩, hi2, fun _ => ⟨k0, by omega⟩, fun _ => hk2, fun _ => ⟨i0, by omega⟩, fun _ => hi2, ?_, trivial⟩
       refine Ai.mid (fun d => (!(Op.bytesLess (pth l k.toNat) (pth l i.toNat))) = false → d = RX (pth l k.toNat) (pth l i.toNat)) ⟨fun _ => (hA (pth l k.toNat, pth l i.toNat) (hl.at hk2).1 (hl.at hi2).1).to fun (d : Bool) _ hd _ => hd, (by intro hb hb2; rw [hb] at hb2; cases hb2), trivial⟩ ?_
       intro d hd
       cases hb : (!(Op.bytesLess (pth l k.toNat) (pth l i.toNat))) with
       | true => rfl
       | false => exact hd hb
      ·rintro d rfl
       refine ⟨fun hb => ?_, fun hb => ?_⟩
       ·refine hbad i.toNat k.toNat hi2 (by omega) ?_
        simpa using hb
       ·simpa using hb
     ·rw [w64 (by omega) (by omega)]
      refine ⟨⟨⟨by omega, by omega⟩, fun j hj => ?_⟩, by omega⟩
      by_cases hji : j = k.toNat
      ·subst hji; exact hn
      ·exact hk j (by omega)
    ·have hki := of_decide_eq_false hki
     exact fun j hj => hk j (by omega)
   ·rw [w64 (by omega) (by omega)]
    refine ⟨⟨⟨by omega, by omega⟩, fun j hj => ?_⟩, by omega⟩
    by_cases hji : j = i.toNat
    ·subst hji; exact hn
    ·exact hq j (by omega)
  ·have hi := of_decide_eq_false hi
   exact fun j hj => hq j (by omega)
 intro q ho
 have hob := (UG l).2 ho
 clear ho hbad
 refine Ai.mid (fun _ => Ex l = 0) ?_ fun _ h => h.symm
 refine Bl.of (fun q => (0 ≤ q.2 ∧ q.2 ≤ l.length) ∧ ∀ j, j < q.2.toNat → Jg (l.getD j ([], [])).2 = 0) (fun q => (l.length - q.2).toNat) ⟨⟨Int.le_refl _, by dsimp only; omega⟩, fun j hj => absurd hj (by simp)⟩ ?_
 rintro ⟨q', i⟩ ⟨⟨i0, i1⟩, hq⟩
 dsimp only at i0 i1 hq ⊢
 refine ⟨fun hi => ?_, fun hi => ?_⟩
 ·have hi := of_decide_eq_true hi
  have hi2 : i.toNat < l.length := by omega
  refine Ai.mid (fun _ => Jg (l.getD i.toNat ([], [])).2 = 0) ⟨⟨i0, hi⟩, hi2, (hT _ (hl.at hi2).2).to ?_⟩ fun _ hn => ?_
  ·rintro (d : Int) _ hd
   have hd : d = Jg (l.getD i.toNat ([], [])).2 := hd
   subst hd
   refine ⟨fun hb => ?_, fun hb => ?_⟩
   ·unfold Ex
    rw [if_neg hc2, if_neg (by rw [hpa]; simp), if_neg (by rw [hob]; simp), if_pos]
    rw [List.all_eq_false]
    exact ⟨_, BK (d := ([], [])) hi2, by simpa using hb⟩
   ·simpa using hb
  ·rw [w64 (by omega) (by omega)]
   refine ⟨⟨⟨by omega, by omega⟩, fun j hj => ?_⟩, by omega⟩
   by_cases hji : j = i.toNat
   ·subst hji; exact hn
   ·exact hq j (by omega)
 ·have hi := of_decide_eq_false hi
  unfold Ex
  rw [if_neg hc2, if_neg (by rw [hpa]; simp), if_neg (by rw [hob]; simp), if_neg]
  rw [Aix (d := ([], [])) (p := fun f : AA => Jg f.2 == 0) fun j hj => by rw [hq j (by omega)]; rfl]
  simp
theorem Ahw.at (h : Ahw P) {l : List AA} (hl : Fk l) {K : Int → Unit → Prop} (hk : K (Ex l) ()) : Fn P zS8 Ahk l K :=
 (h l hl).to fun (d : Int) _ hd => by
  have hd : d = Ex l := hd
  subst hd
  exact hk
end Go.VS
