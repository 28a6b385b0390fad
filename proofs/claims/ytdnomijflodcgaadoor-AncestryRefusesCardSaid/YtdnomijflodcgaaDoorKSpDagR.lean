/- Graphs: the document's check. -/
import Derived.Test.YtdnomijflodcgaaDoorKSpDag
set_option linter.unusedVariables false
set_option linter.unusedSimpArgs false
namespace Go.VS
variable {P : Pg}
theorem AiD {g : List Aq} {c : Int} (hc : inR g c) {s : List Bool} (hs : Aft g (BF g c) s) (h : s.getD c.toNat false = true) : L8 g := by
 obtain ⟨f, hf, hr⟩ := (hs.2 c hc).1 h
 exact ⟨c, hc, f, hf, hr⟩
theorem Ait {g : List Aq} {c : Int} (hc : inR g c) {s : List Bool} (hs : Aft g (BF g c) s) (h : s.getD c.toNat false = false) : ¬∃ p ∈ BF g c, Rch g p c := by
 rintro hr
 have := (hs.2 c hc).2 hr
 unfold inS at this
 rw [h] at this
 cases this
def AhP (P : Pg) : Prop := ∀ g : List Aq, g.length ≤ 1000000 → MR g → Fn P zS9 Ahl g fun (d : Int) _ => DF g d
theorem Aim (h : Has P AhC) (hH : Ahc P) (hR : AeQ P) (hT : AhE P) : AhP P := by
 intro g hgl hs
 refine Ah9 h ?_
 unfold AhW
 refine ⟨fun hc => AcD fun k => absurd k.1 (by have := of_decide_eq_true hc; omega), fun hc => ?_⟩
 have hg : g.length ≤ 300 := by have := of_decide_eq_false hc; omega
 clear hc
 refine Ai.mid (fun _ => ∀ c ∈ g, c.1.length ≤ 32) ?_ fun d2 hlim => ?_
 ·refine Bl.of (fun q => (0 ≤ q.2 ∧ q.2 ≤ g.length) ∧ ∀ j, j < q.2.toNat → (g.getD j ([], (0, []))).1.length ≤ 32) (fun q => (g.length - q.2).toNat) ⟨⟨Int.le_refl _, by dsimp only; omega⟩, fun j hj => absurd hj (by simp)⟩ ?_
  rintro ⟨q, i⟩ ⟨⟨i0, i1⟩, hq⟩
  dsimp only at i0 i1 hq ⊢
  refine ⟨fun hi => ?_, fun hi => ?_⟩
  ·have hi := of_decide_eq_true hi
   have hi2 : i.toNat < g.length := by omega
   refine Ai.mid (fun _ => (g.getD i.toNat ([], (0, []))).1.length ≤ 32) ⟨⟨i0, hi⟩, hi2, fun hb => ?_, fun hb => ?_⟩ fun _ hn => ?_
   ·have hb := of_decide_eq_true hb
    have hb : (((g.getD i.toNat ([], (0, []))).1.length : Nat) : Int) > 32 := hb
    exact AcD fun k => absurd (k.2 _ (EM hi2)) (by omega)
   ·have hb := of_decide_eq_false hb
    have hb : ¬((((g.getD i.toNat ([], (0, []))).1.length : Nat) : Int) > 32) := hb
    show (g.getD i.toNat ([], (0, []))).1.length ≤ 32
    omega
   ·rw [w64 (by omega) (by omega)]
    refine ⟨⟨⟨by omega, by omega⟩, fun j hj => ?_⟩, by omega⟩
    by_cases hji : j = i.toNat
    ·subst hji; exact hn
    ·exact hq j (by omega)
  ·have hi := of_decide_eq_false hi
   exact El (d := ([], (0, []))) (p := fun c => c.1.length ≤ 32) fun j hj => hq j (by omega)
 have k1 : Ia g := ⟨hg, hlim⟩
 clear hlim
 refine Ai.mid (fun _ => HN g) ?_ fun d8 k2 => ?_
 ·refine Bl.of (fun q => (0 ≤ q.2 ∧ q.2 ≤ g.length) ∧ ∀ j, j < q.2.toNat → UZ g.length (g.getD j ([], (0, []))).1) (fun q => (g.length - q.2).toNat) ⟨⟨Int.le_refl _, by dsimp only; omega⟩, fun j hj => absurd hj (by simp)⟩ ?_
  rintro ⟨q, i⟩ ⟨⟨i0, i1⟩, hq⟩
  dsimp only at i0 i1 hq ⊢
  refine ⟨fun hi => ?_, fun hi => ?_⟩
  ·have hi := of_decide_eq_true hi
   have hi2 : i.toNat < g.length := by omega
   have hl : (g.getD i.toNat ([], (0, []))).1.length ≤ 32 := k1.2 _ (EM hi2)
   have hbad : ∀ j, j < (g.getD i.toNat ([], (0, []))).1.length → ¬UY g.length (g.getD i.toNat ([], (0, []))).1 j → ¬HN g := fun j hj => Aac hi2 hj
   refine Ai.mid (fun _ => UZ g.length (g.getD i.toNat ([], (0, []))).1) ?_ fun _ hn => ?_
   ·have ez : g.getD i.toNat Ak = g.getD i.toNat ([], (0, [])) := rfl
    rw [ez]
    generalize (g.getD i.toNat ([], (0, []))).1 = l at hl hbad ⊢
    refine Ai.mid (fun _ => UZ g.length l) ?_ fun _ h => h
    refine Bl.of (fun q => (0 ≤ q.2 ∧ q.2 ≤ l.length) ∧ ∀ j, j < q.2.toNat → UY g.length l j) (fun q => (l.length - q.2).toNat) ⟨⟨Int.le_refl _, by dsimp only; omega⟩, fun j hj => absurd hj (by simp)⟩ ?_
    rintro ⟨r, k⟩ ⟨⟨k0, kk1⟩, hk⟩
    dsimp only at k0 kk1 hk ⊢
    refine ⟨⟨i0, hi⟩, hi2, fun hki => ?_, fun hki => ?_⟩
    ·have hki := of_decide_eq_true hki
     have hk2 : k.toNat < l.length := by omega
     have hou := Xp (l.getD k.toNat 0) g.length
     generalize (cond (decide (l.getD k.toNat 0 < 0)) true (decide (l.getD k.toNat 0 ≥ (g.length : Int)))) = b at hou ⊢
     refine Ai.mid (fun _ => UY g.length l k.toNat) ⟨⟨i0, hi⟩, hi2, ⟨k0, hki⟩, hk2, fun _ => ⟨i0, hi⟩, fun _ => hi2, fun _ => ⟨k0, by omega⟩, ?_⟩ fun _ hn => ?_
     ·refine Ai.mid (fun d => b = false → (d = true ↔ l.getD k.toNat 0 ∈ l.take k.toNat)) ⟨fun hc => ?_, fun hc h => (by rw [hc] at h; cases h), trivial⟩ fun d hd => ⟨fun hb => ?_, fun hb => ?_⟩
      ·exact (hH (l.take k.toNat, l.getD k.toNat 0) (by rw [List.length_take]; omega)).to fun (d : Bool) _ hd _ => hd
      ·refine AcE k1 (hbad k.toNat hk2 fun ha => ?_)
       have hbf := hou.2 ha.1
       rw [hbf] at hb
       exact ha.2 ((hd hbf).1 hb)
      ·cases b with
       | true => cases hb
       | false => exact ⟨hou.1 rfl, fun hm => (by have := (hd rfl).2 hm; rw [this] at hb; cases hb)⟩
     ·rw [w64 (by omega) (by omega)]
      refine ⟨⟨⟨by omega, by omega⟩, fun j hj => ?_⟩, by omega⟩
      by_cases hji : j = k.toNat
      ·subst hji; exact hn
      ·exact hk j (by omega)
    ·have hki := of_decide_eq_false hki
     exact fun j hj => hk j (by omega)
   ·rw [w64 (by omega) (by omega)]
    refine ⟨⟨⟨by omega, by omega⟩, fun j hj => ?_⟩, by omega⟩
    by_cases hji : j = i.toNat
    ·subst hji; exact hn
    ·exact hq j (by omega)
  ·have hi := of_decide_eq_false hi
   exact El (d := ([], (0, []))) (p := fun c => UZ g.length c.1) fun j hj => hq j (by omega)
 refine Ai.mid (fun _ => ¬L8 g) ?_ fun d23 k3 => ?_
 ·refine Bl.of (fun q => (0 ≤ q.2 ∧ q.2 ≤ g.length) ∧ ∀ c : Int, 0 ≤ c → c < q.2 → ¬∃ p ∈ BF g c, Rch g p c) (fun q => (g.length - q.2).toNat) ⟨⟨Int.le_refl _, by dsimp only; omega⟩, fun c h1 h2 => absurd h2 (by dsimp only; omega)⟩ ?_
  rintro ⟨q, i⟩ ⟨⟨i0, i1⟩, hq⟩
  dsimp only at i0 i1 hq ⊢
  refine ⟨fun hi => ?_, fun hi => ?_⟩
  ·have hi := of_decide_eq_true hi
   have hi2 : i.toNat < g.length := by omega
   refine Ai.mid (fun _ => ¬∃ p ∈ BF g i, Rch g p i) ⟨⟨i0, hi⟩, hi2, fun hp => ⟨⟨i0, hi⟩, hi2, ?_⟩, fun hp => ⟨fun k => (by cases k), fun _ => ?_⟩⟩ fun _ hn => ?_
   ·refine (hR (g, BF g i) (by dsimp only; omega) (Mr k1 i ⟨i0, hi⟩) (Fq k2) (Mr k1) (fun f hf => Fq k2 i ⟨i0, hi⟩ f hf)).to ?_
    rintro (s : List Bool) _ hsr
    have hsr : Aft g (BF g i) s := hsr
    have hsl := hsr.1
    refine ⟨⟨i0, by rw [hsl]; exact hi⟩, by rw [hsl]; exact hi2, fun hb => AcF k1 k2 (AiD ⟨i0, hi⟩ hsr hb), fun hb => Ait ⟨i0, hi⟩ hsr hb⟩
   ·rintro ⟨p, hm, _⟩
    have hp := of_decide_eq_false hp
    have hp : ¬(((BF g i).length : Nat) : Int) > 0 := hp
    have := List.length_pos_of_mem hm
    omega
   ·rw [w64 (by omega) (by omega)]
    refine ⟨⟨⟨by omega, by omega⟩, fun c h1 h2 => ?_⟩, by omega⟩
    by_cases hji : c = i
    ·subst hji; exact hn
    ·exact hq c h1 (by omega)
  ·have hi := of_decide_eq_false hi
   rintro ⟨c, hc, hp⟩
   exact hq c hc.1 (by have := hc.2; omega) hp
 refine Ai.mid (fun _ => Oe g) ?_ fun d31 k4 => ?_
 ·refine Bl.of (fun q => (0 ≤ q.2 ∧ q.2 ≤ g.length) ∧ ∀ j, j < q.2.toNat → 0 ≤ (g.getD j ([], (0, []))).2.1 ∧ (g.getD j ([], (0, []))).2.1 ≤ 2147483647) (fun q => (g.length - q.2).toNat) ⟨⟨Int.le_refl _, by dsimp only; omega⟩, fun j hj => absurd hj (by simp)⟩ ?_
  rintro ⟨q, i⟩ ⟨⟨i0, i1⟩, hq⟩
  dsimp only at i0 i1 hq ⊢
  refine ⟨fun hi => ?_, fun hi => ?_⟩
  ·have hi := of_decide_eq_true hi
   have hi2 : i.toNat < g.length := by omega
   refine Ai.mid (fun _ => 0 ≤ (g.getD i.toNat ([], (0, []))).2.1 ∧ (g.getD i.toNat ([], (0, []))).2.1 ≤ 2147483647) ⟨⟨i0, hi⟩, hi2, fun _ => ⟨i0, hi⟩, fun _ => hi2, fun hb => ?_, fun hb => ?_⟩ fun _ hn => ?_
   ·refine AcG k1 k2 k3 fun k => ?_
    have := (Xv _).2 (k _ (EM hi2))
    exact absurd (this.symm.trans hb) (by simp)
   ·exact (Xv _).1 hb
   ·rw [w64 (by omega) (by omega)]
    refine ⟨⟨⟨by omega, by omega⟩, fun j hj => ?_⟩, by omega⟩
    by_cases hji : j = i.toNat
    ·subst hji; exact hn
    ·exact hq j (by omega)
  ·have hi := of_decide_eq_false hi
   exact El (d := ([], (0, []))) (p := fun c => 0 ≤ c.2.1 ∧ c.2.1 ≤ 2147483647) fun j hj => hq j (by omega)
 refine Ai.mid (fun _ => HF g = 0) ?_ fun _ h => SB k1 k2 k3 k4 h.symm
 refine Bl.of (fun q => (0 ≤ q.2 ∧ q.2 ≤ g.length) ∧ HF g = HF (g.drop q.2.toNat)) (fun q => (g.length - q.2).toNat) ⟨⟨Int.le_refl _, by dsimp only; omega⟩, rfl⟩ ?_
 rintro ⟨q, i⟩ ⟨⟨i0, i1⟩, hq⟩
 dsimp only at i0 i1 hq ⊢
 refine ⟨fun hi => ?_, fun hi => ?_⟩
 ·have hi := of_decide_eq_true hi
  have hi2 : i.toNat < g.length := by omega
  rw [WJ hi2] at hq
  refine Ai.mid (fun _ => Ex (g.getD i.toNat ([], (0, []))).2.2 = 0) ⟨⟨i0, hi⟩, hi2, (hT _ (hs _ (EM hi2))).to ?_⟩ fun _ hn => ?_
  ·rintro (d : Int) _ hd
   have hd : d = Ex (g.getD i.toNat ([], (0, []))).2.2 := hd
   rw [← hd] at hq ⊢
   refine ⟨fun hb => SB k1 k2 k3 k4 ?_, fun hb => by simpa using hb⟩
   rw [hq, if_pos (by simpa using hb)]
  ·rw [if_neg (by simpa using hn)] at hq
   rw [w64 (by omega) (by omega)]
   refine ⟨⟨⟨by omega, by omega⟩, ?_⟩, by omega⟩
   rw [hq, show (i + 1).toNat = i.toNat + 1 by omega]
 ·have hi := of_decide_eq_false hi
  show HF g = 0
  rw [hq, List.drop_of_length_le (by omega)]
  rfl
end Go.VS
