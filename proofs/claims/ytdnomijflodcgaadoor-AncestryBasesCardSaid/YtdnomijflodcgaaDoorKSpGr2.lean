/- Graphs made of raw numbers: commits after their parents, and turned ones. -/
import Derived.Test.YtdnomijflodcgaaDoorKSpGr1
set_option linter.unusedVariables false
set_option linter.unusedSimpArgs false
namespace Go.VS
variable {P : Pg}
def HX (i : Int) (l : List Int) : Prop := l.length ≤ 3 ∧ l.Nodup ∧ ∀ p ∈ l, 0 ≤ p ∧ p < i
def OkC (B : Nat) (i : Nat) (c : Aq) : Prop := HX (i : Int) c.1 ∧ (0 ≤ c.2.1 ∧ c.2.1 < 5) ∧ EH (B * 2 ^ i) c.2.2
def GU (B : Nat) (g : List Aq) : Prop := ∀ j, j < g.length → OkC B j (g.getD j ([], (0, [])))
theorem HX.mono {i k : Int} {l : List Int} (h : HX i l) (hk : i ≤ k) : HX k l := ⟨h.1, h.2.1, fun p hp => by have := h.2.2 p hp; omega⟩
theorem HX.app {i : Int} {l : List Int} (h : HX i l) (h0 : 0 ≤ i) (hl : l.length < 3) : HX (i + 1) (l ++ [i]) := by
 refine ⟨by rw [List.length_append]; simp only [List.length_cons, List.length_nil]; omega, ?_, fun p hp => ?_⟩
 ·rw [List.nodup_append]
  refine ⟨h.2.1, by simp, fun a ha b hb => ?_⟩
  rw [List.mem_singleton.1 hb]
  have := h.2.2 a ha
  omega
 ·rcases List.mem_append.1 hp with hp | hp
  ·have := h.2.2 p hp
   omega
  ·rw [List.mem_singleton.1 hp]
   omega
theorem GU.app {B : Nat} {g : List Aq} {c : Aq} (h : GU B g) (hc : OkC B g.length c) : GU B (g ++ [c]) := by
 intro j hj
 rw [List.length_append, List.length_singleton] at hj
 by_cases hjg : j < g.length
 ·rw [ZM hjg]; exact h j hjg
 ·have e : j = g.length := by omega
  subst e
  rw [ZN]; exact hc
theorem Z5 {B i : Nat} (hB : B ≤ 3) (hi : i ≤ 8) : B * 2 ^ i ≤ 768 := Nat.mul_le_mul hB (Nat.pow_le_pow_right (by decide) hi : 2 ^ i ≤ 2 ^ 8)
theorem AcS {B i p : Nat} (h : p < i) : 2 * (B * 2 ^ p) ≤ B * 2 ^ i := by
 have h1 : 2 ^ (p + 1) ≤ 2 ^ i := Nat.pow_le_pow_right (by decide) h
 have h2 : 2 * (B * 2 ^ p) = B * 2 ^ (p + 1) := by rw [Nat.pow_succ, Nat.mul_comm 2, Nat.mul_assoc]
 rw [h2]
 exact Nat.mul_le_mul_left _ h1
theorem pow_one (B i : Nat) : B ≤ B * 2 ^ i := Nat.le_mul_of_pos_right _ (Nat.pow_pos (by decide))
theorem Sc {a b : Bool} (h : (cond a b false) = true) : a = true ∧ b = true := by cases a <;> simp_all
def Qr (n : Nat) (c : Aq) : Aq := (c.1.map fun p => (n : Int) - 1 - p, c.2)
def YZ (g d : List Aq) : Prop := d = g ∨ (d.length = g.length ∧ ∀ c, c < g.length → d.getD (g.length - 1 - c) ([], (0, [])) = Qr g.length (g.getD c ([], (0, []))))
theorem T9 {α : Type} {l : List α} {i : Nat} {v d : α} (h : i < l.length) : (l.set i v).getD i d = v := by
 rw [List.getD_eq_getElem?_getD, List.getElem?_set_self h]
 rfl
theorem getD_set_ne {α : Type} {l : List α} {i j : Nat} {v d : α} (h : i ≠ j) : (l.set i v).getD j d = l.getD j d := by
 rw [List.getD_eq_getElem?_getD, List.getElem?_set_ne h, ← List.getD_eq_getElem?_getD]
def M6 (P : Pg) : Prop := ∀ x : List Aq × List Int, x.1.length ≤ 1000 → (∀ j, j < x.1.length → (x.1.getD j ([], (0, []))).1.length ≤ 1000 ∧ ∀ p ∈ (x.1.getD j ([], (0, []))).1, 0 ≤ p ∧ p < (x.1.length : Int)) → Fn P AaC Dt x fun (d : List Aq) _ => YZ x.1 d
theorem YJ (h : Has P Gn) (hA : KV P) : M6 P := by
 rintro ⟨g, raw⟩ hg hp
 dsimp only at hg hp
 refine Qy h ?_
 unfold LQ
 dsimp only
 refine hA.at (by decide) ⟨by decide, fun _ => Or.inl rfl, fun _ => ⟨⟨by omega, by omega, by omega⟩, ?_⟩⟩
 refine Ai.mid (fun d => d.length = g.length ∧ ∀ c, c < g.length → d.getD (g.length - 1 - c) ([], (0, [])) = Qr g.length (g.getD c ([], (0, [])))) ?_ fun _ h => Or.inr h
 refine Bl.of (fun q => (0 ≤ q.2 ∧ q.2 ≤ g.length) ∧ q.1.length = g.length ∧ ∀ c, c < q.2.toNat → q.1.getD (g.length - 1 - c) ([], (0, [])) = Qr g.length (g.getD c ([], (0, [])))) (fun q => (g.length - q.2).toNat) ⟨⟨Int.le_refl _, Int.natCast_nonneg _⟩, by simp, fun c hc => absurd hc (by simp)⟩ ?_
 rintro ⟨d, i⟩ ⟨⟨i0, i1⟩, hdl, hd⟩
 dsimp only at i0 i1 hdl hd ⊢
 refine ⟨fun hi => ?_, fun hi => by have hi := of_decide_eq_false hi; exact ⟨hdl, fun c hc => hd c (by omega)⟩⟩
 have hi := of_decide_eq_true hi
 have hi2 : i.toNat < g.length := by omega
 obtain ⟨hpl, hpp⟩ := hp i.toNat hi2
 refine Ai.mid (fun d => d.length = g.length ∧ ∀ c, c < i.toNat + 1 → d.getD (g.length - 1 - c) ([], (0, [])) = Qr g.length (g.getD c ([], (0, [])))) ⟨⟨i0, hi⟩, hi2, ?_⟩ fun d2 hn => ?_
 ·have ez : g.getD i.toNat Ak = g.getD i.toNat ([], (0, [])) := rfl
  rw [ez]
  refine Ai.mid (fun y => y = Qr g.length (g.getD i.toNat ([], (0, [])))) ?_ fun y hy => ?_
  ·generalize g.getD i.toNat ([], (0, [])) = cm at hpl hpp ⊢
   obtain ⟨l, r⟩ := cm
   dsimp only at hpl hpp ⊢
   refine Bl.of (fun q => (0 ≤ q.1 ∧ q.1 ≤ l.length) ∧ q.2 = ((l.take q.1.toNat).map (fun p => (g.length : Int) - 1 - p), r)) (fun q => (l.length - q.1).toNat) ⟨⟨Int.le_refl _, Int.natCast_nonneg _⟩, rfl⟩ ?_
   rintro ⟨k, x⟩ ⟨⟨k0, k1⟩, hx⟩
   dsimp only at k0 k1 hx ⊢
   subst hx
   refine ⟨⟨i0, hi⟩, hi2, fun hk => ?_, fun hk => ?_⟩
   ·have hk := of_decide_eq_true hk
    have hk2 : k.toNat < l.length := by omega
    have hb := hpp _ (BK (d := 0) hk2)
    have hnx : (l.take (k.toNat + 1)).map (fun p => (g.length : Int) - 1 - p) = (l.take k.toNat).map (fun p => (g.length : Int) - 1 - p) ++ [(g.length : Int) - 1 - l.getD k.toNat 0] := by
     rw [Ke (d := 0) hk2, List.map_append]
     rfl
    have hsz : (((l.take k.toNat).map (fun p => (g.length : Int) - 1 - p)).length + ([(g.length : Int) - 1 - l.getD k.toNat 0] : List Int).length) * 8 ≤ 140737488355328 := by
     rw [List.length_map, List.length_take]
     simp only [List.length_cons, List.length_nil]
     omega
    rw [w64 (n := (g.length : Int) - 1) (by omega) (by omega), w64 (n := (g.length : Int) - 1 - l.getD k.toNat 0) (by omega) (by omega)]
    refine Ai.mid (fun y => y = ((l.take (k.toNat + 1)).map (fun p => (g.length : Int) - 1 - p), r)) ?_ fun y hy => ?_
    ·refine Ai.mid (fun y => y = ((l.take (k.toNat + 1)).map (fun p => (g.length : Int) - 1 - p), r)) ?_ fun y hy => hy
     have hj : (((l.take k.toNat).map (fun p => (g.length : Int) - 1 - p) ++ ([(g.length : Int) - 1 - l.getD k.toNat 0] : List Int), r) : Aq) = ((l.take (k.toNat + 1)).map (fun p => (g.length : Int) - 1 - p), r) := by rw [hnx]
     exact ⟨⟨i0, hi⟩, hi2, ⟨k0, hk⟩, hk2, ⟨⟨⟨hsz, hj, trivial⟩, trivial⟩, trivial⟩, ⟨⟨hsz, hj, trivial⟩, trivial⟩, trivial⟩
    ·subst hy
     rw [w64 (by omega) (by omega)]
     exact ⟨⟨⟨by omega, by omega⟩, by rw [show (k + 1).toNat = k.toNat + 1 by omega]⟩, by omega⟩
   ·have hk := of_decide_eq_false hk
    show ((l.take k.toNat).map _, r) = Qr g.length (l, r)
    rw [List.take_of_length_le (by omega)]
    rfl
  ·rw [w64 (n := (g.length : Int) - 1) (by omega) (by omega), w64 (n := (g.length : Int) - 1 - i) (by omega) (by omega)]
   have e : ((g.length : Int) - 1 - i).toNat = g.length - 1 - i.toNat := by omega
   rw [e]
   refine ⟨⟨by omega, by omega⟩, by omega, ?_, fun c hc => ?_⟩
   ·rw [List.length_set]; exact hdl
   ·by_cases hci : c = i.toNat
    ·subst hci
     rw [T9 (by omega)]
     exact hy
    ·rw [getD_set_ne (by omega)]
     exact hd c (by omega)
 ·rw [w64 (by omega) (by omega)]
  exact ⟨⟨⟨by omega, by omega⟩, hn.1, by rw [show (i + 1).toNat = i.toNat + 1 by omega]; exact hn.2⟩, by omega⟩
end Go.VS
