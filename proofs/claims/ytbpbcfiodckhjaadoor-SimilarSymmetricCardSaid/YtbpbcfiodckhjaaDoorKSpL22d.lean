/- SimilarSymmetric. -/
import Derived.Test.YtbpbcfiodckhjaaDoorKSpL22c
set_option linter.unusedVariables false
set_option linter.unusedSimpArgs false
namespace Go.VS
variable {P : Pg}
theorem YJ (h : Has P YD) (hB : XV P) (hN : YL P) (hS : Xc P) (hAw : W6 P) (x : List Int × Bs) :
  Fn P Q3 YC x fun (d : Bool) _ => d = true := by
 obtain ⟨raw, s⟩ := x
 refine YG h ?_
 unfold YF
 dsimp only
 refine ⟨fun _ => hAw.at rfl, fun hc => ?_⟩
 have hs := of_decide_eq_false hc
 refine (hB (raw, (0, (7, 4))) ⟨Int.le_refl 0, (by decide : (0 : Int) ≤ 1000000)⟩ ⟨(by decide : (0 : Int) ≤ 7), (by decide : (7 : Int) ≤ 100)⟩ ⟨(by decide : (1 : Int) ≤ 4), (by decide : (4 : Int) ≤ 100000)⟩).to ?_
 rintro (a : Bs) _ ha
 have ha : a.length ≤ 400 := ha
 refine (hN (a, (raw, 100)) (by dsimp only; omega) ⟨(by decide : (0 : Int) ≤ 100), (by decide : (100 : Int) ≤ 1000000)⟩).to ?_
 rintro (b : Bs) _ hb
 have hb : b.length ≤ 5 * a.length := hb
 have hL : ∀ j, (List.getD ([a, b, s, ([] : List UInt8)] : List (List UInt8)) j []).length ≤ 4096 := fun j => by
  rw [List.getD_eq_getElem?_getD]
  cases hj : ([a, b, s, ([] : List UInt8)] : List (List UInt8))[j]? with
  | none => exact Nat.zero_le _
  | some t =>
   have := List.mem_of_getElem? hj
   simp only [List.mem_cons, List.not_mem_nil, or_false] at this
   rw [Option.getD_some]
   rcases this with rfl | rfl | rfl | rfl
   ·omega
   ·omega
   ·omega
   ·exact Nat.zero_le _
 have hlen : ([a, b, s, ([] : List UInt8)] : List (List UInt8)).length = 4 := rfl
 generalize ([a, b, s, ([] : List UInt8)] : List (List UInt8)) = L at hL hlen ⊢
 refine AX.mid (fun _ => True) ?_ fun _ _ => hAw.at rfl
 refine EM.of (fun q => 0 ≤ q.2 ∧ q.2 ≤ 4) (fun q => (4 - q.2).toNat) ⟨Int.le_refl _, (by decide : (0 : Int) ≤ 4)⟩ ?_
 rintro ⟨q, i⟩ ⟨i0, i1⟩
 dsimp only at i0 i1 ⊢
 refine ⟨fun hi => ?_, fun _ => trivial⟩
 have hi := of_decide_eq_true hi
 have hi2 : i.toNat < L.length := by omega
 have hi3 : i < ((L.length : Nat) : Int) := by omega
 refine AX.mid (fun _ => True) ?_ fun _ _ => ?_
 ·refine AX.mid (fun _ => True) ?_ fun _ _ => trivial
  refine EM.of (fun q => 0 ≤ q.2 ∧ q.2 ≤ 4) (fun q => (4 - q.2).toNat) ⟨Int.le_refl _, (by decide : (0 : Int) ≤ 4)⟩ ?_
  rintro ⟨q', j⟩ ⟨j0, j1⟩
  dsimp only at j0 j1 ⊢
  refine ⟨fun hj => ?_, fun _ => trivial⟩
  have hj := of_decide_eq_true hj
  have hj2 : j.toNat < L.length := by omega
  have hj3 : j < ((L.length : Nat) : Int) := by omega
  have hli := hL i.toNat
  have hlj := hL j.toNat
  refine AX.mid (fun _ => True) ?_ fun _ _ => ?_
  ·refine AX.mid (fun d => d = WT (L.getD i.toNat []) (L.getD j.toNat [])) ⟨⟨i0, hi3⟩, hi2, ⟨j0, hj3⟩, hj2, hS.at (Nat.le_trans hli (by decide)) (Nat.le_trans hlj (by decide)) ?_, trivial⟩ ?_
   ·repeat' (first | exact trivial | exact rfl | apply And.intro)
   rintro d rfl
   refine AX.mid (fun d => d = WT (L.getD j.toNat []) (L.getD i.toNat [])) ⟨⟨j0, hj3⟩, hj2, ⟨i0, hi3⟩, hi2, hS.at (Nat.le_trans hlj (by decide)) (Nat.le_trans hli (by decide)) ?_, trivial⟩ ?_
   ·repeat' (first | exact trivial | exact rfl | apply And.intro)
   rintro d rfl
   obtain ⟨e1, e2, e3, e4⟩ := YS hli hlj
   rw [← YQ (YI hli) (YI hlj)]
   refine ⟨fun _ => ⟨i0, hi3⟩, fun _ => hi2, fun _ => ⟨j0, hj3⟩, fun _ => hj2, fun hb2 => ?_, fun _ => trivial⟩
   exfalso
   generalize L.getD i.toNat [] = u at hb2 e1 e2 e3 e4
   generalize L.getD j.toNat [] = v at hb2 e1 e2 e3 e4
   generalize WT u v = w at hb2 e1 e2 e3 e4
   obtain ⟨w1, w2⟩ := w
   dsimp only at hb2 e1 e2 e3 e4
   subst e1
   have k1 : decide (w1 < 0) = false := decide_eq_false (by omega)
   have k2 : decide (w1 > 100) = false := decide_eq_false (by omega)
   have k3 : (w1 == 100) = (u == v) := by
    by_cases huv : u = v
    ·rw [e4.2 huv, huv]; simp
    ·rw [beq_eq_false_iff_ne.2 huv, beq_eq_false_iff_ne.2 (fun h => huv (e4.1 h))]
   rw [k1, k2, k3] at hb2
   simp at hb2
  ·rw [w64 (by omega) (by omega)]
   exact ⟨⟨by omega, by omega⟩, by omega⟩
 ·rw [w64 (by omega) (by omega)]
  exact ⟨⟨by omega, by omega⟩, by omega⟩
end Go.VS
