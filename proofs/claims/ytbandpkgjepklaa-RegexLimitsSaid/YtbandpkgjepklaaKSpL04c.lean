/- Limits and literals. -/
import Derived.Test.YtbandpkgjepklaaKSpL04
import Derived.Test.YtbandpkgjepklaaKSpPars
import Derived.Test.YtbandpkgjepklaaKSpNode
import Derived.Test.YtbandpkgjepklaaKSpPrs
set_option linter.unusedVariables false
set_option linter.unusedSimpArgs false
namespace Go.VS
variable {P : Pg}
theorem AkM : (Dy (List.replicate 49 40 ++ List.replicate 49 41)).2 = 0 := by kernel_rfl
theorem AkN : (Dy (List.replicate 50 40 ++ List.replicate 50 41)).2 = 0 := by kernel_rfl
theorem AkO : (Dy (List.replicate 51 40 ++ List.replicate 51 41)).2 = 1 := by kernel_rfl
theorem AkQ : (Dy [97, 123, 48, 44, 49, 48, 48, 125]).2 = 0 := by kernel_rfl
theorem AkR : (Dy [97, 123, 49, 48, 49, 44, 125]).2 = 40 := by kernel_rfl
theorem AkH {α : Type} (n : Nat) (a : α) : List.replicate n a ++ [a] = List.replicate (n + 1) a := by rw [List.replicate_succ']
theorem AkS {n : Int} (h0 : 0 ≤ n) (h1 : n < 3) : (Dy (List.replicate (49 + n).toNat 40 ++ List.replicate (49 + n).toNat 41)).2 = if 49 + n > 50 then 1 else 0 := by
 have : n = 0 ∨ n = 1 ∨ n = 2 := by omega
 rcases this with rfl | rfl | rfl
 ·exact AkM
 ·exact AkN
 ·exact AkO
theorem AkJ (n : Nat) : AbQ (List.replicate n 97) = List.replicate n 97 := by
 induction n with
 | zero => rfl
 | succ n ih =>
  rw [List.replicate_succ, Akg, ih]
  rfl
theorem AkP {n : Nat} : (Dy (List.replicate n 97)).2 = if n > 256 then 1 else 0 := by
 by_cases h : n > 256
 ·rw [if_pos h]
  unfold Dy
  rw [if_pos (by simpa using h)]
 ·rw [if_neg h, ← AkJ, ← W8, Akw _ (by rw [AkJ]; simp; omega)]
theorem AkK (n : Nat) : strOf (List.replicate n 97) = List.replicate n 97 := by
 unfold strOf
 rw [List.map_replicate]
 rfl
theorem AkL {n k : Nat} (h : k < n) : (List.replicate k (97 : Int) ++ List.replicate (n - k) 0).set k 97 = List.replicate (k + 1) 97 ++ List.replicate (n - (k + 1)) 0 := by
 obtain ⟨m, rfl⟩ : ∃ m, n = k + 1 + m := ⟨n - (k + 1), by omega⟩
 rw [show k + 1 + m - k = m + 1 by omega, show k + 1 + m - (k + 1) = m by omega, List.replicate_succ]
 rw [List.set_append_right _ _ (by simp)]
 simp only [List.length_replicate, Nat.sub_self, List.set_cons_zero]
 rw [← AkH, List.append_assoc]
 rfl
theorem AkI (h : Has P AkC) (hM : NF P) (hP : Hk P) (hAw : Hr P) (x : Int × Int) :
  Fn P XH AkB x fun (d : Bool) _ => d = true := by
 obtain ⟨n, m⟩ := x
 refine AkF h ?_
 unfold AkE
 dsimp only
 refine hM.at (by decide) (by decide) ?_
 have hn := Jw (a := n) (n := 3) (by decide) (by decide)
 generalize LL n 3 = a at hn ⊢
 rw [show IntKind.i64.wrap (49 + a) = 49 + a from w64 (by omega) (by omega)]
 refine Ag.mid (fun d => d = List.replicate (49 + a).toNat 40) ?_ ?_
 ·refine B0.of (fun d => 0 ≤ d.2 ∧ d.2 ≤ 49 + a ∧ d.1 = List.replicate d.2.toNat 40) (fun d => (49 + a - d.2).toNat) ⟨Int.le_refl _, by dsimp only; omega, rfl⟩ ?_
  rintro ⟨l, i⟩ ⟨i0, i1, hl⟩
  dsimp only at i0 i1 hl ⊢
  subst hl
  refine ⟨fun hc => Ag.of ?_, fun hc => ?_⟩
  ·have hc := of_decide_eq_true hc
   rw [w64 (by omega) (by omega)]
   refine ⟨by simp only [List.length_replicate, List.length_cons, List.length_nil]; omega, ⟨by omega, by omega, ?_⟩, by omega⟩
   rw [AkH, show (i + 1).toNat = i.toNat + 1 by omega]
  ·have hc := of_decide_eq_false hc
   rw [show i = 49 + a by omega]
 rintro d rfl
 refine Ag.mid (fun d => d = List.replicate (49 + a).toNat 40 ++ List.replicate (49 + a).toNat 41) ?_ ?_
 ·refine B0.of (fun d => 0 ≤ d.2 ∧ d.2 ≤ 49 + a ∧ d.1 = List.replicate (49 + a).toNat 40 ++ List.replicate d.2.toNat 41) (fun d => (49 + a - d.2).toNat) ⟨Int.le_refl _, by dsimp only; omega, by simp⟩ ?_
  rintro ⟨l, i⟩ ⟨i0, i1, hl⟩
  dsimp only at i0 i1 hl ⊢
  subst hl
  refine ⟨fun hc => Ag.of ?_, fun hc => ?_⟩
  ·have hc := of_decide_eq_true hc
   rw [w64 (n := i + 1) (by omega) (by omega)]
   refine ⟨by simp only [List.length_append, List.length_replicate, List.length_cons, List.length_nil]; omega, ⟨by omega, by omega, ?_⟩, by omega⟩
   rw [List.append_assoc, AkH, show (i + 1).toNat = i.toNat + 1 by omega]
  ·have hc := of_decide_eq_false hc
   rw [show i = 49 + a by omega]
 rintro d rfl
 refine hP.at ?_
 rw [AkS hn.1 hn.2]
 refine Ag.mid (fun d => d = if 49 + a > 50 then 1 else 0) ⟨fun hc => ?_, fun hc => ?_⟩ ?_
 ·rw [if_pos (of_decide_eq_true hc)]
 ·rw [if_neg (of_decide_eq_false hc)]
 rintro d rfl
 refine hM.at (by decide) (by decide) ?_
 have hm := Jw (a := m) (n := 3) (by decide) (by decide)
 generalize LL m 3 = b at hm ⊢
 rw [show IntKind.i64.wrap (255 + b) = 255 + b from w64 (by omega) (by omega)]
 refine ⟨⟨by omega, Int.le_refl _, by omega⟩, ?_⟩
 refine Ag.mid (fun d => d = List.replicate (255 + b).toNat 97) ?_ ?_
 ·refine B0.of (fun d => 0 ≤ d.2 ∧ d.2 ≤ 255 + b ∧ d.1 = List.replicate d.2.toNat 97 ++ List.replicate ((255 + b).toNat - d.2.toNat) 0) (fun d => (255 + b - d.2).toNat) ⟨Int.le_refl _, by dsimp only; omega, by simp⟩ ?_
  rintro ⟨l, i⟩ ⟨i0, i1, hl⟩
  dsimp only at i0 i1 hl ⊢
  have hll : l.length = (255 + b).toNat := by rw [hl]; simp only [List.length_append, List.length_replicate]; omega
  refine ⟨fun hc => Ag.of ?_, fun hc => ?_⟩
  ·have hc := of_decide_eq_true hc
   rw [w64 (n := i + 1) (by omega) (by omega)]
   refine ⟨⟨i0, by omega⟩, by omega, ⟨by omega, by omega, ?_⟩, by omega⟩
   rw [hl, AkL (by omega), show (i + 1).toNat = i.toNat + 1 by omega]
  ·have hc := of_decide_eq_false hc
   rw [hl, show i = 255 + b by omega]
   simp
 rintro d rfl
 rw [AkK]
 refine hP.at ?_
 rw [AkP, List.length_replicate]
 refine Ag.mid (fun d => d = if (255 + b).toNat > 256 then 1 else 0) ⟨fun hc => ?_, fun hc => ?_⟩ ?_
 ·have hc := of_decide_eq_true hc
  rw [if_pos (by omega)]
 ·have hc := of_decide_eq_false hc
  rw [if_neg (by omega)]
 rintro d rfl
 refine hP.at (hP.at ?_)
 rw [AkQ, AkR]
 simp only [beq_self_eq_true, cond_true]
 refine Ag.mid (fun d => d = true) ⟨fun _ => hAw.at rfl, fun hc => absurd hc (by simp), trivial⟩ ?_
 rintro d rfl
 rfl
end Go.VS
