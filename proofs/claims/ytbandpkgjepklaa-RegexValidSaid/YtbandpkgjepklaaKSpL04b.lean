/- More of the statements about layer 4. -/
import Derived.Test.YtbandpkgjepklaaKSpL04
import Derived.Test.YtbandpkgjepklaaKSpShift
set_option linter.unusedVariables false
set_option linter.unusedSimpArgs false
namespace Go.VS
variable {P : Pg}
theorem Ab6.at (h : Ab6 P) {l : List Node} (hv : Aad l) (hK : KB l) {K : Int → Unit → Prop} (hk : K 0 ()) : Fn P XD AbF l K :=
 (h l hK (by have := hv.hi; omega)).to fun (d : Int) _ hd => by
  have hd : d = 0 := hd.1 hv
  subst hd
  exact hk
theorem Als {s : Bs} (h : (Dy s).2 ≠ 0) : (Dy s).1 = [] := by
 cases he : Dy s with
 | mk l e =>
  rw [he] at h
  dsimp only at h
  unfold Dy at he
  split at he
  ·cases he; rfl
  ·split at he
   ·cases he; rfl
   ·split at he
    ·cases he; rfl
    ·cases he; exact absurd rfl h
theorem Ale (h : Has P AkY) (hPt : L0 P) (hP : Hk P) (hC : Ab6 P) (hN : IM P) (hAw : Hr P) (x : List Int × Int) :
  Fn P VK AkV x fun (d : Bool) _ => d = true := by
 refine Ak4 h ?_
 unfold Ak1
 refine (hPt x).to ?_
 rintro (p : Bs) _ ⟨hm, hpl⟩
 refine hP.at ⟨fun hc => ?_, fun hc => ?_⟩
 ·have hl := Als (s := p) (by simpa using hc)
  rw [hl]
  simp only [List.length_nil, Int.natCast_zero, beq_self_eq_true, cond_true]
  refine Ag.mid (fun d => d = true) ⟨fun _ => hAw.at rfl, fun hc => absurd hc (by simp), trivial⟩ ?_
  rintro d rfl
  rfl
 ·have h0 : (Dy p).2 = 0 := by simpa using hc
  have hpe : Dy p = ((Dy p).1, 0) := by rw [← h0]
  have hok := YC hpe
  have hpar : Dy (AkT p) = ((Dy p).1, 0) := by
   rw [← W8]
   exact Alj hm (by omega) (by rw [W8]; exact hpe)
  have e1 : ([40] ++ p) ++ [41] = AkT p := rfl
  have hlo := hok.1.lo
  refine ⟨by simp only [List.length_cons, List.length_nil]; omega, by simp only [List.length_append, List.length_cons, List.length_nil]; omega, ?_⟩
  refine (hP (AkT p)).to ?_
  rintro (q : List Node × Int) _ hq
  have hq : q = Dy (AkT p) := hq
  rw [hpar] at hq
  subst hq
  refine hC.at hok.1 hok.2.1 ?_
  have hpos : decide (((Dy p).1.length : Int) > 0) = true := decide_eq_true (by omega)
  simp only [hpos, beq_self_eq_true, cond_true]
  rw [w64 (by omega) (by omega), show decide ((p.length : Int) + 2 > 256) = false from decide_eq_false (by omega)]
  refine Ag.mid (fun d => d = true) ⟨fun _ _ _ => hN.at rfl, fun hc => absurd hc (by simp), fun hc => absurd hc (by simp), fun hc => absurd hc (by simp), trivial⟩ ?_
  rintro d rfl
  refine Ag.mid (fun d => d = true) ⟨fun _ => hAw.at rfl, fun hc => absurd hc (by simp), trivial⟩ ?_
  rintro d rfl
  rfl
end Go.VS
