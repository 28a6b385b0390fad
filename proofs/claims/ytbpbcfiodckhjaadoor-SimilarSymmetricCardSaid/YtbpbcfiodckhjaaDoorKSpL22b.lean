/- Scores: the statements. -/
import Derived.Test.YtbpbcfiodckhjaaDoorKSpL22
set_option linter.unusedVariables false
set_option linter.unusedSimpArgs false
namespace Go.VS
variable {P : Pg}
theorem XA : ∀ (s acc : Bs), (lnN acc s).length ≤ s.length
 | [], acc => by rw [lnN]; exact Nat.le_refl _
 | b :: r, acc => by
  rw [lnN]
  split
  ·have := XA r []; simp only [List.length_cons]; omega
  ·have := XA r (acc ++ [b]); simp only [List.length_cons]; omega
def XV (P : Pg) : Prop := ∀ x : List Int × (Int × (Int × Int)), (0 ≤ x.2.1 ∧ x.2.1 ≤ 1000000) → (0 ≤ x.2.2.1 ∧ x.2.2.1 ≤ 100) → (1 ≤ x.2.2.2 ∧ x.2.2.2 ≤ 100000) → Fn P zS5 WQ x fun (d : Bs) _ => d.length ≤ 400
theorem Yw (h : Has P Xe) (hA : Nk P) (hM : IX P) (hL : V9 P) : XV P := by
 rintro ⟨raw, fr, mx, kinds⟩ ⟨f0, f1⟩ ⟨m0, m1⟩ ⟨k0, k1⟩
 dsimp only at f0 f1 m0 m1 k0 k1
 refine X3 h ?_
 unfold XG
 dsimp only
 rw [w64 (n := mx + 1) (by omega) (by omega), w64 (n := fr + 1) (by omega) (by omega), w64 (n := fr + 90) (by omega) (by omega)]
 refine hA.at f0 (hM.at (by omega) (by omega) ?_)
 have hr := F6 (a := atF raw fr) (n := mx + 1) (by omega) (by omega)
 generalize Hi (atF raw fr) (mx + 1) = m at hr ⊢
 refine AX.mid (fun d => d.length ≤ 400) ?_ fun d hd => ?_
 ·refine EM.of (fun q => (0 ≤ q.2 ∧ q.2 ≤ m) ∧ (q.1.length : Int) ≤ 4 * q.2) (fun q => (m - q.2).toNat) ⟨⟨Int.le_refl _, hr.1⟩, by decide⟩ ?_
  rintro ⟨s, i⟩ ⟨⟨i0, i1⟩, hs⟩
  dsimp only at i0 i1 hs ⊢
  refine ⟨fun hi => ?_, fun hi => by omega⟩
  have hi := of_decide_eq_true hi
  refine AX.mid (fun d => (d.length : Int) ≤ 4 * (i + 1)) ?_ fun d hd => ?_
  ·rw [w64 (by omega) (by omega)]
   refine hA.at (by omega) (hM.at k0 (by omega) ((hL _).to ?_))
   rintro (ln : Bs) _ hln
   have hln : ln.length ≤ 3 := hln
   refine ⟨by omega, by rw [List.length_append]; simp only [List.length_cons, List.length_nil]; omega, ?_⟩
   try dsimp only
   rw [List.length_append, List.length_append]
   simp only [List.length_cons, List.length_nil]
   omega
  ·rw [w64 (by omega) (by omega)]
   exact ⟨⟨⟨by omega, by omega⟩, hd⟩, by omega⟩
 ·refine hA.at (by omega) ⟨by decide, fun hc => ?_, ?_⟩
  ·rw [Bool.cond_eq_ite] at hc
   split at hc
   ·have h1 := of_decide_eq_true hc
    rw [w64 (by omega) (by omega)]
    omega
   ·cases hc
  ·refine AX.mid (fun e => e.length ≤ 400) ⟨fun hc => ?_, fun _ => hd⟩ fun _ h => h
   have h1 : 1 < d.length := by
    rw [Bool.cond_eq_ite] at hc
    split at hc
    ·rename_i h2
     rw [Bool.cond_eq_ite] at h2
     split at h2
     ·have := of_decide_eq_true h2; omega
     ·cases h2
    ·cases hc
   rw [w64 (by omega) (by omega)]
   exact ⟨⟨by omega, by omega⟩, (by first | (rw [List.length_take]; omega) | (dsimp only; rw [List.length_take]; omega))⟩
theorem Xc.at (h : Xc P) {a b : Bs} (ha : a.length ≤ 140737488351232) (hb : b.length ≤ 140737488351232) {K : Int × Int → Unit → Prop} (hk : K (WT a b) ()) : Fn P zS1 WI (a, b) K :=
 (h (a, b) ha hb).to fun (d : Int × Int) _ hd => by
  have hd : d = WT a b := hd
  subst hd
  exact hk
def W6 (P : Pg) : Prop := Fn P zS3 WJ () fun (d : Bool) _ => d = true
theorem Yh (h : Has P WW) (hS : Xc P) : W6 P := by
 refine XJ h ?_
 unfold Xo
 refine hS.at (by decide) (by decide) (hS.at (by decide) (by decide) ?_)
 decide
theorem W6.at (h : W6 P) {K : Bool → Unit → Prop} (hk : K true ()) : Fn P zS3 WJ () K :=
 Fn.to h fun (d : Bool) _ hd => by
  have hd : d = true := hd
  subst hd
  exact hk
end Go.VS
