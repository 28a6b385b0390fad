/- TreeRestores. -/
import Derived.Test.YtbpbcfiodckhjaaDoorKSpL21e
set_option linter.unusedVariables false
set_option linter.unusedSimpArgs false
namespace Go.VS
variable {P : Pg}
theorem Acz {a b : List Aw} {d : List A0} (h : GW a b d) : d.Pairwise fun x y => x.1 ≠ y.1 :=
 h.1.imp fun {x y} hxy e => by rw [e, DT] at hxy; cases hxy
theorem AcH {a b : List Aw} {t : A0} (h : JS a b t.1 = some t.2) : AaJ a b t = true := by
 unfold JS at h
 unfold AaJ
 cases h1 : AU a t.1 with
 | none =>
  cases h2 : AU b t.1 with
  | none => rw [h1, h2] at h; cases h
  | some v =>
   rw [h1, h2] at h
   have h : (1 : Int) = t.2 := Option.some.inj h
   rw [if_pos h.symm]
   rfl
 | some u =>
  cases h2 : AU b t.1 with
  | none =>
   rw [h1, h2] at h
   have h : (2 : Int) = t.2 := Option.some.inj h
   rw [if_neg (by omega), if_pos h.symm]
   rfl
  | some v =>
   rw [h1, h2] at h
   dsimp only at h
   split at h
   ·cases h
   ·have h : (3 : Int) = t.2 := Option.some.inj h
    rw [if_neg (by omega), if_neg (by omega)]
    rfl
theorem AcI {a b : List Aw} {p : Bs} {k : Int} (h : JS a b p = some k) : (if k = 2 then none else some ((AU b p).getD [])) = AU b p := by
 unfold JS at h
 cases h1 : AU a p with
 | none =>
  cases h2 : AU b p with
  | none => rw [h1, h2] at h; cases h
  | some v => rw [h1, h2] at h; cases h; rfl
 | some u =>
  cases h2 : AU b p with
  | none => rw [h1, h2] at h; cases h; rfl
  | some v =>
   rw [h1, h2] at h
   dsimp only at h
   split at h
   ·cases h
   ·cases h; rfl
theorem AcG {a b : List Aw} {p : Bs} (h : JS a b p = none) : AU a p = AU b p := by
 unfold JS at h
 cases h1 : AU a p with
 | none =>
  cases h2 : AU b p with
  | none => rfl
  | some v => rw [h1, h2] at h; cases h
 | some u =>
  cases h2 : AU b p with
  | none => rw [h1, h2] at h; cases h
  | some v =>
   rw [h1, h2] at h
   dsimp only at h
   split at h
   ·rename_i e; rw [e]
   ·cases h
theorem Acv {l : List Aw} (h : Gn l) : AaU (AU l) l := by
 refine ⟨List.pairwise_iff_getElem.2 fun i j hi hj hij => ?_, fun p v => h.QO.symm⟩
 have := (h j hj i hij).1
 unfold pth at this
 rwa [getD_eq hi, getD_eq hj] at this
theorem AcA {a b : List Aw} (ha : Eu a = 0) (hb : Eu b = 0) : Hl a b = 0 := by
 unfold Hl
 rw [if_neg (by simpa using ha)]
 exact hb
end Go.VS
