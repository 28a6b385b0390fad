/- What the statements about layer 4 use. -/
import Derived.Test.YtbandpkgjepklaaKSpCnt
import Derived.Test.YtbandpkgjepklaaKSpWt
import Derived.Test.YtbandpkgjepklaaKSpPatt
import Derived.Test.YtbandpkgjepklaaKSpPP
import Derived.Test.YtbandpkgjepklaaKSpPrs
import Derived.KernelRfl
set_option linter.unusedVariables false
set_option linter.unusedSimpArgs false
namespace Go.VS
variable {P : Pg}
theorem W9 : Dy [97, 124, 98, 42] = ([setNode (EG z4 97), setNode (EG z4 98), Hf 0 (-1) 1, EV 5 [0, 2]], 0) := by kernel_rfl
theorem Xa : (Dy [97, 42, 42]).2 = 40 := by decide +kernel
theorem Hk.at {Q : List Node × Int → Unit → Prop} (h : Hk P) {s : Bs} (hk : Q (Dy s) ()) : Fn P Y0 Cc s Q :=
 (h s).to fun (d : List Node × Int) _ hd => by
  have hd : d = Dy s := hd
  subst hd
  exact hk
theorem IP.at {Q : List Node × Int → Unit → Prop} (h : IP P) {s : Bs} (hk : Q (Dy s) ()) : Fn P YZ B2 s Q :=
 (h s).to fun (d : List Node × Int) _ hd => by
  have hd : d = Dy s := hd
  subst hd
  exact hk
def Hr (P : Pg) : Prop := Fn P QU Cx () fun (d : Bool) _ => d = true
theorem Vo (h : Has P Gj) (hP : Hk P) (hI : OX P) : Hr P := by
 refine Py h ?_
 unfold LQ
 refine hP.at (hP.at ?_)
 rw [W9, Xa]
 refine ⟨fun _ => by decide, fun _ => by decide, fun _ => by decide, fun _ => by decide, fun _ => by decide, fun _ => by decide, fun _ => ⟨by decide, by decide, (hI (([0, 2] : List Int), [0, 2]) (by decide)).to ?_⟩, fun hc => by simp [Hf, EV, setNode] at hc⟩
 rintro (d : Bool) _ hd
 have hd : d = true := hd.2 rfl
 subst hd
 rfl
theorem Hr.at (h : Hr P) {K : Bool → Unit → Prop} (hk : K true ()) : Fn P QU Cx () K :=
 Fn.to h fun (d : Bool) _ hd => by
  have hd : d = true := hd
  subst hd
  exact hk
theorem TO (s : Bs) : KB (Dy s).1 ∧ (Dy s).1.length ≤ 1000000 := by
 cases h : Dy s with
 | mk l e =>
  by_cases he : e = 0
  ·subst he
   have := YC h
   exact ⟨this.2.1, by have := this.1.hi; dsimp only; omega⟩
  ·have hl : l = [] := by
    unfold Dy at h
    split at h
    ·cases h; rfl
    ·split at h
     ·cases h; rfl
     ·split at h
      ·cases h; rfl
      ·cases h; exact absurd rfl he
   subst hl
   exact ⟨fun i => by simp [Ak], by simp⟩
end Go.VS
