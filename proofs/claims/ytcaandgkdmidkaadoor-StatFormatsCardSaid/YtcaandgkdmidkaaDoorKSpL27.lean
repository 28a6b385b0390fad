/- Bars: the statements. -/
import Derived.Test.YtcaandgkdmidkaaDoorKSpSf
import Derived.Test.YtcaandgkdmidkaaDoorKSpMod
import Derived.KernelRfl
set_option linter.unusedVariables false
set_option linter.unusedSimpArgs false
namespace Go.VS
variable {P : Pg}
theorem HX.at (h : HX P) {a r m w : Int} {K : Int × (Int × Int) → Unit → Prop} (hk : K (Lx a r m w) ()) : Fn P VN Bh (a, (r, (m, w))) K :=
 (h (a, (r, (m, w)))).to fun (d : Int × (Int × Int)) _ hd => by
  have hd : d = Lx a r m w := hd
  subst hd
  exact hk
theorem Hd.at (h : Hd P) {a r m w : Int} {K : Int × (Int × Int) → Unit → Prop} (hk : K (Lx a r m w) ()) : Fn P UC Bm (a, (r, (m, w))) K :=
 (h (a, (r, (m, w)))).to fun (d : Int × (Int × Int)) _ hd => by
  have hd : d = Lx a r m w := hd
  subst hd
  exact hk
theorem Sv : Lx 60 40 100 10 = (6, (4, 0)) := by kernel_rfl
theorem SZ : Ed 1 = [49] := by unfold Ed; rw [if_neg (by decide), show (1 : Int).toNat = 1 from rfl, Lib.decDigits]; rfl
theorem S0 : Ed 2 = [50] := by unfold Ed; rw [if_neg (by decide), show (2 : Int).toNat = 2 from rfl, Lib.decDigits]; rfl
theorem S8 : Ed 3 = [51] := by unfold Ed; rw [if_neg (by decide), show (3 : Int).toNat = 3 from rfl, Lib.decDigits]; rfl
theorem Sw : sfF [(([120] : List UInt8), ((1 : Int), (2 : Int)))] 10 = ([32, 120, 32, 124, 32, 51, 32, 43, 45, 45, 10, 32, 49, 32, 102, 105, 108, 101, 115, 44, 32, 49, 32, 97, 100, 100, 101, 100, 44, 32, 50, 32, 114, 101, 109, 111, 118, 101, 100, 10], 0) := by
 have h1 : Fw [(([120] : List UInt8), ((1 : Int), (2 : Int)))] = (1, (2, (3, true))) := by kernel_rfl
 have h2 : Cz 1 2 3 10 = (1, 2) := by kernel_rfl
 unfold sfF
 rw [h1]
 dsimp only
 rw [if_neg (by decide)]
 have h3 : CY [120] = [120] := by decide
 simp only [List.flatMap_cons, List.flatMap_nil, List.append_nil, Cj, LG, h2, h3, List.length_cons, List.length_nil, show ((1 : Int) + 2) = 3 from rfl, show (((0 + 1 : Nat) : Int)) = 1 from rfl, SZ, S0, S8]
 rfl
def D5 (P : Pg) : Prop := Fn P zS5 Bk () fun (d : Bool) _ => d = true
theorem N4 (h : Has P Dn) (hB : HX P) (hS : GM P) : D5 P := by
 refine Ju h ?_
 unfold GB
 refine hB.at ?_
 refine (hS ([(([120] : List UInt8), ((1 : Int), (2 : Int)))], 10) ⟨by decide, fun s hs => ?_⟩).to ?_
 ·have : s = (([120] : List UInt8), ((1 : Int), (2 : Int))) := by simpa using hs
  subst this
  decide
 ·rintro (d : Bs × Int) _ hd
  have hd : d = sfF [(([120] : List UInt8), ((1 : Int), (2 : Int)))] 10 := hd
  rw [Sw] at hd
  subst hd
  rw [Sv]
  rfl
theorem D5.at (h : D5 P) {K : Bool → Unit → Prop} (hk : K true ()) : Fn P zS5 Bk () K :=
 Fn.to h fun (d : Bool) _ hd => by
  have hd : d = true := hd
  subst hd
  exact hk
end Go.VS
