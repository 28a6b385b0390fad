/- Numbers and ranges: as they are written, as they are read. -/
import Derived.Test.YtcaandgkdmidkaaDoorKSpScan
import Derived.Lib.ItoaNum
set_option linter.unusedVariables false
set_option linter.unusedSimpArgs false
namespace Go.VS
variable {P : Pg}
def B5 (n : Int) : Bs := if n < 0 ∨ n > 2147483647 then [] else Lib.decDigits n.toNat
theorem RU : ∀ k u : Nat, u < 10 ^ (k + 1) → (Lib.decDigits u).length ≤ k + 1
 | 0, u, h => by
  rw [Lib.decDigits]
  have h1 : u < 10 := by simpa using h
  simp [h1]
 | k + 1, u, h => by
  rw [Lib.decDigits]
  split
  ·simp
  ·have h2 : u / 10 < 10 ^ (k + 1) := by
    rw [Nat.pow_succ] at h
    omega
   have := RU k (u / 10) h2
   rw [List.length_append]
   simp only [List.length_cons, List.length_nil]
   omega
theorem EZ (n : Int) : (B5 n).length ≤ 10 := by
 unfold B5
 split
 ·simp
 ·exact RU 9 n.toNat (by omega)
def Oo (P : Pg) : Prop := ∀ n : Int, 0 ≤ n → n ≤ 2147483647 → Fn P "strconv.Itoa" Fg n fun (d : Bs) _ => d = Lib.decDigits n.toNat
def Gk (P : Pg) : Prop := ∀ x : Int, Fn P "mergelens/scan.Format" Ce x fun (d : Bs) _ => d = B5 x
theorem TP (h : Has P En) (hI : Oo P) : Gk P := by
 intro x
 refine Me h ?_
 unfold Iq B5
 dsimp only
 refine ⟨fun hc => ?_, fun hc => ?_⟩
 ·rw [if_pos (by have := cor.1 hc; omega)]
 ·have := corf.1 hc
  rw [if_neg (by omega)]
  exact hI x (by omega) (by omega)
end Go.VS
