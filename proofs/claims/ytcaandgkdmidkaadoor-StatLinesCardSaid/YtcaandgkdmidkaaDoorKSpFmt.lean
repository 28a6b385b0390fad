/- Numbers and ranges: as they are written, as they are read. -/
import Derived.Test.YtcaandgkdmidkaaDoorKSpScan
import Derived.Lib.ItoaNum
set_option linter.unusedVariables false
set_option linter.unusedSimpArgs false
namespace Go.VS
variable {P : Pg}
def Ed (n : Int) : Bs := if n < 0 ∨ n > 2147483647 then [] else Lib.decDigits n.toNat
theorem Oi : ∀ k u : Nat, u < 10 ^ (k + 1) → (Lib.decDigits u).length ≤ k + 1
 | 0, u, h => by
  rw [Lib.decDigits]
  have h1 : u < 10 := by simpa using h
  simp [h1]
 | k + 1, u, h => by
  rw [Lib.decDigits]
  split
  ·simp
  ·have h2 : u / 10 < 10 ^ (k + 1) := by
    rw [Nat.pow_succ] at h
    omega
   have := Oi k (u / 10) h2
   rw [List.length_append]
   simp only [List.length_cons, List.length_nil]
   omega
theorem Hn (n : Int) : (Ed n).length ≤ 10 := by
 unfold Ed
 split
 ·simp
 ·exact Oi 9 n.toNat (by omega)
def Lz (P : Pg) : Prop := ∀ n : Int, 0 ≤ n → n ≤ 2147483647 → Fn P "strconv.Itoa" D4 n fun (d : Bs) _ => d = Lib.decDigits n.toNat
def EY (P : Pg) : Prop := ∀ x : Int, Fn P "mergelens/scan.Format" BE x fun (d : Bs) _ => d = Ed x
theorem Pw (h : Has P Dq) (hI : Lz P) : EY P := by
 intro x
 refine Jw h ?_
 unfold GD Ed
 dsimp only
 refine ⟨fun hc => ?_, fun hc => ?_⟩
 ·rw [if_pos (by have := cor.1 hc; omega)]
 ·have := corf.1 hc
  rw [if_neg (by omega)]
  exact hI x (by omega) (by omega)
end Go.VS
