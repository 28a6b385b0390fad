/- Numbers and ranges: as they are written, as they are read. -/
import Derived.Test.YtcaandgkdmidkaaDoorKSpScan
import Derived.Lib.ItoaNum
set_option linter.unusedVariables false
set_option linter.unusedSimpArgs false
namespace Go.VS
variable {P : Pg}
def B5 (n : Int) : Bs := if n < 0 ∨ n > 2147483647 then [] else Lib.decDigits n.toNat
theorem RU : ∀ k u : Nat, u < 10 ^ (k + 1) → (Lib.decDigits u).length ≤ k + 1
 | 0, u, h => by
  rw [Lib.decDigits]
  have h1 : u < 10 := by simpa using h
  simp [h1]
 | k + 1, u, h => by
  rw [Lib.decDigits]
  split
  ·simp
  ·have h2 : u / 10 < 10 ^ (k + 1) := by
    rw [Nat.pow_succ] at h
    omega
   have := RU k (u / 10) h2
   rw [List.length_append]
   simp only [List.length_cons, List.length_nil]
   omega
theorem EZ (n : Int) : (B5 n).length ≤ 10 := by
 unfold B5
 split
 ·simp
 ·exact RU 9 n.toNat (by omega)
theorem WI : ∀ n : Nat, n < 10 → (List.drop n (List.take (n + 1) ([48, 49, 50, 51, 52, 53, 54, 55, 56, 57] : List UInt8))) = [UInt8.ofNat (48 + n)] := by decide
def IA (P : Pg) : Prop := ∀ x : Int, Fn P zS1 AK x fun (d : Bs) _ => d = B5 x
theorem RA (h : Has P DH) : IA P := by
 suffices hs : ∀ m : Nat, ∀ x : Int, x.toNat < m → Fn P zS1 AK x fun (d : Bs) _ => d = B5 x from fun x => hs (x.toNat + 1) x (by omega)
 intro m
 induction m with
 | zero => intro x hx; omega
 | succ m ih =>
  intro x hx
  refine Lm h ?_
  unfold Hh
  dsimp only
  refine ⟨fun hc => ?_, fun hc => ?_⟩
  ·have := cor.1 hc
   unfold B5
   rw [if_pos (by omega)]
  have hr := corf.1 hc
  refine ⟨fun hs => ?_, fun hs => Ao.of ?_⟩
  ·have h1 := of_decide_eq_true hs
   rw [w64 (by omega) (by omega)]
   refine ⟨⟨by omega, by omega, by simp; omega⟩, ?_⟩
   unfold B5
   rw [if_neg (by omega), Lib.decDigits, dif_pos (by omega), show (x + 1).toNat = x.toNat + 1 by omega, WI _ (by omega)]
  ·have h1 := of_decide_eq_false hs
   have e1 : Int.tmod x 10 = x % 10 := Int.tmod_eq_emod_of_nonneg (by omega)
   have e2 : Int.tdiv x 10 = x / 10 := Int.tdiv_eq_ediv_of_nonneg (by omega)
   rw [e1, e2, w64 (n := x % 10 + 1) (by omega) (by omega), w64 (n := x / 10) (by omega) (by omega), show (x % 10 + 1).toNat = (x % 10).toNat + 1 by omega, WI _ (by omega)]
   refine ⟨by decide, by decide, by decide, ⟨by omega, by omega, by simp; omega⟩, ?_, trivial⟩
   refine (ih (x / 10) (by omega)).to ?_
   rintro (d : Bs) _ hd
   subst hd
   have hl := EZ (x / 10)
   refine ⟨by simp only [List.length_cons, List.length_nil]; omega, ?_, trivial⟩
   show _ = _
   unfold B5
   rw [if_neg (by omega), if_neg (by omega)]
   conv => rhs; rw [Lib.decDigits]
   rw [dif_neg (by omega), show (x / 10).toNat = x.toNat / 10 by omega, show (x % 10).toNat = x.toNat % 10 by omega]
end Go.VS
