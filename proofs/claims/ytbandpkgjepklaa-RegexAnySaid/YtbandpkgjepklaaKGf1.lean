/- Functions of the program: typed code, and what it says, lifted. -/
import Derived.Test.YtbandpkgjepklaaKTxSig
import Derived.KernelRfl
set_option linter.unusedVariables false
set_option linter.unusedSimpArgs false
set_option maxRecDepth 8000
namespace Go.VS
open IntKind
def K2 : Be :=
 (.seq (.region [o1 4 (.asg kF)]) (.seq (.seq (.region [im 6 0, o1 7 (.lenK 6), im 8 1, o1 9 (.lenK 8), o1 10 (.bin .neq 7 9)]) (.cond 10 (.seq (.region [o1 4 (.asg kF)]) .ret)
 .skip)) (.seq (.seq (.region [ia 5 (kI 0)]) (.frame (rg [4, 5] 11 70) [] false (.join [.sl 4 false .bool .leaf] (.block 0 (.loop [.sl 4 false .bool .leaf, .si 5] (.seq (.seq
 (.region [im 11 5, im 12 0, o1 13 (.lenK 12), o1 14 (.bin .lss 11 13)]) (.cond 14 .skip (.exit 0))) (.seq (.frame (rg [4] 17 64) [] false (.join [.sl 4 false .bool .leaf] (.block 1
 (.seq (.frame (rg [] 17 64) [] false (.join [.sl 80 false .bool .leaf] (.draw [(.first (im 17 0) (.first (im 18 5) (.first (o1 19 (.ixA 8 17 18)) (.first (fa 20 0 19) (.first (ld
 21 20) (.first (im 22 1) (.first (im 23 5) (.first (o1 24 (.ixA 8 22 23)) (.first (fa 25 0 24) (.first (ld 26 25) (.first (o1 27 (.bin .neq 21 26)) (.first (im 28 27) (.first (gf
 29 28 (.mv 0)) (.first (gf 30 28 (.mv 5)) (.first (gf 31 28 (.ixA 8 29 30)) (.first (gf 32 28 (.fAddr 1 31)) (.first (gf 33 28 (.load true 4 32)) (.first (gf 34 28 (.mv 1)) (.first
 (gf 35 28 (.mv 5)) (.first (gf 36 28 (.ixA 8 34 35)) (.first (gf 37 28 (.fAddr 1 36)) (.first (gf 38 28 (.load true 4 37)) (.first (gf 39 28 (.eqA true [.int, .int, .int, .int] 33
 38)) (.first (o1 40 (.pick 28 kT 39)) (.first (im 41 40) (.first (gf 42 41 (.mv 0)) (.first (gf 43 41 (.mv 5)) (.first (gf 44 41 (.ixA 8 42 43)) (.first (gf 45 41 (.fAddr 5 44))
 (.first (gf 46 41 (.load false 1 45)) (.first (gf 47 41 (.mv 1)) (.first (gf 48 41 (.mv 5)) (.first (gf 49 41 (.ixA 8 47 48)) (.first (gf 50 41 (.fAddr 5 49)) (.first (gf 51 41
 (.load false 1 50)) (.first (gf 52 41 (.bin .neq 46 51)) (.first (o1 53 (.pick 41 kT 52)) (.first (im 54 53) (.first (gf 55 54 (.mv 0)) (.first (gf 56 54 (.mv 5)) (.first (gf 57 54
 (.ixA 8 55 56)) (.first (gf 58 54 (.fAddr 6 57)) (.first (gf 59 54 (.load false 1 58)) (.first (gf 60 54 (.mv 1)) (.first (gf 61 54 (.mv 5)) (.first (gf 62 54 (.ixA 8 60 61))
 (.first (gf 63 54 (.fAddr 6 62)) (.first (gf 64 54 (.load false 1 63)) (.first (gf 65 54 (.bin .neq 59 64)) (.first (o1 66 (.pick 54 kT 65)) (.first (im 67 66) (.first (gf 68 67
 (.mv 0)) (.first (gf 69 67 (.mv 5)) (.first (gf 70 67 (.ixA 8 68 69)) (.first (gf 71 67 (.fAddr 7 70)) (.first (gf 72 67 (.load false 1 71)) (.first (gf 73 67 (.mv 1)) (.first (gf
 74 67 (.mv 5)) (.first (gf 75 67 (.ixA 8 73 74)) (.first (gf 76 67 (.fAddr 7 75)) (.first (gf 77 67 (.load false 1 76)) (.alt (oS ⟨some 78, .call VG [72,
 77], some (67, false)⟩ Df) (.first (gf 79 67 (.un .not 78)) (.first (o1 80 (.pick 67 kT 79)) .done)) .stop))))))))))))))))))))))))))))))))))))))))))))))))))))))))))))))])))
 (.cond 80 (.seq (.region [o1 4 (.asg kF)]) .ret) .skip))))) (.region [im 15 5, o1 16 (.bin .add 15 (kI 1)), ia 5 16])))))))) (.seq (.region [o1 4 (.asg kT)]) .ret))))
def Ie : AFn := ⟨ VL, K2.erase, [.tmp 4], 2⟩
def Of (P : Pg) (x : ((List Node) × (List Node))) (K : Bool → Unit → Prop) : Prop :=
 ((((x.1.length : Int) != (x.2.length : Int)) = true → K false ()) ∧ (((x.1.length : Int) != (x.2.length : Int)) = false → Ag (D := Bool) (fun J1 => B0 (D := (Bool × Int)) (false, (0 : Int)) (fun d3 J4 => (((decide (d3.2 < (x.1.length : Int))) = true → Ag (D := Bool) (fun J5 => Ag (D := Bool) (fun J7 => (0 ≤ d3.2 ∧ d3.2 < (x.1.length : Int)) ∧
 (d3.2.toNat < x.1.length) ∧
 (0 ≤ d3.2 ∧ d3.2 < (x.2.length : Int)) ∧
 (d3.2.toNat < x.2.length) ∧
 ((((List.getD x.1 d3.2.toNat Ak).1 != (List.getD x.2 d3.2.toNat Ak).1) = false → 0 ≤ d3.2 ∧ d3.2 < (x.1.length : Int))) ∧
 ((((List.getD x.1 d3.2.toNat Ak).1 != (List.getD x.2 d3.2.toNat Ak).1) = false → d3.2.toNat < x.1.length)) ∧
 ((((List.getD x.1 d3.2.toNat Ak).1 != (List.getD x.2 d3.2.toNat Ak).1) = false → 0 ≤ d3.2 ∧ d3.2 < (x.2.length : Int))) ∧
 ((((List.getD x.1 d3.2.toNat Ak).1 != (List.getD x.2 d3.2.toNat Ak).1) = false → d3.2.toNat < x.2.length)) ∧
 (((cond ((List.getD x.1 d3.2.toNat Ak).1 != (List.getD x.2 d3.2.toNat Ak).1) true (!(((List.getD x.1 d3.2.toNat Ak).2.1.1 == (List.getD x.2 d3.2.toNat Ak).2.1.1) && (((List.getD x.1 d3.2.toNat Ak).2.1.2.1 == (List.getD x.2 d3.2.toNat Ak).2.1.2.1) && (((List.getD x.1 d3.2.toNat Ak).2.1.2.2.1 == (List.getD x.2 d3.2.toNat Ak).2.1.2.2.1) && (((List.getD x.1 d3.2.toNat Ak).2.1.2.2.2 == (List.getD x.2 d3.2.toNat Ak).2.1.2.2.2) && true)))))) = false → 0 ≤ d3.2 ∧ d3.2 < (x.1.length : Int))) ∧
 (((cond ((List.getD x.1 d3.2.toNat Ak).1 != (List.getD x.2 d3.2.toNat Ak).1) true (!(((List.getD x.1 d3.2.toNat Ak).2.1.1 == (List.getD x.2 d3.2.toNat Ak).2.1.1) && (((List.getD x.1 d3.2.toNat Ak).2.1.2.1 == (List.getD x.2 d3.2.toNat Ak).2.1.2.1) && (((List.getD x.1 d3.2.toNat Ak).2.1.2.2.1 == (List.getD x.2 d3.2.toNat Ak).2.1.2.2.1) && (((List.getD x.1 d3.2.toNat Ak).2.1.2.2.2 == (List.getD x.2 d3.2.toNat Ak).2.1.2.2.2) && true)))))) = false → d3.2.toNat < x.1.length)) ∧
 (((cond ((List.getD x.1 d3.2.toNat Ak).1 != (List.getD x.2 d3.2.toNat Ak).1) true (!(((List.getD x.1 d3.2.toNat Ak).2.1.1 == (List.getD x.2 d3.2.toNat Ak).2.1.1) && (((List.getD x.1 d3.2.toNat Ak).2.1.2.1 == (List.getD x.2 d3.2.toNat Ak).2.1.2.1) && (((List.getD x.1 d3.2.toNat Ak).2.1.2.2.1 == (List.getD x.2 d3.2.toNat Ak).2.1.2.2.1) && (((List.getD x.1 d3.2.toNat Ak).2.1.2.2.2 == (List.getD x.2 d3.2.toNat Ak).2.1.2.2.2) && true)))))) = false → 0 ≤ d3.2 ∧ d3.2 < (x.2.length : Int))) ∧
 (((cond ((List.getD x.1 d3.2.toNat Ak).1 != (List.getD x.2 d3.2.toNat Ak).1) true (!(((List.getD x.1 d3.2.toNat Ak).2.1.1 == (List.getD x.2 d3.2.toNat Ak).2.1.1) && (((List.getD x.1 d3.2.toNat Ak).2.1.2.1 == (List.getD x.2 d3.2.toNat Ak).2.1.2.1) && (((List.getD x.1 d3.2.toNat Ak).2.1.2.2.1 == (List.getD x.2 d3.2.toNat Ak).2.1.2.2.1) && (((List.getD x.1 d3.2.toNat Ak).2.1.2.2.2 == (List.getD x.2 d3.2.toNat Ak).2.1.2.2.2) && true)))))) = false → d3.2.toNat < x.2.length)) ∧
 (((cond (cond ((List.getD x.1 d3.2.toNat Ak).1 != (List.getD x.2 d3.2.toNat Ak).1) true (!(((List.getD x.1 d3.2.toNat Ak).2.1.1 == (List.getD x.2 d3.2.toNat Ak).2.1.1) && (((List.getD x.1 d3.2.toNat Ak).2.1.2.1 == (List.getD x.2 d3.2.toNat Ak).2.1.2.1) && (((List.getD x.1 d3.2.toNat Ak).2.1.2.2.1 == (List.getD x.2 d3.2.toNat Ak).2.1.2.2.1) && (((List.getD x.1 d3.2.toNat Ak).2.1.2.2.2 == (List.getD x.2 d3.2.toNat Ak).2.1.2.2.2) && true)))))) true ((List.getD x.1 d3.2.toNat Ak).2.2.1 != (List.getD x.2 d3.2.toNat Ak).2.2.1)) = false → 0 ≤ d3.2 ∧ d3.2 < (x.1.length : Int))) ∧
 (((cond (cond ((List.getD x.1 d3.2.toNat Ak).1 != (List.getD x.2 d3.2.toNat Ak).1) true (!(((List.getD x.1 d3.2.toNat Ak).2.1.1 == (List.getD x.2 d3.2.toNat Ak).2.1.1) && (((List.getD x.1 d3.2.toNat Ak).2.1.2.1 == (List.getD x.2 d3.2.toNat Ak).2.1.2.1) && (((List.getD x.1 d3.2.toNat Ak).2.1.2.2.1 == (List.getD x.2 d3.2.toNat Ak).2.1.2.2.1) && (((List.getD x.1 d3.2.toNat Ak).2.1.2.2.2 == (List.getD x.2 d3.2.toNat Ak).2.1.2.2.2) && true)))))) true ((List.getD x.1 d3.2.toNat Ak).2.2.1 != (List.getD x.2 d3.2.toNat Ak).2.2.1)) = false → d3.2.toNat < x.1.length)) ∧
 (((cond (cond ((List.getD x.1 d3.2.toNat Ak).1 != (List.getD x.2 d3.2.toNat Ak).1) true (!(((List.getD x.1 d3.2.toNat Ak).2.1.1 == (List.getD x.2 d3.2.toNat Ak).2.1.1) && (((List.getD x.1 d3.2.toNat Ak).2.1.2.1 == (List.getD x.2 d3.2.toNat Ak).2.1.2.1) && (((List.getD x.1 d3.2.toNat Ak).2.1.2.2.1 == (List.getD x.2 d3.2.toNat Ak).2.1.2.2.1) && (((List.getD x.1 d3.2.toNat Ak).2.1.2.2.2 == (List.getD x.2 d3.2.toNat Ak).2.1.2.2.2) && true)))))) true ((List.getD x.1 d3.2.toNat Ak).2.2.1 != (List.getD x.2 d3.2.toNat Ak).2.2.1)) = false → 0 ≤ d3.2 ∧ d3.2 < (x.2.length : Int))) ∧
 (((cond (cond ((List.getD x.1 d3.2.toNat Ak).1 != (List.getD x.2 d3.2.toNat Ak).1) true (!(((List.getD x.1 d3.2.toNat Ak).2.1.1 == (List.getD x.2 d3.2.toNat Ak).2.1.1) && (((List.getD x.1 d3.2.toNat Ak).2.1.2.1 == (List.getD x.2 d3.2.toNat Ak).2.1.2.1) && (((List.getD x.1 d3.2.toNat Ak).2.1.2.2.1 == (List.getD x.2 d3.2.toNat Ak).2.1.2.2.1) && (((List.getD x.1 d3.2.toNat Ak).2.1.2.2.2 == (List.getD x.2 d3.2.toNat Ak).2.1.2.2.2) && true)))))) true ((List.getD x.1 d3.2.toNat Ak).2.2.1 != (List.getD x.2 d3.2.toNat Ak).2.2.1)) = false → d3.2.toNat < x.2.length)) ∧
 (((cond (cond (cond ((List.getD x.1 d3.2.toNat Ak).1 != (List.getD x.2 d3.2.toNat Ak).1) true (!(((List.getD x.1 d3.2.toNat Ak).2.1.1 == (List.getD x.2 d3.2.toNat Ak).2.1.1) && (((List.getD x.1 d3.2.toNat Ak).2.1.2.1 == (List.getD x.2 d3.2.toNat Ak).2.1.2.1) && (((List.getD x.1 d3.2.toNat Ak).2.1.2.2.1 == (List.getD x.2 d3.2.toNat Ak).2.1.2.2.1) && (((List.getD x.1 d3.2.toNat Ak).2.1.2.2.2 == (List.getD x.2 d3.2.toNat Ak).2.1.2.2.2) && true)))))) true ((List.getD x.1 d3.2.toNat Ak).2.2.1 != (List.getD x.2 d3.2.toNat Ak).2.2.1)) true ((List.getD x.1 d3.2.toNat Ak).2.2.2.1 != (List.getD x.2 d3.2.toNat Ak).2.2.2.1)) = false → 0 ≤ d3.2 ∧ d3.2 < (x.1.length : Int))) ∧
 (((cond (cond (cond ((List.getD x.1 d3.2.toNat Ak).1 != (List.getD x.2 d3.2.toNat Ak).1) true (!(((List.getD x.1 d3.2.toNat Ak).2.1.1 == (List.getD x.2 d3.2.toNat Ak).2.1.1) && (((List.getD x.1 d3.2.toNat Ak).2.1.2.1 == (List.getD x.2 d3.2.toNat Ak).2.1.2.1) && (((List.getD x.1 d3.2.toNat Ak).2.1.2.2.1 == (List.getD x.2 d3.2.toNat Ak).2.1.2.2.1) && (((List.getD x.1 d3.2.toNat Ak).2.1.2.2.2 == (List.getD x.2 d3.2.toNat Ak).2.1.2.2.2) && true)))))) true ((List.getD x.1 d3.2.toNat Ak).2.2.1 != (List.getD x.2 d3.2.toNat Ak).2.2.1)) true ((List.getD x.1 d3.2.toNat Ak).2.2.2.1 != (List.getD x.2 d3.2.toNat Ak).2.2.2.1)) = false → d3.2.toNat < x.1.length)) ∧
 (((cond (cond (cond ((List.getD x.1 d3.2.toNat Ak).1 != (List.getD x.2 d3.2.toNat Ak).1) true (!(((List.getD x.1 d3.2.toNat Ak).2.1.1 == (List.getD x.2 d3.2.toNat Ak).2.1.1) && (((List.getD x.1 d3.2.toNat Ak).2.1.2.1 == (List.getD x.2 d3.2.toNat Ak).2.1.2.1) && (((List.getD x.1 d3.2.toNat Ak).2.1.2.2.1 == (List.getD x.2 d3.2.toNat Ak).2.1.2.2.1) && (((List.getD x.1 d3.2.toNat Ak).2.1.2.2.2 == (List.getD x.2 d3.2.toNat Ak).2.1.2.2.2) && true)))))) true ((List.getD x.1 d3.2.toNat Ak).2.2.1 != (List.getD x.2 d3.2.toNat Ak).2.2.1)) true ((List.getD x.1 d3.2.toNat Ak).2.2.2.1 != (List.getD x.2 d3.2.toNat Ak).2.2.2.1)) = false → 0 ≤ d3.2 ∧ d3.2 < (x.2.length : Int))) ∧
 (((cond (cond (cond ((List.getD x.1 d3.2.toNat Ak).1 != (List.getD x.2 d3.2.toNat Ak).1) true (!(((List.getD x.1 d3.2.toNat Ak).2.1.1 == (List.getD x.2 d3.2.toNat Ak).2.1.1) && (((List.getD x.1 d3.2.toNat Ak).2.1.2.1 == (List.getD x.2 d3.2.toNat Ak).2.1.2.1) && (((List.getD x.1 d3.2.toNat Ak).2.1.2.2.1 == (List.getD x.2 d3.2.toNat Ak).2.1.2.2.1) && (((List.getD x.1 d3.2.toNat Ak).2.1.2.2.2 == (List.getD x.2 d3.2.toNat Ak).2.1.2.2.2) && true)))))) true ((List.getD x.1 d3.2.toNat Ak).2.2.1 != (List.getD x.2 d3.2.toNat Ak).2.2.1)) true ((List.getD x.1 d3.2.toNat Ak).2.2.2.1 != (List.getD x.2 d3.2.toNat Ak).2.2.2.1)) = false → d3.2.toNat < x.2.length)) ∧
 (Ag (D := Bool) (fun J9 => (((cond (cond (cond ((List.getD x.1 d3.2.toNat Ak).1 != (List.getD x.2 d3.2.toNat Ak).1) true (!(((List.getD x.1 d3.2.toNat Ak).2.1.1 == (List.getD x.2 d3.2.toNat Ak).2.1.1) && (((List.getD x.1 d3.2.toNat Ak).2.1.2.1 == (List.getD x.2 d3.2.toNat Ak).2.1.2.1) && (((List.getD x.1 d3.2.toNat Ak).2.1.2.2.1 == (List.getD x.2 d3.2.toNat Ak).2.1.2.2.1) && (((List.getD x.1 d3.2.toNat Ak).2.1.2.2.2 == (List.getD x.2 d3.2.toNat Ak).2.1.2.2.2) && true)))))) true ((List.getD x.1 d3.2.toNat Ak).2.2.1 != (List.getD x.2 d3.2.toNat Ak).2.2.1)) true ((List.getD x.1 d3.2.toNat Ak).2.2.2.1 != (List.getD x.2 d3.2.toNat Ak).2.2.2.1)) = false → Fn P VG Df ((List.getD x.1 d3.2.toNat Ak).2.2.2.2, (List.getD x.2 d3.2.toNat Ak).2.2.2.2) (fun (d10 : Bool) _ => J9 d10)) ∧ (((cond (cond (cond ((List.getD x.1 d3.2.toNat Ak).1 != (List.getD x.2 d3.2.toNat Ak).1) true (!(((List.getD x.1 d3.2.toNat Ak).2.1.1 == (List.getD x.2 d3.2.toNat Ak).2.1.1) && (((List.getD x.1 d3.2.toNat Ak).2.1.2.1 == (List.getD x.2 d3.2.toNat Ak).2.1.2.1) && (((List.getD x.1 d3.2.toNat Ak).2.1.2.2.1 == (List.getD x.2 d3.2.toNat Ak).2.1.2.2.1) && (((List.getD x.1 d3.2.toNat Ak).2.1.2.2.2 == (List.getD x.2 d3.2.toNat Ak).2.1.2.2.2) && true)))))) true ((List.getD x.1 d3.2.toNat Ak).2.2.1 != (List.getD x.2 d3.2.toNat Ak).2.2.1)) true ((List.getD x.1 d3.2.toNat Ak).2.2.2.1 != (List.getD x.2 d3.2.toNat Ak).2.2.2.1)) = true → J9 false) ∧ True))) (fun d11 => J7 (cond (cond (cond (cond ((List.getD x.1 d3.2.toNat Ak).1 != (List.getD x.2 d3.2.toNat Ak).1) true (!(((List.getD x.1 d3.2.toNat Ak).2.1.1 == (List.getD x.2 d3.2.toNat Ak).2.1.1) && (((List.getD x.1 d3.2.toNat Ak).2.1.2.1 == (List.getD x.2 d3.2.toNat Ak).2.1.2.1) && (((List.getD x.1 d3.2.toNat Ak).2.1.2.2.1 == (List.getD x.2 d3.2.toNat Ak).2.1.2.2.1) && (((List.getD x.1 d3.2.toNat Ak).2.1.2.2.2 == (List.getD x.2 d3.2.toNat Ak).2.1.2.2.2) && true)))))) true ((List.getD x.1 d3.2.toNat Ak).2.2.1 != (List.getD x.2 d3.2.toNat Ak).2.2.1)) true ((List.getD x.1 d3.2.toNat Ak).2.2.2.1 != (List.getD x.2 d3.2.toNat Ak).2.2.2.1)) true (!d11)))) ∧ True) (fun d8 => ((d8 = true → K false ()) ∧ (d8 = false → J5 d3.1)))) (fun d6 => J4 (d6, (i64.wrap (d3.2 + (1 : Int)))))) ∧ ((decide (d3.2 < (x.1.length : Int))) = false → J1 d3.1)))) (fun d2 => K true ())))
theorem RR {P : Pg} (h : Has P Ie) {x : DP Cz.ps} {K : DP Cz.rs → DP (ptrs Cz.ps) → Prop} (hw : Of P x K) : Fn P VL Cz x K :=
 BI (c := K2) h rfl rfl (by kernel_rfl) (Eq.mpr (show BC P Ie Cz K2 x K = _ by kernel_rfl) hw)
def IE : Be :=
 (.seq (.region [o1 0 (.asg kF)]) (.seq (.region [oS ⟨some 6, .call QV [(.c (.string ⟨#[97, 124, 98, 42]⟩))], none⟩ Cc, im 5 6, o1 7 (.ext 5 0), o1 8
 (.ext 5 1), ia 1 7, ia 2 8]) (.seq (.region [oS ⟨some 10, .call QV [(.c (.string ⟨#[97, 42, 42]⟩))], none⟩ Cc, im 9 10, o1 11 (.ext 9 0), o1 12
 (.ext 9 1), ia 3 11, ia 4 12]) (.seq (.region [im 13 2, o1 14 (.bin .eql 13 (kI 0)), im 15 14, gt 16 15 (.mv 4), gt 17 15 (.bin .eql 16 (kI 40)), o1 18 (.pick 15 17 kF), im 19 18,
 gt 20 19 (.mv 1), gt 21 19 (.lenK 20), gt 22 19 (.bin .eql 21 (kI 4)), o1 23 (.pick 19 22 kF), im 24 23, gt 25 24 (.mv 1), gt 26 24 (.ixA 8 25 (kI 2)), gt 27 24 (.fAddr 0 26), gt
 28 24 (.load false 1 27), gt 29 24 (.bin .eql 28 (kI 6)), o1 30 (.pick 24 29 kF), im 31 30, gt 32 31 (.mv 1), gt 33 31 (.ixA 8 32 (kI 2)), gt 34 31 (.fAddr 6 33), gt 35 31 (.load
 false 1 34), gt 36 31 (.bin .eql 35 (kI (-1))), o1 37 (.pick 31 36 kF), im 38 37, gt 39 38 (.mv 1), gt 40 38 (.ixA 8 39 (kI 3)), gt 41 38 (.fAddr 0 40), gt 42 38 (.load false 1
 41), gt 43 38 (.bin .eql 42 (kI 5)), o1 44 (.pick 38 43 kF), im 45 44, ⟨⟨some 46, .mv 1, some (45, true)⟩, none, ⟨[], []⟩, false, some 45, true, false⟩, ⟨⟨some 47, .ixA 8 46 (kI
 3), some (45, true)⟩, none, ⟨[], []⟩, false, none, true, false⟩, ⟨⟨some 48, .fAddr 7 47, some (45, true)⟩, none, ⟨[], []⟩, false, none, true, false⟩, ⟨⟨some 49, .load false 1 48,
 some (45, true)⟩, none, ⟨[], []⟩, false, none, true, false⟩, ⟨⟨some 50, .buildSl 1 [(.int .i64 0)] 2 [(0, (kI 0)), (1, (kI 2))], some (45, true)⟩, some (bI, .leaf), ⟨[], []⟩,
 false, none, true, false⟩, ⟨⟨some 51, .call VG [49, 50], some (45, true)⟩, none, Df, false, none, true, true⟩, o1 52 (.pick 45 51 kF), ia 0 52])
 .ret))))
def Gj : AFn := ⟨ Su, IE.erase, [.tmp 0], 0⟩
def LQ (P : Pg) (x : Unit) (K : Bool → Unit → Prop) : Prop :=
 Fn P QV Cc ([97, 124, 98, 42] : List UInt8) (fun (d1 : ((List Node) × Int)) (e2 : Unit) => Fn P QV Cc ([97, 42, 42] : List UInt8) (fun (d3 : ((List Node) × Int)) (e4 : Unit) => (((cond (cond (d1.2 == (0 : Int)) (d3.2 == (40 : Int)) false) ((d1.1.length : Int) == (4 : Int)) false) = true → 0 ≤ (2 : Int) ∧ (2 : Int) < (d1.1.length : Int))) ∧
 (((cond (cond (d1.2 == (0 : Int)) (d3.2 == (40 : Int)) false) ((d1.1.length : Int) == (4 : Int)) false) = true → (Int.toNat (2 : Int)) < d1.1.length)) ∧
 (((cond (cond (cond (d1.2 == (0 : Int)) (d3.2 == (40 : Int)) false) ((d1.1.length : Int) == (4 : Int)) false) ((List.getD d1.1 (Int.toNat (2 : Int)) Ak).1 == (6 : Int)) false) = true → 0 ≤ (2 : Int) ∧ (2 : Int) < (d1.1.length : Int))) ∧
 (((cond (cond (cond (d1.2 == (0 : Int)) (d3.2 == (40 : Int)) false) ((d1.1.length : Int) == (4 : Int)) false) ((List.getD d1.1 (Int.toNat (2 : Int)) Ak).1 == (6 : Int)) false) = true → (Int.toNat (2 : Int)) < d1.1.length)) ∧
 (((cond (cond (cond (cond (d1.2 == (0 : Int)) (d3.2 == (40 : Int)) false) ((d1.1.length : Int) == (4 : Int)) false) ((List.getD d1.1 (Int.toNat (2 : Int)) Ak).1 == (6 : Int)) false) ((List.getD d1.1 (Int.toNat (2 : Int)) Ak).2.2.2.1 == (-1 : Int)) false) = true → 0 ≤ (3 : Int) ∧ (3 : Int) < (d1.1.length : Int))) ∧
 (((cond (cond (cond (cond (d1.2 == (0 : Int)) (d3.2 == (40 : Int)) false) ((d1.1.length : Int) == (4 : Int)) false) ((List.getD d1.1 (Int.toNat (2 : Int)) Ak).1 == (6 : Int)) false) ((List.getD d1.1 (Int.toNat (2 : Int)) Ak).2.2.2.1 == (-1 : Int)) false) = true → (Int.toNat (3 : Int)) < d1.1.length)) ∧
 (((cond (cond (cond (cond (cond (d1.2 == (0 : Int)) (d3.2 == (40 : Int)) false) ((d1.1.length : Int) == (4 : Int)) false) ((List.getD d1.1 (Int.toNat (2 : Int)) Ak).1 == (6 : Int)) false) ((List.getD d1.1 (Int.toNat (2 : Int)) Ak).2.2.2.1 == (-1 : Int)) false) ((List.getD d1.1 (Int.toNat (3 : Int)) Ak).1 == (5 : Int)) false) = true → (0 ≤ (3 : Int) ∧ (3 : Int) < (d1.1.length : Int)) ∧
 ((Int.toNat (3 : Int)) < d1.1.length) ∧
 Fn P VG Df ((List.getD d1.1 (Int.toNat (3 : Int)) Ak).2.2.2.2, ([(0 : Int), (2 : Int)] : List Int)) (fun (d5 : Bool) (e6 : Unit) => K (cond true d5 false) ())) ∧ ((cond (cond (cond (cond (cond (d1.2 == (0 : Int)) (d3.2 == (40 : Int)) false) ((d1.1.length : Int) == (4 : Int)) false) ((List.getD d1.1 (Int.toNat (2 : Int)) Ak).1 == (6 : Int)) false) ((List.getD d1.1 (Int.toNat (2 : Int)) Ak).2.2.2.1 == (-1 : Int)) false) ((List.getD d1.1 (Int.toNat (3 : Int)) Ak).1 == (5 : Int)) false) = false → K (cond false false false) ()))))
theorem Py {P : Pg} (h : Has P Gj) {x : DP Cx.ps} {K : DP Cx.rs → DP (ptrs Cx.ps) → Prop} (hw : LQ P x K) : Fn P Su Cx x K :=
 BI (c := IE) h rfl rfl (by kernel_rfl) (Eq.mpr (show BC P Gj Cx IE x K = _ by kernel_rfl) hw)
def AbO : Be :=
 (.seq (.region [o1 2 (.asg kF)]) (.seq (.seq (.region [im 3 0]) (.frame (rg [2] 4 13) [] false (.join [.sl 2 false .bool .leaf] (.block 0 (.seq (.seq (.region [o1 5 (.bin .eql 3
 (.c (.int .u8 40))), ia 4 5]) (.frame (rg [4] 6 11) [] false (.join [.sl 4 false .bool .leaf] (.cond 4 .skip (.seq (.region [o1 6 (.bin .eql 3 (.c (.int .u8 41))), ia 4 6]) (.frame
 (rg [4] 7 10) [] false (.join [.sl 4 false .bool .leaf] (.cond 4 .skip (.seq (.region [o1 7 (.bin .eql 3 (.c (.int .u8 91))), ia 4 7]) (.frame (rg [4] 8 9) [] false (.join [.sl 4
 false .bool .leaf] (.cond 4 .skip (.seq (.region [o1 8 (.bin .eql 3 (.c (.int .u8 123))), ia 4 8]) (.frame (rg [4] 9 8) [] false (.join [.sl 4 false .bool .leaf] (.cond 4 .skip
 (.seq (.region [o1 9 (.bin .eql 3 (.c (.int .u8 42))), ia 4 9]) (.frame (rg [4] 10 7) [] false (.join [.sl 4 false .bool .leaf] (.cond 4 .skip (.seq (.region [o1 10 (.bin .eql 3
 (.c (.int .u8 43))), ia 4 10]) (.frame (rg [4] 11 6) [] false (.join [.sl 4 false .bool .leaf] (.cond 4 .skip (.seq (.region [o1 11 (.bin .eql 3 (.c (.int .u8 63))), ia 4 11])
 (.frame (rg [4] 12 5) [] false (.join [.sl 4 false .bool .leaf] (.cond 4 .skip (.seq (.region [o1 12 (.bin .eql 3 (.c (.int .u8 124))), ia 4 12]) (.frame (rg [4] 13 4) [] false
 (.join [.sl 4 false .bool .leaf] (.cond 4 .skip (.seq (.region [o1 13 (.bin .eql 3 (.c (.int .u8 46))), ia 4 13]) (.frame [4, 14, 15, 16] [] false (.join [.sl 4 false .bool .leaf]
 (.cond 4 .skip (.seq (.region [o1 14 (.bin .eql 3 (.c (.int .u8 94))), ia 4 14]) (.frame [4, 15, 16] [] false (.join [.sl 4 false .bool .leaf] (.cond 4 .skip (.seq (.region [o1 15
 (.bin .eql 3 (.c (.int .u8 36))), ia 4 15]) (.frame [4, 16] [] false (.join [.sl 4 false .bool .leaf] (.cond 4 .skip (.region [o1 16 (.bin .eql 3 (.c (.int .u8 92))), ia 4
 16]))))))))))))))))))))))))))))))))))))))))))))) (.cond 4 (.seq (.region [o1 2 (.asg kT)]) .ret) .skip)))))) (.seq (.region [o1 2 (.asg kF)]) .ret)))
def AbJ : AFn := ⟨ YZ, AbO.erase, [.tmp 2], 1⟩
def AbX (P : Pg) (x : Int) (K : Bool → Unit → Prop) : Prop :=
 Ag (D := Bool) (fun J1 => Ag (D := Bool) (fun J3 => (((x == (40 : Int)) = true → J3 (x == (40 : Int))) ∧ ((x == (40 : Int)) = false → Ag (D := Bool) (fun J5 => (((x == (41 : Int)) = true → J5 (x == (41 : Int))) ∧ ((x == (41 : Int)) = false → Ag (D := Bool) (fun J7 => (((x == (91 : Int)) = true → J7 (x == (91 : Int))) ∧ ((x == (91 : Int)) = false → Ag (D := Bool) (fun J9 => (((x == (123 : Int)) = true → J9 (x == (123 : Int))) ∧ ((x == (123 : Int)) = false → Ag (D := Bool) (fun J11 => (((x == (42 : Int)) = true → J11 (x == (42 : Int))) ∧ ((x == (42 : Int)) = false → Ag (D := Bool) (fun J13 => (((x == (43 : Int)) = true → J13 (x == (43 : Int))) ∧ ((x == (43 : Int)) = false → Ag (D := Bool) (fun J15 => (((x == (63 : Int)) = true → J15 (x == (63 : Int))) ∧ ((x == (63 : Int)) = false → Ag (D := Bool) (fun J17 => (((x == (124 : Int)) = true → J17 (x == (124 : Int))) ∧ ((x == (124 : Int)) = false → Ag (D := Bool) (fun J19 => (((x == (46 : Int)) = true → J19 (x == (46 : Int))) ∧ ((x == (46 : Int)) = false → Ag (D := Bool) (fun J21 => (((x == (94 : Int)) = true → J21 (x == (94 : Int))) ∧ ((x == (94 : Int)) = false → Ag (D := Bool) (fun J23 => (((x == (36 : Int)) = true → J23 (x == (36 : Int))) ∧ ((x == (36 : Int)) = false → J23 (x == (92 : Int))))) (fun d24 => J21 d24)))) (fun d22 => J19 d22)))) (fun d20 => J17 d20)))) (fun d18 => J15 d18)))) (fun d16 => J13 d16)))) (fun d14 => J11 d14)))) (fun d12 => J9 d12)))) (fun d10 => J7 d10)))) (fun d8 => J5 d8)))) (fun d6 => J3 d6)))) (fun d4 => ((d4 = true → K true ()) ∧ (d4 = false → J1 false)))) (fun d2 => K false ())
theorem Ab8 {P : Pg} (h : Has P AbJ) {x : DP AbC.ps} {K : DP AbC.rs → DP (ptrs AbC.ps) → Prop} (hw : AbX P x K) : Fn P YZ AbC x K :=
 BI (c := AbO) h rfl rfl (by kernel_rfl) (Eq.mpr (show BC P AbJ AbC AbO x K = _ by kernel_rfl) hw)
def AbN : Be :=
 (.seq (.region [o1 2 (.asg (.c (.string ⟨#[]⟩)))]) (.seq (.region [o1 3 (.asg (.c (.slice none 0 0)))]) (.seq (.seq (.region [ia 4 (kI 0)]) (.frame (rg [] 3 21) [] false (.join
 [.sl 3 false (.sl (.int .u8)) tO] (.block 0 (.loop [.sl 3 false (.sl (.int .u8)) tO, .si 4] (.seq (.seq (.region [im 5 4, im 6 0, o1 7 (.lenS 6), o1 8 (.bin .lss 5 7)]) (.cond 8
 .skip (.exit 0))) (.seq (.frame (rg [3] 11 13) [] false (.join [.sl 3 false (.sl (.int .u8)) tO] (.block 1 (.seq (.seq (.region [im 11 0, im 12 4, o1 13 (.ixS 11 12), oS ⟨some 14,
 .call YZ [13], none⟩ AbC]) (.frame [3, 15, 16, 17] [] false (.join [.sl 3 false (.sl (.int .u8)) tO] (.cond 14 (.region [im 15 3, oT
 ⟨some 16, .buildSl 1 [(.int .u8 0)] 1 [(0, (.c (.int .u8 92)))], none⟩ (some ((.int .u8), .leaf)), oT ⟨some 17, .app 1 1 15 16, none⟩ (some ((.int .u8), .leaf)), ia 3 17])
 .skip)))) (.region [im 18 3, im 19 0, im 20 4, o1 21 (.ixS 19 20), oT ⟨some 22, .buildSl 1 [(.int .u8 0)] 1 [(0, 21)], none⟩ (some ((.int .u8), .leaf)), oT ⟨some 23, .app 1 1 18
 22, none⟩ (some ((.int .u8), .leaf)), ia 3 23]))))) (.region [im 9 4, o1 10 (.bin .add 9 (kI 1)), ia 4 10])))))))) (.seq (.region [im 24 3, o1 25 (.conv .bytesToStr 24), ia 2 25])
 .ret))))
def AbI : AFn := ⟨ Y0, AbN.erase, [.tmp 2], 1⟩
def AbW (P : Pg) (x : (List UInt8)) (K : (List UInt8) → Unit → Prop) : Prop :=
 Ag (D := (List Int)) (fun J1 => B0 (D := ((List Int) × Int)) ([], (0 : Int)) (fun d3 J4 => (((decide (d3.2 < (x.length : Int))) = true → Ag (D := (List Int)) (fun J5 => (0 ≤ d3.2 ∧ d3.2 < (x.length : Int)) ∧
 Fn P YZ AbC ((x.getD d3.2.toNat 0).toNat : Int) (fun (d7 : Bool) (e8 : Unit) => Ag (D := (List Int)) (fun J9 => ((d7 = true → ((d3.1.length + List.length ([(92 : Int)] : List Int)) * 1 ≤ 140737488355328) ∧
 J9 (d3.1 ++ ([(92 : Int)] : List Int))) ∧ (d7 = false → J9 d3.1))) (fun d10 => (0 ≤ d3.2 ∧ d3.2 < (x.length : Int)) ∧
 ((d10.length + List.length ([((x.getD d3.2.toNat 0).toNat : Int)] : List Int)) * 1 ≤ 140737488355328) ∧
 J5 (d10 ++ ([((x.getD d3.2.toNat 0).toNat : Int)] : List Int))))) (fun d6 => J4 (d6, (i64.wrap (d3.2 + (1 : Int)))))) ∧ ((decide (d3.2 < (x.length : Int))) = false → J1 d3.1)))) (fun d2 => K (strOf d2) ())
theorem Ab7 {P : Pg} (h : Has P AbI) {x : DP AbB.ps} {K : DP AbB.rs → DP (ptrs AbB.ps) → Prop} (hw : AbW P x K) : Fn P Y0 AbB x K :=
 BI (c := AbN) h rfl rfl (by kernel_rfl) (Eq.mpr (show BC P AbI AbB AbN x K = _ by kernel_rfl) hw)
def AbL : Be :=
 (.seq (.region [o1 2 (.asg kF)]) (.seq (.seq (.region [im 7 0, o1 8 (.lenS 7), o1 9 (.bin .gtr 8 (kI 100))]) (.cond 9 (.seq (.region [oS ⟨some 10, .call
 Su [], none⟩ Cx, ia 2 10]) .ret) .skip)) (.seq (.region [im 12 0, oS ⟨some 13, .call QV [12], none⟩ Cc, im
 11 13, o1 14 (.ext 11 0), o1 15 (.ext 11 1), ia 3 14, ia 4 15]) (.seq (.region [im 17 0, oS ⟨some 18, .call VK [17], none⟩ B2, im 16 18, o1
 19 (.ext 16 0), o1 20 (.ext 16 1), ia 5 19, ia 6 20]) (.seq (.region [im 21 4, im 22 6, o1 23 (.bin .eql 21 22), im 24 23, gt 25 24 (.mv 3), gt 26 24 (.mv 5), oS ⟨some 27, .call
 VL [25, 26], some (24, true)⟩ Cz, o1 28 (.pick 24 27 kF), im 29 28, gt 30 29 (.mv 0), oS ⟨some 31, .call Y6 [30], some
 (29, true)⟩ AbK, gt 32 29 (.mv 0), oS ⟨some 33, .call Y0 [32], some (29, true)⟩ AbB, gt 34 29 (.bin .eql 31 33), o1 35
 (.pick 29 34 kF), im 36 35, oS ⟨some 37, .call Su [], some (36, true)⟩ Cx, o1 38 (.pick 36 37 kF), ia 2 38]) .ret)))))
def AbG : AFn := ⟨ Y7, AbL.erase, [.tmp 2], 1⟩
def AbT (P : Pg) (x : (List UInt8)) (K : Bool → Unit → Prop) : Prop :=
 (((decide ((x.length : Int) > (100 : Int))) = true → Fn P Su Cx () (fun (d1 : Bool) (e2 : Unit) => K d1 ())) ∧ ((decide ((x.length : Int) > (100 : Int))) = false → Fn P QV Cc x (fun (d3 : ((List Node) × Int)) (e4 : Unit) => Fn P VK B2 x (fun (d5 : ((List Node) × Int)) (e6 : Unit) => Ag (D := Bool) (fun J7 => (((d3.2 == d5.2) = true → Fn P VL Cz (d3.1, d5.1) (fun (d8 : Bool) _ => J7 d8)) ∧ (((d3.2 == d5.2) = false → J7 false) ∧ True))) (fun d9 => Ag (D := (List UInt8)) (fun J10 => (((cond (d3.2 == d5.2) d9 false) = true → Fn P Y6 AbK x (fun (d11 : (List UInt8)) _ => J10 d11)) ∧ (((cond (d3.2 == d5.2) d9 false) = false → J10 []) ∧ True))) (fun d12 => Ag (D := (List UInt8)) (fun J13 => (((cond (d3.2 == d5.2) d9 false) = true → Fn P Y0 AbB x (fun (d14 : (List UInt8)) _ => J13 d14)) ∧ (((cond (d3.2 == d5.2) d9 false) = false → J13 []) ∧ True))) (fun d15 => Ag (D := Bool) (fun J16 => (((cond (cond (d3.2 == d5.2) d9 false) (d12 == d15) false) = true → Fn P Su Cx () (fun (d17 : Bool) _ => J16 d17)) ∧ (((cond (cond (d3.2 == d5.2) d9 false) (d12 == d15) false) = false → J16 false) ∧ True))) (fun d18 => K (cond (cond (cond (d3.2 == d5.2) d9 false) (d12 == d15) false) d18 false) ()))))))))
theorem Ab5 {P : Pg} (h : Has P AbG) {x : DP AbA.ps} {K : DP AbA.rs → DP (ptrs AbA.ps) → Prop} (hw : AbT P x K) : Fn P Y7 AbA x K :=
 BI (c := AbL) h rfl rfl (by kernel_rfl) (Eq.mpr (show BC P AbG AbA AbL x K = _ by kernel_rfl) hw)
def E8 : Be :=
 (.seq (.region [o1 3 (.box 1), ia 4 (kI 0)]) (.seq (.frame (rg [] 5 10) [0] true (.join [.bx 0 Aw (.pair .leaf (.pair .leaf (.pair .leaf (.node .own (.pair .leaf (.pair
 .leaf (.pair .leaf (.pair .leaf tM))))))))] (.draw [(.first (im 5 0) (.first (im 6 0) (.first (o1 7 (.nilc 6)) (.first (fa 8 3 7) (.first (o1 10 (.load true 8 3)) (.alt (ld 9 8)
 (.alt (oT ⟨some 11, .buildSl 8 [(.int .i64 0), (.int .u64 0), (.int .u64 0), (.int .u64 0), (.int .u64 0), (.int .i64 0), (.int .i64 0), (.slice none 0 0)] 1 [(0, 10)], none⟩ (some
 (Fc, (.pair .leaf (.pair .leaf (.pair .leaf (.pair .leaf tM))))))) (.alt (oT ⟨some 12, .app 8 80 9 11, none⟩ (some (Fc, (.pair .leaf (.pair .leaf (.pair .leaf (.pair .leaf
 tM))))))) (.first (o1 13 (.nilc 5)) (.first (fa 14 3 13) (.alt (o0 ⟨none, .store 1 14 12, none⟩) .done .stop))) .stop) .stop) (.alt (oT ⟨some 11, .buildSl 8 [(.int .i64 0), (.int
 .u64 0), (.int .u64 0), (.int .u64 0), (.int .u64 0), (.int .i64 0), (.int .i64 0), (.slice none 0 0)] 1 [(0, 10)], none⟩ (some (Fc, (.pair .leaf (.pair .leaf (.pair .leaf
 (.pair .leaf tM))))))) (.first (ld 9 8) (.alt (oT ⟨some 12, .app 8 80 9 11, none⟩ (some (Fc, (.pair .leaf (.pair .leaf (.pair .leaf (.pair .leaf tM))))))) (.first (o1 13 (.nilc
 5)) (.first (fa 14 3 13) (.alt (o0 ⟨none, .store 1 14 12, none⟩) .done .stop))) .stop)) .stop)))))))]))) (.seq (.region [im 15 0, o1 16 (.nilc 15), fa 17 3 16, ld 18 17, o1 19
 (.lenK 18), o1 20 (.bin .sub 19 (kI 1)), ia 4 20]) .ret)))
def DE : AFn := ⟨ zS6, E8.erase, [.tmp 4], 2⟩
def Hw (P : Pg) (x : (Aa × Node)) (K : Int → Aa → Prop) : Prop :=
 Ag (D := Aa) (fun J1 => (((((x.1.2.2.2.length + List.length ([x.2] : List Node)) * 80 ≤ 140737488355328) ∧
 (J1 (x.1.1, (x.1.2.1, (x.1.2.2.1, (x.1.2.2.2 ++ ([x.2] : List Node)))))) ∧ True) ∧ True) ∧ True) ∧ (((((x.1.2.2.2.length + List.length ([x.2] : List Node)) * 80 ≤ 140737488355328) ∧
 (J1 (x.1.1, (x.1.2.1, (x.1.2.2.1, (x.1.2.2.2 ++ ([x.2] : List Node)))))) ∧ True) ∧ True) ∧ True)) (fun d2 => K (i64.wrap ((d2.2.2.2.length : Int) - (1 : Int))) d2)
theorem Lx {P : Pg} (h : Has P DE) {x : DP AG.ps} {K : DP AG.rs → DP (ptrs AG.ps) → Prop} (hw : Hw P x K) : Fn P zS6 AG x K :=
 BI (c := E8) h rfl rfl (by kernel_rfl) (Eq.mpr (show BC P DE AG E8 x K = _ by kernel_rfl) hw)
def Ev : Be :=
 (.seq (.region [ia 6 (kI 0)]) (.seq (.seq (.region [im 7 2, o1 8 (.lenK 7)]) (.frame (rg [6] 9 10) [0] true (.join [.si 6, .bx 0 Aw (.pair .leaf (.pair .leaf (.pair
 .leaf (.node .own (.pair .leaf (.pair .leaf (.pair .leaf (.pair .leaf tM))))))))] (.block 0 (.seq (.region [o1 10 (.bin .eql 8 (kI 0)), ia 9 10]) (.cond 9 (.seq (.region [im 11 0,
 o1 12 (.build [(.int .i64 0), (.int .u64 0), (.int .u64 0), (.int .u64 0), (.int .u64 0), (.int .i64 0), (.int .i64 0), (.slice none 0 0)] []), oS ⟨some 13, .call
 zS6 [11, 12], none⟩ AG, ia 6 13]) .ret) (.seq (.region [o1 15 (.bin .eql 8 (kI 1)), ia 14 15]) (.cond 14 (.seq (.region [im 16 2, o1 17
 (.ixA 1 16 (kI 0)), ld 18 17, ia 6 18]) .ret) .skip)))))))) (.seq (.region [im 19 0, im 20 1, im 21 2, o1 22 (.build [(.int .i64 0), (.int .u64 0), (.int .u64 0), (.int .u64 0),
 (.int .u64 0), (.int .i64 0), (.int .i64 0), (.slice none 0 0)] [(0, 1, 20), (7, 1, 21)]), oS ⟨some 23, .call zS6 [19, 22], none⟩ AG, ia
 6 23]) .ret)))
def Da : AFn := ⟨ Sv, Ev.erase, [.tmp 6], 3⟩
def GB (P : Pg) (x : (Aa × (Int × (List Int)))) (K : Int → Aa → Prop) : Prop :=
 Ag (D := (Int × Aa)) (fun J1 => ((((x.2.2.length : Int) == (0 : Int)) = true → Fn P zS6 AG (x.1, ((0 : Int), (((0 : Int), ((0 : Int), ((0 : Int), (0 : Int)))), ((0 : Int), ((0 : Int), []))))) (fun (d3 : Int) (e4 : Aa) => K d3 e4)) ∧ (((x.2.2.length : Int) == (0 : Int)) = false → ((((x.2.2.length : Int) == (1 : Int)) = true → (0 ≤ (0 : Int) ∧ (0 : Int) < (x.2.2.length : Int)) ∧
 ((Int.toNat (0 : Int)) < x.2.2.length) ∧
 K (List.getD x.2.2 (Int.toNat (0 : Int)) (0 : Int)) x.1) ∧ (((x.2.2.length : Int) == (1 : Int)) = false → J1 ((0 : Int), x.1)))))) (fun d2 => Fn P zS6 AG (d2.2, (x.2.1, (((0 : Int), ((0 : Int), ((0 : Int), (0 : Int)))), ((0 : Int), ((0 : Int), x.2.2))))) (fun (d5 : Int) (e6 : Aa) => K d5 e6))
theorem JR {P : Pg} (h : Has P Da) {x : DP A5.ps} {K : DP A5.rs → DP (ptrs A5.ps) → Prop} (hw : GB P x K) : Fn P Sv A5 x K :=
 BI (c := Ev) h rfl rfl (by kernel_rfl) (Eq.mpr (show BC P Da A5 Ev x K = _ by kernel_rfl) hw)
def EN : Be :=
 (.seq (.region [o1 2 (.asg (.c (.int .u8 0))), o1 3 (.asg kF)]) (.seq (.seq (.draw [(.first (im 4 0) (.first (o1 5 (.nilc 4)) (.first (fa 6 1 5) (.first (ld 7 6) (.first (im 8 0)
 (.first (o1 9 (.nilc 8)) (.first (fa 10 0 9) (.first (ld 11 10) (.first (o1 12 (.lenS 11)) (.first (o1 13 (.bin .eql 7 12)) .done))))))))))]) (.cond 13 (.seq (.region [o1 2 (.asg
 (.c (.int .u8 0))), o1 3 (.asg kF)]) .ret) .skip)) (.seq (.frame (rg [2, 3] 14 9) [] false (.join [.sl 2 false (.int .u8) .leaf, .sl 3 false .bool .leaf] (.draw [(.first (im 14 0)
 (.first (o1 15 (.nilc 14)) (.first (fa 16 0 15) (.first (ld 17 16) (.first (im 18 0) (.first (o1 19 (.nilc 18)) (.first (fa 20 1 19) (.first (ld 21 20) (.first (o1 22 (.ixS 17 21))
 (.alt (ia 2 22) (.alt (o1 3 (.asg kT)) .done .stop) .stop))))))))))]))) .ret)))
def Dn : AFn := ⟨ zS7, EN.erase, [.tmp 2, .tmp 3], 1⟩
def GV (P : Pg) (x : Aa) (K : (Int × Bool) → Aa → Prop) : Prop :=
 (((x.2.1 == (x.1.length : Int)) = true → K ((0 : Int), false) x) ∧ ((x.2.1 == (x.1.length : Int)) = false → Ag (D := (Int × Bool)) (fun J1 => (0 ≤ x.2.1 ∧ x.2.1 < (x.1.length : Int)) ∧
 ((J1 (((x.1.getD x.2.1.toNat 0).toNat : Int), true)) ∧ True) ∧ True) (fun d2 => K d2 x)))
theorem Ku {P : Pg} (h : Has P Dn) {x : DP AF.ps} {K : DP AF.rs → DP (ptrs AF.ps) → Prop} (hw : GV P x K) : Fn P zS7 AF x K :=
 BI (c := EN) h rfl rfl (by kernel_rfl) (Eq.mpr (show BC P Dn AF EN x K = _ by kernel_rfl) hw)
def D7 : Be :=
 (.seq (.region [ia 4 (kI 0)]) (.seq (.region [im 8 0, o1 9 (.nilc 8), fa 10 1 9, ld 11 10, o1 12 (.bin .add 11 (kI 1)), o1 13 (.nilc 8), fa 14 1 13, o0 ⟨none, .store 1 14 12,
 none⟩]) (.seq (.region [im 15 0, im 16 1, o1 17 (.build [(.int .i64 0), (.int .u64 0), (.int .u64 0), (.int .u64 0), (.int .u64 0), (.int .i64 0), (.int .i64 0), (.slice none 0 0)]
 [(0, 1, 16)]), oS ⟨some 18, .call zS6 [15, 17], none⟩ AG, ia 5 18]) (.seq (.seq (.region [im 20 0, oS ⟨some 21, .call
 zS7 [20], none⟩ AF, im 19 21, o1 22 (.ext 19 0), o1 23 (.ext 19 1), ia 6 22, ia 7 23]) (.seq (.region [im 24 7, im 25 24, gt 26 25
 (.mv 6), oS ⟨some 27, .call "strings.IndexByte" [(.c (.string ⟨#[42, 43, 63, 123]⟩)), 26], some (25, true)⟩ Dt, gt 28 25 (.bin .geq 27 (kI 0)), o1 29 (.pick 25 28
 kF)]) (.frame [30] [] false (.join [] (.cond 29 (.region [o1 30 (.mkI 26 (kI 40)), o0 ⟨none, .panic 30, none⟩]) .skip))))) (.seq (.region [im 31 5, ia 4 31]) .ret)))))
def CX : AFn := ⟨ Um, D7.erase, [.tmp 4], 2⟩
def FO (P : Pg) (x : (Aa × Int)) (K : Int → Aa → Prop) : Prop :=
 Fn P zS6 AG ((x.1.1, ((i64.wrap (x.1.2.1 + (1 : Int))), x.1.2.2)), (x.2, (((0 : Int), ((0 : Int), ((0 : Int), (0 : Int)))), ((0 : Int), ((0 : Int), []))))) (fun (d1 : Int) (e2 : Aa) => Fn P zS7 AF e2 (fun (d3 : (Int × Bool)) (e4 : Aa) => Ag (D := Int) (fun J5 => ((d3.2 = true → Fn P "strings.IndexByte" Dt (([42, 43, 63, 123] : List UInt8), d3.1) (fun (d6 : Int) _ => J5 d6)) ∧ ((d3.2 = false → J5 (0 : Int)) ∧ True))) (fun d7 => Ag (D := Unit) (fun J8 => (((cond d3.2 (decide (d7 ≥ (0 : Int))) false) = true → P.kp (.iface 26 (.int .i64 (40 : Int)))) ∧ ((cond d3.2 (decide (d7 ≥ (0 : Int))) false) = false → J8 ()))) (fun d9 => K d1 e4))))
theorem Jl {P : Pg} (h : Has P CX) {x : DP AY.ps} {K : DP AY.rs → DP (ptrs AY.ps) → Prop} (hw : FO P x K) : Fn P Um AY x K :=
 BI (c := D7) h rfl rfl (by kernel_rfl) (Eq.mpr (show BC P CX AY D7 x K = _ by kernel_rfl) hw)
def EO : Be :=
 (.seq (.region [o1 4 (.asg (.c .nilFunc))]) (.seq (.seq (.region [im 5 1]) (.frame (rg [4] 6 22) [] false (.join [] (.block 0 (.seq (.region [o1 7 (.bin .eql 5 (.c (.int .u8 40))),
 ia 6 7]) (.cond 6 (.seq (.region [im 8 0, o1 9 (.mkf (Ur, true) [8]), ia 4 9]) .ret) (.seq (.region [o1 11 (.bin .eql 5 (.c (.int .u8 91))), ia
 10 11]) (.cond 10 (.seq (.region [im 12 0, o1 13 (.mkf (Us, true) [12]), ia 4 13]) .ret) (.seq (.region [o1 15 (.bin .eql 5 (.c (.int .u8 46))), ia
 14 15]) (.cond 14 (.seq (.region [im 16 0, o1 17 (.mkf (Ut, true) [16]), ia 4 17]) .ret) (.seq (.region [o1 19 (.bin .eql 5 (.c (.int .u8 92))), ia 18
 19]) (.cond 18 (.seq (.region [im 20 0, o1 21 (.mkf (XD, true) [20]), ia 4 21]) .ret) (.seq (.seq (.region [o1 23 (.bin .eql 5 (.c (.int .u8 42))),
 ia 22 23]) (.frame [22, 24, 25, 26] [] false (.join [.sl 22 false .bool .leaf] (.cond 22 .skip (.seq (.region [o1 24 (.bin .eql 5 (.c (.int .u8 43))), ia 22 24]) (.frame [22, 25,
 26] [] false (.join [.sl 22 false .bool .leaf] (.cond 22 .skip (.seq (.region [o1 25 (.bin .eql 5 (.c (.int .u8 63))), ia 22 25]) (.frame [22, 26] [] false (.join [.sl 22 false
 .bool .leaf] (.cond 22 .skip (.region [o1 26 (.bin .eql 5 (.c (.int .u8 123))), ia 22 26]))))))))))))) (.frame [27] [] false (.join [] (.cond 22 (.region [o1 27 (.mkI 26 (kI 40)),
 o0 ⟨none, .panic 27, none⟩]) .skip)))))))))))))))) (.seq (.region [im 28 0, o1 29 (.mkf (XE, true) [28]), ia 4 29]) .ret)))
def Dp : AFn := ⟨ Y1, EO.erase, [.tmp 4], 2⟩
def GW (P : Pg) (x : (Aa × Int)) (K : Int → Aa → Prop) : Prop :=
 Ag (D := Unit) (fun J1 => (((x.2 == (40 : Int)) = true → K (0 : Int) x.1) ∧ ((x.2 == (40 : Int)) = false → (((x.2 == (91 : Int)) = true → K (1 : Int) x.1) ∧ ((x.2 == (91 : Int)) = false → (((x.2 == (46 : Int)) = true → K (2 : Int) x.1) ∧ ((x.2 == (46 : Int)) = false → (((x.2 == (92 : Int)) = true → K (3 : Int) x.1) ∧ ((x.2 == (92 : Int)) = false → Ag (D := Bool) (fun J3 => (((x.2 == (42 : Int)) = true → J3 (x.2 == (42 : Int))) ∧ ((x.2 == (42 : Int)) = false → Ag (D := Bool) (fun J5 => (((x.2 == (43 : Int)) = true → J5 (x.2 == (43 : Int))) ∧ ((x.2 == (43 : Int)) = false → Ag (D := Bool) (fun J7 => (((x.2 == (63 : Int)) = true → J7 (x.2 == (63 : Int))) ∧ ((x.2 == (63 : Int)) = false → J7 (x.2 == (123 : Int))))) (fun d8 => J5 d8)))) (fun d6 => J3 d6)))) (fun d4 => Ag (D := Unit) (fun J9 => ((d4 = true → P.kp (.iface 26 (.int .i64 (40 : Int)))) ∧ (d4 = false → J9 ()))) (fun d10 => J1 ()))))))))))) (fun d2 => K (4 : Int) x.1)
theorem Kv {P : Pg} (h : Has P Dp) {x : DP BH.ps} {K : DP BH.rs → DP (ptrs BH.ps) → Prop} (hw : GW P x K) : Fn P Y1 BH x K :=
 BI (c := EO) h rfl rfl (by kernel_rfl) (Eq.mpr (show BC P Dp BH EO x K = _ by kernel_rfl) hw)
def Fa : Be :=
 (.seq (.region [o1 4 (.asg kF)]) (.seq (.region [im 8 0, oS ⟨some 9, .call zS7 [8], none⟩ AF, im 7 9, o1 10 (.ext 7 0), o1 11 (.ext 7
 1), ia 5 10, ia 6 11]) (.seq (.seq (.region [im 12 6, o1 13 (.un .not 12), im 14 13, gf 15 14 (.mv 5), gf 16 14 (.mv 1), gf 17 14 (.bin .neq 15 16), o1 18 (.pick 14 kT 17)]) (.cond
 18 (.seq (.region [o1 4 (.asg kF)]) .ret) .skip)) (.seq (.region [im 19 0, o1 20 (.nilc 19), fa 21 1 20, ld 22 21, o1 23 (.bin .add 22 (kI 1)), o1 24 (.nilc 19), fa 25 1 24, o0
 ⟨none, .store 1 25 23, none⟩]) (.seq (.region [o1 4 (.asg kT)]) .ret)))))
def DG : AFn := ⟨ zS3, Fa.erase, [.tmp 4], 2⟩
def Hy (P : Pg) (x : (Aa × Int)) (K : Bool → Aa → Prop) : Prop :=
 Fn P zS7 AF x.1 (fun (d1 : (Int × Bool)) (e2 : Aa) => (((cond (!d1.2) true (d1.1 != x.2)) = true → K false e2) ∧ ((cond (!d1.2) true (d1.1 != x.2)) = false → K true (e2.1, ((i64.wrap (e2.2.1 + (1 : Int))), e2.2.2)))))
theorem Lz {P : Pg} (h : Has P DG) {x : DP As.ps} {K : DP As.rs → DP (ptrs As.ps) → Prop} (hw : Hy P x K) : Fn P zS3 As x K :=
 BI (c := Fa) h rfl rfl (by kernel_rfl) (Eq.mpr (show BC P DG As Fa x K = _ by kernel_rfl) hw)
def JF : Be :=
 (.seq (.region [o1 4 (.asg kF)]) (.seq (.region [im 5 1, im 6 0, o1 7 (.lenS 6), o1 8 (.bin .lss 5 7), im 9 8, gt 10 9 (.mv 0), gt 11 9 (.mv 1), gt 12 9 (.ixS 10 11), gt 13 9 (.bin
 .geq 12 (.c (.int .u8 48))), o1 14 (.pick 9 13 kF), im 15 14, gt 16 15 (.mv 0), gt 17 15 (.mv 1), gt 18 15 (.ixS 16 17), gt 19 15 (.bin .leq 18 (.c (.int .u8 57))), o1 20 (.pick 15
 19 kF), ia 4 20]) .ret))
def G0 : AFn := ⟨ VH, JF.erase, [.tmp 4], 2⟩
def ME (P : Pg) (x : ((List UInt8) × Int)) (K : Bool → Unit → Prop) : Prop :=
 (((decide (x.2 < (x.1.length : Int))) = true → 0 ≤ x.2 ∧ x.2 < (x.1.length : Int))) ∧
 (((cond (decide (x.2 < (x.1.length : Int))) (decide (((x.1.getD x.2.toNat 0).toNat : Int) ≥ (48 : Int))) false) = true → 0 ≤ x.2 ∧ x.2 < (x.1.length : Int))) ∧
 K (cond (cond (decide (x.2 < (x.1.length : Int))) (decide (((x.1.getD x.2.toNat 0).toNat : Int) ≥ (48 : Int))) false) (decide (((x.1.getD x.2.toNat 0).toNat : Int) ≤ (57 : Int))) false) ()
theorem QD {P : Pg} (h : Has P G0) {x : DP Cy.ps} {K : DP Cy.rs → DP (ptrs Cy.ps) → Prop} (hw : ME P x K) : Fn P VH Cy x K :=
 BI (c := JF) h rfl rfl (by kernel_rfl) (Eq.mpr (show BC P G0 Cy JF x K = _ by kernel_rfl) hw)
def IJ : Be :=
 (.seq (.region [ia 4 (kI 0), ia 5 (kI 0), o1 6 (.asg kF)]) (.seq (.seq (.region [im 9 1, o1 10 (.bin .lss 9 (kI 0)), im 11 10, gf 12 11 (.mv 0), gf 13 11 (.mv 1), oS ⟨some 14,
 .call VH [12, 13], some (11, false)⟩ Cy, gf 15 11 (.un .not 14), o1 16 (.pick 11 kT 15)]) (.cond 16 (.seq (.region [ia 4 (kI 0), ia 5 (kI 0), o1 6
 (.asg kF)]) .ret) .skip)) (.seq (.region [im 17 1, ia 7 (kI 0), ia 8 17]) (.seq (.frame (rg [7, 8] 18 14) [] false (.join [.si 7, .si 8] (.block 0 (.loop [.si 7, .si 8] (.seq (.seq
 (.region [im 18 0, im 19 8, oS ⟨some 20, .call VH [18, 19], none⟩ Cy]) (.cond 20 .skip (.exit 0))) (.seq (.frame (rg [7] 23 9) [] false (.join [.si 7]
 (.block 1 (.region [im 23 7, o1 24 (.bin .mul (kI 10) 23), im 25 0, im 26 8, o1 27 (.ixS 25 26), o1 28 (.bin .sub 27 (.c (.int .u8 48))), o1 29 (.conv (.toInt .i64) 28), o1 30
 (.bin .add 24 29), o1 31 (.mm false 30 (kI 2147483648)), ia 7 31])))) (.region [im 21 8, o1 22 (.bin .add 21 (kI 1)), ia 8 22]))))))) (.seq (.seq (.region [im 32 7, o1 33 (.bin
 .gtr 32 (kI 2147483647)), im 34 33, gf 35 34 (.mv 0), gf 36 34 (.mv 1), gf 37 34 (.ixS 35 36), gf 38 34 (.bin .eql 37 (.c (.int .u8 48))), gf 39 34 (.mv 38), gt 40 39 (.mv 8), gt
 41 39 (.mv 1), gt 42 39 (.bin .add 41 (kI 1)), gt 43 39 (.bin .gtr 40 42), gf 44 34 (.pick 39 43 kF), o1 45 (.pick 34 kT 44)]) (.cond 45 (.seq (.region [ia 4 (kI 0), ia 5 (kI 0),
 o1 6 (.asg kF)]) .ret) .skip)) (.seq (.region [im 46 7, im 47 8, ia 4 46, ia 5 47, o1 6 (.asg kT)]) .ret))))))
def Gn : AFn := ⟨ Y2, IJ.erase, [.tmp 4, .tmp 5, .tmp 6], 2⟩
def LV (P : Pg) (x : ((List UInt8) × Int)) (K : (Int × (Int × Bool)) → Unit → Prop) : Prop :=
 Ag (D := Bool) (fun J1 => (((decide (x.2 < (0 : Int))) = false → Fn P VH Cy x (fun (d2 : Bool) _ => J1 d2)) ∧ (((decide (x.2 < (0 : Int))) = true → J1 false) ∧ True))) (fun d3 => (((cond (decide (x.2 < (0 : Int))) true (!d3)) = true → K ((0 : Int), ((0 : Int), false)) ()) ∧ ((cond (decide (x.2 < (0 : Int))) true (!d3)) = false → Ag (D := (Int × Int)) (fun J4 => B0 (D := (Int × Int)) ((0 : Int), x.2) (fun d6 J7 => Fn P VH Cy (x.1, d6.2) (fun (d8 : Bool) (e9 : Unit) => ((d8 = true → Ag (D := Int) (fun J10 => (0 ≤ d6.2 ∧ d6.2 < (x.1.length : Int)) ∧
 J10 (if (2147483648 : Int) < (i64.wrap ((i64.wrap ((10 : Int) * d6.1)) + (i64.wrap (u8.wrap (((x.1.getD d6.2.toNat 0).toNat : Int) - (48 : Int)))))) then (2147483648 : Int) else (i64.wrap ((i64.wrap ((10 : Int) * d6.1)) + (i64.wrap (u8.wrap (((x.1.getD d6.2.toNat 0).toNat : Int) - (48 : Int)))))))) (fun d11 => J7 (d11, (i64.wrap (d6.2 + (1 : Int)))))) ∧ (d8 = false → J4 d6))))) (fun d5 => (((decide (d5.1 > (2147483647 : Int))) = false → 0 ≤ x.2 ∧ x.2 < (x.1.length : Int))) ∧
 (((cond (decide (d5.1 > (2147483647 : Int))) true (cond (((x.1.getD x.2.toNat 0).toNat : Int) == (48 : Int)) (decide (d5.2 > (i64.wrap (x.2 + (1 : Int))))) false)) = true → K ((0 : Int), ((0 : Int), false)) ()) ∧ ((cond (decide (d5.1 > (2147483647 : Int))) true (cond (((x.1.getD x.2.toNat 0).toNat : Int) == (48 : Int)) (decide (d5.2 > (i64.wrap (x.2 + (1 : Int))))) false)) = false → K (d5.1, (d5.2, true)) ()))))))
theorem PC {P : Pg} (h : Has P Gn) {x : DP CM.ps} {K : DP CM.rs → DP (ptrs CM.ps) → Prop} (hw : LV P x K) : Fn P Y2 CM x K :=
 BI (c := IJ) h rfl rfl (by kernel_rfl) (Eq.mpr (show BC P Gn CM IJ x K = _ by kernel_rfl) hw)
def Ea : Be :=
 (.seq (.region [ia 2 (kI 0)]) (.seq (.frame (rg [] 3 16) [] false (.join [.si 3, .si 4, .sl 5 false .bool .leaf] (.draw [(.first (im 7 0) (.first (o1 8 (.nilc 7)) (.first (fa 9 0
 8) (.first (ld 10 9) (.first (im 11 0) (.first (o1 12 (.nilc 11)) (.first (fa 13 1 12) (.first (ld 14 13) (.alt (oS ⟨some 15, .call Y2 [10, 14], none⟩
 CM) (.first (im 6 15) (.alt (o1 16 (.ext 6 0)) (.alt (o1 17 (.ext 6 1)) (.alt (o1 18 (.ext 6 2)) (.alt (ia 3 16) (.alt (ia 4 17) (.alt (ia 5 18) .done .stop) .stop)
 .stop) (.alt (ia 3 16) (.alt (o1 18 (.ext 6 2)) (.alt (ia 4 17) (.alt (ia 5 18) .done .stop) .stop) (.alt (ia 4 17) (.alt (o1 18 (.ext 6 2)) (.alt (ia 5 18) .done .stop) .stop)
 .stop)) .stop)) (.alt (o1 18 (.ext 6 2)) (.alt (o1 17 (.ext 6 1)) (.alt (ia 3 16) (.alt (ia 4 17) (.alt (ia 5 18) .done .stop) .stop) .stop) (.alt (ia 3 16) (.alt (o1 17 (.ext 6
 1)) (.alt (ia 4 17) (.alt (ia 5 18) .done .stop) .stop) .stop) .stop)) (.alt (ia 3 16) (.alt (o1 17 (.ext 6 1)) (.alt (o1 18 (.ext 6 2)) (.alt (ia 4 17) (.alt (ia 5 18) .done
 .stop) .stop) (.alt (ia 4 17) (.alt (o1 18 (.ext 6 2)) (.alt (ia 5 18) .done .stop) .stop) .stop)) (.alt (o1 18 (.ext 6 2)) (.alt (o1 17 (.ext 6 1)) (.alt (ia 4 17) (.alt (ia 5 18)
 .done .stop) .stop) .stop) .stop)) .stop))) (.alt (o1 17 (.ext 6 1)) (.alt (o1 16 (.ext 6 0)) (.alt (o1 18 (.ext 6 2)) (.alt (ia 3 16) (.alt (ia 4 17) (.alt (ia 5 18) .done .stop)
 .stop) .stop) (.alt (ia 3 16) (.alt (o1 18 (.ext 6 2)) (.alt (ia 4 17) (.alt (ia 5 18) .done .stop) .stop) (.alt (ia 4 17) (.alt (o1 18 (.ext 6 2)) (.alt (ia 5 18) .done .stop)
 .stop) .stop)) .stop)) (.alt (o1 18 (.ext 6 2)) (.alt (o1 16 (.ext 6 0)) (.alt (ia 3 16) (.alt (ia 4 17) (.alt (ia 5 18) .done .stop) .stop) .stop) .stop) .stop)) (.alt (o1 18
 (.ext 6 2)) (.alt (o1 16 (.ext 6 0)) (.alt (o1 17 (.ext 6 1)) (.alt (ia 3 16) (.alt (ia 4 17) (.alt (ia 5 18) .done .stop) .stop) .stop) (.alt (ia 3 16) (.alt (o1 17 (.ext 6 1))
 (.alt (ia 4 17) (.alt (ia 5 18) .done .stop) .stop) .stop) .stop)) (.alt (o1 17 (.ext 6 1)) (.alt (o1 16 (.ext 6 0)) (.alt (ia 3 16) (.alt (ia 4 17) (.alt (ia 5 18) .done .stop)
 .stop) .stop) .stop) .stop)) .stop)))) .stop)))))))))]))) (.seq (.seq (.region [im 19 5, o1 20 (.un .not 19), im 21 20, gf 22 21 (.mv 3), gf 23 21 (.bin .gtr 22 (kI 100)), o1 24
 (.pick 21 kT 23)]) (.frame [25] [] false (.join [] (.cond 24 (.region [o1 25 (.mkI 26 (kI 40)), o0 ⟨none, .panic 25, none⟩]) .skip)))) (.seq (.region [im 26 0, im 27 4, o1 28
 (.nilc 26), fa 29 1 28, o0 ⟨none, .store 1 29 27, none⟩]) (.seq (.region [im 30 3, ia 2 30]) .ret)))))
def C0 : AFn := ⟨ Un, Ea.erase, [.tmp 2], 1⟩
def FR (P : Pg) (x : Aa) (K : Int → Aa → Prop) : Prop :=
 Ag (D := (Int × (Int × Bool))) (fun J1 => (Fn P Y2 CM (x.1, x.2.1) (fun (d3 : (Int × (Int × Bool))) (e4 : Unit) => ((((((J1 d3) ∧ True) ∧ True) ∧ True) ∧ (((((J1 d3) ∧ True) ∧ True) ∧ ((((J1 d3) ∧ True) ∧ True) ∧ True)) ∧ True)) ∧ ((((((J1 d3) ∧ True) ∧ True) ∧ True) ∧ (((((J1 d3) ∧ True) ∧ True) ∧ True) ∧ True)) ∧ ((((((J1 d3) ∧ True) ∧ True) ∧ ((((J1 d3) ∧ True) ∧ True) ∧ True)) ∧ (((((J1 d3) ∧ True) ∧ True) ∧ True) ∧ True)) ∧ True))) ∧ (((((((J1 d3) ∧ True) ∧ True) ∧ True) ∧ (((((J1 d3) ∧ True) ∧ True) ∧ ((((J1 d3) ∧ True) ∧ True) ∧ True)) ∧ True)) ∧ ((((((J1 d3) ∧ True) ∧ True) ∧ True) ∧ True) ∧ True)) ∧ (((((((J1 d3) ∧ True) ∧ True) ∧ True) ∧ (((((J1 d3) ∧ True) ∧ True) ∧ True) ∧ True)) ∧ ((((((J1 d3) ∧ True) ∧ True) ∧ True) ∧ True) ∧ True)) ∧ True)))) ∧ True) (fun d2 => Ag (D := Unit) (fun J5 => (((cond (!d2.2.2) true (decide (d2.1 > (100 : Int)))) = true → P.kp (.iface 26 (.int .i64 (40 : Int)))) ∧ ((cond (!d2.2.2) true (decide (d2.1 > (100 : Int)))) = false → J5 ()))) (fun d6 => K d2.1 (x.1, (d2.2.1, x.2.2))))
theorem Jo {P : Pg} (h : Has P C0) {x : DP AZ.ps} {K : DP AZ.rs → DP (ptrs AZ.ps) → Prop} (hw : FR P x K) : Fn P Un AZ x K :=
 BI (c := Ea) h rfl rfl (by kernel_rfl) (Eq.mpr (show BC P C0 AZ Ea x K = _ by kernel_rfl) hw)
def D8 : Be :=
 (.seq (.region [ia 2 (kI 0), ia 3 (kI 0)]) (.seq (.region [im 6 0, oS ⟨some 7, .call Un [6], none⟩ AZ, ia 2 7]) (.seq (.region
 [im 8 2, ia 3 8]) (.seq (.seq (.region [im 9 0, oS ⟨some 10, .call zS3 [9, (.c (.int .u8 44))], none⟩ As]) (.frame (rg [3, 4, 5] 11 12)
 [0] true (.join [.si 3, .bx 0 Aw (.pair .leaf (.pair .leaf (.pair .leaf (.node .own (.pair .leaf (.pair .leaf (.pair .leaf (.pair .leaf tM))))))))] (.cond 10 (.seq
 (.region [ia 3 (kI (-1))]) (.seq (.region [im 12 0, oS ⟨some 13, .call zS7 [12], none⟩ AF, im 11 13, o1 14 (.ext 11 0), o1 15 (.ext 11
 1), ia 4 14, ia 5 15]) (.seq (.region [im 16 5, im 17 16, gt 18 17 (.mv 4), gt 19 17 (.bin .neq 18 (.c (.int .u8 125))), o1 20 (.pick 17 19 kF)]) (.frame [3, 21, 22] [0] true
 (.join [.si 3, .bx 0 Aw (.pair .leaf (.pair .leaf (.pair .leaf (.node .own (.pair .leaf (.pair .leaf (.pair .leaf (.pair .leaf tM))))))))] (.cond 20 (.region [im 21 0,
 oS ⟨some 22, .call Un [21], none⟩ AZ, ia 3 22]) .skip)))))) .skip)))) (.seq (.seq (.region [im 23 0, oS ⟨some 24, .call
 zS3 [23, (.c (.int .u8 125))], none⟩ As, o1 25 (.un .not 24), im 26 25, gf 27 26 (.mv 3), gf 28 26 (.bin .geq 27 (kI 0)), gf 29 26 (.mv
 28), gt 30 29 (.mv 3), gt 31 29 (.mv 2), gt 32 29 (.bin .lss 30 31), gf 33 26 (.pick 29 32 kF), o1 34 (.pick 26 kT 33)]) (.frame [35] [] false (.join [] (.cond 34 (.region [o1 35
 (.mkI 26 (kI 40)), o0 ⟨none, .panic 35, none⟩]) .skip)))) (.seq (.region [im 36 2, im 37 3, ia 2 36, ia 3 37]) .ret))))))
def CY : AFn := ⟨ XI, D8.erase, [.tmp 2, .tmp 3], 1⟩
def FP (P : Pg) (x : Aa) (K : (Int × Int) → Aa → Prop) : Prop :=
 Fn P Un AZ x (fun (d1 : Int) (e2 : Aa) => Fn P zS3 As (e2, (44 : Int)) (fun (d3 : Bool) (e4 : Aa) => Ag (D := (Int × Aa)) (fun J5 => ((d3 = true → Fn P zS7 AF e4 (fun (d7 : (Int × Bool)) (e8 : Aa) => Ag (D := (Int × Aa)) (fun J9 => (((cond d7.2 (d7.1 != (125 : Int)) false) = true → Fn P Un AZ e8 (fun (d11 : Int) (e12 : Aa) => J9 (d11, e12))) ∧ ((cond d7.2 (d7.1 != (125 : Int)) false) = false → J9 ((-1 : Int), e8)))) (fun d10 => J5 d10))) ∧ (d3 = false → J5 (d1, e4)))) (fun d6 => Fn P zS3 As (d6.2, (125 : Int)) (fun (d13 : Bool) (e14 : Aa) => Ag (D := Unit) (fun J15 => (((cond (!d13) true (cond (decide (d6.1 ≥ (0 : Int))) (decide (d6.1 < d1)) false)) = true → P.kp (.iface 26 (.int .i64 (40 : Int)))) ∧ ((cond (!d13) true (cond (decide (d6.1 ≥ (0 : Int))) (decide (d6.1 < d1)) false)) = false → J15 ()))) (fun d16 => K (d1, d6.1) e14)))))
theorem Jm {P : Pg} (h : Has P CY) {x : DP Bf.ps} {K : DP Bf.rs → DP (ptrs Bf.ps) → Prop} (hw : FP P x K) : Fn P XI Bf x K :=
 BI (c := D8) h rfl rfl (by kernel_rfl) (Eq.mpr (show BC P CY Bf D8 x K = _ by kernel_rfl) hw)
def C6 : Be :=
 (.seq (.region [ia 2 (kI 0), ia 3 (kI 0), o1 4 (.asg kF)]) (.seq (.frame (rg [] 2 22) [0] true (.join [.si 2, .si 3, .sl 4 false .bool .leaf, .bx 0 Aw (.pair .leaf
 (.pair .leaf (.pair .leaf (.node .own (.pair .leaf (.pair .leaf (.pair .leaf (.pair .leaf tM))))))))] (.block 0 (.seq (.region [im 6 0, oS ⟨some 7, .call
 zS3 [6, (.c (.int .u8 42))], none⟩ As, ia 5 7]) (.cond 5 (.seq (.region [ia 2 (kI 0), ia 3 (kI (-1)), o1 4 (.asg kT)]) .ret) (.seq
 (.region [im 9 0, oS ⟨some 10, .call zS3 [9, (.c (.int .u8 43))], none⟩ As, ia 8 10]) (.cond 8 (.seq (.region [ia 2 (kI 1), ia 3 (kI
 (-1)), o1 4 (.asg kT)]) .ret) (.seq (.region [im 12 0, oS ⟨some 13, .call zS3 [12, (.c (.int .u8 63))], none⟩ As, ia 11 13]) (.cond 11
 (.seq (.region [ia 2 (kI 0), ia 3 (kI 1), o1 4 (.asg kT)]) .ret) (.seq (.region [im 15 0, oS ⟨some 16, .call zS3 [15, (.c (.int .u8 123))], none⟩
 As, ia 14 16]) (.cond 14 (.seq (.region [im 18 0, oS ⟨some 19, .call XI [18], none⟩ Bf, im 17 19, o1 20 (.ext 17
 0), o1 21 (.ext 17 1), ia 2 20, ia 3 21]) (.seq (.region [im 22 2, im 23 3, ia 2 22, ia 3 23, o1 4 (.asg kT)]) .ret)) .skip))))))))))) (.seq (.region [ia 2 (kI 0), ia 3 (kI 0), o1
 4 (.asg kF)]) .ret)))
def Cn : AFn := ⟨ Y3, C6.erase, [.tmp 2, .tmp 3, .tmp 4], 1⟩
def EF (P : Pg) (x : Aa) (K : (Int × (Int × Bool)) → Aa → Prop) : Prop :=
 Ag (D := (Int × (Int × (Bool × Aa)))) (fun J1 => Fn P zS3 As (x, (42 : Int)) (fun (d3 : Bool) (e4 : Aa) => ((d3 = true → K ((0 : Int), ((-1 : Int), true)) e4) ∧ (d3 = false → Fn P zS3 As (e4, (43 : Int)) (fun (d5 : Bool) (e6 : Aa) => ((d5 = true → K ((1 : Int), ((-1 : Int), true)) e6) ∧ (d5 = false → Fn P zS3 As (e6, (63 : Int)) (fun (d7 : Bool) (e8 : Aa) => ((d7 = true → K ((0 : Int), ((1 : Int), true)) e8) ∧ (d7 = false → Fn P zS3 As (e8, (123 : Int)) (fun (d9 : Bool) (e10 : Aa) => ((d9 = true → Fn P XI Bf e10 (fun (d11 : (Int × Int)) (e12 : Aa) => K (d11.1, (d11.2, true)) e12)) ∧ (d9 = false → J1 ((0 : Int), ((0 : Int), (false, e10)))))))))))))))) (fun d2 => K ((0 : Int), ((0 : Int), false)) d2.2.2.2)
theorem HH {P : Pg} (h : Has P Cn) {x : DP A7.ps} {K : DP A7.rs → DP (ptrs A7.ps) → Prop} (hw : EF P x K) : Fn P Y3 A7 x K :=
 BI (c := C6) h rfl rfl (by kernel_rfl) (Eq.mpr (show BC P Cn A7 C6 x K = _ by kernel_rfl) hw)
def CV : Be :=
 (.seq (.region [ia 2 (kI 0)]) (.seq (.seq (.region [im 4 0, o1 5 (.nilc 4), fa 6 2 5, ld 7 6, o1 8 (.bin .eql 7 (kI 50))]) (.frame [9] [] false (.join [] (.cond 8 (.region [o1 9
 (.mkI 26 (kI 1)), o0 ⟨none, .panic 9, none⟩]) .skip)))) (.seq (.region [im 10 0, o1 11 (.nilc 10), fa 12 1 11, ld 13 12, o1 14 (.bin .add 13 (kI 1)), o1 15 (.nilc 10), fa 16 1 15,
 o0 ⟨none, .store 1 16 14, none⟩]) (.seq (.region [im 17 0, o1 18 (.nilc 17), fa 19 2 18, ld 20 19, o1 21 (.bin .add 20 (kI 1)), o1 22 (.nilc 17), fa 23 2 22, o0 ⟨none, .store 1 23
 21, none⟩]) (.seq (.region [im 24 0, oS ⟨some 25, .call Uo [24], none⟩ AQ, ia 3 25]) (.seq (.region [im 26 0, o1 27 (.nilc 26),
 fa 28 2 27, ld 29 28, o1 30 (.bin .sub 29 (kI 1)), o1 31 (.nilc 26), fa 32 2 31, o0 ⟨none, .store 1 32 30, none⟩]) (.seq (.seq (.region [im 33 0, oS ⟨some 34, .call
 zS3 [33, (.c (.int .u8 41))], none⟩ As, o1 35 (.un .not 34)]) (.frame [36] [] false (.join [] (.cond 35 (.region [o1 36 (.mkI 26 (kI
 40)), o0 ⟨none, .panic 36, none⟩]) .skip)))) (.seq (.region [im 37 3, ia 2 37]) .ret))))))))
def A4 : AFn := ⟨ Ur, CV.erase, [.tmp 2], 1⟩
def Ek (P : Pg) (x : Aa) (K : Int → Aa → Prop) : Prop :=
 Ag (D := Unit) (fun J1 => (((x.2.2.1 == (50 : Int)) = true → P.kp (.iface 26 (.int .i64 (1 : Int)))) ∧ ((x.2.2.1 == (50 : Int)) = false → J1 ()))) (fun d2 => Fn P Uo AQ (x.1, ((i64.wrap (x.2.1 + (1 : Int))), ((i64.wrap (x.2.2.1 + (1 : Int))), x.2.2.2))) (fun (d3 : Int) (e4 : Aa) => Fn P zS3 As ((e4.1, (e4.2.1, ((i64.wrap (e4.2.2.1 - (1 : Int))), e4.2.2.2))), (41 : Int)) (fun (d5 : Bool) (e6 : Aa) => Ag (D := Unit) (fun J7 => (((!d5) = true → P.kp (.iface 26 (.int .i64 (40 : Int)))) ∧ ((!d5) = false → J7 ()))) (fun d8 => K d3 e6))))
theorem G8 {P : Pg} (h : Has P A4) {x : DP AP.ps} {K : DP AP.rs → DP (ptrs AP.ps) → Prop} (hw : Ek P x K) : Fn P Ur AP x K :=
 BI (c := CV) h rfl rfl (by kernel_rfl) (Eq.mpr (show BC P A4 AP CV x K = _ by kernel_rfl) hw)
def Gf : Be :=
 (.seq (.region [o1 2 (.box 0), o1 4 (.alloc [(.int .u64 0), (.int .u64 0), (.int .u64 0), (.int .u64 0)])]) (.seq (.region [im 5 1, o1 6 (.bin .quo 5 (.c (.int .u8 64))), o1 7
 (.ixAr 4 1 2 6), ld 8 7, im 9 1, o1 10 (.bin .rem 9 (.c (.int .u8 64))), o1 11 (.bin .shl (.c (.int .u64 1)) 10), o1 12 (.bin .or 8 11), o1 13 (.ixAr 4 1 2 6), o0 ⟨none, .store 1
 13 12, none⟩]) (.seq (.region [o1 14 (.load true 4 2), o0 ⟨none, .store 4 4 14, none⟩]) .ret)))
def Ey : AFn := ⟨ zS8, Gf.erase, [.cell 4 true 4], 2⟩
def IV (P : Pg) (x : ((Int × (Int × (Int × Int))) × Int)) (K : (Int × (Int × (Int × Int))) → Unit → Prop) : Prop :=
 ((64 : Int) ≠ 0) ∧
 (0 ≤ (u8.wrap (Int.tdiv x.2 (64 : Int))) ∧ (u8.wrap (Int.tdiv x.2 (64 : Int))) < ((4 : Nat) : Int)) ∧
 ((Int.toNat (u8.wrap (Int.tdiv x.2 (64 : Int)))) < 4) ∧
 ((64 : Int) ≠ 0) ∧
 (0 ≤ (Int.tmod x.2 (64 : Int))) ∧
 (0 ≤ (u8.wrap (Int.tdiv x.2 (64 : Int))) ∧ (u8.wrap (Int.tdiv x.2 (64 : Int))) < ((4 : Nat) : Int)) ∧
 ((Int.toNat (u8.wrap (Int.tdiv x.2 (64 : Int)))) < 4) ∧
 K ((if (Int.toNat (u8.wrap (Int.tdiv x.2 (64 : Int)))) = 0 then (u64.wrap ((BitVec.toNat (BitVec.ofInt u64.bits (List.getD [x.1.1, x.1.2.1, x.1.2.2.1, x.1.2.2.2] (Int.toNat (u8.wrap (Int.tdiv x.2 (64 : Int)))) (0 : Int)) ||| BitVec.ofInt u64.bits (u64.wrap ((1 : Int) * 2 ^ (min (Int.toNat (Int.tmod x.2 (64 : Int))) u64.bits)))) : Nat) : Int)) else x.1.1), ((if (Int.toNat (u8.wrap (Int.tdiv x.2 (64 : Int)))) = 1 then (u64.wrap ((BitVec.toNat (BitVec.ofInt u64.bits (List.getD [x.1.1, x.1.2.1, x.1.2.2.1, x.1.2.2.2] (Int.toNat (u8.wrap (Int.tdiv x.2 (64 : Int)))) (0 : Int)) ||| BitVec.ofInt u64.bits (u64.wrap ((1 : Int) * 2 ^ (min (Int.toNat (Int.tmod x.2 (64 : Int))) u64.bits)))) : Nat) : Int)) else x.1.2.1), ((if (Int.toNat (u8.wrap (Int.tdiv x.2 (64 : Int)))) = 2 then (u64.wrap ((BitVec.toNat (BitVec.ofInt u64.bits (List.getD [x.1.1, x.1.2.1, x.1.2.2.1, x.1.2.2.2] (Int.toNat (u8.wrap (Int.tdiv x.2 (64 : Int)))) (0 : Int)) ||| BitVec.ofInt u64.bits (u64.wrap ((1 : Int) * 2 ^ (min (Int.toNat (Int.tmod x.2 (64 : Int))) u64.bits)))) : Nat) : Int)) else x.1.2.2.1), (if (Int.toNat (u8.wrap (Int.tdiv x.2 (64 : Int)))) = 3 then (u64.wrap ((BitVec.toNat (BitVec.ofInt u64.bits (List.getD [x.1.1, x.1.2.1, x.1.2.2.1, x.1.2.2.2] (Int.toNat (u8.wrap (Int.tdiv x.2 (64 : Int)))) (0 : Int)) ||| BitVec.ofInt u64.bits (u64.wrap ((1 : Int) * 2 ^ (min (Int.toNat (Int.tmod x.2 (64 : Int))) u64.bits)))) : Nat) : Int)) else x.1.2.2.2)))) ()
theorem MQ {P : Pg} (h : Has P Ey) {x : DP AO.ps} {K : DP AO.rs → DP (ptrs AO.ps) → Prop} (hw : IV P x K) : Fn P zS8 AO x K :=
 BI (c := Gf) h rfl rfl (by kernel_rfl) (Eq.mpr (show BC P Ey AO Gf x K = _ by kernel_rfl) hw)
def EP : Be :=
 (.seq (.region [o1 2 (.asg (.c (.int .u8 0)))]) (.seq (.region [im 6 0, oS ⟨some 7, .call zS7 [6], none⟩ AF, im 5 7, o1 8 (.ext 5 0),
 o1 9 (.ext 5 1), ia 3 8, ia 4 9]) (.seq (.seq (.region [im 10 4, o1 11 (.un .not 10)]) (.frame [12] [] false (.join [] (.cond 11 (.region [o1 12 (.mkI 26 (kI 40)), o0 ⟨none, .panic
 12, none⟩]) .skip)))) (.seq (.region [im 13 0, o1 14 (.nilc 13), fa 15 1 14, ld 16 15, o1 17 (.bin .add 16 (kI 1)), o1 18 (.nilc 13), fa 19 1 18, o0 ⟨none, .store 1 19 17, none⟩])
 (.seq (.region [im 20 3, ia 2 20]) .ret)))))
def Dq : AFn := ⟨ OV, EP.erase, [.tmp 2], 1⟩
def GX (P : Pg) (x : Aa) (K : Int → Aa → Prop) : Prop :=
 Fn P zS7 AF x (fun (d1 : (Int × Bool)) (e2 : Aa) => Ag (D := Unit) (fun J3 => (((!d1.2) = true → P.kp (.iface 26 (.int .i64 (40 : Int)))) ∧ ((!d1.2) = false → J3 ()))) (fun d4 => K d1.1 (e2.1, ((i64.wrap (e2.2.1 + (1 : Int))), e2.2.2))))
theorem Kw {P : Pg} (h : Has P Dq) {x : DP AS.ps} {K : DP AS.rs → DP (ptrs AS.ps) → Prop} (hw : GX P x K) : Fn P OV AS x K :=
 BI (c := EP) h rfl rfl (by kernel_rfl) (Eq.mpr (show BC P Dq AS EP x K = _ by kernel_rfl) hw)
def ER : Be :=
 (.seq (.region [o1 3 (.box 0), o1 6 (.alloc [(.int .u64 0), (.int .u64 0), (.int .u64 0), (.int .u64 0)])]) (.seq (.seq (.region [im 8 1, o1 9 (.conv (.toInt .i64) 8), ia 7 9])
 (.frame (rg [7] 10 10) [1003] false (.join [.bx 1003 (.pair (.int .u64) (.pair (.int .u64) (.pair (.int .u64) (.int .u64)))) .leaf] (.block 0 (.loop [.si 7, .bx 1003 (.pair (.int
 .u64) (.pair (.int .u64) (.pair (.int .u64) (.int .u64)))) .leaf] (.seq (.seq (.region [im 10 7, im 11 2, o1 12 (.conv (.toInt .i64) 11), o1 13 (.bin .leq 10 12)]) (.cond 13 .skip
 (.exit 0))) (.seq (.frame (rg [] 16 4) [1003] false (.join [.bx 1003 (.pair (.int .u64) (.pair (.int .u64) (.pair (.int .u64) (.int .u64)))) .leaf] (.block 1 (.region [o1 16 (.load
 true 4 3), im 17 7, o1 18 (.conv (.toInt .u8) 17), oS ⟨some 19, .call zS8 [16, 18], none⟩ AO, o0 ⟨none, .store 4 3 19, none⟩])))) (.region
 [im 14 7, o1 15 (.bin .add 14 (kI 1)), ia 7 15])))))))) (.seq (.region [o1 20 (.load true 4 3), o0 ⟨none, .store 4 6 20, none⟩]) .ret)))
def Dr : AFn := ⟨ zS1, ER.erase, [.cell 6 true 4], 3⟩
def GY (P : Pg) (x : ((Int × (Int × (Int × Int))) × (Int × Int))) (K : (Int × (Int × (Int × Int))) → Unit → Prop) : Prop :=
 Ag (D := (Int × (Int × (Int × Int)))) (fun J1 => B0 (D := (Int × (Int × (Int × (Int × Int))))) ((i64.wrap x.2.1), x.1) (fun d3 J4 => (((decide (d3.1 ≤ (i64.wrap x.2.2))) = true → Ag (D := (Int × (Int × (Int × Int)))) (fun J5 => Fn P zS8 AO (d3.2, (u8.wrap d3.1)) (fun (d7 : (Int × (Int × (Int × Int)))) (e8 : Unit) => J5 d7)) (fun d6 => J4 ((i64.wrap (d3.1 + (1 : Int))), d6))) ∧ ((decide (d3.1 ≤ (i64.wrap x.2.2))) = false → J1 d3.2)))) (fun d2 => K d2 ())
theorem Kx {P : Pg} (h : Has P Dr) {x : DP Ao.ps} {K : DP Ao.rs → DP (ptrs Ao.ps) → Prop} (hw : GY P x K) : Fn P zS1 Ao x K :=
 BI (c := ER) h rfl rfl (by kernel_rfl) (Eq.mpr (show BC P Dr Ao ER x K = _ by kernel_rfl) hw)
def FI : Be :=
 (.seq (.region [o1 2 (.box 0), o1 4 (.alloc [(.int .u64 0), (.int .u64 0), (.int .u64 0), (.int .u64 0)])]) (.seq (.seq (.region [im 5 1]) (.frame (rg [] 6 35) [1004] false (.join
 [.bx 1004 (.pair (.int .u64) (.pair (.int .u64) (.pair (.int .u64) (.int .u64)))) .leaf] (.block 0 (.seq (.region [o1 7 (.bin .eql 5 (.c (.string ⟨#[97, 108, 112, 104, 97]⟩))), ia
 6 7]) (.cond 6 (.seq (.region [o1 8 (.load true 4 2), oS ⟨some 9, .call zS1 [8, (.c (.int .u8 97)), (.c (.int .u8 122))], none⟩ Ao, oS
 ⟨some 10, .call zS1 [9, (.c (.int .u8 65)), (.c (.int .u8 90))], none⟩ Ao, o0 ⟨none, .store 4 4 10, none⟩]) .ret) (.seq (.region [o1 12
 (.bin .eql 5 (.c (.string ⟨#[100, 105, 103, 105, 116]⟩))), ia 11 12]) (.cond 11 (.seq (.region [o1 13 (.load true 4 2), oS ⟨some 14, .call zS1 [13, (.c
 (.int .u8 48)), (.c (.int .u8 57))], none⟩ Ao, o0 ⟨none, .store 4 4 14, none⟩]) .ret) (.seq (.region [o1 16 (.bin .eql 5 (.c (.string ⟨#[97, 108, 110, 117,
 109]⟩))), ia 15 16]) (.cond 15 (.seq (.region [o1 17 (.load true 4 2), oS ⟨some 18, .call zS1 [17, (.c (.int .u8 97)), (.c (.int .u8 122))], none⟩
 Ao, oS ⟨some 19, .call zS1 [18, (.c (.int .u8 65)), (.c (.int .u8 90))], none⟩ Ao, oS ⟨some 20, .call
 zS1 [19, (.c (.int .u8 48)), (.c (.int .u8 57))], none⟩ Ao, o0 ⟨none, .store 4 4 20, none⟩]) .ret) (.seq (.region [o1 22 (.bin .eql 5
 (.c (.string ⟨#[117, 112, 112, 101, 114]⟩))), ia 21 22]) (.cond 21 (.seq (.region [o1 23 (.load true 4 2), oS ⟨some 24, .call zS1 [23, (.c (.int .u8
 65)), (.c (.int .u8 90))], none⟩ Ao, o0 ⟨none, .store 4 4 24, none⟩]) .ret) (.seq (.region [o1 26 (.bin .eql 5 (.c (.string ⟨#[108, 111, 119, 101, 114]⟩))), ia 25
 26]) (.cond 25 (.seq (.region [o1 27 (.load true 4 2), oS ⟨some 28, .call zS1 [27, (.c (.int .u8 97)), (.c (.int .u8 122))], none⟩ Ao,
 o0 ⟨none, .store 4 4 28, none⟩]) .ret) (.seq (.region [o1 30 (.bin .eql 5 (.c (.string ⟨#[115, 112, 97, 99, 101]⟩))), ia 29 30]) (.cond 29 (.seq (.region [o1 31 (.load true 4 2),
 oS ⟨some 32, .call zS1 [31, (.c (.int .u8 9)), (.c (.int .u8 13))], none⟩ Ao, oS ⟨some 33, .call zS8 [32, (.c
 (.int .u8 32))], none⟩ AO, o0 ⟨none, .store 4 4 33, none⟩]) .ret) (.seq (.region [o1 35 (.bin .eql 5 (.c (.string ⟨#[112, 117, 110, 99, 116]⟩))), ia 34 35]) (.cond 34
 (.seq (.region [o1 36 (.load true 4 2), oS ⟨some 37, .call zS1 [36, (.c (.int .u8 33)), (.c (.int .u8 47))], none⟩ Ao, oS ⟨some 38,
 .call zS1 [37, (.c (.int .u8 58)), (.c (.int .u8 64))], none⟩ Ao, oS ⟨some 39, .call zS1 [38, (.c (.int .u8
 91)), (.c (.int .u8 96))], none⟩ Ao, oS ⟨some 40, .call zS1 [39, (.c (.int .u8 123)), (.c (.int .u8 126))], none⟩ Ao,
 o0 ⟨none, .store 4 4 40, none⟩]) .ret) .skip)))))))))))))))))) (.region [o1 41 (.mkI 26 (kI 40)), o0 ⟨none, .panic 41, none⟩])))
def Ee : AFn := ⟨ Y4, FI.erase, [.cell 4 true 4], 2⟩
def Ik (P : Pg) (x : ((Int × (Int × (Int × Int))) × (List UInt8))) (K : (Int × (Int × (Int × Int))) → Unit → Prop) : Prop :=
 Ag (D := (Int × (Int × (Int × Int)))) (fun J1 => (((x.2 == ([97, 108, 112, 104, 97] : List UInt8)) = true → Fn P zS1 Ao (x.1, ((97 : Int), (122 : Int))) (fun (d3 : (Int × (Int × (Int × Int)))) (e4 : Unit) => Fn P zS1 Ao (d3, ((65 : Int), (90 : Int))) (fun (d5 : (Int × (Int × (Int × Int)))) (e6 : Unit) => K d5 ()))) ∧ ((x.2 == ([97, 108, 112, 104, 97] : List UInt8)) = false → (((x.2 == ([100, 105, 103, 105, 116] : List UInt8)) = true → Fn P zS1 Ao (x.1, ((48 : Int), (57 : Int))) (fun (d7 : (Int × (Int × (Int × Int)))) (e8 : Unit) => K d7 ())) ∧ ((x.2 == ([100, 105, 103, 105, 116] : List UInt8)) = false → (((x.2 == ([97, 108, 110, 117, 109] : List UInt8)) = true → Fn P zS1 Ao (x.1, ((97 : Int), (122 : Int))) (fun (d9 : (Int × (Int × (Int × Int)))) (e10 : Unit) => Fn P zS1 Ao (d9, ((65 : Int), (90 : Int))) (fun (d11 : (Int × (Int × (Int × Int)))) (e12 : Unit) => Fn P zS1 Ao (d11, ((48 : Int), (57 : Int))) (fun (d13 : (Int × (Int × (Int × Int)))) (e14 : Unit) => K d13 ())))) ∧ ((x.2 == ([97, 108, 110, 117, 109] : List UInt8)) = false → (((x.2 == ([117, 112, 112, 101, 114] : List UInt8)) = true → Fn P zS1 Ao (x.1, ((65 : Int), (90 : Int))) (fun (d15 : (Int × (Int × (Int × Int)))) (e16 : Unit) => K d15 ())) ∧ ((x.2 == ([117, 112, 112, 101, 114] : List UInt8)) = false → (((x.2 == ([108, 111, 119, 101, 114] : List UInt8)) = true → Fn P zS1 Ao (x.1, ((97 : Int), (122 : Int))) (fun (d17 : (Int × (Int × (Int × Int)))) (e18 : Unit) => K d17 ())) ∧ ((x.2 == ([108, 111, 119, 101, 114] : List UInt8)) = false → (((x.2 == ([115, 112, 97, 99, 101] : List UInt8)) = true → Fn P zS1 Ao (x.1, ((9 : Int), (13 : Int))) (fun (d19 : (Int × (Int × (Int × Int)))) (e20 : Unit) => Fn P zS8 AO (d19, (32 : Int)) (fun (d21 : (Int × (Int × (Int × Int)))) (e22 : Unit) => K d21 ()))) ∧ ((x.2 == ([115, 112, 97, 99, 101] : List UInt8)) = false → (((x.2 == ([112, 117, 110, 99, 116] : List UInt8)) = true → Fn P zS1 Ao (x.1, ((33 : Int), (47 : Int))) (fun (d23 : (Int × (Int × (Int × Int)))) (e24 : Unit) => Fn P zS1 Ao (d23, ((58 : Int), (64 : Int))) (fun (d25 : (Int × (Int × (Int × Int)))) (e26 : Unit) => Fn P zS1 Ao (d25, ((91 : Int), (96 : Int))) (fun (d27 : (Int × (Int × (Int × Int)))) (e28 : Unit) => Fn P zS1 Ao (d27, ((123 : Int), (126 : Int))) (fun (d29 : (Int × (Int × (Int × Int)))) (e30 : Unit) => K d29 ()))))) ∧ ((x.2 == ([112, 117, 110, 99, 116] : List UInt8)) = false → J1 ((0 : Int), ((0 : Int), ((0 : Int), (0 : Int))))))))))))))))))) (fun d2 => P.kp (.iface 26 (.int .i64 (40 : Int))))
theorem Mc {P : Pg} (h : Has P Ee) {x : DP BV.ps} {K : DP BV.rs → DP (ptrs BV.ps) → Prop} (hw : Ik P x K) : Fn P Y4 BV x K :=
 BI (c := FI) h rfl rfl (by kernel_rfl) (Eq.mpr (show BC P Ee BV FI x K = _ by kernel_rfl) hw)
def EM : Be :=
 (.seq (.region [o1 3 (.box 1), o1 4 (.alloc [(.int .u64 0), (.int .u64 0), (.int .u64 0), (.int .u64 0)])]) (.seq (.seq (.frame (rg [5, 6] 12 13) [] false (.join [.sl 5 false .str
 .leaf, .sl 6 false .bool .leaf] (.draw [(.first (im 13 0) (.first (o1 14 (.nilc 13)) (.first (fa 15 0 14) (.first (ld 16 15) (.first (im 17 0) (.first (o1 18 (.nilc 17)) (.first
 (fa 19 1 18) (.first (ld 20 19) (.first (o1 21 (.slS 16 (some 20) none)) (.alt (oS ⟨some 22, .call "strings.CutPrefix" [21, (.c (.string ⟨#[91, 58]⟩))], none⟩ Ds)
 (.first (im 12 22) (.alt (o1 23 (.ext 12 0)) (.alt (o1 24 (.ext 12 1)) (.alt (ia 5 23) (.alt (ia 6 24) .done .stop) .stop) (.alt (ia 5 23) (.alt (o1 24 (.ext 12 1)) (.alt (ia 6 24)
 .done .stop) .stop) .stop)) (.alt (o1 24 (.ext 12 1)) (.alt (o1 23 (.ext 12 0)) (.alt (ia 5 23) (.alt (ia 6 24) .done .stop) .stop) .stop) .stop))) .stop))))))))))]))) (.seq
 (.region [im 25 6]) (.cond 25 (.seq (.region [im 27 5, oS ⟨some 28, .call "strings.Cut" [27, (.c (.string ⟨#[58, 93]⟩))], none⟩ Gp, im 26 28, o1 29 (.ext 26 0), o1 30
 (.ext 26 1), o1 31 (.ext 26 2), ia 7 29, ia 8 30, ia 9 31]) (.seq (.seq (.region [im 32 9, o1 33 (.un .not 32)]) (.frame [34] [] false (.join [] (.cond 33 (.region [o1 34 (.mkI 26
 (kI 40)), o0 ⟨none, .panic 34, none⟩]) .skip)))) (.seq (.region [im 35 0, o1 36 (.nilc 35), fa 37 1 36, ld 38 37, im 39 7, o1 40 (.lenS 39), o1 41 (.bin .add (kI 2) 40), o1 42
 (.bin .add 41 (kI 2)), o1 43 (.bin .add 38 42), o1 44 (.nilc 35), fa 45 1 44, o0 ⟨none, .store 1 45 43, none⟩]) (.seq (.region [o1 46 (.load true 4 3), im 47 7, oS ⟨some 48, .call
 Y4 [46, 47], none⟩ BV, o0 ⟨none, .store 4 4 48, none⟩]) .ret)))) .skip))) (.seq (.region [im 49 0, oS ⟨some 50, .call
 OV [49], none⟩ AS, ia 10 50]) (.seq (.frame (rg [11] 51 9) [] false (.join [.sl 11 false .str .leaf] (.draw [(.first (im 51 0)
 (.first (o1 52 (.nilc 51)) (.first (fa 53 0 52) (.first (ld 54 53) (.first (im 55 0) (.first (o1 56 (.nilc 55)) (.first (fa 57 1 56) (.first (ld 58 57) (.first (o1 59 (.slS 54
 (some 58) none)) (.alt (ia 11 59) .done .stop))))))))))]))) (.seq (.seq (.region [im 60 11, o1 61 (.lenS 60), o1 62 (.bin .lss 61 (kI 2)), im 63 62, gf 64 63 (.mv 11), gf 65 63
 (.ixS 64 (kI 0)), gf 66 63 (.bin .neq 65 (.c (.int .u8 45))), o1 67 (.pick 63 kT 66), im 68 67, gf 69 68 (.mv 11), gf 70 68 (.ixS 69 (kI 1)), gf 71 68 (.bin .eql 70 (.c (.int .u8
 93))), o1 72 (.pick 68 kT 71)]) (.cond 72 (.seq (.region [o1 73 (.load true 4 3), im 74 10, oS ⟨some 75, .call zS8 [73, 74], none⟩ AO, o0
 ⟨none, .store 4 4 75, none⟩]) .ret) .skip)) (.seq (.seq (.region [im 76 11, o1 77 (.ixS 76 (kI 1)), im 78 10, o1 79 (.bin .lss 77 78)]) (.frame [80] [] false (.join [] (.cond 79
 (.region [o1 80 (.mkI 26 (kI 40)), o0 ⟨none, .panic 80, none⟩]) .skip)))) (.seq (.region [im 81 0, o1 82 (.nilc 81), fa 83 1 82, ld 84 83, o1 85 (.bin .add 84 (kI 2)), o1 86 (.nilc
 81), fa 87 1 86, o0 ⟨none, .store 1 87 85, none⟩]) (.seq (.frame (rg [] 88 5) [1004] false (.join [.bx 1004 (.pair (.int .u64) (.pair (.int .u64) (.pair (.int .u64) (.int .u64))))
 .leaf] (.draw [(.first (o1 88 (.load true 4 3)) (.first (im 89 10) (.first (im 90 11) (.first (o1 91 (.ixS 90 (kI 1))) (.alt (oS ⟨some 92, .call zS1
 [88, 89, 91], none⟩ Ao) (.alt (o0 ⟨none, .store 4 4 92, none⟩) .done .stop) .stop)))))]))) .ret))))))))
def Dm : AFn := ⟨ Up, EM.erase, [.cell 4 true 4], 2⟩
def GU (P : Pg) (x : (Aa × (Int × (Int × (Int × Int))))) (K : (Int × (Int × (Int × Int))) → Aa → Prop) : Prop :=
 Ag (D := ((List UInt8) × Bool)) (fun J1 => (0 ≤ x.1.2.1 ∧ x.1.2.1 ≤ (x.1.1.length : Int)) ∧
 (Fn P "strings.CutPrefix" Ds ((List.drop x.1.2.1.toNat x.1.1), ([91, 58] : List UInt8)) (fun (d3 : ((List UInt8) × Bool)) (e4 : Unit) => ((((J1 d3) ∧ True) ∧ True) ∧ ((((J1 d3) ∧ True) ∧ True) ∧ True)) ∧ (((((J1 d3) ∧ True) ∧ True) ∧ True) ∧ True))) ∧ True) (fun d2 => ((d2.2 = true → Fn P "strings.Cut" Gp (d2.1, ([58, 93] : List UInt8)) (fun (d5 : ((List UInt8) × ((List UInt8) × Bool))) (e6 : Unit) => Ag (D := Unit) (fun J7 => (((!d5.2.2) = true → P.kp (.iface 26 (.int .i64 (40 : Int)))) ∧ ((!d5.2.2) = false → J7 ()))) (fun d8 => Fn P Y4 BV (x.2, d5.1) (fun (d9 : (Int × (Int × (Int × Int)))) (e10 : Unit) => K d9 (x.1.1, ((i64.wrap (x.1.2.1 + (i64.wrap ((i64.wrap ((2 : Int) + (d5.1.length : Int))) + (2 : Int))))), x.1.2.2)))))) ∧ (d2.2 = false → Fn P OV AS x.1 (fun (d11 : Int) (e12 : Aa) => Ag (D := (List UInt8)) (fun J13 => (0 ≤ e12.2.1 ∧ e12.2.1 ≤ (e12.1.length : Int)) ∧
 (J13 (List.drop e12.2.1.toNat e12.1)) ∧ True) (fun d14 => (((decide ((d14.length : Int) < (2 : Int))) = false → 0 ≤ (0 : Int) ∧ (0 : Int) < (d14.length : Int))) ∧
 (((cond (decide ((d14.length : Int) < (2 : Int))) true (((UInt8.toNat (List.getD d14 (Int.toNat (0 : Int)) 0) : Nat) : Int) != (45 : Int))) = false → 0 ≤ (1 : Int) ∧ (1 : Int) < (d14.length : Int))) ∧
 (((cond (cond (decide ((d14.length : Int) < (2 : Int))) true (((UInt8.toNat (List.getD d14 (Int.toNat (0 : Int)) 0) : Nat) : Int) != (45 : Int))) true (((UInt8.toNat (List.getD d14 (Int.toNat (1 : Int)) 0) : Nat) : Int) == (93 : Int))) = true → Fn P zS8 AO (x.2, d11) (fun (d15 : (Int × (Int × (Int × Int)))) (e16 : Unit) => K d15 e12)) ∧ ((cond (cond (decide ((d14.length : Int) < (2 : Int))) true (((UInt8.toNat (List.getD d14 (Int.toNat (0 : Int)) 0) : Nat) : Int) != (45 : Int))) true (((UInt8.toNat (List.getD d14 (Int.toNat (1 : Int)) 0) : Nat) : Int) == (93 : Int))) = false → (0 ≤ (1 : Int) ∧ (1 : Int) < (d14.length : Int)) ∧
 Ag (D := Unit) (fun J17 => (((decide (((UInt8.toNat (List.getD d14 (Int.toNat (1 : Int)) 0) : Nat) : Int) < d11)) = true → P.kp (.iface 26 (.int .i64 (40 : Int)))) ∧ ((decide (((UInt8.toNat (List.getD d14 (Int.toNat (1 : Int)) 0) : Nat) : Int) < d11)) = false → J17 ()))) (fun d18 => Ag (D := (Int × (Int × (Int × Int)))) (fun J19 => (0 ≤ (1 : Int) ∧ (1 : Int) < (d14.length : Int)) ∧
 (Fn P zS1 Ao (x.2, (d11, ((UInt8.toNat (List.getD d14 (Int.toNat (1 : Int)) 0) : Nat) : Int))) (fun (d21 : (Int × (Int × (Int × Int)))) (e22 : Unit) => (J19 d21) ∧ True)) ∧ True) (fun d20 => K d20 (e12.1, ((i64.wrap (e12.2.1 + (2 : Int))), e12.2.2)))))))))))
theorem Ks {P : Pg} (h : Has P Dm) {x : DP A9.ps} {K : DP A9.rs → DP (ptrs A9.ps) → Prop} (hw : GU P x K) : Fn P Up A9 x K :=
 BI (c := EM) h rfl rfl (by kernel_rfl) (Eq.mpr (show BC P Dm A9 EM x K = _ by kernel_rfl) hw)
def DT : Be :=
 (.seq (.region [o1 1 (.box 0), o1 2 (.alloc [(.int .u64 0), (.int .u64 0), (.int .u64 0), (.int .u64 0)])]) (.seq (.seq (.region [o1 4 (.mv (kI 0))]) (.frame (rg [] 3 11) [1001]
 false (.join [.bx 1001 (.pair (.int .u64) (.pair (.int .u64) (.pair (.int .u64) (.int .u64)))) .leaf] (.block 0 (.loop [.si 4, .bx 1001 (.pair (.int .u64) (.pair (.int .u64) (.pair
 (.int .u64) (.int .u64)))) .leaf] (.seq (.region [o1 5 (.bin .lss 4 (kI 4))]) (.seq (.cond 5 .skip (.exit 0)) (.seq (.frame (rg [3] 6 7) [1001] false (.join [.bx 1001 (.pair (.int
 .u64) (.pair (.int .u64) (.pair (.int .u64) (.int .u64)))) .leaf] (.block 1 (.seq (.region [im 6 4, ia 3 6]) (.region [im 7 3, im 8 3, o1 9 (.ixAr 4 1 1 8), ld 10 9, o1 11 (.un
 .xor 10), o1 12 (.ixAr 4 1 1 7), o0 ⟨none, .store 1 12 11, none⟩]))))) (.region [o1 13 (.bin .add 4 (kI 1)), im 4 13]))))))))) (.seq (.region [o1 14 (.load true 4 1), o0 ⟨none,
 .store 4 2 14, none⟩]) .ret)))
def CG : AFn := ⟨ Uq, DT.erase, [.cell 2 true 4], 1⟩
def Fu (P : Pg) (x : (Int × (Int × (Int × Int)))) (K : (Int × (Int × (Int × Int))) → Unit → Prop) : Prop :=
 Ag (D := (Int × (Int × (Int × Int)))) (fun J1 => B0 (D := (Int × (Int × (Int × (Int × Int))))) ((0 : Int), x) (fun d3 J4 => (((decide (d3.1 < (4 : Int))) = true → Ag (D := (Int × (Int × (Int × Int)))) (fun J5 => (0 ≤ d3.1 ∧ d3.1 < ((4 : Nat) : Int)) ∧
 (d3.1.toNat < 4) ∧
 (0 ≤ d3.1 ∧ d3.1 < ((4 : Nat) : Int)) ∧
 (d3.1.toNat < 4) ∧
 J5 ((if d3.1.toNat = 0 then (u64.wrap ((BitVec.toNat (BitVec.ofInt u64.bits (if u64.signed then -1 else u64.max) ^^^ BitVec.ofInt u64.bits (List.getD [d3.2.1, d3.2.2.1, d3.2.2.2.1, d3.2.2.2.2] d3.1.toNat (0 : Int))) : Nat) : Int)) else d3.2.1), ((if d3.1.toNat = 1 then (u64.wrap ((BitVec.toNat (BitVec.ofInt u64.bits (if u64.signed then -1 else u64.max) ^^^ BitVec.ofInt u64.bits (List.getD [d3.2.1, d3.2.2.1, d3.2.2.2.1, d3.2.2.2.2] d3.1.toNat (0 : Int))) : Nat) : Int)) else d3.2.2.1), ((if d3.1.toNat = 2 then (u64.wrap ((BitVec.toNat (BitVec.ofInt u64.bits (if u64.signed then -1 else u64.max) ^^^ BitVec.ofInt u64.bits (List.getD [d3.2.1, d3.2.2.1, d3.2.2.2.1, d3.2.2.2.2] d3.1.toNat (0 : Int))) : Nat) : Int)) else d3.2.2.2.1), (if d3.1.toNat = 3 then (u64.wrap ((BitVec.toNat (BitVec.ofInt u64.bits (if u64.signed then -1 else u64.max) ^^^ BitVec.ofInt u64.bits (List.getD [d3.2.1, d3.2.2.1, d3.2.2.2.1, d3.2.2.2.2] d3.1.toNat (0 : Int))) : Nat) : Int)) else d3.2.2.2.2))))) (fun d6 => J4 ((i64.wrap (d3.1 + (1 : Int))), d6))) ∧ ((decide (d3.1 < (4 : Int))) = false → J1 d3.2)))) (fun d2 => K d2 ())
theorem I1 {P : Pg} (h : Has P CG) {x : DP AR.ps} {K : DP AR.rs → DP (ptrs AR.ps) → Prop} (hw : Fu P x K) : Fn P Uq AR x K :=
 BI (c := DT) h rfl rfl (by kernel_rfl) (Eq.mpr (show BC P CG AR DT x K = _ by kernel_rfl) hw)
def Fb : Be :=
 (.seq (.region [o1 3 (.box 1), ia 4 (kI 0)]) (.seq (.region [im 5 0, o1 6 (.load true 4 3), o1 7 (.build [(.int .i64 0), (.int .u64 0), (.int .u64 0), (.int .u64 0), (.int .u64 0),
 (.int .i64 0), (.int .i64 0), (.slice none 0 0)] [(0, 1, (kI 1)), (1, 4, 6)]), oS ⟨some 8, .call zS6 [5, 7], none⟩ AG, ia 4 8]) .ret))
def DH : AFn := ⟨ ND, Fb.erase, [.tmp 4], 2⟩
def Hz (P : Pg) (x : (Aa × (Int × (Int × (Int × Int))))) (K : Int → Aa → Prop) : Prop :=
 Fn P zS6 AG (x.1, ((1 : Int), (x.2, ((0 : Int), ((0 : Int), []))))) (fun (d1 : Int) (e2 : Aa) => K d1 e2)
theorem LA {P : Pg} (h : Has P DH) {x : DP AM.ps} {K : DP AM.rs → DP (ptrs AM.ps) → Prop} (hw : Hz P x K) : Fn P ND AM x K :=
 BI (c := Fb) h rfl rfl (by kernel_rfl) (Eq.mpr (show BC P DH AM Fb x K = _ by kernel_rfl) hw)
def Eu : Be :=
 (.seq (.region [ia 2 (kI 0)]) (.seq (.region [im 5 0, o1 6 (.nilc 5), fa 7 1 6, ld 8 7, o1 9 (.bin .add 8 (kI 1)), o1 10 (.nilc 5), fa 11 1 10, o0 ⟨none, .store 1 11 9, none⟩])
 (.seq (.region [im 12 0, oS ⟨some 13, .call zS3 [12, (.c (.int .u8 94))], none⟩ As, ia 3 13]) (.seq (.region [im 14 0, o1 15 (.build
 [(.int .u64 0), (.int .u64 0), (.int .u64 0), (.int .u64 0)] []), oS ⟨some 16, .call Up [14, 15], none⟩ A9, o1 4 (.alloc [(.int .u64
 0), (.int .u64 0), (.int .u64 0), (.int .u64 0)]), o0 ⟨none, .store 4 4 16, none⟩]) (.seq (.frame (rg [] 17 6) [0, 1004] true (.join [.bx 0 Aw (.pair .leaf (.pair .leaf
 (.pair .leaf (.node .own (.pair .leaf (.pair .leaf (.pair .leaf (.pair .leaf tM)))))))), .bx 1004 (.pair (.int .u64) (.pair (.int .u64) (.pair (.int .u64) (.int .u64)))) .leaf]
 (.block 0 (.loop [.bx 0 Aw (.pair .leaf (.pair .leaf (.pair .leaf (.node .own (.pair .leaf (.pair .leaf (.pair .leaf (.pair .leaf tM)))))))), .bx 1004 (.pair (.int .u64)
 (.pair (.int .u64) (.pair (.int .u64) (.int .u64)))) .leaf] (.seq (.seq (.region [im 17 0, oS ⟨some 18, .call zS3 [17, (.c (.int .u8 93))], none⟩
 As, o1 19 (.un .not 18)]) (.cond 19 .skip (.exit 0))) (.frame [20, 21, 22] [0, 1004] true (.join [.bx 0 Aw (.pair .leaf (.pair .leaf (.pair .leaf (.node
 .own (.pair .leaf (.pair .leaf (.pair .leaf (.pair .leaf tM)))))))), .bx 1004 (.pair (.int .u64) (.pair (.int .u64) (.pair (.int .u64) (.int .u64)))) .leaf] (.block 1 (.region [im
 20 0, o1 21 (.load true 4 4), oS ⟨some 22, .call Up [20, 21], none⟩ A9, o0 ⟨none, .store 4 4 22, none⟩]))))))))) (.seq (.seq (.region
 [im 23 3]) (.frame [24, 25] [1004] false (.join [.bx 1004 (.pair (.int .u64) (.pair (.int .u64) (.pair (.int .u64) (.int .u64)))) .leaf] (.cond 23 (.region [o1 24 (.load true 4 4),
 oS ⟨some 25, .call Uq [24], none⟩ AR, o0 ⟨none, .store 4 4 25, none⟩]) .skip)))) (.seq (.region [im 26 0, o1 27 (.load true 4
 4), oS ⟨some 28, .call ND [26, 27], none⟩ AM, ia 2 28]) .ret)))))))
def C9 : AFn := ⟨ Us, Eu.erase, [.tmp 2], 1⟩
def GA (P : Pg) (x : Aa) (K : Int → Aa → Prop) : Prop :=
 Fn P zS3 As ((x.1, ((i64.wrap (x.2.1 + (1 : Int))), x.2.2)), (94 : Int)) (fun (d1 : Bool) (e2 : Aa) => Fn P Up A9 (e2, ((0 : Int), ((0 : Int), ((0 : Int), (0 : Int))))) (fun (d3 : (Int × (Int × (Int × Int)))) (e4 : Aa) => Ag (D := (Aa × (Int × (Int × (Int × Int))))) (fun J5 => B0 (D := (Aa × (Int × (Int × (Int × Int))))) (e4, d3) (fun d7 J8 => Fn P zS3 As (d7.1, (93 : Int)) (fun (d9 : Bool) (e10 : Aa) => (((!d9) = true → Ag (D := (Aa × (Int × (Int × (Int × Int))))) (fun J11 => Fn P Up A9 (e10, d7.2) (fun (d13 : (Int × (Int × (Int × Int)))) (e14 : Aa) => J11 (e14, d13))) (fun d12 => J8 d12)) ∧ ((!d9) = false → J5 (e10, d7.2)))))) (fun d6 => Ag (D := (Int × (Int × (Int × Int)))) (fun J15 => ((d1 = true → Fn P Uq AR d6.2 (fun (d17 : (Int × (Int × (Int × Int)))) (e18 : Unit) => J15 d17)) ∧ (d1 = false → J15 d6.2))) (fun d16 => Fn P ND AM (d6.1, d16) (fun (d19 : Int) (e20 : Aa) => K d19 e20)))))
theorem JQ {P : Pg} (h : Has P C9) {x : DP B9.ps} {K : DP B9.rs → DP (ptrs B9.ps) → Prop} (hw : GA P x K) : Fn P Us B9 x K :=
 BI (c := Eu) h rfl rfl (by kernel_rfl) (Eq.mpr (show BC P C9 B9 Eu x K = _ by kernel_rfl) hw)
def E9 : Be :=
 (.seq (.region [ia 2 (kI 0)]) (.seq (.region [im 3 0, o1 4 (.nilc 3), fa 5 1 4, ld 6 5, o1 7 (.bin .add 6 (kI 1)), o1 8 (.nilc 3), fa 9 1 8, o0 ⟨none, .store 1 9 7, none⟩]) (.seq
 (.region [im 10 0, o1 11 (.build [(.int .u64 0), (.int .u64 0), (.int .u64 0), (.int .u64 0)] []), oS ⟨some 12, .call Uq [11], none⟩
 AR, oS ⟨some 13, .call ND [10, 12], none⟩ AM, ia 2 13]) .ret)))
def DF : AFn := ⟨ Ut, E9.erase, [.tmp 2], 1⟩
def Hx (P : Pg) (x : Aa) (K : Int → Aa → Prop) : Prop :=
 Fn P Uq AR ((0 : Int), ((0 : Int), ((0 : Int), (0 : Int)))) (fun (d1 : (Int × (Int × (Int × Int)))) (e2 : Unit) => Fn P ND AM ((x.1, ((i64.wrap (x.2.1 + (1 : Int))), x.2.2)), d1) (fun (d3 : Int) (e4 : Aa) => K d3 e4))
theorem Ly {P : Pg} (h : Has P DF) {x : DP Cs.ps} {K : DP Cs.rs → DP (ptrs Cs.ps) → Prop} (hw : Hx P x K) : Fn P Ut Cs x K :=
 BI (c := E9) h rfl rfl (by kernel_rfl) (Eq.mpr (show BC P DF Cs E9 x K = _ by kernel_rfl) hw)
def D9 : Be :=
 (.seq (.region [ia 2 (kI 0)]) (.seq (.region [im 3 0, o1 4 (.nilc 3), fa 5 1 4, ld 6 5, o1 7 (.bin .add 6 (kI 1)), o1 8 (.nilc 3), fa 9 1 8, o0 ⟨none, .store 1 9 7, none⟩]) (.seq
 (.region [im 10 0, o1 11 (.build [(.int .u64 0), (.int .u64 0), (.int .u64 0), (.int .u64 0)] []), im 12 0, oS ⟨some 13, .call OV [12], none⟩
 AS, oS ⟨some 14, .call zS8 [11, 13], none⟩ AO, oS ⟨some 15, .call ND [10, 14], none⟩
 AM, ia 2 15]) .ret)))
def CZ : AFn := ⟨ XD, D9.erase, [.tmp 2], 1⟩
def FQ (P : Pg) (x : Aa) (K : Int → Aa → Prop) : Prop :=
 Fn P OV AS (x.1, ((i64.wrap (x.2.1 + (1 : Int))), x.2.2)) (fun (d1 : Int) (e2 : Aa) => Fn P zS8 AO (((0 : Int), ((0 : Int), ((0 : Int), (0 : Int)))), d1) (fun (d3 : (Int × (Int × (Int × Int)))) (e4 : Unit) => Fn P ND AM (e2, d3) (fun (d5 : Int) (e6 : Aa) => K d5 e6)))
theorem Jn {P : Pg} (h : Has P CZ) {x : DP BX.ps} {K : DP BX.rs → DP (ptrs BX.ps) → Prop} (hw : FQ P x K) : Fn P XD BX x K :=
 BI (c := D9) h rfl rfl (by kernel_rfl) (Eq.mpr (show BC P CZ BX D9 x K = _ by kernel_rfl) hw)
def Eb : Be :=
 (.seq (.region [ia 2 (kI 0)]) (.seq (.region [im 3 0, o1 4 (.build [(.int .u64 0), (.int .u64 0), (.int .u64 0), (.int .u64 0)] []), im 5 0, oS ⟨some 6, .call
 OV [5], none⟩ AS, oS ⟨some 7, .call zS8 [4, 6], none⟩ AO, oS ⟨some 8, .call
 ND [3, 7], none⟩ AM, ia 2 8]) .ret))
def C1 : AFn := ⟨ XE, Eb.erase, [.tmp 2], 1⟩
def FT (P : Pg) (x : Aa) (K : Int → Aa → Prop) : Prop :=
 Fn P OV AS x (fun (d1 : Int) (e2 : Aa) => Fn P zS8 AO (((0 : Int), ((0 : Int), ((0 : Int), (0 : Int)))), d1) (fun (d3 : (Int × (Int × (Int × Int)))) (e4 : Unit) => Fn P ND AM (e2, d3) (fun (d5 : Int) (e6 : Aa) => K d5 e6)))
theorem Jp {P : Pg} (h : Has P C1) {x : DP BZ.ps} {K : DP BZ.rs → DP (ptrs BZ.ps) → Prop} (hw : FT P x K) : Fn P XE BZ x K :=
 BI (c := Eb) h rfl rfl (by kernel_rfl) (Eq.mpr (show BC P C1 BZ Eb x K = _ by kernel_rfl) hw)
def Ew : Be :=
 (.seq (.region [ia 4 (kI 0)]) (.seq (.seq (.region [im 10 1]) (.frame (rg [4] 11 8) [0] true (.join [.si 4, .bx 0 Aw (.pair .leaf (.pair .leaf (.pair .leaf (.node .own
 (.pair .leaf (.pair .leaf (.pair .leaf (.pair .leaf tM))))))))] (.block 0 (.seq (.region [o1 12 (.bin .eql 10 (.c (.int .u8 94))), ia 11 12]) (.cond 11 (.seq (.region [im 13 0, oS
 ⟨some 14, .call Um [13, (kI 2)], none⟩ AY, ia 4 14]) .ret) (.seq (.region [o1 16 (.bin .eql 10 (.c (.int .u8 36))), ia 15 16])
 (.cond 15 (.seq (.region [im 17 0, oS ⟨some 18, .call Um [17, (kI 3)], none⟩ AY, ia 4 18]) .ret) .skip)))))))) (.seq (.region [im
 19 0, im 20 1, oS ⟨some 21, .call Y1 [19, 20], none⟩ BH, ia 5 21]) (.seq (.region [im 22 5, oS ⟨some 23, .callv 22 [], none⟩
 AP, ia 6 23]) (.seq (.region [im 25 0, oS ⟨some 26, .call Y3 [25], none⟩ A7, im 24 26, o1 27
 (.ext 24 0), o1 28 (.ext 24 1), o1 29 (.ext 24 2), ia 7 27, ia 8 28, ia 9 29]) (.seq (.seq (.region [im 30 9, o1 31 (.un .not 30)]) (.cond 31 (.seq (.region [im 32 6, ia 4 32])
 .ret) .skip)) (.seq (.region [im 33 0, im 34 7, im 35 8, im 36 6, ⟨⟨some 37, .buildSl 1 [(.int .i64 0)] 1 [(0, 36)], none⟩, some (bI, .leaf), ⟨[], []⟩, true, none, false, false⟩,
 o1 38 (.build [(.int .i64 0), (.int .u64 0), (.int .u64 0), (.int .u64 0), (.int .u64 0), (.int .i64 0), (.int .i64 0), (.slice none 0 0)] [(0, 1, (kI 6)), (5, 1, 34), (6, 1, 35),
 (7, 1, 37)]), oS ⟨some 39, .call zS6 [33, 38], none⟩ AG, ia 4 39]) .ret)))))))
def B8 : AFn := ⟨ Y5, Ew.erase, [.tmp 4], 2⟩
def GC (P : Pg) (x : (Aa × Int)) (K : Int → Aa → Prop) : Prop :=
 Ag (D := (Int × Aa)) (fun J1 => (((x.2 == (94 : Int)) = true → Fn P Um AY (x.1, (2 : Int)) (fun (d3 : Int) (e4 : Aa) => K d3 e4)) ∧ ((x.2 == (94 : Int)) = false → (((x.2 == (36 : Int)) = true → Fn P Um AY (x.1, (3 : Int)) (fun (d5 : Int) (e6 : Aa) => K d5 e6)) ∧ ((x.2 == (36 : Int)) = false → J1 ((0 : Int), x.1)))))) (fun d2 => Fn P Y1 BH (d2.2, x.2) (fun (d7 : Int) (e8 : Aa) => Fn P (List.getD [Ur, Us, Ut, XD, XE] d7.toNat "") AP e8 (fun (d9 : Int) (e10 : Aa) => Fn P Y3 A7 e10 (fun (d11 : (Int × (Int × Bool))) (e12 : Aa) => (((!d11.2.2) = true → K d9 e12) ∧ ((!d11.2.2) = false → Fn P zS6 AG (e12, ((6 : Int), (((0 : Int), ((0 : Int), ((0 : Int), (0 : Int)))), (d11.1, (d11.2.1, ([d9] : List Int)))))) (fun (d13 : Int) (e14 : Aa) => K d13 e14)))))))
theorem JS {P : Pg} (h : Has P B8) {x : DP Bv.ps} {K : DP Bv.rs → DP (ptrs Bv.ps) → Prop} (hw : GC P x K) : Fn P Y5 Bv x K :=
 BI (c := Ew) h rfl rfl (by kernel_rfl) (Eq.mpr (show BC P B8 Bv Ew x K = _ by kernel_rfl) hw)
def CU : Be :=
 (.seq (.region [ia 2 (kI 0)]) (.seq (.region [o1 3 (.asg (.c (.slice none 0 0)))]) (.frame (rg [] 2 28) [0] true (.block 0 (.loop [.si 2, .sl 3 false (.sl bI) tO, .bx 0
 Aw (.pair .leaf (.pair .leaf (.pair .leaf (.node .own (.pair .leaf (.pair .leaf (.pair .leaf (.pair .leaf tM))))))))] (.frame (rg [] 2 28) [0] true (.join [.si 2, .sl 3
 false (.sl bI) tO, .bx 0 Aw (.pair .leaf (.pair .leaf (.pair .leaf (.node .own (.pair .leaf (.pair .leaf (.pair .leaf (.pair .leaf tM))))))))] (.block 1 (.seq (.region
 [im 7 0, oS ⟨some 8, .call zS7 [7], none⟩ AF, im 6 8, o1 9 (.ext 6 0), o1 10 (.ext 6 1), ia 4 9, ia 5 10]) (.seq (.seq (.region [im 11
 5, o1 12 (.un .not 11), im 13 12, gf 14 13 (.mv 4), gf 15 13 (.bin .eql 14 (.c (.int .u8 124))), o1 16 (.pick 13 kT 15), im 17 16, gf 18 17 (.mv 4), gf 19 17 (.bin .eql 18 (.c
 (.int .u8 41))), o1 20 (.pick 17 kT 19)]) (.cond 20 (.seq (.frz [3] (.region [im 21 0, im 22 3, oS ⟨some 23, .call Sv [21, (kI 4), 22], none⟩
 A5, ia 2 23])) .ret) .skip)) (.region [im 24 3, im 25 0, im 26 4, oS ⟨some 27, .call Y5 [25, 26], none⟩ Bv, oT
 ⟨some 28, .buildSl 1 [(.int .i64 0)] 1 [(0, 27)], none⟩ (some (bI, .leaf)), oT ⟨some 29, .app 1 8 24 28, none⟩ (some (bI, .leaf)), ia 3 29])))))))))))
def Bm : AFn := ⟨ VI, CU.erase, [.tmp 2], 1⟩
def Ej (P : Pg) (x : Aa) (K : Int → Aa → Prop) : Prop :=
 B0 (D := (Int × ((List Int) × Aa))) ((0 : Int), ([], x)) (fun d1 J2 => Ag (D := (Int × ((List Int) × Aa))) (fun J3 => Fn P zS7 AF d1.2.2 (fun (d5 : (Int × Bool)) (e6 : Aa) => (((cond (cond (!d5.2) true (d5.1 == (124 : Int))) true (d5.1 == (41 : Int))) = true → Fn P Sv A5 (e6, ((4 : Int), d1.2.1)) (fun (d7 : Int) (e8 : Aa) => K d7 e8)) ∧ ((cond (cond (!d5.2) true (d5.1 == (124 : Int))) true (d5.1 == (41 : Int))) = false → Fn P Y5 Bv (e6, d5.1) (fun (d9 : Int) (e10 : Aa) => ((d1.2.1.length + List.length ([d9] : List Int)) * 8 ≤ 140737488355328) ∧
 J3 (d1.1, ((d1.2.1 ++ ([d9] : List Int)), e10))))))) (fun d4 => J2 d4))
theorem G7 {P : Pg} (h : Has P Bm) {x : DP AJ.ps} {K : DP AJ.rs → DP (ptrs AJ.ps) → Prop} (hw : Ej P x K) : Fn P VI AJ x K :=
 BI (c := CU) h rfl rfl (by kernel_rfl) (Eq.mpr (show BC P Bm AJ CU x K = _ by kernel_rfl) hw)
def DS : Be :=
 (.seq (.region [ia 2 (kI 0)]) (.seq (.region [im 4 0, oS ⟨some 5, .call VI [4], none⟩ AJ, oT ⟨some 6, .buildSl 1 [(.int
 .i64 0)] 1 [(0, 5)], none⟩ (some (bI, .leaf)), ia 3 6]) (.seq (.frame (rg [3] 7 7) [0] true (.join [.sl 3 false (.sl bI) tO, .bx 0 Aw (.pair .leaf (.pair .leaf (.pair
 .leaf (.node .own (.pair .leaf (.pair .leaf (.pair .leaf (.pair .leaf tM))))))))] (.block 0 (.loop [.sl 3 false (.sl bI) tO, .bx 0 Aw (.pair .leaf (.pair .leaf (.pair
 .leaf (.node .own (.pair .leaf (.pair .leaf (.pair .leaf (.pair .leaf tM))))))))] (.seq (.seq (.region [im 7 0, oS ⟨some 8, .call zS3 [7, (.c (.int .u8
 124))], none⟩ As]) (.cond 8 .skip (.exit 0))) (.frame (rg [3] 9 5) [0] true (.join [.sl 3 false (.sl bI) tO, .bx 0 Aw (.pair .leaf (.pair .leaf (.pair
 .leaf (.node .own (.pair .leaf (.pair .leaf (.pair .leaf (.pair .leaf tM))))))))] (.block 1 (.region [im 9 3, im 10 0, oS ⟨some 11, .call VI
 [10], none⟩ AJ, oT ⟨some 12, .buildSl 1 [(.int .i64 0)] 1 [(0, 11)], none⟩ (some (bI, .leaf)), oT ⟨some 13, .app 1 8 9 12, none⟩ (some (bI, .leaf)), ia 3
 13]))))))))) (.seq (.frz [3] (.region [im 14 0, im 15 3, oS ⟨some 16, .call Sv [14, (kI 5), 15], none⟩ A5, ia 2 16])) .ret))))
def BS : AFn := ⟨ Uo, DS.erase, [.tmp 2], 1⟩
def Ft (P : Pg) (x : Aa) (K : Int → Aa → Prop) : Prop :=
 Fn P VI AJ x (fun (d1 : Int) (e2 : Aa) => Ag (D := ((List Int) × Aa)) (fun J3 => B0 (D := ((List Int) × Aa)) (([d1] : List Int), e2) (fun d5 J6 => Fn P zS3 As (d5.2, (124 : Int)) (fun (d7 : Bool) (e8 : Aa) => ((d7 = true → Ag (D := ((List Int) × Aa)) (fun J9 => Fn P VI AJ e8 (fun (d11 : Int) (e12 : Aa) => ((d5.1.length + List.length ([d11] : List Int)) * 8 ≤ 140737488355328) ∧
 J9 ((d5.1 ++ ([d11] : List Int)), e12))) (fun d10 => J6 d10)) ∧ (d7 = false → J3 (d5.1, e8)))))) (fun d4 => Fn P Sv A5 (d4.2, ((5 : Int), d4.1)) (fun (d13 : Int) (e14 : Aa) => K d13 e14)))
theorem IZ {P : Pg} (h : Has P BS) {x : DP AQ.ps} {K : DP AQ.rs → DP (ptrs AQ.ps) → Prop} (hw : Ft P x K) : Fn P Uo AQ x K :=
 BI (c := DS) h rfl rfl (by kernel_rfl) (Eq.mpr (show BC P BS AQ DS x K = _ by kernel_rfl) hw)
end Go.VS
