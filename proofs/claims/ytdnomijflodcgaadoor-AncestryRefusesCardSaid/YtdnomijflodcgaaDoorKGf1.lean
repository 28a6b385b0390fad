/- Functions of the program: typed code, and what it says, lifted. -/
import Derived.Test.YtdnomijflodcgaaDoorKTxSig
import Derived.KernelRfl
set_option linter.unusedVariables false
set_option linter.unusedSimpArgs false
set_option maxRecDepth 8000
namespace Go.VS
open IntKind
def AhJ : Bw :=
 (.seq (.region [o1 6 (.asg kF), ia 7 (kI 0)]) (.seq (.seq (.region [im 9 0, im 10 1, im 11 2, oT ⟨some 12, .buildSl 1 [(.int .i64 0)] 2 [(0, 10), (1, 11)], none⟩ (some (bI,
 .leaf)), oS ⟨some 13, .call Vn [9, 12], none⟩ Aeo, ia 8 13]) (.seq (.region [im 14 8, o1 15 (.bin .neq 14 (kI 0))]) (.cond 15 (.seq (.region
 [im 16 8, o1 6 (.asg kF), ia 7 16]) .ret) .skip))) (.seq (.region [im 17 0, im 18 2, oS ⟨some 19, .call AaA [17, 18], none⟩ Aek, im 20
 1, o1 21 (.ixA 1 19 20), ld 22 21, ia 6 22, ia 7 (kI 0)]) .ret)))
def Ahz : AFn := ⟨ AaL, AhJ.erase, [.tmp 6, .tmp 7], 3⟩
def AhT (P : Pg) (x : ((List Commit) × (Int × Int))) (K : (Bool × Int) → Unit → Prop) : Prop :=
 Fn P Vn Aeo (x.1, ([x.2.1, x.2.2] : List Int)) (fun (d1 : Int) (e2 : Unit) => (((d1 != (0 : Int)) = true → K (false, d1) ()) ∧ ((d1 != (0 : Int)) = false → Fn P AaA Aek (x.1, x.2.2) (fun (d3 : (List Bool)) (e4 : Unit) => (0 ≤ x.2.1 ∧ x.2.1 < (d3.length : Int)) ∧
 (x.2.1.toNat < d3.length) ∧
 K ((List.getD d3 x.2.1.toNat false), (0 : Int)) ()))))
theorem Ah6 {P : Pg} (h : Has P Ahz) {x : DP Ahn.ps} {K : DP Ahn.rs → DP (ptrs Ahn.ps) → Prop} (hw : AhT P x K) : Fn P AaL Ahn x K :=
 Cc (c := AhJ) h rfl rfl (by kernel_rfl) (Eq.mpr (show Ca P Ahz Ahn AhJ x K = _ by kernel_rfl) hw)
def Ahr : Bw :=
 (.seq (.region [o1 6 (.asg kF)]) (.seq (.seq (.region [im 16 0, o1 17 (.lenK 16), o1 18 (.bin .gtr 17 (kI 6)), im 19 18, gf 20 19 (.mv 0), oS ⟨some 21, .call
 zS9 [20], some (19, false)⟩ Ahl, gf 22 19 (.bin .eql 21 (kI 0)), o1 23 (.pick 19 kT 22)]) (.cond 23 (.seq (.region [oS ⟨some 24, .call
 zS5 [], none⟩ Ael, ia 6 24]) .ret) .skip)) (.seq (.region [im 25 0, oS ⟨some 26, .call zS9 [25], none⟩
 Ahl, ia 7 26]) (.seq (.region [im 28 0, im 29 1, oS ⟨some 30, .call AaK [28, 29], none⟩ Ahi, im 27 30, o1 31 (.ext 27 0), o1
 32 (.ext 27 1), ia 8 31, ia 9 32]) (.seq (.region [im 34 0, im 35 1, im 36 2, oS ⟨some 37, .call AaL [34, 35, 36], none⟩ Ahn, im 33 37, o1 38 (.ext 33
 0), o1 39 (.ext 33 1), ia 10 38, ia 11 39]) (.seq (.region [im 41 0, im 42 1, im 43 2, oS ⟨some 44, .call AaC [41, 42, 43], none⟩ Aen, im 40 44,
 o1 45 (.ext 40 0), o1 46 (.ext 40 1), ia 12 45, ia 13 46]) (.seq (.region [im 48 0, im 49 1, oT ⟨some 50, .buildSl 1 [(.int .i64 0)] 1 [(0, 49)], none⟩ (some (bI, .leaf)), oS ⟨some
 51, .call AaD [48, 50], none⟩ Aep, im 47 51, o1 52 (.ext 47 0), o1 53 (.ext 47 1), ia 14 52, ia 15 53]) (.seq (.region [im 54 9, im
 55 7, o1 56 (.bin .eql 54 55), im 57 56, gt 58 57 (.mv 11), gt 59 57 (.mv 7), gt 60 57 (.bin .eql 58 59), o1 61 (.pick 57 60 kF), im 62 61, gt 63 62 (.mv 13), gt 64 62 (.mv 7), gt
 65 62 (.bin .eql 63 64), o1 66 (.pick 62 65 kF), im 67 66, gt 68 67 (.mv 15), gt 69 67 (.mv 7), gt 70 67 (.bin .eql 68 69), o1 71 (.pick 67 70 kF), im 72 71, oS ⟨some 73, .call
 zS5 [], some (72, true)⟩ Ael, o1 74 (.pick 72 73 kF), ia 6 74]) .ret))))))))
def Ahm : AFn := ⟨ AaN, Ahr.erase, [.tmp 6], 3⟩
def Ahx (P : Pg) (x : ((List Commit) × (Int × Int))) (K : Bool → Unit → Prop) : Prop :=
 Ai (D := Int) (fun J1 => (((decide ((x.1.length : Int) > (6 : Int))) = false → Fn P zS9 Ahl x.1 (fun (d2 : Int) _ => J1 d2)) ∧ (((decide ((x.1.length : Int) > (6 : Int))) = true → J1 (0 : Int)) ∧ True))) (fun d3 => (((cond (decide ((x.1.length : Int) > (6 : Int))) true (d3 == (0 : Int))) = true → Fn P zS5 Ael () (fun (d4 : Bool) (e5 : Unit) => K d4 ())) ∧ ((cond (decide ((x.1.length : Int) > (6 : Int))) true (d3 == (0 : Int))) = false → Fn P zS9 Ahl x.1 (fun (d6 : Int) (e7 : Unit) => Fn P AaK Ahi (x.1, x.2.1) (fun (d8 : ((List Int) × Int)) (e9 : Unit) => Fn P AaL Ahn x (fun (d10 : (Bool × Int)) (e11 : Unit) => Fn P AaC Aen x (fun (d12 : ((List Int) × Int)) (e13 : Unit) => Fn P AaD Aep (x.1, ([x.2.1] : List Int)) (fun (d14 : ((List Int) × Int)) (e15 : Unit) => Ai (D := Bool) (fun J16 => (((cond (cond (cond (d8.2 == d6) (d10.2 == d6) false) (d12.2 == d6) false) (d14.2 == d6) false) = true → Fn P zS5 Ael () (fun (d17 : Bool) _ => J16 d17)) ∧ (((cond (cond (cond (d8.2 == d6) (d10.2 == d6) false) (d12.2 == d6) false) (d14.2 == d6) false) = false → J16 false) ∧ True))) (fun d18 => K (cond (cond (cond (cond (d8.2 == d6) (d10.2 == d6) false) (d12.2 == d6) false) (d14.2 == d6) false) d18 false) ())))))))))
theorem AhI {P : Pg} (h : Has P Ahm) {x : DP Ahh.ps} {K : DP Ahh.rs → DP (ptrs Ahh.ps) → Prop} (hw : Ahx P x K) : Fn P AaN Ahh x K :=
 Cc (c := Ahr) h rfl rfl (by kernel_rfl) (Eq.mpr (show Ca P Ahm Ahh Ahr x K = _ by kernel_rfl) hw)
end Go.VS
