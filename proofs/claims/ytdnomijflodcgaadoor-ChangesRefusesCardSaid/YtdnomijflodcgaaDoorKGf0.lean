/- Functions of the program: typed code, and what it says, lifted. -/
import Derived.Test.YtdnomijflodcgaaDoorKTxSig
import Derived.KernelRfl
set_option linter.unusedVariables false
set_option linter.unusedSimpArgs false
set_option maxRecDepth 8000
namespace Go.VS
open IntKind
def Ga : Br :=
 (.seq (.region [o1 1 (.box 0), o1 2 (.asg kF)]) (.seq (.region [fa 3 0 1, ld 4 3, o1 5 (.lenK 4), o1 6 (.bin .gtr 5 (kI 32)), ia 2 6]) .ret))
def EG : AFn := ⟨ Z8, Ga.erase, [.tmp 2], 1⟩
def NA (P : Pg) (x : Commit) (K : Bool → Unit → Prop) : Prop :=
 K (decide ((x.1.length : Int) > (32 : Int))) ()
theorem MQ {P : Pg} (h : Has P EG) {x : DP CJ.ps} {K : DP CJ.rs → DP (ptrs CJ.ps) → Prop} (hw : NA P x K) : Fn P Z8 CJ x K :=
 Cb (c := Ga) h rfl rfl (by kernel_rfl) (Eq.mpr (show B8 P EG CJ Ga x K = _ by kernel_rfl) hw)
def A8 : Br :=
 (.seq (.region [ia 4 (kI 0)]) (.seq (.seq (.region [im 6 0, o1 7 (.lenK 6), o1 8 (.mv (kI 0))]) (.frame (rg [4, 5] 8 11) [] false (.join [.si 4] (.block 0 (.loop [.si 4, .si 8]
 (.seq (.region [o1 9 (.bin .lss 8 7)]) (.seq (.cond 9 .skip (.exit 0)) (.seq (.frame (rg [4, 5] 10 8) [] false (.join [.si 4] (.block 1 (.seq (.region [im 10 8, ia 5 10]) (.seq
 (.region [im 11 1, im 12 0, im 13 5, o1 14 (.ixA 3 12 13), o1 15 (.load true 3 14), oS ⟨some 16, .callv 11 [15], none⟩ CJ]) (.cond 16 (.seq (.region [im 17 5, ia 4
 17]) .ret) .skip)))))) (.region [o1 18 (.bin .add 8 (kI 1)), im 8 18]))))))))) (.seq (.region [ia 4 (kI (-1))]) .ret)))
def AK : AFn := ⟨ zS1, A8.erase, [.tmp 4], 2⟩
def BA (P : Pg) (x : ((List Commit) × Unit)) (K : Int → Unit → Prop) : Prop :=
 Aj (D := Int) (fun J1 => A3 (D := (Int × Int)) ((0 : Int), (0 : Int)) (fun d3 J4 => (((decide (d3.2 < (x.1.length : Int))) = true → Aj (D := Int) (fun J5 => (0 ≤ d3.2 ∧ d3.2 < (x.1.length : Int)) ∧
 (d3.2.toNat < x.1.length) ∧
 Fn P Z8 CJ (List.getD x.1 d3.2.toNat Ai) (fun (d7 : Bool) (e8 : Unit) => ((d7 = true → K d3.2 ()) ∧ (d7 = false → J5 d3.1)))) (fun d6 => J4 (d6, (i64.wrap (d3.2 + (1 : Int)))))) ∧ ((decide (d3.2 < (x.1.length : Int))) = false → J1 d3.1)))) (fun d2 => K (-1 : Int) ())
theorem CA {P : Pg} (h : Has P AK) {x : DP Ap.ps} {K : DP Ap.rs → DP (ptrs Ap.ps) → Prop} (hw : BA P x K) : Fn P zS1 Ap x K :=
 Cb (c := A8) h rfl rfl (by kernel_rfl) (Eq.mpr (show B8 P AK Ap A8 x K = _ by kernel_rfl) hw)
def A5 : Br :=
 (.seq (.region [o1 4 (.asg kF)]) (.seq (.region [im 5 0, im 6 1, oS ⟨some 7, .call zS1 [5, 6], none⟩
 Ap, o1 8 (.bin .geq 7 (kI 0)), ia 4 8]) .ret))
def AG : AFn := ⟨ zS2, A5.erase, [.tmp 4], 2⟩
def Bn (P : Pg) (x : ((List Commit) × Unit)) (K : Bool → Unit → Prop) : Prop :=
 Fn P zS1 Ap (x.1, ()) (fun (d1 : Int) (e2 : Unit) => K (decide (d1 ≥ (0 : Int))) ())
theorem Cq {P : Pg} (h : Has P AG) {x : DP Al.ps} {K : DP Al.rs → DP (ptrs Al.ps) → Prop} (hw : Bn P x K) : Fn P zS2 Al x K :=
 Cb (c := A5) h rfl rfl (by kernel_rfl) (Eq.mpr (show B8 P AG Al A5 x K = _ by kernel_rfl) hw)
def HK : Br :=
 (.seq (.region [o1 2 (.asg kF)]) (.seq (.region [im 3 0, o1 4 (.lenK 3), o1 5 (.bin .leq 4 (kI 300)), im 6 5, gt 7 6 (.mv 0), oS ⟨some 8, .call
 zS2 [7, (.f Z8)], some (6, true)⟩ Al,
 gt 9 6 (.un .not 8), o1 10 (.pick 6 9 kF), ia 2 10]) .ret))
def FE : AFn := ⟨ YK, HK.erase, [.tmp 2], 1⟩
def Kl (P : Pg) (x : (List Commit)) (K : Bool → Unit → Prop) : Prop :=
 Aj (D := Bool) (fun J1 => (((decide ((x.length : Int) ≤ (300 : Int))) = true → Fn P zS2 Al (x, ()) (fun (d2 : Bool) _ => J1 d2)) ∧ (((decide ((x.length : Int) ≤ (300 : Int))) = false → J1 false) ∧ True))) (fun d3 => K (cond (decide ((x.length : Int) ≤ (300 : Int))) (!d3) false) ())
theorem Oz {P : Pg} (h : Has P FE) {x : DP CW.ps} {K : DP CW.rs → DP (ptrs CW.ps) → Prop} (hw : Kl P x K) : Fn P YK CW x K :=
 Cb (c := HK) h rfl rfl (by kernel_rfl) (Eq.mpr (show B8 P FE CW HK x K = _ by kernel_rfl) hw)
def DU : Br :=
 (.seq (.region [ia 4 (kI 0)]) (.seq (.seq (.region [im 6 0, o1 7 (.lenK 6), o1 8 (.mv (kI 0))]) (.frame (rg [4, 5] 8 11) [] false (.join [.si 4] (.block 0 (.loop [.si 4, .si 8]
 (.seq (.region [o1 9 (.bin .lss 8 7)]) (.seq (.cond 9 .skip (.exit 0)) (.seq (.frame (rg [4, 5] 10 8) [] false (.join [.si 4] (.block 1 (.seq (.region [im 10 8, ia 5 10]) (.seq
 (.region [im 11 1, im 12 0, im 13 5, o1 14 (.ixA 1 12 13), ld 15 14, o1 16 (.bin .eql 11 15)]) (.cond 16 (.seq (.region [im 17 5, ia 4 17]) .ret) .skip)))))) (.region [o1 18 (.bin
 .add 8 (kI 1)), im 8 18]))))))))) (.seq (.region [ia 4 (kI (-1))]) .ret)))
def CU : AFn := ⟨ "slices.Index[[]int,int]", DU.erase, [.tmp 4], 2⟩
def E4 (P : Pg) (x : ((List Int) × Int)) (K : Int → Unit → Prop) : Prop :=
 Aj (D := Int) (fun J1 => A3 (D := (Int × Int)) ((0 : Int), (0 : Int)) (fun d3 J4 => (((decide (d3.2 < (x.1.length : Int))) = true → Aj (D := Int) (fun J5 => (0 ≤ d3.2 ∧ d3.2 < (x.1.length : Int)) ∧
 (d3.2.toNat < x.1.length) ∧
 (((x.2 == (List.getD x.1 d3.2.toNat (0 : Int))) = true → K d3.2 ()) ∧ ((x.2 == (List.getD x.1 d3.2.toNat (0 : Int))) = false → J5 d3.1))) (fun d6 => J4 (d6, (i64.wrap (d3.2 + (1 : Int)))))) ∧ ((decide (d3.2 < (x.1.length : Int))) = false → J1 d3.1)))) (fun d2 => K (-1 : Int) ())
theorem H5 {P : Pg} (h : Has P CU) {x : DP Bi.ps} {K : DP Bi.rs → DP (ptrs Bi.ps) → Prop} (hw : E4 P x K) : Fn P "slices.Index[[]int,int]" Bi x K :=
 Cb (c := DU) h rfl rfl (by kernel_rfl) (Eq.mpr (show B8 P CU Bi DU x K = _ by kernel_rfl) hw)
def Df : Br :=
 (.seq (.region [o1 4 (.asg kF)]) (.seq (.region [im 5 0, im 6 1, oS ⟨some 7, .call "slices.Index[[]int,int]" [5, 6], none⟩ Bi, o1 8 (.bin .geq 7 (kI 0)), ia 4
 8]) .ret))
def Cn : AFn := ⟨ "slices.Contains[[]int,int]", Df.erase, [.tmp 4], 2⟩
def Er (P : Pg) (x : ((List Int) × Int)) (K : Bool → Unit → Prop) : Prop :=
 Fn P "slices.Index[[]int,int]" Bi x (fun (d1 : Int) (e2 : Unit) => K (decide (d1 ≥ (0 : Int))) ())
theorem GQ {P : Pg} (h : Has P Cn) {x : DP A9.ps} {K : DP A9.rs → DP (ptrs A9.ps) → Prop} (hw : Er P x K) : Fn P "slices.Contains[[]int,int]" A9 x K :=
 Cb (c := Df) h rfl rfl (by kernel_rfl) (Eq.mpr (show B8 P Cn A9 Df x K = _ by kernel_rfl) hw)
def HL : Br :=
 (.seq (.region [o1 2 (.asg kF)]) (.seq (.seq (.region [im 7 0, o1 8 (.lenK 7), o1 9 (.mv (kI 0))]) (.frame (rg [2, 4, 5, 6] 9 30) [1004] false (.join [.sl 2 false .bool .leaf]
 (.block 0 (.loop [.sl 2 false .bool .leaf, .si 9] (.seq (.region [o1 10 (.bin .lss 9 8)]) (.seq (.cond 10 .skip (.exit 0)) (.seq (.frame (rg [2, 4, 5, 6] 11 27) [1004] false (.join
 [.sl 2 false .bool .leaf] (.block 1 (.seq (.region [o1 11 (.ixA 3 7 9), o1 12 (.load true 3 11), o1 4 (.alloc [(.slice none 0 0), (.int .i64 0), (.slice none 0 0)]), o0 ⟨none,
 .store 3 4 12, none⟩]) (.seq (.region [fa 13 0 4, ld 14 13, o1 15 (.lenK 14), o1 16 (.mv (kI 0))]) (.frame (rg [2, 5, 6] 16 22) [] false (.join [.sl 2 false .bool .leaf] (.block 2
 (.loop [.sl 2 false .bool .leaf, .si 16] (.seq (.region [o1 17 (.bin .lss 16 15)]) (.seq (.cond 17 .skip (.exit 2)) (.seq (.frame (rg [2, 5, 6] 18 19) [] false (.join [.sl 2 false
 .bool .leaf] (.block 3 (.seq (.region [im 18 16, o1 19 (.ixA 1 14 16), ld 20 19, ia 5 18, ia 6 20]) (.seq (.region [im 21 6, o1 22 (.bin .lss 21 (kI 0)), im 23 22, gf 24 23 (.mv
 6), gf 25 23 (.mv 0), gf 26 23 (.lenK 25), gf 27 23 (.bin .geq 24 26), o1 28 (.pick 23 kT 27), im 29 28, gf 30 29 (.fAddr 0 4), gf 31 29 (.load false 1 30), gf 32 29 (.mv 5), gf 33
 29 (.slK 1 31 none (some 32)), gf 34 29 (.mv 6), oS ⟨some 35, .call "slices.Contains[[]int,int]" [33, 34], some (29, false)⟩ A9, o1 36 (.pick 29 kT 35)])
 (.cond 36 (.seq (.region [o1 2 (.asg kF)]) .ret) .skip)))))) (.region [o1 37 (.bin .add 16 (kI 1)), im 16 37]))))))))))))) (.region [o1 38 (.bin .add 9 (kI 1)), im 9 38])))))))))
 (.seq (.region [o1 2 (.asg kT)]) .ret)))
def FF : AFn := ⟨ YL, HL.erase, [.tmp 2], 1⟩
def Km (P : Pg) (x : (List Commit)) (K : Bool → Unit → Prop) : Prop :=
 Aj (D := Bool) (fun J1 => A3 (D := (Bool × Int)) (false, (0 : Int)) (fun d3 J4 => (((decide (d3.2 < (x.length : Int))) = true → Aj (D := Bool) (fun J5 => (0 ≤ d3.2 ∧ d3.2 < (x.length : Int)) ∧
 (d3.2.toNat < x.length) ∧
 Aj (D := Bool) (fun J7 => A3 (D := (Bool × Int)) (d3.1, (0 : Int)) (fun d9 J10 => (((decide (d9.2 < ((List.length (List.getD x d3.2.toNat Ai).1 : Nat) : Int))) = true → Aj (D := Bool) (fun J11 => (0 ≤ d9.2 ∧ d9.2 < ((List.length (List.getD x d3.2.toNat Ai).1 : Nat) : Int)) ∧
 (d9.2.toNat < List.length (List.getD x d3.2.toNat Ai).1) ∧
 (((cond (decide ((List.getD (List.getD x d3.2.toNat Ai).1 d9.2.toNat (0 : Int)) < (0 : Int))) true (decide ((List.getD (List.getD x d3.2.toNat Ai).1 d9.2.toNat (0 : Int)) ≥ (x.length : Int)))) = false → 0 ≤ d9.2 ∧ d9.2 ≤ ((List.length (List.getD x d3.2.toNat Ai).1 : Nat) : Int))) ∧
 Aj (D := Bool) (fun J13 => (((cond (decide ((List.getD (List.getD x d3.2.toNat Ai).1 d9.2.toNat (0 : Int)) < (0 : Int))) true (decide ((List.getD (List.getD x d3.2.toNat Ai).1 d9.2.toNat (0 : Int)) ≥ (x.length : Int)))) = false → Fn P "slices.Contains[[]int,int]" A9 ((List.take d9.2.toNat (List.getD x d3.2.toNat Ai).1), (List.getD (List.getD x d3.2.toNat Ai).1 d9.2.toNat (0 : Int))) (fun (d14 : Bool) _ => J13 d14)) ∧ (((cond (decide ((List.getD (List.getD x d3.2.toNat Ai).1 d9.2.toNat (0 : Int)) < (0 : Int))) true (decide ((List.getD (List.getD x d3.2.toNat Ai).1 d9.2.toNat (0 : Int)) ≥ (x.length : Int)))) = true → J13 false) ∧ True))) (fun d15 => (((cond (cond (decide ((List.getD (List.getD x d3.2.toNat Ai).1 d9.2.toNat (0 : Int)) < (0 : Int))) true (decide ((List.getD (List.getD x d3.2.toNat Ai).1 d9.2.toNat (0 : Int)) ≥ (x.length : Int)))) true d15) = true → K false ()) ∧ ((cond (cond (decide ((List.getD (List.getD x d3.2.toNat Ai).1 d9.2.toNat (0 : Int)) < (0 : Int))) true (decide ((List.getD (List.getD x d3.2.toNat Ai).1 d9.2.toNat (0 : Int)) ≥ (x.length : Int)))) true d15) = false → J11 d9.1)))) (fun d12 => J10 (d12, (i64.wrap (d9.2 + (1 : Int)))))) ∧ ((decide (d9.2 < ((List.length (List.getD x d3.2.toNat Ai).1 : Nat) : Int))) = false → J7 d9.1)))) (fun d8 => J5 d8)) (fun d6 => J4 (d6, (i64.wrap (d3.2 + (1 : Int)))))) ∧ ((decide (d3.2 < (x.length : Int))) = false → J1 d3.1)))) (fun d2 => K true ())
theorem OA {P : Pg} (h : Has P FF) {x : DP CX.ps} {K : DP CX.rs → DP (ptrs CX.ps) → Prop} (hw : Km P x K) : Fn P YL CX x K :=
 Cb (c := HL) h rfl rfl (by kernel_rfl) (Eq.mpr (show B8 P FF CX HL x K = _ by kernel_rfl) hw)
def IJ : Br :=
 (.seq (.region [o1 2 (.asg (.c (.slice none 0 0)))]) (.seq (.region [im 14 0, o1 15 (.lenK 14), oT ⟨some 16, .mkSl 1 8 [(.int .i64 0)] 15 15, none⟩ (some (bI, .leaf)), ia 3 16])
 (.seq (.seq (.region [im 17 0, o1 18 (.lenK 17), o1 19 (.mv (kI 0))]) (.frame (rg [3, 5, 7] 19 19) [1005] false (.join [.sl 3 false (.sl bI) tO] (.block 0 (.loop [.sl 3 false (.sl
 bI) tO, .si 19] (.seq (.region [o1 20 (.bin .lss 19 18)]) (.seq (.cond 20 .skip (.exit 0)) (.seq (.frame (rg [3, 5, 7] 21 16) [1005] false (.join [.sl 3 false (.sl bI) tO] (.block
 1 (.seq (.region [o1 21 (.ixA 3 17 19), o1 22 (.load true 3 21), o1 5 (.alloc [(.slice none 0 0), (.int .i64 0), (.slice none 0 0)]), o0 ⟨none, .store 3 5 22, none⟩]) (.seq
 (.region [fa 23 0 5, ld 24 23, o1 25 (.lenK 24), o1 26 (.mv (kI 0))]) (.frame (rg [3, 7] 26 11) [] false (.join [.sl 3 false (.sl bI) tO] (.block 2 (.loop [.sl 3 false (.sl bI) tO,
 .si 26] (.seq (.region [o1 27 (.bin .lss 26 25)]) (.seq (.cond 27 .skip (.exit 2)) (.seq (.frame (rg [3, 7] 28 8) [] false (.join [.sl 3 false (.sl bI) tO] (.block 3 (.seq (.region
 [o1 28 (.ixA 1 24 26), ld 29 28, ia 7 29]) (.region [im 30 3, im 31 7, o1 32 (.ixA 1 30 31), ld 33 32, o1 34 (.bin .add 33 (kI 1)), o1 35 (.ixA 1 30 31), o0 ⟨none, .store 1 35 34,
 none⟩]))))) (.region [o1 36 (.bin .add 26 (kI 1)), im 26 36]))))))))))))) (.region [o1 37 (.bin .add 19 (kI 1)), im 19 37]))))))))) (.seq (.region [o1 8 (.asg (.c (.slice none 0
 0)))]) (.seq (.seq (.region [im 38 3, o1 39 (.lenK 38), o1 40 (.mv (kI 0))]) (.frame (rg [8, 9, 10] 40 12) [] false (.join [.sl 8 false (.sl bI) tO] (.block 4 (.loop [.sl 8 false
 (.sl bI) tO, .si 40] (.seq (.region [o1 41 (.bin .lss 40 39)]) (.seq (.cond 41 .skip (.exit 4)) (.seq (.frame (rg [8, 9, 10] 42 9) [] false (.join [.sl 8 false (.sl bI) tO] (.block
 5 (.seq (.region [im 42 40, o1 43 (.ixA 1 38 40), ld 44 43, ia 9 42, ia 10 44]) (.seq (.region [im 45 10, o1 46 (.bin .eql 45 (kI 0))]) (.frame (rg [8] 47 4) [] false (.join [.sl 8
 false (.sl bI) tO] (.cond 46 (.region [im 47 8, im 48 9, oT ⟨some 49, .buildSl 1 [(.int .i64 0)] 1 [(0, 48)], none⟩ (some (bI, .leaf)), oT ⟨some 50, .app 1 8 47 49, none⟩ (some
 (bI, .leaf)), ia 8 50]) .skip)))))))) (.region [o1 51 (.bin .add 40 (kI 1)), im 40 51]))))))))) (.seq (.seq (.region [ia 11 (kI 0)]) (.frame (rg [3, 8, 11, 13] 52 35) [] false
 (.join [.sl 8 false (.sl bI) tO] (.block 6 (.loop [.sl 3 false (.sl bI) tO, .sl 8 false (.sl bI) tO, .si 11] (.seq (.seq (.region [im 52 11, im 53 8, o1 54 (.lenK 53), o1 55 (.bin
 .lss 52 54)]) (.cond 55 .skip (.exit 6))) (.seq (.frame (rg [3, 8, 13] 58 29) [] false (.join [.sl 3 false (.sl bI) tO, .sl 8 false (.sl bI) tO] (.block 7 (.seq (.region [im 58 0,
 im 59 8, im 60 11, o1 61 (.ixA 1 59 60), ld 62 61, o1 63 (.ixA 3 58 62), fa 64 0 63, ld 65 64, o1 66 (.lenK 65), o1 67 (.mv (kI 0))]) (.frame (rg [3, 8, 13] 67 20) [] false (.join
 [.sl 3 false (.sl bI) tO, .sl 8 false (.sl bI) tO] (.block 8 (.loop [.sl 3 false (.sl bI) tO, .sl 8 false (.sl bI) tO, .si 67] (.seq (.region [o1 68 (.bin .lss 67 66)]) (.seq
 (.cond 68 .skip (.exit 8)) (.seq (.frame (rg [3, 8, 13] 69 17) [] false (.join [.sl 3 false (.sl bI) tO, .sl 8 false (.sl bI) tO] (.block 9 (.seq (.region [o1 69 (.ixA 1 65 67), ld
 70 69, ia 13 70]) (.seq (.region [im 71 3, im 72 13, o1 73 (.ixA 1 71 72), ld 74 73, o1 75 (.bin .sub 74 (kI 1)), o1 76 (.ixA 1 71 72), o0 ⟨none, .store 1 76 75, none⟩]) (.seq
 (.region [im 77 3, im 78 13, o1 79 (.ixA 1 77 78), ld 80 79, o1 81 (.bin .eql 80 (kI 0))]) (.frame (rg [8] 82 4) [] false (.join [.sl 8 false (.sl bI) tO] (.cond 81 (.region [im 82
 8, im 83 13, oT ⟨some 84, .buildSl 1 [(.int .i64 0)] 1 [(0, 83)], none⟩ (some (bI, .leaf)), oT ⟨some 85, .app 1 8 82 84, none⟩ (some (bI, .leaf)), ia 8 85]) .skip))))))))) (.region
 [o1 86 (.bin .add 67 (kI 1)), im 67 86])))))))))))) (.region [im 56 11, o1 57 (.bin .add 56 (kI 1)), ia 11 57])))))))) (.seq (.region [im 87 8, ia 2 87]) .ret)))))))
def Gf : AFn := ⟨ YM, IJ.erase, [.tmp 2], 1⟩
def Lo (P : Pg) (x : (List Commit)) (K : (List Int) → Unit → Prop) : Prop :=
 (0 ≤ (x.length : Int) ∧ (x.length : Int) ≤ (x.length : Int) ∧ ((8 : Nat) : Int) * (x.length : Int) ≤ 281474976710656) ∧
 Aj (D := (List Int)) (fun J1 => A3 (D := ((List Int) × Int)) ((List.replicate (Int.toNat (x.length : Int)) (0 : Int)), (0 : Int)) (fun d3 J4 => (((decide (d3.2 < (x.length : Int))) = true → Aj (D := (List Int)) (fun J5 => (0 ≤ d3.2 ∧ d3.2 < (x.length : Int)) ∧
 (d3.2.toNat < x.length) ∧
 Aj (D := (List Int)) (fun J7 => A3 (D := ((List Int) × Int)) (d3.1, (0 : Int)) (fun d9 J10 => (((decide (d9.2 < ((List.length (List.getD x d3.2.toNat Ai).1 : Nat) : Int))) = true → Aj (D := (List Int)) (fun J11 => (0 ≤ d9.2 ∧ d9.2 < ((List.length (List.getD x d3.2.toNat Ai).1 : Nat) : Int)) ∧
 (d9.2.toNat < List.length (List.getD x d3.2.toNat Ai).1) ∧
 (0 ≤ (List.getD (List.getD x d3.2.toNat Ai).1 d9.2.toNat (0 : Int)) ∧ (List.getD (List.getD x d3.2.toNat Ai).1 d9.2.toNat (0 : Int)) < (d9.1.length : Int)) ∧
 ((Int.toNat (List.getD (List.getD x d3.2.toNat Ai).1 d9.2.toNat (0 : Int))) < d9.1.length) ∧
 (0 ≤ (List.getD (List.getD x d3.2.toNat Ai).1 d9.2.toNat (0 : Int)) ∧ (List.getD (List.getD x d3.2.toNat Ai).1 d9.2.toNat (0 : Int)) < (d9.1.length : Int)) ∧
 ((Int.toNat (List.getD (List.getD x d3.2.toNat Ai).1 d9.2.toNat (0 : Int))) < d9.1.length) ∧
 J11 (List.set d9.1 (Int.toNat (List.getD (List.getD x d3.2.toNat Ai).1 d9.2.toNat (0 : Int))) (i64.wrap ((List.getD d9.1 (Int.toNat (List.getD (List.getD x d3.2.toNat Ai).1 d9.2.toNat (0 : Int))) (0 : Int)) + (1 : Int))))) (fun d12 => J10 (d12, (i64.wrap (d9.2 + (1 : Int)))))) ∧ ((decide (d9.2 < ((List.length (List.getD x d3.2.toNat Ai).1 : Nat) : Int))) = false → J7 d9.1)))) (fun d8 => J5 d8)) (fun d6 => J4 (d6, (i64.wrap (d3.2 + (1 : Int)))))) ∧ ((decide (d3.2 < (x.length : Int))) = false → J1 d3.1)))) (fun d2 => Aj (D := (List Int)) (fun J13 => A3 (D := ((List Int) × Int)) ([], (0 : Int)) (fun d15 J16 => (((decide (d15.2 < (d2.length : Int))) = true → Aj (D := (List Int)) (fun J17 => (0 ≤ d15.2 ∧ d15.2 < (d2.length : Int)) ∧
 (d15.2.toNat < d2.length) ∧
 Aj (D := (List Int)) (fun J19 => ((((List.getD d2 d15.2.toNat (0 : Int)) == (0 : Int)) = true → ((d15.1.length + List.length ([d15.2] : List Int)) * 8 ≤ 140737488355328) ∧
 J19 (d15.1 ++ ([d15.2] : List Int))) ∧ (((List.getD d2 d15.2.toNat (0 : Int)) == (0 : Int)) = false → J19 d15.1))) (fun d20 => J17 d20)) (fun d18 => J16 (d18, (i64.wrap (d15.2 + (1 : Int)))))) ∧ ((decide (d15.2 < (d2.length : Int))) = false → J13 d15.1)))) (fun d14 => Aj (D := (List Int)) (fun J21 => A3 (D := ((List Int) × ((List Int) × Int))) (d2, (d14, (0 : Int))) (fun d23 J24 => (((decide (d23.2.2 < (d23.2.1.length : Int))) = true → Aj (D := ((List Int) × (List Int))) (fun J25 => (0 ≤ d23.2.2 ∧ d23.2.2 < (d23.2.1.length : Int)) ∧
 (d23.2.2.toNat < d23.2.1.length) ∧
 (0 ≤ (List.getD d23.2.1 d23.2.2.toNat (0 : Int)) ∧ (List.getD d23.2.1 d23.2.2.toNat (0 : Int)) < (x.length : Int)) ∧
 ((Int.toNat (List.getD d23.2.1 d23.2.2.toNat (0 : Int))) < x.length) ∧
 Aj (D := ((List Int) × (List Int))) (fun J27 => A3 (D := ((List Int) × ((List Int) × Int))) (d23.1, (d23.2.1, (0 : Int))) (fun d29 J30 => (((decide (d29.2.2 < ((List.length (List.getD x (Int.toNat (List.getD d23.2.1 d23.2.2.toNat (0 : Int))) Ai).1 : Nat) : Int))) = true → Aj (D := ((List Int) × (List Int))) (fun J31 => (0 ≤ d29.2.2 ∧ d29.2.2 < ((List.length (List.getD x (Int.toNat (List.getD d23.2.1 d23.2.2.toNat (0 : Int))) Ai).1 : Nat) : Int)) ∧
 (d29.2.2.toNat < List.length (List.getD x (Int.toNat (List.getD d23.2.1 d23.2.2.toNat (0 : Int))) Ai).1) ∧
 (0 ≤ (List.getD (List.getD x (Int.toNat (List.getD d23.2.1 d23.2.2.toNat (0 : Int))) Ai).1 d29.2.2.toNat (0 : Int)) ∧ (List.getD (List.getD x (Int.toNat (List.getD d23.2.1 d23.2.2.toNat (0 : Int))) Ai).1 d29.2.2.toNat (0 : Int)) < (d29.1.length : Int)) ∧
 ((Int.toNat (List.getD (List.getD x (Int.toNat (List.getD d23.2.1 d23.2.2.toNat (0 : Int))) Ai).1 d29.2.2.toNat (0 : Int))) < d29.1.length) ∧
 (0 ≤ (List.getD (List.getD x (Int.toNat (List.getD d23.2.1 d23.2.2.toNat (0 : Int))) Ai).1 d29.2.2.toNat (0 : Int)) ∧ (List.getD (List.getD x (Int.toNat (List.getD d23.2.1 d23.2.2.toNat (0 : Int))) Ai).1 d29.2.2.toNat (0 : Int)) < (d29.1.length : Int)) ∧
 ((Int.toNat (List.getD (List.getD x (Int.toNat (List.getD d23.2.1 d23.2.2.toNat (0 : Int))) Ai).1 d29.2.2.toNat (0 : Int))) < d29.1.length) ∧
 (0 ≤ (List.getD (List.getD x (Int.toNat (List.getD d23.2.1 d23.2.2.toNat (0 : Int))) Ai).1 d29.2.2.toNat (0 : Int)) ∧ (List.getD (List.getD x (Int.toNat (List.getD d23.2.1 d23.2.2.toNat (0 : Int))) Ai).1 d29.2.2.toNat (0 : Int)) < ((List.length (List.set d29.1 (Int.toNat (List.getD (List.getD x (Int.toNat (List.getD d23.2.1 d23.2.2.toNat (0 : Int))) Ai).1 d29.2.2.toNat (0 : Int))) (i64.wrap ((List.getD d29.1 (Int.toNat (List.getD (List.getD x (Int.toNat (List.getD d23.2.1 d23.2.2.toNat (0 : Int))) Ai).1 d29.2.2.toNat (0 : Int))) (0 : Int)) - (1 : Int)))) : Nat) : Int)) ∧
 ((Int.toNat (List.getD (List.getD x (Int.toNat (List.getD d23.2.1 d23.2.2.toNat (0 : Int))) Ai).1 d29.2.2.toNat (0 : Int))) < List.length (List.set d29.1 (Int.toNat (List.getD (List.getD x (Int.toNat (List.getD d23.2.1 d23.2.2.toNat (0 : Int))) Ai).1 d29.2.2.toNat (0 : Int))) (i64.wrap ((List.getD d29.1 (Int.toNat (List.getD (List.getD x (Int.toNat (List.getD d23.2.1 d23.2.2.toNat (0 : Int))) Ai).1 d29.2.2.toNat (0 : Int))) (0 : Int)) - (1 : Int))))) ∧
 Aj (D := (List Int)) (fun J33 => ((((List.getD (List.set d29.1 (Int.toNat (List.getD (List.getD x (Int.toNat (List.getD d23.2.1 d23.2.2.toNat (0 : Int))) Ai).1 d29.2.2.toNat (0 : Int))) (i64.wrap ((List.getD d29.1 (Int.toNat (List.getD (List.getD x (Int.toNat (List.getD d23.2.1 d23.2.2.toNat (0 : Int))) Ai).1 d29.2.2.toNat (0 : Int))) (0 : Int)) - (1 : Int)))) (Int.toNat (List.getD (List.getD x (Int.toNat (List.getD d23.2.1 d23.2.2.toNat (0 : Int))) Ai).1 d29.2.2.toNat (0 : Int))) (0 : Int)) == (0 : Int)) = true → ((d29.2.1.length + List.length ([(List.getD (List.getD x (Int.toNat (List.getD d23.2.1 d23.2.2.toNat (0 : Int))) Ai).1 d29.2.2.toNat (0 : Int))] : List Int)) * 8 ≤ 140737488355328) ∧
 J33 (d29.2.1 ++ ([(List.getD (List.getD x (Int.toNat (List.getD d23.2.1 d23.2.2.toNat (0 : Int))) Ai).1 d29.2.2.toNat (0 : Int))] : List Int))) ∧ (((List.getD (List.set d29.1 (Int.toNat (List.getD (List.getD x (Int.toNat (List.getD d23.2.1 d23.2.2.toNat (0 : Int))) Ai).1 d29.2.2.toNat (0 : Int))) (i64.wrap ((List.getD d29.1 (Int.toNat (List.getD (List.getD x (Int.toNat (List.getD d23.2.1 d23.2.2.toNat (0 : Int))) Ai).1 d29.2.2.toNat (0 : Int))) (0 : Int)) - (1 : Int)))) (Int.toNat (List.getD (List.getD x (Int.toNat (List.getD d23.2.1 d23.2.2.toNat (0 : Int))) Ai).1 d29.2.2.toNat (0 : Int))) (0 : Int)) == (0 : Int)) = false → J33 d29.2.1))) (fun d34 => J31 ((List.set d29.1 (Int.toNat (List.getD (List.getD x (Int.toNat (List.getD d23.2.1 d23.2.2.toNat (0 : Int))) Ai).1 d29.2.2.toNat (0 : Int))) (i64.wrap ((List.getD d29.1 (Int.toNat (List.getD (List.getD x (Int.toNat (List.getD d23.2.1 d23.2.2.toNat (0 : Int))) Ai).1 d29.2.2.toNat (0 : Int))) (0 : Int)) - (1 : Int)))), d34))) (fun d32 => J30 (d32.1, (d32.2, (i64.wrap (d29.2.2 + (1 : Int))))))) ∧ ((decide (d29.2.2 < ((List.length (List.getD x (Int.toNat (List.getD d23.2.1 d23.2.2.toNat (0 : Int))) Ai).1 : Nat) : Int))) = false → J27 (d29.1, d29.2.1))))) (fun d28 => J25 d28)) (fun d26 => J24 (d26.1, (d26.2, (i64.wrap (d23.2.2 + (1 : Int))))))) ∧ ((decide (d23.2.2 < (d23.2.1.length : Int))) = false → J21 d23.2.1)))) (fun d22 => K d22 ())))
theorem PQ {P : Pg} (h : Has P Gf) {x : DP Dh.ps} {K : DP Dh.rs → DP (ptrs Dh.ps) → Prop} (hw : Lo P x K) : Fn P YM Dh x K :=
 Cb (c := IJ) h rfl rfl (by kernel_rfl) (Eq.mpr (show B8 P Gf Dh IJ x K = _ by kernel_rfl) hw)
def G7 : Br :=
 (.seq (.region [o1 1 (.box 0), o1 2 (.asg kF)]) (.seq (.region [fa 3 0 1, ld 4 3, oS ⟨some 5, .call Z9 [4], none⟩ Dx, o1 6 (.bin .neq 5 (kI
 0)), ia 2 6]) .ret))
def EX : AFn := ⟨ zS9, G7.erase, [.tmp 2], 1⟩
def Jb (P : Pg) (x : ((List UInt8) × (List UInt8))) (K : Bool → Unit → Prop) : Prop :=
 Fn P Z9 Dx x.1 (fun (d1 : Int) (e2 : Unit) => K (d1 != (0 : Int)) ())
theorem NC {P : Pg} (h : Has P EX) {x : DP Cx.ps} {K : DP Cx.rs → DP (ptrs Cx.ps) → Prop} (hw : Jb P x K) : Fn P zS9 Cx x K :=
 Cb (c := G7) h rfl rfl (by kernel_rfl) (Eq.mpr (show B8 P EX Cx G7 x K = _ by kernel_rfl) hw)
def Be : Br :=
 (.seq (.region [ia 4 (kI 0)]) (.seq (.seq (.region [im 6 0, o1 7 (.lenK 6), o1 8 (.mv (kI 0))]) (.frame (rg [4, 5] 8 11) [] false (.join [.si 4] (.block 0 (.loop [.si 4, .si 8]
 (.seq (.region [o1 9 (.bin .lss 8 7)]) (.seq (.cond 9 .skip (.exit 0)) (.seq (.frame (rg [4, 5] 10 8) [] false (.join [.si 4] (.block 1 (.seq (.region [im 10 8, ia 5 10]) (.seq
 (.region [im 11 1, im 12 0, im 13 5, o1 14 (.ixA 2 12 13), o1 15 (.load true 2 14), oS ⟨some 16, .callv 11 [15], none⟩ Cx]) (.cond 16 (.seq (.region [im 17 5, ia 4 17])
 .ret) .skip)))))) (.region [o1 18 (.bin .add 8 (kI 1)), im 8 18]))))))))) (.seq (.region [ia 4 (kI (-1))]) .ret)))
def AW : AFn := ⟨ zS3, Be.erase, [.tmp 4], 2⟩
def BN (P : Pg) (x : ((List ((List UInt8) × (List UInt8))) × Unit)) (K : Int → Unit → Prop) : Prop :=
 Aj (D := Int) (fun J1 => A3 (D := (Int × Int)) ((0 : Int), (0 : Int)) (fun d3 J4 => (((decide (d3.2 < (x.1.length : Int))) = true → Aj (D := Int) (fun J5 => (0 ≤ d3.2 ∧ d3.2 < (x.1.length : Int)) ∧
 (d3.2.toNat < x.1.length) ∧
 Fn P zS9 Cx (List.getD x.1 d3.2.toNat ([], [])) (fun (d7 : Bool) (e8 : Unit) => ((d7 = true → K d3.2 ()) ∧ (d7 = false → J5 d3.1)))) (fun d6 => J4 (d6, (i64.wrap (d3.2 + (1 : Int)))))) ∧ ((decide (d3.2 < (x.1.length : Int))) = false → J1 d3.1)))) (fun d2 => K (-1 : Int) ())
theorem C6 {P : Pg} (h : Has P AW) {x : DP Av.ps} {K : DP Av.rs → DP (ptrs Av.ps) → Prop} (hw : BN P x K) : Fn P zS3 Av x K :=
 Cb (c := Be) h rfl rfl (by kernel_rfl) (Eq.mpr (show B8 P AW Av Be x K = _ by kernel_rfl) hw)
def Ba : Br :=
 (.seq (.region [o1 4 (.asg kF)]) (.seq (.region [im 5 0, im 6 1, oS ⟨some 7, .call zS3 [5, 6], none⟩
 Av, o1 8 (.bin .geq 7 (kI 0)), ia 4 8]) .ret))
def AP : AFn := ⟨ zS4, Ba.erase, [.tmp 4], 2⟩
def BE (P : Pg) (x : ((List ((List UInt8) × (List UInt8))) × Unit)) (K : Bool → Unit → Prop) : Prop :=
 Fn P zS3 Av (x.1, ()) (fun (d1 : Int) (e2 : Unit) => K (decide (d1 ≥ (0 : Int))) ())
theorem CL {P : Pg} (h : Has P AP) {x : DP Aq.ps} {K : DP Aq.rs → DP (ptrs Aq.ps) → Prop} (hw : BE P x K) : Fn P zS4 Aq x K :=
 Cb (c := Ba) h rfl rfl (by kernel_rfl) (Eq.mpr (show B8 P AP Aq Ba x K = _ by kernel_rfl) hw)
def IM : Br :=
 (.seq (.region [o1 2 (.asg kF)]) (.seq (.region [im 3 0, oS ⟨some 4, .call "strings.HasSuffix" [3, (.c (.string ⟨#[10]⟩))], none⟩ CP, ia 2 4]) .ret))
def Gi : AFn := ⟨ YN, IM.erase, [.tmp 2], 1⟩
def Lr (P : Pg) (x : (List UInt8)) (K : Bool → Unit → Prop) : Prop :=
 Fn P "strings.HasSuffix" CP (x, ([10] : List UInt8)) (fun (d1 : Bool) (e2 : Unit) => K d1 ())
theorem PU {P : Pg} (h : Has P Gi) {x : DP Dj.ps} {K : DP Dj.rs → DP (ptrs Dj.ps) → Prop} (hw : Lr P x K) : Fn P YN Dj x K :=
 Cb (c := IM) h rfl rfl (by kernel_rfl) (Eq.mpr (show B8 P Gi Dj IM x K = _ by kernel_rfl) hw)
def IL : Br :=
 (.seq (.region [ia 2 (kI 0)]) (.seq (.region [im 4 0, oS ⟨some 5, .call "strings.Count" [4, (.c (.string ⟨#[10]⟩))], none⟩ DW, ia 3 5]) (.seq (.seq (.region [im 6 0,
 o1 7 (.bin .neq 6 (.c (.string ⟨#[]⟩))), im 8 7, gt 9 8 (.mv 0), oS ⟨some 10, .call YN [9], some (8, true)⟩ Dj, gt 11 8 (.un .not 10), o1 12 (.pick 8
 11 kF)]) (.frame [3, 13, 14] [] false (.join [.si 3] (.cond 12 (.region [im 13 3, o1 14 (.bin .add 13 (kI 1)), ia 3 14]) .skip)))) (.seq (.seq (.region [im 15 0, o1 16 (.lenS 15),
 o1 17 (.bin .gtr 16 (kI 1048576)), im 18 17, gf 19 18 (.mv 3), gf 20 18 (.bin .gtr 19 (kI 4096)), o1 21 (.pick 18 kT 20)]) (.cond 21 (.seq (.region [ia 2 (kI 1)]) .ret) .skip))
 (.seq (.region [ia 2 (kI 0)]) .ret)))))
def Gh : AFn := ⟨ YO, IL.erase, [.tmp 2], 1⟩
def Lq (P : Pg) (x : (List UInt8)) (K : Int → Unit → Prop) : Prop :=
 Fn P "strings.Count" DW (x, ([10] : List UInt8)) (fun (d1 : Int) (e2 : Unit) => Aj (D := Bool) (fun J3 => (((!(x == ([] : List UInt8))) = true → Fn P YN Dj x (fun (d4 : Bool) _ => J3 d4)) ∧ (((!(x == ([] : List UInt8))) = false → J3 false) ∧ True))) (fun d5 => Aj (D := Int) (fun J6 => (((cond (!(x == ([] : List UInt8))) (!d5) false) = true → J6 (i64.wrap (d1 + (1 : Int)))) ∧ ((cond (!(x == ([] : List UInt8))) (!d5) false) = false → J6 d1))) (fun d7 => (((cond (decide ((x.length : Int) > (1048576 : Int))) true (decide (d7 > (4096 : Int)))) = true → K (1 : Int) ()) ∧ ((cond (decide ((x.length : Int) > (1048576 : Int))) true (decide (d7 > (4096 : Int)))) = false → K (0 : Int) ())))))
theorem PS {P : Pg} (h : Has P Gh) {x : DP Di.ps} {K : DP Di.rs → DP (ptrs Di.ps) → Prop} (hw : Lq P x K) : Fn P YO Di x K :=
 Cb (c := IL) h rfl rfl (by kernel_rfl) (Eq.mpr (show B8 P Gh Di IL x K = _ by kernel_rfl) hw)
def G8 : Br :=
 (.seq (.region [o1 1 (.box 0), o1 2 (.asg kF)]) (.seq (.region [fa 3 1 1, ld 4 3, oS ⟨some 5, .call YO [4], none⟩ Di, o1 6 (.bin .neq 5 (kI 0)), ia 2
 6]) .ret))
def EY : AFn := ⟨ YJ, G8.erase, [.tmp 2], 1⟩
def Jc (P : Pg) (x : ((List UInt8) × (List UInt8))) (K : Bool → Unit → Prop) : Prop :=
 Fn P YO Di x.2 (fun (d1 : Int) (e2 : Unit) => K (d1 != (0 : Int)) ())
theorem ND {P : Pg} (h : Has P EY) {x : DP Cy.ps} {K : DP Cy.rs → DP (ptrs Cy.ps) → Prop} (hw : Jc P x K) : Fn P YJ Cy x K :=
 Cb (c := G8) h rfl rfl (by kernel_rfl) (Eq.mpr (show B8 P EY Cy G8 x K = _ by kernel_rfl) hw)
def Bf : Br :=
 (.seq (.region [ia 4 (kI 0)]) (.seq (.seq (.region [im 6 0, o1 7 (.lenK 6), o1 8 (.mv (kI 0))]) (.frame (rg [4, 5] 8 11) [] false (.join [.si 4] (.block 0 (.loop [.si 4, .si 8]
 (.seq (.region [o1 9 (.bin .lss 8 7)]) (.seq (.cond 9 .skip (.exit 0)) (.seq (.frame (rg [4, 5] 10 8) [] false (.join [.si 4] (.block 1 (.seq (.region [im 10 8, ia 5 10]) (.seq
 (.region [im 11 1, im 12 0, im 13 5, o1 14 (.ixA 2 12 13), o1 15 (.load true 2 14), oS ⟨some 16, .callv 11 [15], none⟩ Cy]) (.cond 16 (.seq (.region [im 17 5, ia 4 17])
 .ret) .skip)))))) (.region [o1 18 (.bin .add 8 (kI 1)), im 8 18]))))))))) (.seq (.region [ia 4 (kI (-1))]) .ret)))
def AX : AFn := ⟨ zS3, Bf.erase, [.tmp 4], 2⟩
def BO (P : Pg) (x : ((List ((List UInt8) × (List UInt8))) × Unit)) (K : Int → Unit → Prop) : Prop :=
 Aj (D := Int) (fun J1 => A3 (D := (Int × Int)) ((0 : Int), (0 : Int)) (fun d3 J4 => (((decide (d3.2 < (x.1.length : Int))) = true → Aj (D := Int) (fun J5 => (0 ≤ d3.2 ∧ d3.2 < (x.1.length : Int)) ∧
 (d3.2.toNat < x.1.length) ∧
 Fn P YJ Cy (List.getD x.1 d3.2.toNat ([], [])) (fun (d7 : Bool) (e8 : Unit) => ((d7 = true → K d3.2 ()) ∧ (d7 = false → J5 d3.1)))) (fun d6 => J4 (d6, (i64.wrap (d3.2 + (1 : Int)))))) ∧ ((decide (d3.2 < (x.1.length : Int))) = false → J1 d3.1)))) (fun d2 => K (-1 : Int) ())
theorem C7 {P : Pg} (h : Has P AX) {x : DP Aw.ps} {K : DP Aw.rs → DP (ptrs Aw.ps) → Prop} (hw : BO P x K) : Fn P zS3 Aw x K :=
 Cb (c := Bf) h rfl rfl (by kernel_rfl) (Eq.mpr (show B8 P AX Aw Bf x K = _ by kernel_rfl) hw)
def Bb : Br :=
 (.seq (.region [o1 4 (.asg kF)]) (.seq (.region [im 5 0, im 6 1, oS ⟨some 7, .call zS3 [5, 6], none⟩
 Aw, o1 8 (.bin .geq 7 (kI 0)), ia 4 8]) .ret))
def AQ : AFn := ⟨ zS4, Bb.erase, [.tmp 4], 2⟩
def BF (P : Pg) (x : ((List ((List UInt8) × (List UInt8))) × Unit)) (K : Bool → Unit → Prop) : Prop :=
 Fn P zS3 Aw (x.1, ()) (fun (d1 : Int) (e2 : Unit) => K (decide (d1 ≥ (0 : Int))) ())
theorem CN {P : Pg} (h : Has P AQ) {x : DP Ar.ps} {K : DP Ar.rs → DP (ptrs Ar.ps) → Prop} (hw : BF P x K) : Fn P zS4 Ar x K :=
 Cb (c := Bb) h rfl rfl (by kernel_rfl) (Eq.mpr (show B8 P AQ Ar Bb x K = _ by kernel_rfl) hw)
def IP : Br :=
 (.seq (.region [ia 2 (kI 0)]) (.seq (.frame (rg [] 2 15) [] false (.join [.si 2] (.block 0 (.seq (.region [im 4 0, o1 5 (.lenK 4), o1 6 (.bin .gtr 5 (kI 200)), ia 3 6]) (.cond 3
 (.seq (.region [ia 2 (kI 1)]) .ret) (.seq (.region [im 8 0, oS ⟨some 9, .call zS4 [8, (.f zS9)],
 none⟩ Aq, ia 7 9]) (.cond 7 (.seq (.region [ia 2 (kI 210)]) .ret) (.seq (.region [im 11 0, oS ⟨some 12, .call
 "mergelens/tree.ordered" [11], none⟩ E0, o1 13 (.un .not 12), ia 10 13]) (.cond 10 (.seq (.region [ia 2 (kI 211)]) .ret) (.seq (.region [im 15 0, oS ⟨some 16, .call
 zS4 [15, (.f YJ)], none⟩ Ar, ia 14 16]) (.cond
 14 (.seq (.region [ia 2 (kI 1)]) .ret) .skip))))))))))) (.seq (.region [ia 2 (kI 0)]) .ret)))
def EW : AFn := ⟨ zS0, IP.erase, [.tmp 2], 1⟩
def Im (P : Pg) (x : (List ((List UInt8) × (List UInt8)))) (K : Int → Unit → Prop) : Prop :=
 Aj (D := Int) (fun J1 => (((decide ((x.length : Int) > (200 : Int))) = true → K (1 : Int) ()) ∧ ((decide ((x.length : Int) > (200 : Int))) = false → Fn P zS4 Aq (x, ()) (fun (d3 : Bool) (e4 : Unit) => ((d3 = true → K (210 : Int) ()) ∧ (d3 = false → Fn P "mergelens/tree.ordered" E0 x (fun (d5 : Bool) (e6 : Unit) => (((!d5) = true → K (211 : Int) ()) ∧ ((!d5) = false → Fn P zS4 Ar (x, ()) (fun (d7 : Bool) (e8 : Unit) => ((d7 = true → K (1 : Int) ()) ∧ (d7 = false → J1 (0 : Int))))))))))))) (fun d2 => K (0 : Int) ())
theorem Kv {P : Pg} (h : Has P EW) {x : DP BJ.ps} {K : DP BJ.rs → DP (ptrs BJ.ps) → Prop} (hw : Im P x K) : Fn P zS0 BJ x K :=
 Cb (c := IP) h rfl rfl (by kernel_rfl) (Eq.mpr (show B8 P EW BJ IP x K = _ by kernel_rfl) hw)
def HJ : Br :=
 (.seq (.region [o1 1 (.box 0), o1 2 (.asg kF)]) (.seq (.region [fa 3 1 1, ld 4 3, o1 5 (.bin .lss 4 (kI 0)), im 6 5, gf 7 6 (.fAddr 1 1), gf 8 6 (.load false 1 7), gf 9 6 (.bin
 .gtr 8 (kI 2147483647)), o1 10 (.pick 6 kT 9), ia 2 10]) .ret))
def FD : AFn := ⟨ Z7, HJ.erase, [.tmp 2], 1⟩
def PL (P : Pg) (x : Commit) (K : Bool → Unit → Prop) : Prop :=
 K (cond (decide (x.2.1 < (0 : Int))) true (decide (x.2.1 > (2147483647 : Int)))) ()
theorem Oy {P : Pg} (h : Has P FD) {x : DP Dp.ps} {K : DP Dp.rs → DP (ptrs Dp.ps) → Prop} (hw : PL P x K) : Fn P Z7 Dp x K :=
 Cb (c := HJ) h rfl rfl (by kernel_rfl) (Eq.mpr (show B8 P FD Dp HJ x K = _ by kernel_rfl) hw)
def Bc : Br :=
 (.seq (.region [ia 4 (kI 0)]) (.seq (.seq (.region [im 6 0, o1 7 (.lenK 6), o1 8 (.mv (kI 0))]) (.frame (rg [4, 5] 8 11) [] false (.join [.si 4] (.block 0 (.loop [.si 4, .si 8]
 (.seq (.region [o1 9 (.bin .lss 8 7)]) (.seq (.cond 9 .skip (.exit 0)) (.seq (.frame (rg [4, 5] 10 8) [] false (.join [.si 4] (.block 1 (.seq (.region [im 10 8, ia 5 10]) (.seq
 (.region [im 11 1, im 12 0, im 13 5, o1 14 (.ixA 3 12 13), o1 15 (.load true 3 14), oS ⟨some 16, .callv 11 [15], none⟩ Dp]) (.cond 16 (.seq (.region [im 17 5, ia 4 17])
 .ret) .skip)))))) (.region [o1 18 (.bin .add 8 (kI 1)), im 8 18]))))))))) (.seq (.region [ia 4 (kI (-1))]) .ret)))
def AR : AFn := ⟨ zS1, Bc.erase, [.tmp 4], 2⟩
def BG (P : Pg) (x : ((List Commit) × Unit)) (K : Int → Unit → Prop) : Prop :=
 Aj (D := Int) (fun J1 => A3 (D := (Int × Int)) ((0 : Int), (0 : Int)) (fun d3 J4 => (((decide (d3.2 < (x.1.length : Int))) = true → Aj (D := Int) (fun J5 => (0 ≤ d3.2 ∧ d3.2 < (x.1.length : Int)) ∧
 (d3.2.toNat < x.1.length) ∧
 Fn P Z7 Dp (List.getD x.1 d3.2.toNat Ai) (fun (d7 : Bool) (e8 : Unit) => ((d7 = true → K d3.2 ()) ∧ (d7 = false → J5 d3.1)))) (fun d6 => J4 (d6, (i64.wrap (d3.2 + (1 : Int)))))) ∧ ((decide (d3.2 < (x.1.length : Int))) = false → J1 d3.1)))) (fun d2 => K (-1 : Int) ())
theorem CO {P : Pg} (h : Has P AR) {x : DP Au.ps} {K : DP Au.rs → DP (ptrs Au.ps) → Prop} (hw : BG P x K) : Fn P zS1 Au x K :=
 Cb (c := Bc) h rfl rfl (by kernel_rfl) (Eq.mpr (show B8 P AR Au Bc x K = _ by kernel_rfl) hw)
def A7 : Br :=
 (.seq (.region [o1 4 (.asg kF)]) (.seq (.region [im 5 0, im 6 1, oS ⟨some 7, .call zS1 [5, 6], none⟩
 Au, o1 8 (.bin .geq 7 (kI 0)), ia 4 8]) .ret))
def AH : AFn := ⟨ zS2, A7.erase, [.tmp 4], 2⟩
def Bt (P : Pg) (x : ((List Commit) × Unit)) (K : Bool → Unit → Prop) : Prop :=
 Fn P zS1 Au (x.1, ()) (fun (d1 : Int) (e2 : Unit) => K (decide (d1 ≥ (0 : Int))) ())
theorem Cw {P : Pg} (h : Has P AH) {x : DP Ao.ps} {K : DP Ao.rs → DP (ptrs Ao.ps) → Prop} (hw : Bt P x K) : Fn P zS2 Ao x K :=
 Cb (c := A7) h rfl rfl (by kernel_rfl) (Eq.mpr (show B8 P AH Ao A7 x K = _ by kernel_rfl) hw)
def JK : Br :=
 (.seq (.region [ia 2 (kI 0)]) (.seq (.frame (rg [2] 6 18) [] false (.join [.si 2] (.block 0 (.seq (.region [im 7 0, oS ⟨some 8, .call YK [7], none⟩
 CW, o1 9 (.un .not 8), ia 6 9]) (.cond 6 (.seq (.region [ia 2 (kI 1)]) .ret) (.seq (.region [im 11 0, oS ⟨some 12, .call YL [11], none⟩
 CX, o1 13 (.un .not 12), ia 10 13]) (.cond 10 (.seq (.region [ia 2 (kI 230)]) .ret) (.seq (.region [im 15 0, oS ⟨some 16, .call YM [15], none⟩
 Dh, o1 17 (.lenK 16), im 18 0, o1 19 (.lenK 18), o1 20 (.bin .lss 17 19), ia 14 20]) (.cond 14 (.seq (.region [ia 2 (kI 231)]) .ret) (.seq (.region [im 22 0, oS ⟨some 23,
 .call zS2 [22, (.f Z7)], none⟩ Ao, ia 21
 23]) (.cond 21 (.seq (.region [ia 2 (kI 3)]) .ret) .skip))))))))))) (.seq (.seq (.region [im 24 0, o1 25 (.lenK 24), o1 26 (.mv (kI 0))]) (.frame (rg [2, 4, 5] 26 11) [1004] false
 (.join [.si 2] (.block 1 (.loop [.si 2, .si 26] (.seq (.region [o1 27 (.bin .lss 26 25)]) (.seq (.cond 27 .skip (.exit 1)) (.seq (.frame (rg [2, 4, 5] 28 8) [1004] false (.join
 [.si 2] (.block 2 (.seq (.region [o1 28 (.ixA 3 24 26), o1 29 (.load true 3 28), o1 4 (.alloc [(.slice none 0 0), (.int .i64 0), (.slice none 0 0)]), o0 ⟨none, .store 3 4 29,
 none⟩]) (.seq (.region [fa 30 2 4, ld 31 30, oS ⟨some 32, .call zS0 [31], none⟩ BJ, ia 5 32]) (.seq (.region [im 33 5, o1 34 (.bin .neq 33 (kI 0))])
 (.cond 34 (.seq (.region [im 35 5, ia 2 35]) .ret) .skip))))))) (.region [o1 36 (.bin .add 26 (kI 1)), im 26 36]))))))))) (.seq (.region [ia 2 (kI 0)]) .ret))))
def Hl : AFn := ⟨ YP, JK.erase, [.tmp 2], 1⟩
def M9 (P : Pg) (x : (List Commit)) (K : Int → Unit → Prop) : Prop :=
 Aj (D := Int) (fun J1 => Fn P YK CW x (fun (d3 : Bool) (e4 : Unit) => (((!d3) = true → K (1 : Int) ()) ∧ ((!d3) = false → Fn P YL CX x (fun (d5 : Bool) (e6 : Unit) => (((!d5) = true → K (230 : Int) ()) ∧ ((!d5) = false → Fn P YM Dh x (fun (d7 : (List Int)) (e8 : Unit) => (((decide ((d7.length : Int) < (x.length : Int))) = true → K (231 : Int) ()) ∧ ((decide ((d7.length : Int) < (x.length : Int))) = false → Fn P zS2 Ao (x, ()) (fun (d9 : Bool) (e10 : Unit) => ((d9 = true → K (3 : Int) ()) ∧ (d9 = false → J1 (0 : Int)))))))))))))) (fun d2 => Aj (D := Int) (fun J11 => A3 (D := (Int × Int)) (d2, (0 : Int)) (fun d13 J14 => (((decide (d13.2 < (x.length : Int))) = true → Aj (D := Int) (fun J15 => (0 ≤ d13.2 ∧ d13.2 < (x.length : Int)) ∧
 (d13.2.toNat < x.length) ∧
 Fn P zS0 BJ (List.getD x d13.2.toNat Ai).2.2 (fun (d17 : Int) (e18 : Unit) => (((d17 != (0 : Int)) = true → K d17 ()) ∧ ((d17 != (0 : Int)) = false → J15 d13.1)))) (fun d16 => J14 (d16, (i64.wrap (d13.2 + (1 : Int)))))) ∧ ((decide (d13.2 < (x.length : Int))) = false → J11 d13.1)))) (fun d12 => K (0 : Int) ()))
theorem Rn {P : Pg} (h : Has P Hl) {x : DP DF.ps} {K : DP DF.rs → DP (ptrs DF.ps) → Prop} (hw : M9 P x K) : Fn P YP DF x K :=
 Cb (c := JK) h rfl rfl (by kernel_rfl) (Eq.mpr (show B8 P Hl DF JK x K = _ by kernel_rfl) hw)
def PB : Br :=
 (.seq (.region [o1 4 (.asg kF)]) (.seq (.region [im 5 1, o1 6 (.bin .geq 5 (kI 0)), im 7 6, gt 8 7 (.mv 1), gt 9 7 (.mv 0), gt 10 7 (.lenK 9), gt 11 7 (.bin .lss 8 10), o1 12
 (.pick 7 11 kF), ia 4 12]) .ret))
def Lm : AFn := ⟨ "mergelens/dag.Is", PB.erase, [.tmp 4], 2⟩
def Si (P : Pg) (x : ((List Commit) × Int)) (K : Bool → Unit → Prop) : Prop :=
 K (cond (decide (x.2 ≥ (0 : Int))) (decide (x.2 < (x.1.length : Int))) false) ()
theorem Wr {P : Pg} (h : Has P Lm) {x : DP GB.ps} {K : DP GB.rs → DP (ptrs GB.ps) → Prop} (hw : Si P x K) : Fn P "mergelens/dag.Is" GB x K :=
 Cb (c := PB) h rfl rfl (by kernel_rfl) (Eq.mpr (show B8 P Lm GB PB x K = _ by kernel_rfl) hw)
def F9 : Br :=
 (.seq (.region [ia 4 (kI 0)]) (.seq (.seq (.region [im 6 0, oS ⟨some 7, .call YP [6], none⟩ DF, ia 5 7]) (.seq (.region [im 8 5, o1 9 (.bin .neq 8 (kI
 0))]) (.cond 9 (.seq (.region [im 10 5, ia 4 10]) .ret) .skip))) (.seq (.seq (.region [im 11 0, im 12 1, oS ⟨some 13, .call "mergelens/dag.Is" [11, 12], none⟩ GB, o1 14 (.un
 .not 13)]) (.cond 14 (.seq (.region [ia 4 (kI 5)]) .ret) .skip)) (.seq (.region [ia 4 (kI 0)]) .ret))))
def EF : AFn := ⟨ Vt, F9.erase, [.tmp 4], 2⟩
def IY (P : Pg) (x : ((List Commit) × Int)) (K : Int → Unit → Prop) : Prop :=
 Fn P YP DF x.1 (fun (d1 : Int) (e2 : Unit) => (((d1 != (0 : Int)) = true → K d1 ()) ∧ ((d1 != (0 : Int)) = false → Fn P "mergelens/dag.Is" GB x (fun (d3 : Bool) (e4 : Unit) => (((!d3) = true → K (5 : Int) ()) ∧ ((!d3) = false → K (0 : Int) ()))))))
theorem MP {P : Pg} (h : Has P EF) {x : DP BD.ps} {K : DP BD.rs → DP (ptrs BD.ps) → Prop} (hw : IY P x K) : Fn P Vt BD x K :=
 Cb (c := F9) h rfl rfl (by kernel_rfl) (Eq.mpr (show B8 P EF BD F9 x K = _ by kernel_rfl) hw)
def Fj : Br :=
 (.seq (.region [⟨⟨some 4, .asg (.c (.slice none 0 0)), none⟩, none, ⟨[], []⟩, true, none, false, false⟩]) (.seq (.seq (.region [im 8 0, im 9 1, o1 10 (.ixA 3 8 9), fa 11 0 10, ld
 12 11, o1 13 (.lenK 12), o1 14 (.bin .eql 13 (kI 0))]) (.cond 14 (.seq (.region [oT ⟨some 15, .buildSl 1 [(.slice none 0 0)] 1 [(0, (.c (.slice none 0 0)))], none⟩ (some ((.sl
 (.pair .str .str)), tM)), ⟨⟨some 4, .asg 15, none⟩, none, ⟨[], []⟩, true, none, false, false⟩]) .ret) .skip)) (.seq (.region [o1 5 (.asg (.c (.slice none 0 0)))]) (.seq (.seq
 (.region [im 16 0, im 17 1, o1 18 (.ixA 3 16 17), fa 19 0 18, ld 20 19, o1 21 (.lenK 20), o1 22 (.mv (kI 0))]) (.frame (rg [5, 7] 22 13) [] false (.join [.sl 5 false (.sl (.sl
 (.pair .str .str))) (.node .own tM)] (.block 0 (.loop [.sl 5 false (.sl (.sl (.pair .str .str))) (.node .own tM), .si 22] (.seq (.region [o1 23 (.bin .lss 22 21)]) (.seq (.cond 23
 .skip (.exit 0)) (.seq (.frame (rg [5, 7] 24 10) [] false (.join [.sl 5 false (.sl (.sl (.pair .str .str))) (.node .own tM)] (.block 1 (.seq (.region [o1 24 (.ixA 1 20 22), ld 25
 24, ia 7 25]) (.region [im 26 5, im 27 0, im 28 7, o1 29 (.ixA 3 27 28), fa 30 2 29, ld 31 30, oT ⟨some 32, .buildSl 1 [(.slice none 0 0)] 1 [(0, 31)], none⟩ (some ((.sl (.pair
 .str .str)), tM)), oT ⟨some 33, .app 1 24 26 32, none⟩ (some ((.sl (.pair .str .str)), tM)), ia 5 33]))))) (.region [o1 34 (.bin .add 22 (kI 1)), im 22 34]))))))))) (.seq (.region
 [im 35 5, ⟨⟨some 4, .asg 35, none⟩, none, ⟨[], []⟩, true, none, false, false⟩]) .ret)))))
def D9 : AFn := ⟨ Vu, Fj.erase, [.tmp 4], 2⟩
def Hq (P : Pg) (x : ((List Commit) × Int)) (K : (List (List ((List UInt8) × (List UInt8)))) → Unit → Prop) : Prop :=
 (0 ≤ x.2 ∧ x.2 < (x.1.length : Int)) ∧
 (x.2.toNat < x.1.length) ∧
 (((((List.length (List.getD x.1 x.2.toNat Ai).1 : Nat) : Int) == (0 : Int)) = true → K ([[]] : List (List ((List UInt8) × (List UInt8)))) ()) ∧ ((((List.length (List.getD x.1 x.2.toNat Ai).1 : Nat) : Int) == (0 : Int)) = false → (0 ≤ x.2 ∧ x.2 < (x.1.length : Int)) ∧
 (x.2.toNat < x.1.length) ∧
 Aj (D := (List (List ((List UInt8) × (List UInt8))))) (fun J1 => A3 (D := ((List (List ((List UInt8) × (List UInt8)))) × Int)) ([], (0 : Int)) (fun d3 J4 => (((decide (d3.2 < ((List.length (List.getD x.1 x.2.toNat Ai).1 : Nat) : Int))) = true → Aj (D := (List (List ((List UInt8) × (List UInt8))))) (fun J5 => (0 ≤ d3.2 ∧ d3.2 < ((List.length (List.getD x.1 x.2.toNat Ai).1 : Nat) : Int)) ∧
 (d3.2.toNat < List.length (List.getD x.1 x.2.toNat Ai).1) ∧
 (0 ≤ (List.getD (List.getD x.1 x.2.toNat Ai).1 d3.2.toNat (0 : Int)) ∧ (List.getD (List.getD x.1 x.2.toNat Ai).1 d3.2.toNat (0 : Int)) < (x.1.length : Int)) ∧
 ((Int.toNat (List.getD (List.getD x.1 x.2.toNat Ai).1 d3.2.toNat (0 : Int))) < x.1.length) ∧
 ((d3.1.length + List.length ([(List.getD x.1 (Int.toNat (List.getD (List.getD x.1 x.2.toNat Ai).1 d3.2.toNat (0 : Int))) Ai).2.2] : List (List ((List UInt8) × (List UInt8))))) * 24 ≤ 140737488355328) ∧
 J5 (d3.1 ++ ([(List.getD x.1 (Int.toNat (List.getD (List.getD x.1 x.2.toNat Ai).1 d3.2.toNat (0 : Int))) Ai).2.2] : List (List ((List UInt8) × (List UInt8)))))) (fun d6 => J4 (d6, (i64.wrap (d3.2 + (1 : Int)))))) ∧ ((decide (d3.2 < ((List.length (List.getD x.1 x.2.toNat Ai).1 : Nat) : Int))) = false → J1 d3.1)))) (fun d2 => K d2 ())))
theorem K3 {P : Pg} (h : Has P D9) {x : DP Bp.ps} {K : DP Bp.rs → DP (ptrs Bp.ps) → Prop} (hw : Hq P x K) : Fn P Vu Bp x K :=
 Cb (c := Fj) h rfl rfl (by kernel_rfl) (Eq.mpr (show B8 P D9 Bp Fj x K = _ by kernel_rfl) hw)
end Go.VS
