/- Functions of the program: typed code, and what it says, lifted. -/
import Derived.Test.YtdnomijflodcgaaGreatDoorKTxSig
import Derived.KernelRfl
set_option linter.unusedVariables false
set_option linter.unusedSimpArgs false
set_option maxRecDepth 8000
namespace Go.VS
open IntKind
def K5 : Bn :=
 (.seq (.region [o1 6 (.asg (.c (.slice none 0 0)))]) (.seq (.region [im 11 0, oS ⟨some 12, .call zS0 [11, (kI 0)], none⟩ Ba, im 13 1, o1 14 (.bin .add
 13 (kI 1)), oS ⟨some 15, .call zS1 [12, 14], none⟩ Bt, ia 1 15]) (.seq (.region [oT ⟨some 16, .buildSl 3 [(.slice none 0 0), (.int .i64 0), (.slice
 none 0 0)] 0 [], none⟩ (some (AJ, (.pair tM (.pair .leaf tM)))), ia 7 16]) (.seq (.seq (.region [ia 8 (kI 0)]) (.frame (rg [7, 8, 9, 10] 17 95) [1009] true (.join [.sl 7 false
 (.sl AJ) (.node .own (.pair tM (.pair .leaf tM)))] (.block 0 (.loop [.sl 7 false (.sl AJ) (.node .own (.pair tM (.pair .leaf tM))), .si 8] (.seq (.seq (.region [im 17 8,
 im 18 1, o1 19 (.bin .lss 17 18)]) (.cond 19 .skip (.exit 0))) (.seq (.frame (rg [7, 9, 10] 22 90) [1009] true (.join [.sl 7 false (.sl AJ) (.node .own (.pair tM (.pair .leaf
 tM)))] (.block 1 (.seq (.region [im 22 0, im 23 8, o1 24 (.bin .add (kI 1000) 23), oS ⟨some 25, .call zS0 [22, 24], none⟩ Ba, oS ⟨some 26, .call
 zS1 [25, (kI 5)], none⟩ Bt, o1 27 (.build [(.slice none 0 0), (.int .i64 0), (.slice none 0 0)] [(1, 1, 26)]), o1 9 (.alloc [(.slice none 0 0),
 (.int .i64 0), (.slice none 0 0)]), o0 ⟨none, .store 3 9 27, none⟩]) (.seq (.seq (.region [ia 10 (kI 0)]) (.frame (rg [10] 28 26) [1009] true (.join [.bx 1009 AJ (.pair tO
 (.pair .leaf tO))] (.block 2 (.loop [.si 10, .bx 1009 AJ (.pair tO (.pair .leaf tO))] (.seq (.seq (.region [im 28 10, im 29 8, o1 30 (.bin .lss 28 29)]) (.cond 30 .skip (.exit
 2))) (.seq (.frame (rg [] 33 21) [1009] true (.join [.bx 1009 AJ (.pair tO (.pair .leaf tO))] (.block 3 (.seq (.region [im 33 0, im 34 8, o1 35 (.bin .mul (kI 40) 34), o1 36
 (.bin .add (kI 1100) 35), im 37 10, o1 38 (.bin .add 36 37), oS ⟨some 39, .call zS0 [33, 38], none⟩ Ba, o1 40 (.bin .rem 39 (kI 3)), o1 41 (.bin .eql
 40 (kI 0)), im 42 41, gt 43 42 (.fAddr 0 9), gt 44 42 (.load false 1 43), gt 45 42 (.lenK 44), gt 46 42 (.bin .lss 45 (kI 3)), o1 47 (.pick 42 46 kF)]) (.frame (rg [] 48 6) [1009]
 true (.join [.bx 1009 AJ (.pair tO (.pair .leaf tO))] (.cond 47 (.region [fa 48 0 9, ld 49 48, im 50 10, oT ⟨some 51, .buildSl 1 [(.int .i64 0)] 1 [(0, 50)], none⟩ (some (bI,
 .leaf)), oT ⟨some 52, .app 1 8 49 51, none⟩ (some (bI, .leaf)), fa 53 0 9, o0 ⟨none, .store 1 53 52, none⟩]) .skip))))))) (.region [im 31 10, o1 32 (.bin .add 31 (kI 1)), ia 10
 32])))))))) (.seq (.seq (.region [fa 54 0 9, ld 55 54, o1 56 (.lenK 55), o1 57 (.bin .eql 56 (kI 0)), im 58 57, gt 59 58 (.mv 8), gt 60 58 (.bin .gtr 59 (kI 0)), o1 61 (.pick 58 60
 kF), im 62 61, gt 63 62 (.mv 0), gt 64 62 (.mv 8), gt 65 62 (.bin .add (kI 1500) 64), oS ⟨some 66, .call zS0 [63, 65], some (62, true)⟩ Ba, gt 67 62
 (.bin .rem 66 (kI 4)), gt 68 62 (.bin .gtr 67 (kI 0)), o1 69 (.pick 62 68 kF)]) (.frame (rg [] 70 4) [1009] true (.join [.bx 1009 AJ (.pair tO (.pair .leaf tO))] (.cond 69
 (.region [im 70 8, o1 71 (.bin .sub 70 (kI 1)), oT ⟨some 72, .buildSl 1 [(.int .i64 0)] 1 [(0, 71)], none⟩ (some (bI, .leaf)), fa 73 0 9, o0 ⟨none, .store 1 73 72, none⟩])
 .skip)))) (.seq (.region [im 74 0, im 75 8, o1 76 (.bin .mul (kI 200) 75), o1 77 (.bin .add (kI 2000) 76), im 78 2, oS ⟨some 79, .call WY [74, 77, 78],
 none⟩ CJ, fa 80 2 9, o0 ⟨none, .store 1 80 79, none⟩]) (.seq (.seq (.region [fa 81 0 9, ld 82 81, o1 83 (.lenK 82), o1 84 (.bin .gtr 83 (kI 0)), im 85 84, gt 86 85 (.mv
 0), gt 87 85 (.mv 8), gt 88 85 (.bin .add (kI 1600) 87), oS ⟨some 89, .call zS0 [86, 88], some (85, true)⟩ Ba, gt 90 85 (.bin .rem 89 (kI 4)), gt 91
 85 (.bin .gtr 90 (kI 0)), o1 92 (.pick 85 91 kF)]) (.frame (rg [] 93 15) [1009] true (.join [.bx 1009 AJ (.pair tO (.pair .leaf tO))] (.cond 92 (.region [im 93 7, fa 94 0 9,
 ld 95 94, o1 96 (.ixA 1 95 (kI 0)), ld 97 96, o1 98 (.ixA 3 93 97), fa 99 2 98, ld 100 99, im 101 0, im 102 8, o1 103 (.bin .mul (kI 200) 102), o1 104 (.bin .add (kI 2000) 103), im
 105 2, oS ⟨some 106, .call Aco [100, 101, 104, 105], none⟩ DA, fa 107 2 9, o0 ⟨none, .store 1 107 106, none⟩]) .skip)))) (.region [im 108 7,
 o1 109 (.load true 3 9), ⟨⟨some 110, .buildSl 3 [(.slice none 0 0), (.int .i64 0), (.slice none 0 0)] 1 [(0, 109)], none⟩, some (AJ, (.pair tO (.pair .leaf tO))), ⟨[], []⟩,
 true, none, false, false⟩, oT ⟨some 111, .app 3 56 108 110, none⟩ (some (AJ, (.pair tM (.pair .leaf tM)))), ia 7 111]))))))))) (.region [im 20 8, o1 21 (.bin .add 20 (kI 1)),
 ia 8 21])))))))) (.seq (.frz [7] (.region [im 112 7, im 113 0, oS ⟨some 114, .call Acp [112, 113], none⟩ Dz, ia 6 114])) .ret)))))
def HY : AFn := ⟨ Acq, K5.erase, [.tmp 6], 3⟩
def OS (P : Pg) (x : ((List Int) × (Int × Int))) (K : (List Commit) → Unit → Prop) : Prop :=
 Fn P zS0 Ba (x.1, (0 : Int)) (fun (d1 : Int) (e2 : Unit) => Fn P zS1 Bt (d1, (i64.wrap (x.2.1 + (1 : Int)))) (fun (d3 : Int) (e4 : Unit) => Ad (D := (List Commit)) (fun J5 => AF (D := ((List Commit) × Int)) (([] : List Commit), (0 : Int)) (fun d7 J8 => (((decide (d7.2 < d3)) = true → Ad (D := (List Commit)) (fun J9 => Fn P zS0 Ba (x.1, (i64.wrap ((1000 : Int) + d7.2))) (fun (d11 : Int) (e12 : Unit) => Fn P zS1 Bt (d11, (5 : Int)) (fun (d13 : Int) (e14 : Unit) => Ad (D := Commit) (fun J15 => AF (D := (Int × Commit)) ((0 : Int), ([], (d13, []))) (fun d17 J18 => (((decide (d17.1 < d7.2)) = true → Ad (D := Commit) (fun J19 => Fn P zS0 Ba (x.1, (i64.wrap ((i64.wrap ((1100 : Int) + (i64.wrap ((40 : Int) * d7.2)))) + d17.1))) (fun (d21 : Int) (e22 : Unit) => ((3 : Int) ≠ 0) ∧
 Ad (D := Commit) (fun J23 => (((cond ((Int.tmod d21 (3 : Int)) == (0 : Int)) (decide ((d17.2.1.length : Int) < (3 : Int))) false) = true → ((d17.2.1.length + List.length ([d17.1] : List Int)) * 8 ≤ 140737488355328) ∧
 J23 ((d17.2.1 ++ ([d17.1] : List Int)), d17.2.2)) ∧ ((cond ((Int.tmod d21 (3 : Int)) == (0 : Int)) (decide ((d17.2.1.length : Int) < (3 : Int))) false) = false → J23 d17.2))) (fun d24 => J19 d24))) (fun d20 => J18 ((i64.wrap (d17.1 + (1 : Int))), d20))) ∧ ((decide (d17.1 < d7.2)) = false → J15 d17.2)))) (fun d16 => Ad (D := Int) (fun J25 => (((cond ((d16.1.length : Int) == (0 : Int)) (decide (d7.2 > (0 : Int))) false) = true → Fn P zS0 Ba (x.1, (i64.wrap ((1500 : Int) + d7.2))) (fun (d26 : Int) _ => J25 d26)) ∧ (((cond ((d16.1.length : Int) == (0 : Int)) (decide (d7.2 > (0 : Int))) false) = false → J25 (0 : Int)) ∧ True))) (fun d27 => (((cond ((d16.1.length : Int) == (0 : Int)) (decide (d7.2 > (0 : Int))) false) = true → (4 : Int) ≠ 0)) ∧
 Ad (D := Commit) (fun J28 => (((cond (cond ((d16.1.length : Int) == (0 : Int)) (decide (d7.2 > (0 : Int))) false) (decide ((Int.tmod d27 (4 : Int)) > (0 : Int))) false) = true → J28 (([(i64.wrap (d7.2 - (1 : Int)))] : List Int), d16.2)) ∧ ((cond (cond ((d16.1.length : Int) == (0 : Int)) (decide (d7.2 > (0 : Int))) false) (decide ((Int.tmod d27 (4 : Int)) > (0 : Int))) false) = false → J28 d16))) (fun d29 => Fn P WY CJ (x.1, ((i64.wrap ((2000 : Int) + (i64.wrap ((200 : Int) * d7.2)))), x.2.2)) (fun (d30 : (List ((List UInt8) × (List UInt8)))) (e31 : Unit) => Ad (D := Int) (fun J32 => (((decide ((d29.1.length : Int) > (0 : Int))) = true → Fn P zS0 Ba (x.1, (i64.wrap ((1600 : Int) + d7.2))) (fun (d33 : Int) _ => J32 d33)) ∧ (((decide ((d29.1.length : Int) > (0 : Int))) = false → J32 (0 : Int)) ∧ True))) (fun d34 => (((decide ((d29.1.length : Int) > (0 : Int))) = true → (4 : Int) ≠ 0)) ∧
 Ad (D := Commit) (fun J35 => (((cond (decide ((d29.1.length : Int) > (0 : Int))) (decide ((Int.tmod d34 (4 : Int)) > (0 : Int))) false) = true → (0 ≤ (0 : Int) ∧ (0 : Int) < (d29.1.length : Int)) ∧
 ((Int.toNat (0 : Int)) < d29.1.length) ∧
 (0 ≤ (List.getD d29.1 (Int.toNat (0 : Int)) (0 : Int)) ∧ (List.getD d29.1 (Int.toNat (0 : Int)) (0 : Int)) < (d7.1.length : Int)) ∧
 ((Int.toNat (List.getD d29.1 (Int.toNat (0 : Int)) (0 : Int))) < d7.1.length) ∧
 Fn P Aco DA ((List.getD d7.1 (Int.toNat (List.getD d29.1 (Int.toNat (0 : Int)) (0 : Int))) Aj).2.2, (x.1, ((i64.wrap ((2000 : Int) + (i64.wrap ((200 : Int) * d7.2)))), x.2.2))) (fun (d37 : (List ((List UInt8) × (List UInt8)))) (e38 : Unit) => J35 (d29.1, (d29.2.1, d37)))) ∧ ((cond (decide ((d29.1.length : Int) > (0 : Int))) (decide ((Int.tmod d34 (4 : Int)) > (0 : Int))) false) = false → J35 (d29.1, (d29.2.1, d30))))) (fun d36 => ((d7.1.length + List.length ([d36] : List Commit)) * 56 ≤ 140737488355328) ∧
 J9 (d7.1 ++ ([d36] : List Commit))))))))))) (fun d10 => J8 (d10, (i64.wrap (d7.2 + (1 : Int)))))) ∧ ((decide (d7.2 < d3)) = false → J5 d7.1)))) (fun d6 => Fn P Acp Dz (d6, x.1) (fun (d39 : (List Commit)) (e40 : Unit) => K d39 ()))))
theorem TR {P : Pg} (h : Has P HY) {x : DP DX.ps} {K : DP DX.rs → DP (ptrs DX.ps) → Prop} (hw : OS P x K) : Fn P Acq DX x K :=
 BI (c := K5) h rfl rfl (by kernel_rfl) (Eq.mpr (show BE P HY DX K5 x K = _ by kernel_rfl) hw)
def Alm : Bn :=
 (.seq (.region [o1 4 (.asg kF)]) (.seq (.seq (.region [im 6 0, o1 7 (.lenK 6), im 8 1, o1 9 (.lenK 8), o1 10 (.bin .neq 7 9)]) (.cond 10 (.seq (.region [o1 4 (.asg kF)]) .ret)
 .skip)) (.seq (.seq (.region [ia 5 (kI 0)]) (.frame (rg [4, 5] 11 15) [] false (.join [.sl 4 false .bool .leaf] (.block 0 (.loop [.sl 4 false .bool .leaf, .si 5] (.seq (.seq
 (.region [im 11 5, im 12 0, o1 13 (.lenK 12), o1 14 (.bin .lss 11 13)]) (.cond 14 .skip (.exit 0))) (.seq (.frame (rg [4] 17 9) [] false (.join [.sl 4 false .bool .leaf] (.block 1
 (.seq (.draw [(.first (im 17 0) (.first (im 18 5) (.first (o1 19 (.ixA 2 17 18)) (.first (o1 20 (.load true 2 19)) (.first (im 21 1) (.first (im 22 5) (.first (o1 23 (.ixA 2 21
 22)) (.first (o1 24 (.load true 2 23)) (.first (o1 25 (.eqA true [.str, .str] 20 24)) .done)))))))))]) (.cond 25 (.seq (.region [o1 4 (.asg kF)]) .ret) .skip))))) (.region [im 15
 5, o1 16 (.bin .add 15 (kI 1)), ia 5 16])))))))) (.seq (.region [o1 4 (.asg kT)]) .ret))))
def Alg : AFn := ⟨ YC, Alm.erase, [.tmp 4], 2⟩
def Aly (P : Pg) (x : ((List ((List UInt8) × (List UInt8))) × (List ((List UInt8) × (List UInt8))))) (K : Bool → Unit → Prop) : Prop :=
 ((((x.1.length : Int) != (x.2.length : Int)) = true → K false ()) ∧ (((x.1.length : Int) != (x.2.length : Int)) = false → Ad (D := Bool) (fun J1 => AF (D := (Bool × Int)) (false, (0 : Int)) (fun d3 J4 => (((decide (d3.2 < (x.1.length : Int))) = true → Ad (D := Bool) (fun J5 => (0 ≤ d3.2 ∧ d3.2 < (x.1.length : Int)) ∧
 (d3.2.toNat < x.1.length) ∧
 (0 ≤ d3.2 ∧ d3.2 < (x.2.length : Int)) ∧
 (d3.2.toNat < x.2.length) ∧
 (((!(((List.getD x.1 d3.2.toNat ([], [])).1 == (List.getD x.2 d3.2.toNat ([], [])).1) && (((List.getD x.1 d3.2.toNat ([], [])).2 == (List.getD x.2 d3.2.toNat ([], [])).2) && true))) = true → K false ()) ∧ ((!(((List.getD x.1 d3.2.toNat ([], [])).1 == (List.getD x.2 d3.2.toNat ([], [])).1) && (((List.getD x.1 d3.2.toNat ([], [])).2 == (List.getD x.2 d3.2.toNat ([], [])).2) && true))) = false → J5 d3.1))) (fun d6 => J4 (d6, (i64.wrap (d3.2 + (1 : Int)))))) ∧ ((decide (d3.2 < (x.1.length : Int))) = false → J1 d3.1)))) (fun d2 => K true ())))
theorem AlM {P : Pg} (h : Has P Alg) {x : DP Ala.ps} {K : DP Ala.rs → DP (ptrs Ala.ps) → Prop} (hw : Aly P x K) : Fn P YC Ala x K :=
 BI (c := Alm) h rfl rfl (by kernel_rfl) (Eq.mpr (show BE P Alg Ala Alm x K = _ by kernel_rfl) hw)
def Alc : Bn :=
 (.seq (.region [o1 4 (.asg kF)]) (.seq (.region [im 12 0, oS ⟨some 13, .call Acq [12, (kI 6), (kI 2)], none⟩ DX, ia 5 13]) (.seq (.seq (.region
 [im 14 5, o1 15 (.lenK 14), o1 16 (.bin .eql 15 (kI 0))]) (.cond 16 (.seq (.region [oS ⟨some 17, .call zS8 [], none⟩ Agc, ia 4 17]) .ret)
 .skip)) (.seq (.region [im 18 1, im 19 5, o1 20 (.lenK 19), oS ⟨some 21, .call zS1 [18, 20], none⟩ Bt, ia 1 21]) (.seq (.region [im 23 5, im 24 1,
 oS ⟨some 25, .call Yx [23, 24], none⟩ Af9, im 22 25, o1 26 (.ext 22 0), o1 27 (.ext 22 1), ia 6 26, ia 7 27]) (.seq (.seq (.region [im 28 7, o1
 29 (.bin .neq 28 (kI 0)), im 30 29, gf 31 30 (.mv 6), gf 32 30 (.lenK 31), gf 33 30 (.mv 5), gf 34 30 (.mv 1), gf 35 30 (.ixA 3 33 34), gf 36 30 (.fAddr 0 35), gf 37 30 (.load
 false 1 36), gf 38 30 (.lenK 37), gf 39 30 (.mm true 38 (kI 1)), gf 40 30 (.bin .neq 32 39), o1 41 (.pick 30 kT 40)]) (.cond 41 (.seq (.region [o1 4 (.asg kF)]) .ret) .skip)) (.seq
 (.seq (.region [ia 8 (kI 0)]) (.frame (rg [4, 8, 9, 10, 11] 42 51) [] false (.join [.sl 4 false .bool .leaf] (.block 0 (.loop [.sl 4 false .bool .leaf, .si 8] (.seq (.seq (.region
 [im 42 8, im 43 6, o1 44 (.lenK 43), o1 45 (.bin .lss 42 44)]) (.cond 45 .skip (.exit 0))) (.seq (.frame (rg [4, 9, 10, 11] 48 45) [] false (.join [.sl 4 false .bool .leaf] (.block
 1 (.seq (.region [o1 9 (.asg (.c (.slice none 0 0)))]) (.seq (.seq (.region [im 48 5, im 49 1, o1 50 (.ixA 3 48 49), fa 51 0 50, ld 52 51, o1 53 (.lenK 52), o1 54 (.bin .gtr 53 (kI
 0))]) (.frame (rg [9] 55 12) [] false (.join [.sl 9 false (.sl (.pair .str .str)) tM] (.cond 54 (.region [im 55 5, im 56 5, im 57 1, o1 58 (.ixA 3 56 57), fa 59 0 58, ld 60 59, im
 61 8, o1 62 (.ixA 1 60 61), ld 63 62, o1 64 (.ixA 3 55 63), fa 65 2 64, ld 66 65, ia 9 66]) .skip)))) (.seq (.frame (rg [10, 11] 67 14) [] false (.join [.sl 10 false (.sl (.pair
 .str .str)) tO, .si 11] (.draw [(.first (im 68 9) (.first (im 69 5) (.first (im 70 1) (.first (o1 71 (.ixA 3 69 70)) (.first (fa 72 2 71) (.first (ld 73 72) (.first (im 74 6)
 (.first (im 75 8) (.first (o1 76 (.ixA 1 74 75)) (.first (ld 77 76) (.alt (oS ⟨some 78, .call "mergelens/tree.Apply" [68, 73, 77], none⟩ Alj) (.first (im 67 78) (.alt (o1
 79 (.ext 67 0)) (.alt (o1 80 (.ext 67 1)) (.alt (ia 10 79) (.alt (ia 11 80) .done .stop) .stop) (.alt (ia 10 79) (.alt (o1 80 (.ext 67 1)) (.alt (ia 11 80) .done .stop) .stop)
 .stop)) (.alt (o1 80 (.ext 67 1)) (.alt (o1 79 (.ext 67 0)) (.alt (ia 10 79) (.alt (ia 11 80) .done .stop) .stop) .stop) .stop))) .stop)))))))))))]))) (.seq (.region [im 81 11, o1
 82 (.bin .neq 81 (kI 0)), im 83 82, gf 84 83 (.mv 10), gf 85 83 (.mv 5), gf 86 83 (.mv 1), gf 87 83 (.ixA 3 85 86), gf 88 83 (.fAddr 2 87), gf 89 83 (.load false 1 88), oS ⟨some
 90, .call YC [84, 89], some (83, false)⟩ Ala, gf 91 83 (.un .not 90), o1 92 (.pick 83 kT 91)]) (.cond 92 (.seq (.region [o1 4 (.asg kF)]) .ret)
 .skip)))))))) (.region [im 46 8, o1 47 (.bin .add 46 (kI 1)), ia 8 47])))))))) (.seq (.region [oS ⟨some 93, .call zS8 [], none⟩ Agc, ia 4
 93]) .ret))))))))
def Alb : AFn := ⟨ Acs, Alc.erase, [.tmp 4], 2⟩
def Alf (P : Pg) (x : ((List Int) × Int)) (K : Bool → Unit → Prop) : Prop :=
 Fn P Acq DX (x.1, ((6 : Int), (2 : Int))) (fun (d1 : (List Commit)) (e2 : Unit) => ((((d1.length : Int) == (0 : Int)) = true → Fn P zS8 Agc () (fun (d3 : Bool) (e4 : Unit) => K d3 ())) ∧ (((d1.length : Int) == (0 : Int)) = false → Fn P zS1 Bt (x.2, (d1.length : Int)) (fun (d5 : Int) (e6 : Unit) => Fn P Yx Af9 (d1, d5) (fun (d7 : ((List (List ((List UInt8) × Int))) × Int)) (e8 : Unit) => (((d7.2 != (0 : Int)) = false → 0 ≤ d5 ∧ d5 < (d1.length : Int))) ∧
 (((d7.2 != (0 : Int)) = false → d5.toNat < d1.length)) ∧
 (((cond (d7.2 != (0 : Int)) true ((d7.1.length : Int) != (if (1 : Int) > ((List.length (List.getD d1 d5.toNat Aj).1 : Nat) : Int) then (1 : Int) else ((List.length (List.getD d1 d5.toNat Aj).1 : Nat) : Int)))) = true → K false ()) ∧ ((cond (d7.2 != (0 : Int)) true ((d7.1.length : Int) != (if (1 : Int) > ((List.length (List.getD d1 d5.toNat Aj).1 : Nat) : Int) then (1 : Int) else ((List.length (List.getD d1 d5.toNat Aj).1 : Nat) : Int)))) = false → Ad (D := Bool) (fun J9 => AF (D := (Bool × Int)) (false, (0 : Int)) (fun d11 J12 => (((decide (d11.2 < (d7.1.length : Int))) = true → Ad (D := Bool) (fun J13 => (0 ≤ d5 ∧ d5 < (d1.length : Int)) ∧
 (d5.toNat < d1.length) ∧
 Ad (D := (List ((List UInt8) × (List UInt8)))) (fun J15 => (((decide (((List.length (List.getD d1 d5.toNat Aj).1 : Nat) : Int) > (0 : Int))) = true → (0 ≤ d5 ∧ d5 < (d1.length : Int)) ∧
 (d5.toNat < d1.length) ∧
 (0 ≤ d11.2 ∧ d11.2 < ((List.length (List.getD d1 d5.toNat Aj).1 : Nat) : Int)) ∧
 (d11.2.toNat < List.length (List.getD d1 d5.toNat Aj).1) ∧
 (0 ≤ (List.getD (List.getD d1 d5.toNat Aj).1 d11.2.toNat (0 : Int)) ∧ (List.getD (List.getD d1 d5.toNat Aj).1 d11.2.toNat (0 : Int)) < (d1.length : Int)) ∧
 ((Int.toNat (List.getD (List.getD d1 d5.toNat Aj).1 d11.2.toNat (0 : Int))) < d1.length) ∧
 J15 (List.getD d1 (Int.toNat (List.getD (List.getD d1 d5.toNat Aj).1 d11.2.toNat (0 : Int))) Aj).2.2) ∧ ((decide (((List.length (List.getD d1 d5.toNat Aj).1 : Nat) : Int) > (0 : Int))) = false → J15 []))) (fun d16 => Ad (D := ((List ((List UInt8) × (List UInt8))) × Int)) (fun J17 => (0 ≤ d5 ∧ d5 < (d1.length : Int)) ∧
 (d5.toNat < d1.length) ∧
 (0 ≤ d11.2 ∧ d11.2 < (d7.1.length : Int)) ∧
 (d11.2.toNat < d7.1.length) ∧
 ((d11.2.toNat < d7.1.length) ∧
 Fn P "mergelens/tree.Apply" Alj (d16, ((List.getD d1 d5.toNat Aj).2.2, (List.getD d7.1 d11.2.toNat []))) (fun (d19 : ((List ((List UInt8) × (List UInt8))) × Int)) (e20 : Unit) => ((((J17 d19) ∧ True) ∧ True) ∧ ((((J17 d19) ∧ True) ∧ True) ∧ True)) ∧ (((((J17 d19) ∧ True) ∧ True) ∧ True) ∧ True))) ∧ True) (fun d18 => (((d18.2 != (0 : Int)) = false → 0 ≤ d5 ∧ d5 < (d1.length : Int))) ∧
 (((d18.2 != (0 : Int)) = false → d5.toNat < d1.length)) ∧
 Ad (D := Bool) (fun J21 => (((d18.2 != (0 : Int)) = false → Fn P YC Ala (d18.1, (List.getD d1 d5.toNat Aj).2.2) (fun (d22 : Bool) _ => J21 d22)) ∧ (((d18.2 != (0 : Int)) = true → J21 false) ∧ True))) (fun d23 => (((cond (d18.2 != (0 : Int)) true (!d23)) = true → K false ()) ∧ ((cond (d18.2 != (0 : Int)) true (!d23)) = false → J13 d11.1)))))) (fun d14 => J12 (d14, (i64.wrap (d11.2 + (1 : Int)))))) ∧ ((decide (d11.2 < (d7.1.length : Int))) = false → J9 d11.1)))) (fun d10 => Fn P zS8 Agc () (fun (d24 : Bool) (e25 : Unit) => K d24 ())))))))))
theorem Alk {P : Pg} (h : Has P Alb) {x : DP Ak9.ps} {K : DP Ak9.rs → DP (ptrs Ak9.ps) → Prop} (hw : Alf P x K) : Fn P Acs Ak9 x K :=
 BI (c := Alc) h rfl rfl (by kernel_rfl) (Eq.mpr (show BE P Alb Ak9 Alc x K = _ by kernel_rfl) hw)
def AhH : Bn :=
 (.seq (.region [ia 4 (kI 0)]) (.seq (.seq (.region [im 6 0, oS ⟨some 7, .call zS2 [6], none⟩ CH, ia 5 7]) (.seq (.region [im 8 5, o1 9 (.bin .neq 8 (kI
 0))]) (.cond 9 (.seq (.region [im 10 5, ia 4 10]) .ret) .skip))) (.seq (.region [im 11 1, oS ⟨some 12, .call zS2 [11], none⟩ CH, ia 4 12]) .ret)))
def Ag7 : AFn := ⟨ "mergelens/tree.both", AhH.erase, [.tmp 4], 2⟩
def Aij (P : Pg) (x : ((List ((List UInt8) × (List UInt8))) × (List ((List UInt8) × (List UInt8))))) (K : Int → Unit → Prop) : Prop :=
 Fn P zS2 CH x.1 (fun (d1 : Int) (e2 : Unit) => (((d1 != (0 : Int)) = true → K d1 ()) ∧ ((d1 != (0 : Int)) = false → Fn P zS2 CH x.2 (fun (d3 : Int) (e4 : Unit) => K d3 ()))))
theorem Ai9 {P : Pg} (h : Has P Ag7) {x : DP Agy.ps} {K : DP Agy.rs → DP (ptrs Agy.ps) → Prop} (hw : Aij P x K) : Fn P "mergelens/tree.both" Agy x K :=
 BI (c := AhH) h rfl rfl (by kernel_rfl) (Eq.mpr (show BE P Ag7 Agy AhH x K = _ by kernel_rfl) hw)
end Go.VS
