/- Functions of the program: typed code, and what it says, lifted. -/
import Derived.Test.YtcaandgkdmidkaaDoorKTxSig
import Derived.KernelRfl
set_option linter.unusedVariables false
set_option linter.unusedSimpArgs false
set_option maxRecDepth 8000
namespace Go.VS
open IntKind
def ZB : BE :=
 (.seq (.region [o1 2 (.asg (.c (.slice none 0 0)))]) (.seq (.region [o1 3 (.asg (.c (.slice none 0 0)))]) (.seq (.region [ia 4 (kI 0)]) (.seq (.seq (.region [ia 5 (kI 0)]) (.frame
 (rg [] 3 30) [] false (.join [.sl 3 false (.sl .str) tO] (.block 0 (.loop [.sl 3 false (.sl .str) tO, .si 4, .si 5] (.seq (.seq (.region [im 6 5, im 7 0, o1 8 (.GN 7), o1 9 (.bin
 .lss 6 8)]) (.cond 9 .skip (.exit 0))) (.seq (.frame (rg [3, 4] 12 21) [] false (.join [.sl 3 false (.sl .str) tO, .si 4] (.block 1 (.seq (.region [im 12 0, im 13 5, o1 14 (.ixS 12
 13), o1 15 (.bin .eql 14 (.c (.int .u8 10))), im 16 15, gf 17 16 (.mv 5), gf 18 16 (.bin .add 17 (kI 1)), gf 19 16 (.mv 0), gf 20 16 (.GN 19), gf 21 16 (.bin .eql 18 20), o1 22
 (.pick 16 kT 21)]) (.frame (rg [3, 4] 23 10) [] false (.join [.sl 3 false (.sl .str) tO, .si 4] (.cond 22 (.seq (.region [im 23 3, im 24 0, im 25 4, im 26 5, o1 27 (.bin .add 26
 (kI 1)), o1 28 (.slS 24 (some 25) (some 27)), oT ⟨some 29, .buildSl 1 [(.string ⟨#[]⟩)] 1 [(0, 28)], none⟩ (some (.str, .leaf)), oT ⟨some 30, .app 1 16 23 29, none⟩ (some (.str,
 .leaf)), ia 3 30]) (.region [im 31 5, o1 32 (.bin .add 31 (kI 1)), ia 4 32])) .skip))))))) (.region [im 10 5, o1 11 (.bin .add 10 (kI 1)), ia 5 11])))))))) (.seq (.region [im 33 3,
 ia 2 33]) .ret)))))
def Zg : AFn := ⟨ Acg, ZB.erase, [.tmp 2], 1⟩
def Z2 (P : Pg) (x : (List UInt8)) (K : (List (List UInt8)) → Unit → Prop) : Prop :=
 Ao (D := (List (List UInt8))) (fun J1 => Dm (D := ((List (List UInt8)) × (Int × Int))) ([], ((0 : Int), (0 : Int))) (fun d3 J4 => (((decide (d3.2.2 < (x.length : Int))) = true → Ao (D := ((List (List UInt8)) × Int)) (fun J5 => (0 ≤ d3.2.2 ∧ d3.2.2 < (x.length : Int)) ∧
 Ao (D := ((List (List UInt8)) × Int)) (fun J7 => (((cond (((x.getD d3.2.2.toNat 0).toNat : Int) == (10 : Int)) true ((i64.wrap (d3.2.2 + (1 : Int))) == (x.length : Int))) = true → (0 ≤ d3.2.1 ∧ d3.2.1 ≤ (i64.wrap (d3.2.2 + (1 : Int))) ∧ (i64.wrap (d3.2.2 + (1 : Int))) ≤ (x.length : Int)) ∧
 ((d3.1.length + List.length ([(List.drop d3.2.1.toNat (List.take (Int.toNat (i64.wrap (d3.2.2 + (1 : Int)))) x))] : List (List UInt8))) * 16 ≤ 140737488355328) ∧
 J7 ((d3.1 ++ ([(List.drop d3.2.1.toNat (List.take (Int.toNat (i64.wrap (d3.2.2 + (1 : Int)))) x))] : List (List UInt8))), (i64.wrap (d3.2.2 + (1 : Int))))) ∧ ((cond (((x.getD d3.2.2.toNat 0).toNat : Int) == (10 : Int)) true ((i64.wrap (d3.2.2 + (1 : Int))) == (x.length : Int))) = false → J7 (d3.1, d3.2.1)))) (fun d8 => J5 d8)) (fun d6 => J4 (d6.1, (d6.2, (i64.wrap (d3.2.2 + (1 : Int))))))) ∧ ((decide (d3.2.2 < (x.length : Int))) = false → J1 d3.1)))) (fun d2 => K d2 ())
theorem AaE {P : Pg} (h : Has P Zg) {x : DP YT.ps} {K : DP YT.rs → DP (ptrs YT.ps) → Prop} (hw : Z2 P x K) : Fn P Acg YT x K :=
 CU (c := ZB) h rfl rfl (by kernel_rfl) (Eq.mpr (show CG P Zg YT ZB x K = _ by kernel_rfl) hw)
def Zz : BE :=
 (.seq (.region [o1 4 (.asg (.c (.int .u8 0))), o1 5 (.asg kF)]) (.seq (.region [ia 6 (kI 0)]) (.seq (.seq (.region [im 8 1, ia 7 8]) (.frame (rg [4, 5, 6, 7] 9 30) [] false (.join
 [.sl 4 false (.int .u8) .leaf, .sl 5 false .bool .leaf, .si 6] (.block 0 (.loop [.sl 4 false (.int .u8) .leaf, .sl 5 false .bool .leaf, .si 6, .si 7] (.seq (.seq (.region [im 9 7,
 im 10 1, o1 11 (.bin .add 10 (kI 3)), o1 12 (.bin .lss 9 11)]) (.cond 12 .skip (.exit 0))) (.seq (.frame (rg [4, 5, 6] 15 24) [] false (.join [.sl 4 false (.int .u8) .leaf, .sl 5
 false .bool .leaf, .si 6] (.block 1 (.seq (.seq (.region [im 15 7, im 16 0, o1 17 (.GN 16), o1 18 (.bin .geq 15 17), im 19 18, gf 20 19 (.mv 0), gf 21 19 (.mv 7), gf 22 19 (.ixS
 20 21), gf 23 19 (.bin .lss 22 (.c (.int .u8 48))), o1 24 (.pick 19 kT 23), im 25 24, gf 26 25 (.mv 0), gf 27 25 (.mv 7), gf 28 25 (.ixS 26 27), gf 29 25 (.bin .gtr 28 (.c (.int
 .u8 55))), o1 30 (.pick 25 kT 29)]) (.cond 30 (.seq (.region [o1 4 (.asg (.c (.int .u8 0))), o1 5 (.asg kF)]) .ret) .skip)) (.region [im 31 6, o1 32 (.bin .mul (kI 8) 31), im 33 0,
 im 34 7, o1 35 (.ixS 33 34), o1 36 (.bin .sub 35 (.c (.int .u8 48))), o1 37 (.conv (.toInt .i64) 36), o1 38 (.bin .add 32 37), ia 6 38]))))) (.region [im 13 7, o1 14 (.bin .add 13
 (kI 1)), ia 7 14])))))))) (.seq (.region [im 39 6, o1 40 (.conv (.toInt .u8) 39), im 41 6, o1 42 (.bin .lss 41 (kI 256)), ia 4 40, ia 5 42]) .ret))))
def Ze : AFn := ⟨ Ach, Zz.erase, [.tmp 4, .tmp 5], 2⟩
def Z0 (P : Pg) (x : ((List UInt8) × Int)) (K : (Int × Bool) → Unit → Prop) : Prop :=
 Ao (D := (Int × (Bool × Int))) (fun J1 => Dm (D := (Int × (Bool × (Int × Int)))) ((0 : Int), (false, ((0 : Int), x.2))) (fun d3 J4 => (((decide (d3.2.2.2 < (i64.wrap (x.2 + (3 : Int))))) = true → Ao (D := (Int × (Bool × Int))) (fun J5 => (((decide (d3.2.2.2 ≥ (x.1.length : Int))) = false → 0 ≤ d3.2.2.2 ∧ d3.2.2.2 < (x.1.length : Int))) ∧
 (((cond (decide (d3.2.2.2 ≥ (x.1.length : Int))) true (decide (((x.1.getD d3.2.2.2.toNat 0).toNat : Int) < (48 : Int)))) = false → 0 ≤ d3.2.2.2 ∧ d3.2.2.2 < (x.1.length : Int))) ∧
 (((cond (cond (decide (d3.2.2.2 ≥ (x.1.length : Int))) true (decide (((x.1.getD d3.2.2.2.toNat 0).toNat : Int) < (48 : Int)))) true (decide (((x.1.getD d3.2.2.2.toNat 0).toNat : Int) > (55 : Int)))) = true → K ((0 : Int), false) ()) ∧ ((cond (cond (decide (d3.2.2.2 ≥ (x.1.length : Int))) true (decide (((x.1.getD d3.2.2.2.toNat 0).toNat : Int) < (48 : Int)))) true (decide (((x.1.getD d3.2.2.2.toNat 0).toNat : Int) > (55 : Int)))) = false → (0 ≤ d3.2.2.2 ∧ d3.2.2.2 < (x.1.length : Int)) ∧
 J5 (d3.1, (d3.2.1, (i64.wrap ((i64.wrap ((8 : Int) * d3.2.2.1)) + (i64.wrap (u8.wrap (((x.1.getD d3.2.2.2.toNat 0).toNat : Int) - (48 : Int))))))))))) (fun d6 => J4 (d6.1, (d6.2.1, (d6.2.2, (i64.wrap (d3.2.2.2 + (1 : Int)))))))) ∧ ((decide (d3.2.2.2 < (i64.wrap (x.2 + (3 : Int))))) = false → J1 (d3.1, (d3.2.1, d3.2.2.1)))))) (fun d2 => K ((u8.wrap d2.2.2), (decide (d2.2.2 < (256 : Int)))) ())
theorem AaC {P : Pg} (h : Has P Ze) {x : DP YR.ps} {K : DP YR.rs → DP (ptrs YR.ps) → Prop} (hw : Z0 P x K) : Fn P Ach YR x K :=
 CU (c := Zz) h rfl rfl (by kernel_rfl) (Eq.mpr (show CG P Ze YR Zz x K = _ by kernel_rfl) hw)
def Zl : BE :=
 (.seq (.region [o1 4 (.asg (.c (.string ⟨#[]⟩))), ia 5 (kI 0), o1 6 (.asg kF)]) (.seq (.seq (.region [im 11 1, o1 12 (.bin .lss 11 (kI 0)), im 13 12, gf 14 13 (.mv 1), gf 15 13
 (.mv 0), gf 16 13 (.GN 15), gf 17 13 (.bin .geq 14 16), o1 18 (.pick 13 kT 17)]) (.cond 18 (.seq (.region [o1 4 (.asg (.c (.string ⟨#[]⟩))), ia 5 (kI 0), o1 6 (.asg kF)]) .ret)
 .skip)) (.seq (.region [im 19 1, ia 7 19]) (.seq (.seq (.region [im 20 0, im 21 1, o1 22 (.ixS 20 21), o1 23 (.bin .neq 22 (.c (.int .u8 34)))]) (.cond 23 (.seq (.frame (rg [7] 24
 12) [] false (.join [.si 7] (.block 0 (.loop [.si 7] (.seq (.seq (.region [im 24 7, im 25 0, o1 26 (.GN 25), o1 27 (.bin .lss 24 26), im 28 27, gt 29 28 (.mv 0), gt 30 28 (.mv
 7), gt 31 28 (.ixS 29 30), oS ⟨some 32, .call VG [31], some (28, true)⟩ BX, o1 33 (.pick 28 32 kF)]) (.cond 33 .skip (.exit 0))) (.frame
 [7, 34, 35] [] false (.join [.si 7] (.block 1 (.region [im 34 7, o1 35 (.bin .add 34 (kI 1)), ia 7 35]))))))))) (.seq (.seq (.region [im 36 7, im 37 1, o1 38 (.bin .eql 36 37)])
 (.cond 38 (.seq (.region [o1 4 (.asg (.c (.string ⟨#[]⟩))), ia 5 (kI 0), o1 6 (.asg kF)]) .ret) .skip)) (.seq (.region [im 39 0, im 40 1, im 41 7, o1 42 (.slS 39 (some 40) (some
 41)), im 43 7, ia 4 42, ia 5 43, o1 6 (.asg kT)]) .ret))) .skip)) (.seq (.region [o1 8 (.asg (.c (.slice none 0 0)))]) (.seq (.region [im 44 7, o1 45 (.bin .add 44 (kI 1)), ia 7
 45]) (.seq (.frame (rg [4, 5, 6, 7, 8, 9, 10] 46 72) [] false (.join [.sl 4 false .str .leaf, .si 5, .sl 6 false .bool .leaf, .si 7, .sl 8 false (.sl (.int .u8)) tO] (.block 2
 (.loop [.sl 4 false .str .leaf, .si 5, .sl 6 false .bool .leaf, .si 7, .sl 8 false (.sl (.int .u8)) tO] (.seq (.seq (.region [im 46 7, im 47 0, o1 48 (.GN 47), o1 49 (.bin .lss
 46 48), im 50 49, gt 51 50 (.mv 0), gt 52 50 (.mv 7), gt 53 50 (.ixS 51 52), gt 54 50 (.bin .neq 53 (.c (.int .u8 34))), o1 55 (.pick 50 54 kF)]) (.cond 55 .skip (.exit 2)))
 (.frame (rg [4, 5, 6, 7, 8, 9, 10] 56 62) [] false (.join [.sl 4 false .str .leaf, .si 5, .sl 6 false .bool .leaf, .si 7, .sl 8 false (.sl (.int .u8)) tO] (.block 3 (.seq (.seq
 (.region [im 56 0, im 57 7, o1 58 (.ixS 56 57), o1 59 (.bin .neq 58 (.c (.int .u8 92)))]) (.cond 59 (.seq (.region [im 60 8, im 61 0, im 62 7, o1 63 (.ixS 61 62), oT ⟨some 64,
 .buildSl 1 [(.int .u8 0)] 1 [(0, 63)], none⟩ (some ((.int .u8), .leaf)), oT ⟨some 65, .app 1 1 60 64, none⟩ (some ((.int .u8), .leaf)), ia 8 65]) (.seq (.region [im 66 7, o1 67
 (.bin .add 66 (kI 1)), ia 7 67]) (.exit 3))) .skip)) (.seq (.seq (.region [im 68 7, o1 69 (.bin .add 68 (kI 1)), im 70 0, o1 71 (.GN 70), o1 72 (.bin .eql 69 71)]) (.cond 72
 (.seq (.region [o1 4 (.asg (.c (.string ⟨#[]⟩))), ia 5 (kI 0), o1 6 (.asg kF)]) .ret) .skip)) (.seq (.region [im 73 0, im 74 7, o1 75 (.bin .add 74 (kI 1)), o1 76 (.ixS 73 75)])
 (.frame (rg [4, 5, 6, 7, 8, 9, 10] 77 41) [] false (.join [.sl 4 false .str .leaf, .si 5, .sl 6 false .bool .leaf, .si 7, .sl 8 false (.sl (.int .u8)) tO] (.block 4 (.seq (.seq
 (.region [o1 93 (.bin .eql 76 (.c (.int .u8 34))), ia 92 93]) (.frame [92, 94] [] false (.join [.sl 92 false .bool .leaf] (.cond 92 .skip (.region [o1 94 (.bin .eql 76 (.c (.int
 .u8 92))), ia 92 94]))))) (.frame (rg [4, 5, 6, 7, 8, 9, 10, 77, 78, 79, 80, 81, 82, 83, 84, 85, 86, 87, 88, 89, 90, 91] 95 23) [] false (.join [.sl 4 false .str .leaf, .si 5, .sl
 6 false .bool .leaf, .si 7, .sl 8 false (.sl (.int .u8)) tO] (.cond 92 (.seq (.region [im 95 8, im 96 0, im 97 7, o1 98 (.bin .add 97 (kI 1)), o1 99 (.ixS 96 98), oT ⟨some 100,
 .buildSl 1 [(.int .u8 0)] 1 [(0, 99)], none⟩ (some ((.int .u8), .leaf)), oT ⟨some 101, .app 1 1 95 100, none⟩ (some ((.int .u8), .leaf)), ia 8 101]) (.region [im 102 7, o1 103
 (.bin .add 102 (kI 2)), ia 7 103])) (.seq (.region [o1 105 (.bin .eql 76 (.c (.int .u8 110))), ia 104 105]) (.frame (rg [4, 5, 6, 7, 8, 9, 10, 77, 78, 79, 80, 81, 82, 83, 84, 85,
 86, 87, 88, 89, 90, 91] 106 12) [] false (.join [.sl 4 false .str .leaf, .si 5, .sl 6 false .bool .leaf, .si 7, .sl 8 false (.sl (.int .u8)) tO] (.cond 104 (.seq (.region [im 106
 8, oT ⟨some 107, .buildSl 1 [(.int .u8 0)] 1 [(0, (.c (.int .u8 10)))], none⟩ (some ((.int .u8), .leaf)), oT ⟨some 108, .app 1 1 106 107, none⟩ (some ((.int .u8), .leaf)), ia 8
 108]) (.region [im 109 7, o1 110 (.bin .add 109 (kI 2)), ia 7 110])) (.seq (.region [o1 112 (.bin .eql 76 (.c (.int .u8 116))), ia 111 112]) (.frame (rg [4, 5, 6, 7, 8, 9, 10, 77,
 78, 79, 80, 81, 82, 83, 84, 85, 86, 87, 88, 89, 90, 91] 113 5) [] false (.join [.sl 4 false .str .leaf, .si 5, .sl 6 false .bool .leaf, .si 7, .sl 8 false (.sl (.int .u8)) tO]
 (.cond 111 (.seq (.region [im 113 8, oT ⟨some 114, .buildSl 1 [(.int .u8 0)] 1 [(0, (.c (.int .u8 9)))], none⟩ (some ((.int .u8), .leaf)), oT ⟨some 115, .app 1 1 113 114, none⟩
 (some ((.int .u8), .leaf)), ia 8 115]) (.region [im 116 7, o1 117 (.bin .add 116 (kI 2)), ia 7 117])) (.seq (.region [im 78 0, im 79 7, o1 80 (.bin .add 79 (kI 1)), oS ⟨some 81,
 .call Ach [78, 80], none⟩ YR, im 77 81, o1 82 (.ext 77 0), o1 83 (.ext 77 1), ia 9 82, ia 10 83]) (.seq (.seq (.region [im 84 10, o1 85 (.un
 .not 84)]) (.cond 85 (.seq (.region [o1 4 (.asg (.c (.string ⟨#[]⟩))), ia 5 (kI 0), o1 6 (.asg kF)]) .ret) .skip)) (.seq (.region [im 86 8, im 87 9, oT ⟨some 88, .buildSl 1 [(.int
 .u8 0)] 1 [(0, 87)], none⟩ (some ((.int .u8), .leaf)), oT ⟨some 89, .app 1 1 86 88, none⟩ (some ((.int .u8), .leaf)), ia 8 89]) (.region [im 90 7, o1 91 (.bin .add 90 (kI 4)), ia 7
 91])))))))))))))))))))))))))))))) (.seq (.seq (.frame (rg [] 118 15) [] false (.join [.sl 132 false .bool .leaf] (.draw [(.first (im 118 7) (.first (im 119 0) (.first (o1 120
 (.GN 119)) (.first (o1 121 (.bin .geq 118 120)) (.first (im 122 121) (.first (gf 123 122 (.mv 8)) (.first (gf 124 122 (.conv .bytesToStr 123)) (.first (gf 126 122 (.mv 0))
 (.first (gf 127 122 (.mv 1)) (.first (gf 128 122 (.mv 7)) (.first (gf 129 122 (.bin .add 128 (kI 1))) (.first (gf 130 122 (.slS 126 (some 127) (some 129))) (.alt (oS ⟨some 125,
 .call zS9 [124], some (122, false)⟩ BK) (.first (gf 131 122 (.bin .neq 125 130)) (.first (o1 132 (.pick 122 kT 131)) .done))
 .stop)))))))))))))]))) (.cond 132 (.seq (.region [o1 4 (.asg (.c (.string ⟨#[]⟩))), ia 5 (kI 0), o1 6 (.asg kF)]) .ret) .skip)) (.seq (.region [im 133 8, o1 134 (.conv .bytesToStr
 133), im 135 7, o1 136 (.bin .add 135 (kI 1)), ia 4 134, ia 5 136, o1 6 (.asg kT)]) .ret)))))))))
def Y5 : AFn := ⟨ Aci, Zl.erase, [.tmp 4, .tmp 5, .tmp 6], 2⟩
def ZR (P : Pg) (x : ((List UInt8) × Int)) (K : ((List UInt8) × (Int × Bool)) → Unit → Prop) : Prop :=
 (((cond (decide (x.2 < (0 : Int))) true (decide (x.2 ≥ (x.1.length : Int)))) = true → K (([] : List UInt8), ((0 : Int), false)) ()) ∧ ((cond (decide (x.2 < (0 : Int))) true (decide (x.2 ≥ (x.1.length : Int)))) = false → (0 ≤ x.2 ∧ x.2 < (x.1.length : Int)) ∧
 (((((x.1.getD x.2.toNat 0).toNat : Int) != (34 : Int)) = true → Ao (D := Int) (fun J1 => Dm (D := Int) x.2 (fun d3 J4 => (((decide (d3 < (x.1.length : Int))) = true → 0 ≤ d3 ∧ d3 < (x.1.length : Int))) ∧
 Ao (D := Bool) (fun J5 => (((decide (d3 < (x.1.length : Int))) = true → Fn P VG BX ((x.1.getD d3.toNat 0).toNat : Int) (fun (d6 : Bool) _ => J5 d6)) ∧ (((decide (d3 < (x.1.length : Int))) = false → J5 false) ∧ True))) (fun d7 => (((cond (decide (d3 < (x.1.length : Int))) d7 false) = true → Ao (D := Int) (fun J8 => J8 (i64.wrap (d3 + (1 : Int)))) (fun d9 => J4 d9)) ∧ ((cond (decide (d3 < (x.1.length : Int))) d7 false) = false → J1 d3))))) (fun d2 => (((d2 == x.2) = true → K (([] : List UInt8), ((0 : Int), false)) ()) ∧ ((d2 == x.2) = false → (0 ≤ x.2 ∧ x.2 ≤ d2 ∧ d2 ≤ (x.1.length : Int)) ∧
 K ((List.drop x.2.toNat (List.take d2.toNat x.1)), (d2, true)) ())))) ∧ ((((x.1.getD x.2.toNat 0).toNat : Int) != (34 : Int)) = false → Ao (D := ((List UInt8) × (Int × (Bool × (Int × (List Int)))))) (fun J10 => Dm (D := ((List UInt8) × (Int × (Bool × (Int × (List Int)))))) (([] : List UInt8), ((0 : Int), (false, ((i64.wrap (x.2 + (1 : Int))), [])))) (fun d12 J13 => (((decide (d12.2.2.2.1 < (x.1.length : Int))) = true → 0 ≤ d12.2.2.2.1 ∧ d12.2.2.2.1 < (x.1.length : Int))) ∧
 (((cond (decide (d12.2.2.2.1 < (x.1.length : Int))) (((x.1.getD d12.2.2.2.1.toNat 0).toNat : Int) != (34 : Int)) false) = true → Ao (D := ((List UInt8) × (Int × (Bool × (Int × (List Int)))))) (fun J14 => (0 ≤ d12.2.2.2.1 ∧ d12.2.2.2.1 < (x.1.length : Int)) ∧
 (((((x.1.getD d12.2.2.2.1.toNat 0).toNat : Int) != (92 : Int)) = true → (0 ≤ d12.2.2.2.1 ∧ d12.2.2.2.1 < (x.1.length : Int)) ∧
 ((d12.2.2.2.2.length + List.length ([((x.1.getD d12.2.2.2.1.toNat 0).toNat : Int)] : List Int)) * 1 ≤ 140737488355328) ∧
 J14 (d12.1, (d12.2.1, (d12.2.2.1, ((i64.wrap (d12.2.2.2.1 + (1 : Int))), (d12.2.2.2.2 ++ ([((x.1.getD d12.2.2.2.1.toNat 0).toNat : Int)] : List Int))))))) ∧ ((((x.1.getD d12.2.2.2.1.toNat 0).toNat : Int) != (92 : Int)) = false → ((((i64.wrap (d12.2.2.2.1 + (1 : Int))) == (x.1.length : Int)) = true → K (([] : List UInt8), ((0 : Int), false)) ()) ∧ (((i64.wrap (d12.2.2.2.1 + (1 : Int))) == (x.1.length : Int)) = false → (0 ≤ (i64.wrap (d12.2.2.2.1 + (1 : Int))) ∧ (i64.wrap (d12.2.2.2.1 + (1 : Int))) < (x.1.length : Int)) ∧
 Ao (D := ((List UInt8) × (Int × (Bool × (Int × (List Int)))))) (fun J16 => Ao (D := Bool) (fun J18 => (((((UInt8.toNat (List.getD x.1 (Int.toNat (i64.wrap (d12.2.2.2.1 + (1 : Int)))) 0) : Nat) : Int) == (34 : Int)) = true → J18 (((UInt8.toNat (List.getD x.1 (Int.toNat (i64.wrap (d12.2.2.2.1 + (1 : Int)))) 0) : Nat) : Int) == (34 : Int))) ∧ ((((UInt8.toNat (List.getD x.1 (Int.toNat (i64.wrap (d12.2.2.2.1 + (1 : Int)))) 0) : Nat) : Int) == (34 : Int)) = false → J18 (((UInt8.toNat (List.getD x.1 (Int.toNat (i64.wrap (d12.2.2.2.1 + (1 : Int)))) 0) : Nat) : Int) == (92 : Int))))) (fun d19 => Ao (D := ((List UInt8) × (Int × (Bool × (Int × (List Int)))))) (fun J20 => ((d19 = true → (0 ≤ (i64.wrap (d12.2.2.2.1 + (1 : Int))) ∧ (i64.wrap (d12.2.2.2.1 + (1 : Int))) < (x.1.length : Int)) ∧
 ((d12.2.2.2.2.length + List.length ([((UInt8.toNat (List.getD x.1 (Int.toNat (i64.wrap (d12.2.2.2.1 + (1 : Int)))) 0) : Nat) : Int)] : List Int)) * 1 ≤ 140737488355328) ∧
 J20 (d12.1, (d12.2.1, (d12.2.2.1, ((i64.wrap (d12.2.2.2.1 + (2 : Int))), (d12.2.2.2.2 ++ ([((UInt8.toNat (List.getD x.1 (Int.toNat (i64.wrap (d12.2.2.2.1 + (1 : Int)))) 0) : Nat) : Int)] : List Int))))))) ∧ (d19 = false → Ao (D := ((List UInt8) × (Int × (Bool × (Int × (List Int)))))) (fun J22 => (((((UInt8.toNat (List.getD x.1 (Int.toNat (i64.wrap (d12.2.2.2.1 + (1 : Int)))) 0) : Nat) : Int) == (110 : Int)) = true → ((d12.2.2.2.2.length + List.length ([(10 : Int)] : List Int)) * 1 ≤ 140737488355328) ∧
 J22 (d12.1, (d12.2.1, (d12.2.2.1, ((i64.wrap (d12.2.2.2.1 + (2 : Int))), (d12.2.2.2.2 ++ ([(10 : Int)] : List Int))))))) ∧ ((((UInt8.toNat (List.getD x.1 (Int.toNat (i64.wrap (d12.2.2.2.1 + (1 : Int)))) 0) : Nat) : Int) == (110 : Int)) = false → Ao (D := ((List UInt8) × (Int × (Bool × (Int × (List Int)))))) (fun J24 => (((((UInt8.toNat (List.getD x.1 (Int.toNat (i64.wrap (d12.2.2.2.1 + (1 : Int)))) 0) : Nat) : Int) == (116 : Int)) = true → ((d12.2.2.2.2.length + List.length ([(9 : Int)] : List Int)) * 1 ≤ 140737488355328) ∧
 J24 (d12.1, (d12.2.1, (d12.2.2.1, ((i64.wrap (d12.2.2.2.1 + (2 : Int))), (d12.2.2.2.2 ++ ([(9 : Int)] : List Int))))))) ∧ ((((UInt8.toNat (List.getD x.1 (Int.toNat (i64.wrap (d12.2.2.2.1 + (1 : Int)))) 0) : Nat) : Int) == (116 : Int)) = false → Fn P Ach YR (x.1, (i64.wrap (d12.2.2.2.1 + (1 : Int)))) (fun (d26 : (Int × Bool)) (e27 : Unit) => (((!d26.2) = true → K (([] : List UInt8), ((0 : Int), false)) ()) ∧ ((!d26.2) = false → ((d12.2.2.2.2.length + List.length ([d26.1] : List Int)) * 1 ≤ 140737488355328) ∧
 J24 (d12.1, (d12.2.1, (d12.2.2.1, ((i64.wrap (d12.2.2.2.1 + (4 : Int))), (d12.2.2.2.2 ++ ([d26.1] : List Int)))))))))))) (fun d25 => J22 d25)))) (fun d23 => J20 d23)))) (fun d21 => J16 d21))) (fun d17 => J14 d17)))))) (fun d15 => J13 d15)) ∧ ((cond (decide (d12.2.2.2.1 < (x.1.length : Int))) (((x.1.getD d12.2.2.2.1.toNat 0).toNat : Int) != (34 : Int)) false) = false → J10 d12)))) (fun d11 => Ao (D := Bool) (fun J28 => (((decide (d11.2.2.2.1 ≥ (x.1.length : Int))) = false → 0 ≤ x.2 ∧ x.2 ≤ (i64.wrap (d11.2.2.2.1 + (1 : Int))) ∧ (i64.wrap (d11.2.2.2.1 + (1 : Int))) ≤ (x.1.length : Int))) ∧
 (Ao (D := (List UInt8)) (fun J30 => (((decide (d11.2.2.2.1 ≥ (x.1.length : Int))) = false → Fn P zS9 BK (strOf d11.2.2.2.2) (fun (d31 : (List UInt8)) _ => J30 d31)) ∧ (((decide (d11.2.2.2.1 ≥ (x.1.length : Int))) = true → J30 []) ∧ True))) (fun d32 => J28 (cond (decide (d11.2.2.2.1 ≥ (x.1.length : Int))) true (!(d32 == (List.drop x.2.toNat (List.take (Int.toNat (i64.wrap (d11.2.2.2.1 + (1 : Int)))) x.1))))))) ∧ True) (fun d29 => ((d29 = true → K (([] : List UInt8), ((0 : Int), false)) ()) ∧ (d29 = false → K ((strOf d11.2.2.2.2), ((i64.wrap (d11.2.2.2.1 + (1 : Int))), true)) ()))))))))
theorem Aap {P : Pg} (h : Has P Y5) {x : DP YJ.ps} {K : DP YJ.rs → DP (ptrs YJ.ps) → Prop} (hw : ZR P x K) : Fn P Aci YJ x K :=
 CU (c := Zl) h rfl rfl (by kernel_rfl) (Eq.mpr (show CG P Y5 YJ Zl x K = _ by kernel_rfl) hw)
def Zy : BE :=
 (.seq (.region [o1 2 (.asg (.c (.slice none 0 0))), o1 3 (.asg kF)]) (.seq (.region [o1 4 (.asg (.c (.slice none 0 0)))]) (.seq (.region [ia 5 (kI 0)]) (.seq (.frame (rg [] 2 40)
 [] false (.join [.sl 2 false (.sl .str) tO, .sl 3 false .bool .leaf] (.block 0 (.loop [.sl 2 false (.sl .str) tO, .sl 3 false .bool .leaf, .sl 4 false (.sl .str) tO, .si 5] (.seq
 (.seq (.region [im 9 5, im 10 0, o1 11 (.GN 10), o1 12 (.bin .lss 9 11), im 13 12, gf 14 13 (.mv 4), gf 15 13 (.lenK 14), gf 16 13 (.bin .gtr 15 (kI 0)), o1 17 (.pick 13 kT 16)])
 (.cond 17 .skip (.exit 0))) (.frame (rg [2, 3, 4, 5, 6, 7, 8] 18 24) [] false (.join [.sl 2 false (.sl .str) tO, .sl 3 false .bool .leaf, .sl 4 false (.sl .str) tO, .si 5] (.block
 1 (.seq (.region [im 19 0, im 20 5, oS ⟨some 21, .call Aci [19, 20], none⟩ YJ, im 18 21, o1 22 (.ext 18 0), o1 23 (.ext 18 1), o1 24
 (.ext 18 2), ia 6 22, ia 7 23, ia 8 24]) (.seq (.seq (.region [im 25 8, o1 26 (.un .not 25)]) (.cond 26 (.seq (.region [o1 2 (.asg (.c (.slice none 0 0))), o1 3 (.asg kF)]) .ret)
 .skip)) (.seq (.region [im 27 4, im 28 6, oT ⟨some 29, .buildSl 1 [(.string ⟨#[]⟩)] 1 [(0, 28)], none⟩ (some (.str, .leaf)), oT ⟨some 30, .app 1 16 27 29, none⟩ (some (.str,
 .leaf)), ia 4 30]) (.seq (.seq (.region [im 31 7, im 32 0, o1 33 (.GN 32), o1 34 (.bin .eql 31 33)]) (.cond 34 (.seq (.region [im 35 4, ia 2 35, o1 3 (.asg kT)]) .ret) .skip))
 (.seq (.seq (.region [im 36 0, im 37 7, o1 38 (.ixS 36 37), o1 39 (.bin .neq 38 (.c (.int .u8 32)))]) (.cond 39 (.seq (.region [o1 2 (.asg (.c (.slice none 0 0))), o1 3 (.asg kF)])
 .ret) .skip)) (.region [im 40 7, o1 41 (.bin .add 40 (kI 1)), ia 5 41])))))))))))))) (.seq (.region [o1 2 (.asg (.c (.slice none 0 0))), o1 3 (.asg kT)]) .ret)))))
def Zd : AFn := ⟨ Acj, Zy.erase, [.tmp 2, .tmp 3], 1⟩
def ZZ (P : Pg) (x : (List UInt8)) (K : ((List (List UInt8)) × Bool) → Unit → Prop) : Prop :=
 Ao (D := ((List (List UInt8)) × Bool)) (fun J1 => Dm (D := ((List (List UInt8)) × (Bool × ((List (List UInt8)) × Int)))) ([], (false, ([], (0 : Int)))) (fun d3 J4 => (((cond (decide (d3.2.2.2 < (x.length : Int))) true (decide ((d3.2.2.1.length : Int) > (0 : Int)))) = true → Ao (D := ((List (List UInt8)) × (Bool × ((List (List UInt8)) × Int)))) (fun J5 => Fn P Aci YJ (x, d3.2.2.2) (fun (d7 : ((List UInt8) × (Int × Bool))) (e8 : Unit) => (((!d7.2.2) = true → K ([], false) ()) ∧ ((!d7.2.2) = false → ((d3.2.2.1.length + List.length ([d7.1] : List (List UInt8))) * 16 ≤ 140737488355328) ∧
 (((d7.2.1 == (x.length : Int)) = true → K ((d3.2.2.1 ++ ([d7.1] : List (List UInt8))), true) ()) ∧ ((d7.2.1 == (x.length : Int)) = false → (0 ≤ d7.2.1 ∧ d7.2.1 < (x.length : Int)) ∧
 (((((x.getD d7.2.1.toNat 0).toNat : Int) != (32 : Int)) = true → K ([], false) ()) ∧ ((((x.getD d7.2.1.toNat 0).toNat : Int) != (32 : Int)) = false → J5 (d3.1, (d3.2.1, ((d3.2.2.1 ++ ([d7.1] : List (List UInt8))), (i64.wrap (d7.2.1 + (1 : Int)))))))))))))) (fun d6 => J4 d6)) ∧ ((cond (decide (d3.2.2.2 < (x.length : Int))) true (decide ((d3.2.2.1.length : Int) > (0 : Int)))) = false → J1 (d3.1, d3.2.1))))) (fun d2 => K ([], true) ())
theorem AaB {P : Pg} (h : Has P Zd) {x : DP YQ.ps} {K : DP YQ.rs → DP (ptrs YQ.ps) → Prop} (hw : ZZ P x K) : Fn P Acj YQ x K :=
 CU (c := Zy) h rfl rfl (by kernel_rfl) (Eq.mpr (show CG P Zd YQ Zy x K = _ by kernel_rfl) hw)
def ZM : BE :=
 (.seq (.region [ia 2 (kI 0), o1 3 (.asg kF)]) (.seq (.seq (.region [ia 4 (kI 1)]) (.frame (rg [] 2 18) [] false (.join [.si 2, .sl 3 false .bool .leaf] (.block 0 (.loop [.si 2, .sl
 3 false .bool .leaf, .si 4] (.seq (.seq (.region [im 7 4, o1 8 (.bin .leq 7 (kI 9))]) (.cond 8 .skip (.exit 0))) (.seq (.frame (rg [2, 3, 5, 6] 11 9) [] false (.join [.si 2, .sl 3
 false .bool .leaf] (.block 1 (.seq (.region [im 12 4, oS ⟨some 13, .call zS2 [12, kF], none⟩ Bp, im 11 13, o1 14 (.ext 11 0), o1 15 (.ext 11
 1), ia 5 14, ia 6 15]) (.seq (.region [im 16 5, im 17 0, o1 18 (.bin .eql 16 17)]) (.cond 18 (.seq (.region [im 19 4, ia 2 19, o1 3 (.asg kF)]) .ret) .skip)))))) (.region [im 9 4,
 o1 10 (.bin .add 9 (kI 1)), ia 4 10])))))))) (.seq (.seq (.region [im 20 0, o1 21 (.bin .eql 20 (.c (.string ⟨#[99, 99]⟩)))]) (.cond 21 (.seq (.region [ia 2 (kI 4), o1 3 (.asg
 kT)]) .ret) .skip)) (.seq (.region [ia 2 (kI 0), o1 3 (.asg kF)]) .ret))))
def Zo : AFn := ⟨ VK, ZM.erase, [.tmp 2, .tmp 3], 1⟩
def Aaa (P : Pg) (x : (List UInt8)) (K : (Int × Bool) → Unit → Prop) : Prop :=
 Ao (D := (Int × Bool)) (fun J1 => Dm (D := (Int × (Bool × Int))) ((0 : Int), (false, (1 : Int))) (fun d3 J4 => (((decide (d3.2.2 ≤ (9 : Int))) = true → Ao (D := (Int × Bool)) (fun J5 => Fn P zS2 Bp (d3.2.2, false) (fun (d7 : ((List UInt8) × (List UInt8))) (e8 : Unit) => (((d7.1 == x) = true → K (d3.2.2, false) ()) ∧ ((d7.1 == x) = false → J5 (d3.1, d3.2.1))))) (fun d6 => J4 (d6.1, (d6.2, (i64.wrap (d3.2.2 + (1 : Int))))))) ∧ ((decide (d3.2.2 ≤ (9 : Int))) = false → J1 (d3.1, d3.2.1))))) (fun d2 => (((x == ([99, 99] : List UInt8)) = true → K ((4 : Int), true) ()) ∧ ((x == ([99, 99] : List UInt8)) = false → K ((0 : Int), false) ())))
theorem AaL {P : Pg} (h : Has P Zo) {x : DP YO.ps} {K : DP YO.rs → DP (ptrs YO.ps) → Prop} (hw : Aaa P x K) : Fn P VK YO x K :=
 CU (c := ZM) h rfl rfl (by kernel_rfl) (Eq.mpr (show CG P Zo YO ZM x K = _ by kernel_rfl) hw)
def Zw : BE :=
 (.seq (.region [ia 4 (kI 0), ia 5 (kI 0), o1 6 (.asg kF)]) (.seq (.seq (.region [im 9 1, o1 10 (.bin .lss 9 (kI 0)), im 11 10, gf 12 11 (.mv 1), gf 13 11 (.mv 0), gf 14 11 (.GN
 13), gf 15 11 (.bin .gtr 12 14), o1 16 (.pick 11 kT 15)]) (.cond 16 (.seq (.region [ia 4 (kI 0), ia 5 (kI 0), o1 6 (.asg kF)]) .ret) .skip)) (.seq (.region [im 17 1, ia 7 (kI 0),
 ia 8 17]) (.seq (.frame (rg [4, 5, 6, 7, 8] 18 37) [] false (.join [.si 4, .si 5, .sl 6 false .bool .leaf, .si 7, .si 8] (.block 0 (.loop [.si 4, .si 5, .sl 6 false .bool .leaf,
 .si 7, .si 8] (.seq (.seq (.region [im 18 8, im 19 0, o1 20 (.GN 19), o1 21 (.bin .lss 18 20), im 22 21, gt 23 22 (.mv 0), gt 24 22 (.mv 8), gt 25 22 (.ixS 23 24), gt 26 22 (.bin
 .geq 25 (.c (.int .u8 48))), o1 27 (.pick 22 26 kF), im 28 27, gt 29 28 (.mv 0), gt 30 28 (.mv 8), gt 31 28 (.ixS 29 30), gt 32 28 (.bin .leq 31 (.c (.int .u8 57))), o1 33 (.pick
 28 32 kF)]) (.cond 33 .skip (.exit 0))) (.frame (rg [4, 5, 6, 7, 8] 34 21) [] false (.join [.si 4, .si 5, .sl 6 false .bool .leaf, .si 7, .si 8] (.block 1 (.seq (.seq (.region [im
 34 8, im 35 1, o1 36 (.bin .gtr 34 35), im 37 36, gt 38 37 (.mv 0), gt 39 37 (.mv 1), gt 40 37 (.ixS 38 39), gt 41 37 (.bin .eql 40 (.c (.int .u8 48))), o1 42 (.pick 37 41 kF)])
 (.cond 42 (.seq (.region [ia 4 (kI 0), ia 5 (kI 0), o1 6 (.asg kF)]) .ret) .skip)) (.seq (.region [im 43 7, o1 44 (.bin .mul (kI 10) 43), im 45 0, im 46 8, o1 47 (.ixS 45 46), o1
 48 (.bin .sub 47 (.c (.int .u8 48))), o1 49 (.conv (.toInt .i64) 48), o1 50 (.bin .add 44 49), ia 7 50]) (.seq (.seq (.region [im 51 7, o1 52 (.bin .gtr 51 (kI 2147483647))])
 (.cond 52 (.seq (.region [ia 4 (kI 0), ia 5 (kI 0), o1 6 (.asg kF)]) .ret) .skip)) (.region [im 53 8, o1 54 (.bin .add 53 (kI 1)), ia 8 54])))))))))))) (.seq (.seq (.region [im 55
 8, im 56 1, o1 57 (.bin .eql 55 56)]) (.cond 57 (.seq (.region [ia 4 (kI 0), ia 5 (kI 0), o1 6 (.asg kF)]) .ret) .skip)) (.seq (.region [im 58 7, im 59 8, ia 4 58, ia 5 59, o1 6
 (.asg kT)]) .ret))))))
def Y7 : AFn := ⟨ VL, Zw.erase, [.tmp 4, .tmp 5, .tmp 6], 2⟩
def ZU (P : Pg) (x : ((List UInt8) × Int)) (K : (Int × (Int × Bool)) → Unit → Prop) : Prop :=
 (((cond (decide (x.2 < (0 : Int))) true (decide (x.2 > (x.1.length : Int)))) = true → K ((0 : Int), ((0 : Int), false)) ()) ∧ ((cond (decide (x.2 < (0 : Int))) true (decide (x.2 > (x.1.length : Int)))) = false → Ao (D := (Int × (Int × (Bool × (Int × Int))))) (fun J1 => Dm (D := (Int × (Int × (Bool × (Int × Int))))) ((0 : Int), ((0 : Int), (false, ((0 : Int), x.2)))) (fun d3 J4 => (((decide (d3.2.2.2.2 < (x.1.length : Int))) = true → 0 ≤ d3.2.2.2.2 ∧ d3.2.2.2.2 < (x.1.length : Int))) ∧
 (((cond (decide (d3.2.2.2.2 < (x.1.length : Int))) (decide (((x.1.getD d3.2.2.2.2.toNat 0).toNat : Int) ≥ (48 : Int))) false) = true → 0 ≤ d3.2.2.2.2 ∧ d3.2.2.2.2 < (x.1.length : Int))) ∧
 (((cond (cond (decide (d3.2.2.2.2 < (x.1.length : Int))) (decide (((x.1.getD d3.2.2.2.2.toNat 0).toNat : Int) ≥ (48 : Int))) false) (decide (((x.1.getD d3.2.2.2.2.toNat 0).toNat : Int) ≤ (57 : Int))) false) = true → Ao (D := (Int × (Int × (Bool × (Int × Int))))) (fun J5 => (((decide (d3.2.2.2.2 > x.2)) = true → 0 ≤ x.2 ∧ x.2 < (x.1.length : Int))) ∧
 (((cond (decide (d3.2.2.2.2 > x.2)) (((x.1.getD x.2.toNat 0).toNat : Int) == (48 : Int)) false) = true → K ((0 : Int), ((0 : Int), false)) ()) ∧ ((cond (decide (d3.2.2.2.2 > x.2)) (((x.1.getD x.2.toNat 0).toNat : Int) == (48 : Int)) false) = false → (0 ≤ d3.2.2.2.2 ∧ d3.2.2.2.2 < (x.1.length : Int)) ∧
 (((decide ((i64.wrap ((i64.wrap ((10 : Int) * d3.2.2.2.1)) + (i64.wrap (u8.wrap (((x.1.getD d3.2.2.2.2.toNat 0).toNat : Int) - (48 : Int)))))) > (2147483647 : Int))) = true → K ((0 : Int), ((0 : Int), false)) ()) ∧ ((decide ((i64.wrap ((i64.wrap ((10 : Int) * d3.2.2.2.1)) + (i64.wrap (u8.wrap (((x.1.getD d3.2.2.2.2.toNat 0).toNat : Int) - (48 : Int)))))) > (2147483647 : Int))) = false → J5 (d3.1, (d3.2.1, (d3.2.2.1, ((i64.wrap ((i64.wrap ((10 : Int) * d3.2.2.2.1)) + (i64.wrap (u8.wrap (((x.1.getD d3.2.2.2.2.toNat 0).toNat : Int) - (48 : Int)))))), (i64.wrap (d3.2.2.2.2 + (1 : Int)))))))))))) (fun d6 => J4 d6)) ∧ ((cond (cond (decide (d3.2.2.2.2 < (x.1.length : Int))) (decide (((x.1.getD d3.2.2.2.2.toNat 0).toNat : Int) ≥ (48 : Int))) false) (decide (((x.1.getD d3.2.2.2.2.toNat 0).toNat : Int) ≤ (57 : Int))) false) = false → J1 d3)))) (fun d2 => (((d2.2.2.2.2 == x.2) = true → K ((0 : Int), ((0 : Int), false)) ()) ∧ ((d2.2.2.2.2 == x.2) = false → K (d2.2.2.2.1, (d2.2.2.2.2, true)) ())))))
theorem Aat {P : Pg} (h : Has P Y7) {x : DP YH.ps} {K : DP YH.rs → DP (ptrs YH.ps) → Prop} (hw : ZU P x K) : Fn P VL YH x K :=
 CU (c := Zw) h rfl rfl (by kernel_rfl) (Eq.mpr (show CG P Y7 YH Zw x K = _ by kernel_rfl) hw)
def ZC : BE :=
 (.seq (.region [o1 2 (.alloc [(.int .i64 0), (.int .i64 0), (.int .i64 0), (.int .i64 0), (.bool false), (.string ⟨#[]⟩)]), ia 3 (kI 0)]) (.seq (.region [im 16 0, oS ⟨some 17,
 .call Acj [16], none⟩ YQ, im 15 17, o1 18 (.ext 15 0), o1 19 (.ext 15 1), ia 4 18, ia 5 19]) (.seq (.seq (.region [im 20 5, o1 21 (.un .not
 20), im 22 21, gf 23 22 (.mv 4), gf 24 22 (.lenK 23), gf 25 22 (.bin .eql 24 (kI 0)), o1 26 (.pick 22 kT 25)]) (.cond 26 (.seq (.region [o1 27 (.build [(.int .i64 0), (.int .i64
 0), (.int .i64 0), (.int .i64 0), (.bool false), (.string ⟨#[]⟩)] []), o0 ⟨none, .store 6 2 27, none⟩, ia 3 (kI 320)]) .ret) .skip)) (.seq (.region [o1 6 (.alloc [(.int .i64 0),
 (.int .i64 0), (.int .i64 0), (.int .i64 0), (.bool false), (.string ⟨#[]⟩)])]) (.seq (.region [im 29 4, o1 30 (.ixA 1 29 (kI 0)), ld 31 30, oS ⟨some 32, .call
 VK [31], none⟩ YO, im 28 32, o1 33 (.ext 28 0), o1 34 (.ext 28 1), fa 35 0 6, o0 ⟨none, .store 1 35 33, none⟩, fa 36 4 6, o0 ⟨none, .store 1
 36 34, none⟩]) (.seq (.region [fa 38 0 6, ld 39 38, fa 40 4 6, ld 41 40, oS ⟨some 42, .call zS2 [39, 41], none⟩ Bp, im 37 42, o1 43 (.ext 37
 0), o1 44 (.ext 37 1), ia 7 43, ia 8 44]) (.seq (.seq (.region [im 45 4, o1 46 (.lenK 45), im 47 8, o1 48 (.GN 47), o1 49 (.bin .add 48 (kI 1)), o1 50 (.bin .neq 46 49)]) (.cond
 50 (.seq (.region [o1 51 (.build [(.int .i64 0), (.int .i64 0), (.int .i64 0), (.int .i64 0), (.bool false), (.string ⟨#[]⟩)] []), o0 ⟨none, .store 6 2 51, none⟩, ia 3 (kI 320)])
 .ret) .skip)) (.seq (.seq (.region [ia 9 (kI 0)]) (.frame (rg [9, 10, 11, 12] 52 37) [1006] false (.join [.bx 1006 AJ .leaf] (.block 0 (.loop [.si 9, .bx 1006 AJ .leaf]
 (.seq (.seq (.region [im 52 9, im 53 8, o1 54 (.GN 53), o1 55 (.bin .lss 52 54)]) (.cond 55 .skip (.exit 0))) (.seq (.frame (rg [10, 11, 12] 58 31) [1006] false (.join [.bx 1006
 AJ .leaf] (.block 1 (.seq (.region [im 59 4, im 60 9, o1 61 (.bin .add 60 (kI 1)), o1 62 (.ixA 1 59 61), ld 63 62, oS ⟨some 64, .call VL [63,
 (kI 0)], none⟩ YH, im 58 64, o1 65 (.ext 58 0), o1 66 (.ext 58 1), o1 67 (.ext 58 2), ia 10 65, ia 11 66, ia 12 67]) (.seq (.region [im 68 8, im 69 9, o1 70 (.ixS 68
 69)]) (.frame (rg [] 71 18) [1006] false (.join [.bx 1006 AJ .leaf] (.block 2 (.seq (.region [o1 78 (.bin .eql 70 (.c (.int .u8 97))), ia 77 78]) (.frame (rg [71, 72, 73, 74,
 75, 76] 79 10) [1006] false (.join [.bx 1006 AJ .leaf] (.cond 77 (.region [im 79 10, fa 80 1 6, o0 ⟨none, .store 1 80 79, none⟩]) (.seq (.region [o1 82 (.bin .eql 70 (.c
 (.int .u8 98))), ia 81 82]) (.frame (rg [71, 72, 73, 74, 75, 76] 83 6) [1006] false (.join [.bx 1006 AJ .leaf] (.cond 81 (.region [im 83 10, fa 84 2 6, o0 ⟨none, .store 1 84
 83, none⟩]) (.seq (.region [o1 86 (.bin .eql 70 (.c (.int .u8 99))), ia 85 86]) (.frame [71, 72, 73, 74, 75, 76, 87, 88] [1006] false (.join [.bx 1006 AJ .leaf] (.cond 85
 (.region [im 87 10, fa 88 3 6, o0 ⟨none, .store 1 88 87, none⟩]) (.region [im 71 4, im 72 9, o1 73 (.bin .add 72 (kI 1)), o1 74 (.ixA 1 71 73), ld 75 74, fa 76 5 6, o0 ⟨none,
 .store 1 76 75, none⟩]))))))))))))))))))))) (.region [im 56 9, o1 57 (.bin .add 56 (kI 1)), ia 9 57])))))))) (.seq (.region [o1 90 (.load true 6 6), oS ⟨some 91, .call
 RN [90], none⟩ A5, im 89 91, o1 92 (.ext 89 0), o1 93 (.ext 89 1), ia 13 92, ia 14 93]) (.seq (.seq (.region [im 94 14, o1 95 (.bin .neq
 94 (kI 0)), im 96 95, gf 97 96 (.mv 13), gf 98 96 (.mv 0), gf 99 96 (.bin .neq 97 98), o1 100 (.pick 96 kT 99)]) (.cond 100 (.seq (.region [o1 101 (.build [(.int .i64 0), (.int
 .i64 0), (.int .i64 0), (.int .i64 0), (.bool false), (.string ⟨#[]⟩)] []), o0 ⟨none, .store 6 2 101, none⟩, ia 3 (kI 320)]) .ret) .skip)) (.seq (.region [o1 102 (.load true 6 6),
 o0 ⟨none, .store 6 2 102, none⟩, ia 3 (kI 0)]) .ret)))))))))))
def Zh : AFn := ⟨ VM, ZC.erase, [.cell 2 true 6, .tmp 3], 1⟩
def Z3 (P : Pg) (x : (List UInt8)) (K : (Command × Int) → Unit → Prop) : Prop :=
 Fn P Acj YQ x (fun (d1 : ((List (List UInt8)) × Bool)) (e2 : Unit) => (((cond (!d1.2) true ((d1.1.length : Int) == (0 : Int))) = true → K (((0 : Int), ((0 : Int), ((0 : Int), ((0 : Int), (false, ([] : List UInt8)))))), (320 : Int)) ()) ∧ ((cond (!d1.2) true ((d1.1.length : Int) == (0 : Int))) = false → (0 ≤ (0 : Int) ∧ (0 : Int) < (d1.1.length : Int)) ∧
 ((Int.toNat (0 : Int)) < d1.1.length) ∧
 Fn P VK YO (List.getD d1.1 (Int.toNat (0 : Int)) []) (fun (d3 : (Int × Bool)) (e4 : Unit) => Fn P zS2 Bp d3 (fun (d5 : ((List UInt8) × (List UInt8))) (e6 : Unit) => ((((d1.1.length : Int) != (i64.wrap ((d5.2.length : Int) + (1 : Int)))) = true → K (((0 : Int), ((0 : Int), ((0 : Int), ((0 : Int), (false, ([] : List UInt8)))))), (320 : Int)) ()) ∧ (((d1.1.length : Int) != (i64.wrap ((d5.2.length : Int) + (1 : Int)))) = false → Ao (D := Command) (fun J7 => Dm (D := (Int × Command)) ((0 : Int), (d3.1, ((0 : Int), ((0 : Int), ((0 : Int), (d3.2, ([] : List UInt8))))))) (fun d9 J10 => (((decide (d9.1 < (d5.2.length : Int))) = true → Ao (D := Command) (fun J11 => (0 ≤ (i64.wrap (d9.1 + (1 : Int))) ∧ (i64.wrap (d9.1 + (1 : Int))) < (d1.1.length : Int)) ∧
 ((Int.toNat (i64.wrap (d9.1 + (1 : Int)))) < d1.1.length) ∧
 Fn P VL YH ((List.getD d1.1 (Int.toNat (i64.wrap (d9.1 + (1 : Int)))) []), (0 : Int)) (fun (d13 : (Int × (Int × Bool))) (e14 : Unit) => (0 ≤ d9.1 ∧ d9.1 < (d5.2.length : Int)) ∧
 Ao (D := Command) (fun J15 => Ao (D := Command) (fun J17 => (((((d5.2.getD d9.1.toNat 0).toNat : Int) == (97 : Int)) = true → J17 (d9.2.1, (d13.1, d9.2.2.2))) ∧ ((((d5.2.getD d9.1.toNat 0).toNat : Int) == (97 : Int)) = false → Ao (D := Command) (fun J19 => (((((d5.2.getD d9.1.toNat 0).toNat : Int) == (98 : Int)) = true → J19 (d9.2.1, (d9.2.2.1, (d13.1, d9.2.2.2.2)))) ∧ ((((d5.2.getD d9.1.toNat 0).toNat : Int) == (98 : Int)) = false → Ao (D := Command) (fun J21 => (((((d5.2.getD d9.1.toNat 0).toNat : Int) == (99 : Int)) = true → J21 (d9.2.1, (d9.2.2.1, (d9.2.2.2.1, (d13.1, d9.2.2.2.2.2))))) ∧ ((((d5.2.getD d9.1.toNat 0).toNat : Int) == (99 : Int)) = false → (0 ≤ (i64.wrap (d9.1 + (1 : Int))) ∧ (i64.wrap (d9.1 + (1 : Int))) < (d1.1.length : Int)) ∧
 ((Int.toNat (i64.wrap (d9.1 + (1 : Int)))) < d1.1.length) ∧
 J21 (d9.2.1, (d9.2.2.1, (d9.2.2.2.1, (d9.2.2.2.2.1, (d9.2.2.2.2.2.1, (List.getD d1.1 (Int.toNat (i64.wrap (d9.1 + (1 : Int)))) []))))))))) (fun d22 => J19 d22)))) (fun d20 => J17 d20)))) (fun d18 => J15 d18)) (fun d16 => J11 d16))) (fun d12 => J10 ((i64.wrap (d9.1 + (1 : Int))), d12))) ∧ ((decide (d9.1 < (d5.2.length : Int))) = false → J7 d9.2)))) (fun d8 => Fn P RN A5 d8 (fun (d23 : ((List UInt8) × Int)) (e24 : Unit) => (((cond (d23.2 != (0 : Int)) true (!(d23.1 == x))) = true → K (((0 : Int), ((0 : Int), ((0 : Int), ((0 : Int), (false, ([] : List UInt8)))))), (320 : Int)) ()) ∧ ((cond (d23.2 != (0 : Int)) true (!(d23.1 == x))) = false → K (d8, (0 : Int)) ())))))))))))
theorem AaF {P : Pg} (h : Has P Zh) {x : DP YK.ps} {K : DP YK.rs → DP (ptrs YK.ps) → Prop} (hw : Z3 P x K) : Fn P VM YK x K :=
 CU (c := ZC) h rfl rfl (by kernel_rfl) (Eq.mpr (show CG P Zh YK ZC x K = _ by kernel_rfl) hw)
def ZA : BE :=
 (.seq (.region [o1 2 (.asg kF)]) (.seq (.region [im 3 0, o1 4 (.bin .neq 3 (.c (.string ⟨#[]⟩))), im 5 4, gt 6 5 (.mv 0), gt 7 5 (.mv 0), gt 8 5 (.GN 7), gt 9 5 (.bin .sub 8 (kI
 1)), gt 10 5 (.ixS 6 9), gt 11 5 (.bin .eql 10 (.c (.int .u8 10))), o1 12 (.pick 5 11 kF), ia 2 12]) .ret))
def Zf : AFn := ⟨ Ack, ZA.erase, [.tmp 2], 1⟩
def Z1 (P : Pg) (x : (List UInt8)) (K : Bool → Unit → Prop) : Prop :=
 (((!(x == ([] : List UInt8))) = true → 0 ≤ (i64.wrap ((x.length : Int) - (1 : Int))) ∧ (i64.wrap ((x.length : Int) - (1 : Int))) < (x.length : Int))) ∧
 K (cond (!(x == ([] : List UInt8))) (((UInt8.toNat (List.getD x (Int.toNat (i64.wrap ((x.length : Int) - (1 : Int)))) 0) : Nat) : Int) == (10 : Int)) false) ()
theorem AaD {P : Pg} (h : Has P Zf) {x : DP YS.ps} {K : DP YS.rs → DP (ptrs YS.ps) → Prop} (hw : Z1 P x K) : Fn P Ack YS x K :=
 CU (c := ZA) h rfl rfl (by kernel_rfl) (Eq.mpr (show CG P Zf YS ZA x K = _ by kernel_rfl) hw)
def ZL : BE :=
 (.seq (.region [o1 2 (.asg (.c (.string ⟨#[]⟩)))]) (.seq (.seq (.region [im 3 0, oS ⟨some 4, .call Ack [3], none⟩ YS]) (.cond 4 (.seq
 (.region [im 5 0, im 6 0, o1 7 (.GN 6), o1 8 (.bin .sub 7 (kI 1)), o1 9 (.slS 5 none (some 8)), ia 2 9]) .ret) .skip)) (.seq (.region [im 10 0, ia 2 10]) .ret)))
def Zn : AFn := ⟨ Acl, ZL.erase, [.tmp 2], 1⟩
def Z9 (P : Pg) (x : (List UInt8)) (K : (List UInt8) → Unit → Prop) : Prop :=
 Fn P Ack YS x (fun (d1 : Bool) (e2 : Unit) => ((d1 = true → (0 ≤ (i64.wrap ((x.length : Int) - (1 : Int))) ∧ (i64.wrap ((x.length : Int) - (1 : Int))) ≤ (x.length : Int)) ∧
 K (List.take (Int.toNat (i64.wrap ((x.length : Int) - (1 : Int)))) x) ()) ∧ (d1 = false → K x ())))
theorem AaK {P : Pg} (h : Has P Zn) {x : DP YW.ps} {K : DP YW.rs → DP (ptrs YW.ps) → Prop} (hw : Z9 P x K) : Fn P Acl YW x K :=
 CU (c := ZL) h rfl rfl (by kernel_rfl) (Eq.mpr (show CG P Zn YW ZL x K = _ by kernel_rfl) hw)
def Zx : BE :=
 (.seq (.region [o1 2 (.asg (.c (.slice none 0 0))), ia 3 (kI 0), ia 4 (kI 0)]) (.seq (.region [im 10 0, oS ⟨some 11, .call Acg [10], none⟩
 YT, ia 5 11]) (.seq (.seq (.region [im 12 0, o1 13 (.GN 12), o1 14 (.bin .gtr 13 (kI 65536)), im 15 14, gf 16 15 (.mv 5), gf 17 15 (.lenK 16), gf 18 15 (.bin .gtr 17
 (kI 100)), o1 19 (.pick 15 kT 18)]) (.cond 19 (.seq (.region [o1 2 (.asg (.c (.slice none 0 0))), ia 3 (kI 0), ia 4 (kI 1)]) .ret) .skip)) (.seq (.region [o1 6 (.asg (.c (.slice
 none 0 0)))]) (.seq (.seq (.region [ia 7 (kI 0)]) (.frame (rg [2, 3, 4, 6, 7, 8, 9] 20 24) [1008] false (.join [.sl 2 false (.sl AJ) tO, .si 3, .si 4, .sl 6 false (.sl
 AJ) tO] (.block 0 (.loop [.sl 2 false (.sl AJ) tO, .si 3, .si 4, .sl 6 false (.sl AJ) tO, .si 7] (.seq (.seq (.region [im 20 7, im 21 5, o1 22 (.lenK 21), o1 23
 (.bin .lss 20 22)]) (.cond 23 .skip (.exit 0))) (.seq (.frame (rg [2, 3, 4, 6, 8, 9] 26 18) [1008] false (.join [.sl 2 false (.sl AJ) tO, .si 3, .si 4, .sl 6 false (.sl
 AJ) tO] (.block 1 (.seq (.region [im 27 5, im 28 7, o1 29 (.ixA 1 27 28), ld 30 29, oS ⟨some 31, .call Acl [30], none⟩ YW, oS ⟨some 32,
 .call VM [31], none⟩ YK, im 26 32, o1 33 (.ext 26 0), o1 34 (.ext 26 1), o1 8 (.alloc [(.int .i64 0), (.int .i64 0), (.int .i64 0), (.int
 .i64 0), (.bool false), (.string ⟨#[]⟩)]), o0 ⟨none, .store 6 8 33, none⟩, ia 9 34]) (.seq (.seq (.region [im 35 9, o1 36 (.bin .neq 35 (kI 0))]) (.cond 36 (.seq (.region [im 37 7,
 o1 38 (.bin .add 37 (kI 1)), im 39 9, o1 2 (.asg (.c (.slice none 0 0))), ia 3 38, ia 4 39]) .ret) .skip)) (.region [im 40 6, o1 41 (.load true 6 8), oT ⟨some 42, .buildSl 6 [(.int
 .i64 0), (.int .i64 0), (.int .i64 0), (.int .i64 0), (.bool false), (.string ⟨#[]⟩)] 1 [(0, 41)], none⟩ (some (AJ, .leaf)), oT ⟨some 43, .app 6 56 40 42, none⟩ (some
 (AJ, .leaf)), ia 6 43])))))) (.region [im 24 7, o1 25 (.bin .add 24 (kI 1)), ia 7 25])))))))) (.seq (.region [im 44 6, ia 2 44, ia 3 (kI 0), ia 4 (kI 0)]) .ret))))))
def Y8 : AFn := ⟨ Ud, Zx.erase, [.tmp 2, .tmp 3, .tmp 4], 1⟩
def ZV (P : Pg) (x : (List UInt8)) (K : ((List Command) × (Int × Int)) → Unit → Prop) : Prop :=
 Fn P Acg YT x (fun (d1 : (List (List UInt8))) (e2 : Unit) => (((cond (decide ((x.length : Int) > (65536 : Int))) true (decide ((d1.length : Int) > (100 : Int)))) = true → K ([], ((0 : Int), (1 : Int))) ()) ∧ ((cond (decide ((x.length : Int) > (65536 : Int))) true (decide ((d1.length : Int) > (100 : Int)))) = false → Ao (D := ((List Command) × (Int × (Int × (List Command))))) (fun J3 => Dm (D := ((List Command) × (Int × (Int × ((List Command) × Int))))) ([], ((0 : Int), ((0 : Int), ([], (0 : Int))))) (fun d5 J6 => (((decide (d5.2.2.2.2 < (d1.length : Int))) = true → Ao (D := ((List Command) × (Int × (Int × (List Command))))) (fun J7 => (0 ≤ d5.2.2.2.2 ∧ d5.2.2.2.2 < (d1.length : Int)) ∧
 (d5.2.2.2.2.toNat < d1.length) ∧
 Fn P Acl YW (List.getD d1 d5.2.2.2.2.toNat []) (fun (d9 : (List UInt8)) (e10 : Unit) => Fn P VM YK d9 (fun (d11 : (Command × Int)) (e12 : Unit) => (((d11.2 != (0 : Int)) = true → K ([], ((i64.wrap (d5.2.2.2.2 + (1 : Int))), d11.2)) ()) ∧ ((d11.2 != (0 : Int)) = false → ((d5.2.2.2.1.length + List.length ([d11.1] : List Command)) * 56 ≤ 140737488355328) ∧
 J7 (d5.1, (d5.2.1, (d5.2.2.1, (d5.2.2.2.1 ++ ([d11.1] : List Command)))))))))) (fun d8 => J6 (d8.1, (d8.2.1, (d8.2.2.1, (d8.2.2.2, (i64.wrap (d5.2.2.2.2 + (1 : Int))))))))) ∧ ((decide (d5.2.2.2.2 < (d1.length : Int))) = false → J3 (d5.1, (d5.2.1, (d5.2.2.1, d5.2.2.2.1))))))) (fun d4 => K (d4.2.2.2, ((0 : Int), (0 : Int))) ()))))
theorem Aau {P : Pg} (h : Has P Y8) {x : DP YG.ps} {K : DP YG.rs → DP (ptrs YG.ps) → Prop} (hw : ZV P x K) : Fn P Ud YG x K :=
 CU (c := Zx) h rfl rfl (by kernel_rfl) (Eq.mpr (show CG P Y8 YG Zx x K = _ by kernel_rfl) hw)
def Zv : BE :=
 (.seq (.region [o1 4 (.asg kF)]) (.seq (.seq (.region [im 6 0, o1 7 (.lenK 6), im 8 1, o1 9 (.lenK 8), o1 10 (.bin .neq 7 9)]) (.cond 10 (.seq (.region [o1 4 (.asg kF)]) .ret)
 .skip)) (.seq (.seq (.region [ia 5 (kI 0)]) (.frame (rg [4, 5] 11 15) [] false (.join [.sl 4 false .bool .leaf] (.block 0 (.loop [.sl 4 false .bool .leaf, .si 5] (.seq (.seq
 (.region [im 11 5, im 12 0, o1 13 (.lenK 12), o1 14 (.bin .lss 11 13)]) (.cond 14 .skip (.exit 0))) (.seq (.frame (rg [4] 17 9) [] false (.join [.sl 4 false .bool .leaf] (.block 1
 (.seq (.draw [(.first (im 17 0) (.first (im 18 5) (.first (o1 19 (.ixA 6 17 18)) (.first (o1 20 (.load true 6 19)) (.first (im 21 1) (.first (im 22 5) (.first (o1 23 (.ixA 6 21
 22)) (.first (o1 24 (.load true 6 23)) (.first (o1 25 (.eqA true [.int, .int, .int, .int, .bool, .str] 20 24)) .done)))))))))]) (.cond 25 (.seq (.region [o1 4 (.asg kF)]) .ret)
 .skip))))) (.region [im 15 5, o1 16 (.bin .add 15 (kI 1)), ia 5 16])))))))) (.seq (.region [o1 4 (.asg kT)]) .ret))))
def Y6 : AFn := ⟨ Ue, Zv.erase, [.tmp 4], 2⟩
def ZT (P : Pg) (x : ((List Command) × (List Command))) (K : Bool → Unit → Prop) : Prop :=
 ((((x.1.length : Int) != (x.2.length : Int)) = true → K false ()) ∧ (((x.1.length : Int) != (x.2.length : Int)) = false → Ao (D := Bool) (fun J1 => Dm (D := (Bool × Int)) (false, (0 : Int)) (fun d3 J4 => (((decide (d3.2 < (x.1.length : Int))) = true → Ao (D := Bool) (fun J5 => (0 ≤ d3.2 ∧ d3.2 < (x.1.length : Int)) ∧
 (d3.2.toNat < x.1.length) ∧
 (0 ≤ d3.2 ∧ d3.2 < (x.2.length : Int)) ∧
 (d3.2.toNat < x.2.length) ∧
 (((!(((List.getD x.1 d3.2.toNat Da).1 == (List.getD x.2 d3.2.toNat Da).1) && (((List.getD x.1 d3.2.toNat Da).2.1 == (List.getD x.2 d3.2.toNat Da).2.1) && (((List.getD x.1 d3.2.toNat Da).2.2.1 == (List.getD x.2 d3.2.toNat Da).2.2.1) && (((List.getD x.1 d3.2.toNat Da).2.2.2.1 == (List.getD x.2 d3.2.toNat Da).2.2.2.1) && (((List.getD x.1 d3.2.toNat Da).2.2.2.2.1 == (List.getD x.2 d3.2.toNat Da).2.2.2.2.1) && (((List.getD x.1 d3.2.toNat Da).2.2.2.2.2 == (List.getD x.2 d3.2.toNat Da).2.2.2.2.2) && true))))))) = true → K false ()) ∧ ((!(((List.getD x.1 d3.2.toNat Da).1 == (List.getD x.2 d3.2.toNat Da).1) && (((List.getD x.1 d3.2.toNat Da).2.1 == (List.getD x.2 d3.2.toNat Da).2.1) && (((List.getD x.1 d3.2.toNat Da).2.2.1 == (List.getD x.2 d3.2.toNat Da).2.2.1) && (((List.getD x.1 d3.2.toNat Da).2.2.2.1 == (List.getD x.2 d3.2.toNat Da).2.2.2.1) && (((List.getD x.1 d3.2.toNat Da).2.2.2.2.1 == (List.getD x.2 d3.2.toNat Da).2.2.2.2.1) && (((List.getD x.1 d3.2.toNat Da).2.2.2.2.2 == (List.getD x.2 d3.2.toNat Da).2.2.2.2.2) && true))))))) = false → J5 d3.1))) (fun d6 => J4 (d6, (i64.wrap (d3.2 + (1 : Int)))))) ∧ ((decide (d3.2 < (x.1.length : Int))) = false → J1 d3.1)))) (fun d2 => K true ())))
theorem Aas {P : Pg} (h : Has P Y6) {x : DP YF.ps} {K : DP YF.rs → DP (ptrs YF.ps) → Prop} (hw : ZT P x K) : Fn P Ue YF x K :=
 CU (c := Zv) h rfl rfl (by kernel_rfl) (Eq.mpr (show CG P Y6 YF Zv x K = _ by kernel_rfl) hw)
def Y0 : BE :=
 (.seq (.region [o1 8 (.asg kF)]) (.seq (.seq (.region [im 22 0, o1 23 (.GN 22), o1 24 (.bin .gtr 23 (kI 80))]) (.cond 24 (.seq (.region [oS ⟨some 25, .call
 zS8 [], none⟩ Bg, ia 8 25]) .ret) .skip)) (.seq (.region [im 26 1, im 27 2, im 28 3, oS ⟨some 29, .call Acb [26,
 27, 28], none⟩ YV, ia 9 29]) (.seq (.region [im 31 0, oS ⟨some 32, .call Uc [31], none⟩ YE, im 30 32, o1 33 (.ext 30 0), o1 34 (.ext
 30 1), o1 35 (.ext 30 2), ia 10 33, ia 11 34, ia 12 35]) (.seq (.region [im 37 0, oS ⟨some 38, .call Ud [37], none⟩ YG, im 36 38, o1 39
 (.ext 36 0), o1 40 (.ext 36 1), o1 41 (.ext 36 2), ia 13 39, ia 14 40, ia 15 41]) (.seq (.region [im 43 9, oS ⟨some 44, .call Uc [43], none⟩
 YE, im 42 44, o1 45 (.ext 42 0), o1 46 (.ext 42 1), o1 47 (.ext 42 2), ia 16 45, ia 17 46, ia 18 47]) (.seq (.region [im 49 9, oS ⟨some 50, .call
 Ud [49], none⟩ YG, im 48 50, o1 51 (.ext 48 0), o1 52 (.ext 48 1), o1 53 (.ext 48 2), ia 19 51, ia 20 52, ia 21 53]) (.seq (.region [im
 54 10, im 55 13, oS ⟨some 56, .call Ue [54, 55], none⟩ YF, im 57 56, gt 58 57 (.mv 11), gt 59 57 (.mv 14), gt 60 57 (.bin .eql 58 59), o1
 61 (.pick 57 60 kF), im 62 61, gt 63 62 (.mv 12), gt 64 62 (.mv 15), gt 65 62 (.bin .eql 63 64), o1 66 (.pick 62 65 kF), im 67 66, gt 68 67 (.mv 16), gt 69 67 (.mv 19), oS ⟨some
 70, .call Ue [68, 69], some (67, true)⟩ YF, o1 71 (.pick 67 70 kF), im 72 71, gt 73 72 (.mv 17), gt 74 72 (.mv 20), gt 75 72 (.bin .eql
 73 74), o1 76 (.pick 72 75 kF), im 77 76, gt 78 77 (.mv 18), gt 79 77 (.mv 21), gt 80 77 (.bin .eql 78 79), o1 81 (.pick 77 80 kF), im 82 81, oS ⟨some 83, .call
 zS8 [], some (82, true)⟩ Bg, o1 84 (.pick 82 83 kF), ia 8 84]) .ret))))))))
def YN : AFn := ⟨ Acw, Y0.erase, [.tmp 8], 4⟩
def Y9 (P : Pg) (x : ((List UInt8) × ((List Int) × (Int × Int)))) (K : Bool → Unit → Prop) : Prop :=
 (((decide ((x.1.length : Int) > (80 : Int))) = true → Fn P zS8 Bg () (fun (d1 : Bool) (e2 : Unit) => K d1 ())) ∧ ((decide ((x.1.length : Int) > (80 : Int))) = false → Fn P Acb YV x.2 (fun (d3 : (List UInt8)) (e4 : Unit) => Fn P Uc YE x.1 (fun (d5 : ((List Command) × (Int × Int))) (e6 : Unit) => Fn P Ud YG x.1 (fun (d7 : ((List Command) × (Int × Int))) (e8 : Unit) => Fn P Uc YE d3 (fun (d9 : ((List Command) × (Int × Int))) (e10 : Unit) => Fn P Ud YG d3 (fun (d11 : ((List Command) × (Int × Int))) (e12 : Unit) => Fn P Ue YF (d5.1, d7.1) (fun (d13 : Bool) (e14 : Unit) => Ao (D := Bool) (fun J15 => (((cond (cond d13 (d5.2.1 == d7.2.1) false) (d5.2.2 == d7.2.2) false) = true → Fn P Ue YF (d9.1, d11.1) (fun (d16 : Bool) _ => J15 d16)) ∧ (((cond (cond d13 (d5.2.1 == d7.2.1) false) (d5.2.2 == d7.2.2) false) = false → J15 false) ∧ True))) (fun d17 => Ao (D := Bool) (fun J18 => (((cond (cond (cond (cond (cond d13 (d5.2.1 == d7.2.1) false) (d5.2.2 == d7.2.2) false) d17 false) (d9.2.1 == d11.2.1) false) (d9.2.2 == d11.2.2) false) = true → Fn P zS8 Bg () (fun (d19 : Bool) _ => J18 d19)) ∧ (((cond (cond (cond (cond (cond d13 (d5.2.1 == d7.2.1) false) (d5.2.2 == d7.2.2) false) d17 false) (d9.2.1 == d11.2.1) false) (d9.2.2 == d11.2.2) false) = false → J18 false) ∧ True))) (fun d20 => K (cond (cond (cond (cond (cond (cond d13 (d5.2.1 == d7.2.1) false) (d5.2.2 == d7.2.2) false) d17 false) (d9.2.1 == d11.2.1) false) (d9.2.2 == d11.2.2) false) d20 false) ()))))))))))
theorem ZH {P : Pg} (h : Has P YN) {x : DP YD.ps} {K : DP YD.rs → DP (ptrs YD.ps) → Prop} (hw : Y9 P x K) : Fn P Acw YD x K :=
 CU (c := Y0) h rfl rfl (by kernel_rfl) (Eq.mpr (show CG P YN YD Y0 x K = _ by kernel_rfl) hw)
def FI : BE :=
 (.seq (.region [o1 2 (.asg (.c (.string ⟨#[]⟩)))]) (.seq (.frame (rg [] 2 37) [] false (.join [.sl 2 false .str .leaf] (.block 0 (.seq (.region [im 4 0, o1 5 (.bin .eql 4 (.c (.int
 .u8 34))), im 6 5, gf 7 6 (.mv 0), gf 8 6 (.bin .eql 7 (.c (.int .u8 92))), o1 9 (.pick 6 kT 8), ia 3 9]) (.cond 3 (.seq (.region [im 10 0, o1 11 (.conv .ofInt 10), o1 12 (.bin
 .add (.c (.string ⟨#[92]⟩)) 11), ia 2 12]) .ret) (.seq (.region [im 14 0, o1 15 (.bin .eql 14 (.c (.int .u8 10))), ia 13 15]) (.cond 13 (.seq (.region [o1 2 (.asg (.c (.string
 ⟨#[92, 110]⟩)))]) .ret) (.seq (.region [im 17 0, o1 18 (.bin .eql 17 (.c (.int .u8 9))), ia 16 18]) (.cond 16 (.seq (.region [o1 2 (.asg (.c (.string ⟨#[92, 116]⟩)))]) .ret) (.seq
 (.region [im 20 0, o1 21 (.bin .lss 20 (.c (.int .u8 32))), im 22 21, gf 23 22 (.mv 0), gf 24 22 (.bin .gtr 23 (.c (.int .u8 126))), o1 25 (.pick 22 kT 24), ia 19 25]) (.cond 19
 (.seq (.region [im 26 0, o1 27 (.bin .shr 26 (.c (.int .u64 6))), o1 28 (.bin .add (.c (.int .u8 48)) 27), im 29 0, o1 30 (.bin .shr 29 (.c (.int .u64 3))), o1 31 (.bin .and 30 (.c
 (.int .u8 7))), o1 32 (.bin .add (.c (.int .u8 48)) 31), im 33 0, o1 34 (.bin .and 33 (.c (.int .u8 7))), o1 35 (.bin .add (.c (.int .u8 48)) 34), oT ⟨some 36, .buildSl 1 [(.int
 .u8 0)] 3 [(0, 28), (1, 32), (2, 35)], none⟩ (some ((.int .u8), .leaf)), o1 37 (.conv .bytesToStr 36), o1 38 (.bin .add (.c (.string ⟨#[92]⟩)) 37), ia 2 38]) .ret) .skip)))))))))))
 (.seq (.region [im 39 0, o1 40 (.conv .ofInt 39), ia 2 40]) .ret)))
def DJ : AFn := ⟨ "mergelens/scan.escaped", FI.erase, [.tmp 2], 1⟩
def Hj (P : Pg) (x : Int) (K : (List UInt8) → Unit → Prop) : Prop :=
 Ao (D := (List UInt8)) (fun J1 => (((cond (x == (34 : Int)) true (x == (92 : Int))) = true → (List.length ([92] : List UInt8) + List.length (SX x) ≤ 9223372036854775807) ∧
 K (([92] : List UInt8) ++ (SX x)) ()) ∧ ((cond (x == (34 : Int)) true (x == (92 : Int))) = false → (((x == (10 : Int)) = true → K ([92, 110] : List UInt8) ()) ∧ ((x == (10 : Int)) = false → (((x == (9 : Int)) = true → K ([92, 116] : List UInt8) ()) ∧ ((x == (9 : Int)) = false → (((cond (decide (x < (32 : Int))) true (decide (x > (126 : Int)))) = true → (0 ≤ (6 : Int)) ∧
 (0 ≤ (3 : Int)) ∧
 (List.length ([92] : List UInt8) + List.length (strOf ([(u8.wrap ((48 : Int) + (Int.fdiv x (2 ^ (min (Int.toNat (6 : Int)) u8.bits))))), (u8.wrap ((48 : Int) + (u8.wrap ((BitVec.toNat (BitVec.ofInt u8.bits (Int.fdiv x (2 ^ (min (Int.toNat (3 : Int)) u8.bits))) &&& BitVec.ofInt u8.bits (7 : Int)) : Nat) : Int)))), (u8.wrap ((48 : Int) + (u8.wrap ((BitVec.toNat (BitVec.ofInt u8.bits x &&& BitVec.ofInt u8.bits (7 : Int)) : Nat) : Int))))] : List Int)) ≤ 9223372036854775807) ∧
 K (([92] : List UInt8) ++ (strOf ([(u8.wrap ((48 : Int) + (Int.fdiv x (2 ^ (min (Int.toNat (6 : Int)) u8.bits))))), (u8.wrap ((48 : Int) + (u8.wrap ((BitVec.toNat (BitVec.ofInt u8.bits (Int.fdiv x (2 ^ (min (Int.toNat (3 : Int)) u8.bits))) &&& BitVec.ofInt u8.bits (7 : Int)) : Nat) : Int)))), (u8.wrap ((48 : Int) + (u8.wrap ((BitVec.toNat (BitVec.ofInt u8.bits x &&& BitVec.ofInt u8.bits (7 : Int)) : Nat) : Int))))] : List Int))) ()) ∧ ((cond (decide (x < (32 : Int))) true (decide (x > (126 : Int)))) = false → J1 ([] : List UInt8)))))))))) (fun d2 => K (SX x) ())
theorem Lo {P : Pg} (h : Has P DJ) {x : DP Cn.ps} {K : DP Cn.rs → DP (ptrs Cn.ps) → Prop} (hw : Hj P x K) : Fn P "mergelens/scan.escaped" Cn x K :=
 CU (c := FI) h rfl rfl (by kernel_rfl) (Eq.mpr (show CG P DJ Cn FI x K = _ by kernel_rfl) hw)
def GY : BE :=
 (.seq (.region [o1 4 (.asg kF)]) (.seq (.region [im 5 1, im 6 0, o1 7 (.GN 6), o1 8 (.bin .lss 5 7), im 9 8, gt 10 9 (.mv 0), gt 11 9 (.mv 1), gt 12 9 (.ixS 10 11), gt 13 9 (.bin
 .geq 12 (.c (.int .u8 48))), o1 14 (.pick 9 13 kF), im 15 14, gt 16 15 (.mv 0), gt 17 15 (.mv 1), gt 18 15 (.ixS 16 17), gt 19 15 (.bin .leq 18 (.c (.int .u8 57))), o1 20 (.pick 15
 19 kF), ia 4 20]) .ret))
def EV : AFn := ⟨ VH, GY.erase, [.tmp 4], 2⟩
def Jg (P : Pg) (x : ((List UInt8) × Int)) (K : Bool → Unit → Prop) : Prop :=
 (((decide (x.2 < (x.1.length : Int))) = true → 0 ≤ x.2 ∧ x.2 < (x.1.length : Int))) ∧
 (((cond (decide (x.2 < (x.1.length : Int))) (decide (((x.1.getD x.2.toNat 0).toNat : Int) ≥ (48 : Int))) false) = true → 0 ≤ x.2 ∧ x.2 < (x.1.length : Int))) ∧
 K (cond (cond (decide (x.2 < (x.1.length : Int))) (decide (((x.1.getD x.2.toNat 0).toNat : Int) ≥ (48 : Int))) false) (decide (((x.1.getD x.2.toNat 0).toNat : Int) ≤ (57 : Int))) false) ()
theorem Nf {P : Pg} (h : Has P EV) {x : DP BL.ps} {K : DP BL.rs → DP (ptrs BL.ps) → Prop} (hw : Jg P x K) : Fn P VH BL x K :=
 CU (c := GY) h rfl rfl (by kernel_rfl) (Eq.mpr (show CG P EV BL GY x K = _ by kernel_rfl) hw)
def Gg : BE :=
 (.seq (.region [ia 4 (kI 0), ia 5 (kI 0), o1 6 (.asg kF)]) (.seq (.seq (.region [im 9 1, o1 10 (.bin .lss 9 (kI 0)), im 11 10, gf 12 11 (.mv 0), gf 13 11 (.mv 1), oS ⟨some 14,
 .call VH [12, 13], some (11, false)⟩ BL, gf 15 11 (.un .not 14), o1 16 (.pick 11 kT 15)]) (.cond 16 (.seq (.region [ia 4 (kI 0), ia 5 (kI 0), o1 6
 (.asg kF)]) .ret) .skip)) (.seq (.region [im 17 1, ia 7 (kI 0), ia 8 17]) (.seq (.frame (rg [7, 8] 18 14) [] false (.join [.si 7, .si 8] (.block 0 (.loop [.si 7, .si 8] (.seq (.seq
 (.region [im 18 0, im 19 8, oS ⟨some 20, .call VH [18, 19], none⟩ BL]) (.cond 20 .skip (.exit 0))) (.seq (.frame (rg [7] 23 9) [] false (.join [.si 7]
 (.block 1 (.region [im 23 7, o1 24 (.bin .mul (kI 10) 23), im 25 0, im 26 8, o1 27 (.ixS 25 26), o1 28 (.bin .sub 27 (.c (.int .u8 48))), o1 29 (.conv (.toInt .i64) 28), o1 30
 (.bin .add 24 29), o1 31 (.mm false 30 (kI 2147483648)), ia 7 31])))) (.region [im 21 8, o1 22 (.bin .add 21 (kI 1)), ia 8 22]))))))) (.seq (.seq (.region [im 32 7, o1 33 (.bin
 .gtr 32 (kI 2147483647)), im 34 33, gf 35 34 (.mv 0), gf 36 34 (.mv 1), gf 37 34 (.ixS 35 36), gf 38 34 (.bin .eql 37 (.c (.int .u8 48))), gf 39 34 (.mv 38), gt 40 39 (.mv 8), gt
 41 39 (.mv 1), gt 42 39 (.bin .add 41 (kI 1)), gt 43 39 (.bin .gtr 40 42), gf 44 34 (.pick 39 43 kF), o1 45 (.pick 34 kT 44)]) (.cond 45 (.seq (.region [ia 4 (kI 0), ia 5 (kI 0),
 o1 6 (.asg kF)]) .ret) .skip)) (.seq (.region [im 46 7, im 47 8, ia 4 46, ia 5 47, o1 6 (.asg kT)]) .ret))))))
def Eo : AFn := ⟨ "mergelens/scan.Number", Gg.erase, [.tmp 4, .tmp 5, .tmp 6], 2⟩
def Ir (P : Pg) (x : ((List UInt8) × Int)) (K : (Int × (Int × Bool)) → Unit → Prop) : Prop :=
 Ao (D := Bool) (fun J1 => (((decide (x.2 < (0 : Int))) = false → Fn P VH BL x (fun (d2 : Bool) _ => J1 d2)) ∧ (((decide (x.2 < (0 : Int))) = true → J1 false) ∧ True))) (fun d3 => (((cond (decide (x.2 < (0 : Int))) true (!d3)) = true → K ((0 : Int), ((0 : Int), false)) ()) ∧ ((cond (decide (x.2 < (0 : Int))) true (!d3)) = false → Ao (D := (Int × Int)) (fun J4 => Dm (D := (Int × Int)) ((0 : Int), x.2) (fun d6 J7 => Fn P VH BL (x.1, d6.2) (fun (d8 : Bool) (e9 : Unit) => ((d8 = true → Ao (D := Int) (fun J10 => (0 ≤ d6.2 ∧ d6.2 < (x.1.length : Int)) ∧
 J10 (if (2147483648 : Int) < (i64.wrap ((i64.wrap ((10 : Int) * d6.1)) + (i64.wrap (u8.wrap (((x.1.getD d6.2.toNat 0).toNat : Int) - (48 : Int)))))) then (2147483648 : Int) else (i64.wrap ((i64.wrap ((10 : Int) * d6.1)) + (i64.wrap (u8.wrap (((x.1.getD d6.2.toNat 0).toNat : Int) - (48 : Int)))))))) (fun d11 => J7 (d11, (i64.wrap (d6.2 + (1 : Int)))))) ∧ (d8 = false → J4 d6))))) (fun d5 => (((decide (d5.1 > (2147483647 : Int))) = false → 0 ≤ x.2 ∧ x.2 < (x.1.length : Int))) ∧
 (((cond (decide (d5.1 > (2147483647 : Int))) true (cond (((x.1.getD x.2.toNat 0).toNat : Int) == (48 : Int)) (decide (d5.2 > (i64.wrap (x.2 + (1 : Int))))) false)) = true → K ((0 : Int), ((0 : Int), false)) ()) ∧ ((cond (decide (d5.1 > (2147483647 : Int))) true (cond (((x.1.getD x.2.toNat 0).toNat : Int) == (48 : Int)) (decide (d5.2 > (i64.wrap (x.2 + (1 : Int))))) false)) = false → K (d5.1, (d5.2, true)) ()))))))
theorem Mf {P : Pg} (h : Has P Eo) {x : DP Cf.ps} {K : DP Cf.rs → DP (ptrs Cf.ps) → Prop} (hw : Ir P x K) : Fn P "mergelens/scan.Number" Cf x K :=
 CU (c := Gg) h rfl rfl (by kernel_rfl) (Eq.mpr (show CG P Eo Cf Gg x K = _ by kernel_rfl) hw)
end Go.VS
