/- Functions of the program: typed code, and what it says, lifted. -/
import Derived.Test.YtdnomijflodcgaaDoorKTxSig
import Derived.KernelRfl
set_option linter.unusedVariables false
set_option linter.unusedSimpArgs false
set_option maxRecDepth 8000
namespace Go.VS
open IntKind
def He : Bw :=
 (.seq (.region [o1 8 (.asg (.c (.string ⟨#[]⟩))), o1 9 (.asg (.c (.string ⟨#[]⟩))), ia 10 (kI 0)]) (.seq (.seq (.region [im 17 0, im 18 1, oS ⟨some 19, .call
 WO [17, 18], none⟩ Bx, ia 11 19]) (.seq (.region [im 20 11, o1 21 (.bin .neq 20 (kI 0))]) (.cond 21 (.seq (.region [im 22 11, o1 8 (.asg (.c
 (.string ⟨#[]⟩))), o1 9 (.asg (.c (.string ⟨#[]⟩))), ia 10 22]) .ret) .skip))) (.seq (.region [im 23 0, im 24 1, oS ⟨some 25, .call WQ [23, 24], none⟩
 BC, ia 12 25]) (.seq (.seq (.region [im 26 2, o1 27 (.bin .lss 26 (kI 0)), im 28 27, gf 29 28 (.mv 2), gf 30 28 (.mv 12), gf 31 28 (.lenK 30), gf 32 28 (.bin .geq 29
 31), o1 33 (.pick 28 kT 32)]) (.cond 33 (.seq (.region [o1 8 (.asg (.c (.string ⟨#[]⟩))), o1 9 (.asg (.c (.string ⟨#[]⟩))), ia 10 (kI 3)]) .ret) .skip)) (.seq (.region [im 35 12,
 im 36 2, o1 37 (.ixA 1 35 36), ld 38 37, im 39 3, oS ⟨some 40, .call zS9 [38, 39], none⟩ CN, im 34 40, o1 41 (.ext 34 0), o1 42 (.ext 34 1), ia 13 41, ia
 14 42]) (.seq (.region [im 44 0, im 45 1, o1 46 (.ixA 3 44 45), fa 47 2 46, ld 48 47, im 49 3, oS ⟨some 50, .call zS9 [48, 49], none⟩ CN, im 43 50, o1 51
 (.ext 43 0), o1 52 (.ext 43 1), ia 15 51, ia 16 52]) (.seq (.region [im 53 13, im 54 15, ia 8 53, ia 9 54, ia 10 (kI 0)]) .ret)))))))
def E6 : AFn := ⟨ AaO, He.erase, [.tmp 8, .tmp 9, .tmp 10], 4⟩
def Jn (P : Pg) (x : ((List Commit) × (Int × (Int × (List UInt8))))) (K : ((List UInt8) × ((List UInt8) × Int)) → Unit → Prop) : Prop :=
 Fn P WO Bx (x.1, x.2.1) (fun (d1 : Int) (e2 : Unit) => (((d1 != (0 : Int)) = true → K (([] : List UInt8), (([] : List UInt8), d1)) ()) ∧ ((d1 != (0 : Int)) = false → Fn P WQ BC (x.1, x.2.1) (fun (d3 : (List (List ((List UInt8) × (List UInt8))))) (e4 : Unit) => (((cond (decide (x.2.2.1 < (0 : Int))) true (decide (x.2.2.1 ≥ (d3.length : Int)))) = true → K (([] : List UInt8), (([] : List UInt8), (3 : Int))) ()) ∧ ((cond (decide (x.2.2.1 < (0 : Int))) true (decide (x.2.2.1 ≥ (d3.length : Int)))) = false → (0 ≤ x.2.2.1 ∧ x.2.2.1 < (d3.length : Int)) ∧
 (x.2.2.1.toNat < d3.length) ∧
 Fn P zS9 CN ((List.getD d3 x.2.2.1.toNat []), x.2.2.2) (fun (d5 : ((List UInt8) × Bool)) (e6 : Unit) => (0 ≤ x.2.1 ∧ x.2.1 < (x.1.length : Int)) ∧
 (x.2.1.toNat < x.1.length) ∧
 Fn P zS9 CN ((List.getD x.1 x.2.1.toNat Ak).2.2, x.2.2.2) (fun (d7 : ((List UInt8) × Bool)) (e8 : Unit) => K (d5.1, (d7.1, (0 : Int))) ()))))))))
theorem Oh {P : Pg} (h : Has P E6) {x : DP CH.ps} {K : DP CH.rs → DP (ptrs CH.ps) → Prop} (hw : Jn P x K) : Fn P AaO CH x K :=
 Cc (c := He) h rfl rfl (by kernel_rfl) (Eq.mpr (show Ca P E6 CH He x K = _ by kernel_rfl) hw)
def IW : Bw :=
 (.seq (.region [o1 4 (.asg kF)]) (.seq (.seq (.region [im 6 0, o1 7 (.lenK 6), im 8 1, o1 9 (.lenK 8), o1 10 (.bin .neq 7 9)]) (.cond 10 (.seq (.region [o1 4 (.asg kF)]) .ret)
 .skip)) (.seq (.seq (.region [ia 5 (kI 0)]) (.frame (rg [4, 5] 11 15) [] false (.join [.sl 4 false .bool .leaf] (.block 0 (.loop [.sl 4 false .bool .leaf, .si 5] (.seq (.seq
 (.region [im 11 5, im 12 0, o1 13 (.lenK 12), o1 14 (.bin .lss 11 13)]) (.cond 14 .skip (.exit 0))) (.seq (.frame (rg [4] 17 9) [] false (.join [.sl 4 false .bool .leaf] (.block 1
 (.seq (.draw [(.first (im 17 0) (.first (im 18 5) (.first (o1 19 (.ixA 2 17 18)) (.first (o1 20 (.load true 2 19)) (.first (im 21 1) (.first (im 22 5) (.first (o1 23 (.ixA 2 21
 22)) (.first (o1 24 (.load true 2 23)) (.first (o1 25 (.eqA true [.str, .int] 20 24)) .done)))))))))]) (.cond 25 (.seq (.region [o1 4 (.asg kF)]) .ret) .skip))))) (.region [im 15
 5, o1 16 (.bin .add 15 (kI 1)), ia 5 16])))))))) (.seq (.region [o1 4 (.asg kT)]) .ret))))
def Gm : AFn := ⟨ YU, IW.erase, [.tmp 4], 2⟩
def LP (P : Pg) (x : ((List ((List UInt8) × Int)) × (List ((List UInt8) × Int)))) (K : Bool → Unit → Prop) : Prop :=
 ((((x.1.length : Int) != (x.2.length : Int)) = true → K false ()) ∧ (((x.1.length : Int) != (x.2.length : Int)) = false → Ai (D := Bool) (fun J1 => Bl (D := (Bool × Int)) (false, (0 : Int)) (fun d3 J4 => (((decide (d3.2 < (x.1.length : Int))) = true → Ai (D := Bool) (fun J5 => (0 ≤ d3.2 ∧ d3.2 < (x.1.length : Int)) ∧
 (d3.2.toNat < x.1.length) ∧
 (0 ≤ d3.2 ∧ d3.2 < (x.2.length : Int)) ∧
 (d3.2.toNat < x.2.length) ∧
 (((!(((List.getD x.1 d3.2.toNat ([], (0 : Int))).1 == (List.getD x.2 d3.2.toNat ([], (0 : Int))).1) && (((List.getD x.1 d3.2.toNat ([], (0 : Int))).2 == (List.getD x.2 d3.2.toNat ([], (0 : Int))).2) && true))) = true → K false ()) ∧ ((!(((List.getD x.1 d3.2.toNat ([], (0 : Int))).1 == (List.getD x.2 d3.2.toNat ([], (0 : Int))).1) && (((List.getD x.1 d3.2.toNat ([], (0 : Int))).2 == (List.getD x.2 d3.2.toNat ([], (0 : Int))).2) && true))) = false → J5 d3.1))) (fun d6 => J4 (d6, (i64.wrap (d3.2 + (1 : Int)))))) ∧ ((decide (d3.2 < (x.1.length : Int))) = false → J1 d3.1)))) (fun d2 => K true ())))
theorem Qx {P : Pg} (h : Has P Gm) {x : DP C8.ps} {K : DP C8.rs → DP (ptrs C8.ps) → Prop} (hw : LP P x K) : Fn P YU C8 x K :=
 Cc (c := IW) h rfl rfl (by kernel_rfl) (Eq.mpr (show Ca P Gm C8 IW x K = _ by kernel_rfl) hw)
def HT : Bw :=
 (.seq (.region [o1 0 (.asg kF)]) (.seq (.region [o1 7 (.build [(.string ⟨#[]⟩), (.string ⟨#[]⟩)] [(0, 1, (.c (.string ⟨#[120]⟩))), (1, 1, (.c (.string ⟨#[97]⟩)))]), ⟨⟨some 8,
 .buildSl 2 [(.string ⟨#[]⟩), (.string ⟨#[]⟩)] 1 [(0, 7)], none⟩, some ((.pair .str .str), .leaf), ⟨[], []⟩, true, none, false, false⟩, o1 9 (.build [(.slice none 0 0), (.int .i64
 0), (.slice none 0 0)] [(2, 1, 8)]), oT ⟨some 10, .buildSl 3 [(.slice none 0 0), (.int .i64 0), (.slice none 0 0)] 1 [(0, 9)], none⟩ (some (AB, (.pair tM (.pair .leaf tM)))),
 ia 1 10]) (.seq (.frz [1] (.region [im 12 1, oS ⟨some 13, .call WR [12, (kI 0)], none⟩ B7, im 11 13, o1 14 (.ext 11 0), o1 15 (.ext 11 1), ia 2
 14, ia 3 15])) (.seq (.frz [1] (.region [im 17 1, oS ⟨some 18, .call AaO [17, (kI 0), (kI 0), (.c (.string ⟨#[120]⟩))], none⟩ CH, im 16 18, o1 19
 (.ext 16 0), o1 20 (.ext 16 1), o1 21 (.ext 16 2), ia 4 19, ia 5 20, ia 6 21])) (.seq (.region [im 22 3, o1 23 (.bin .eql 22 (kI 0)), im 24 23, gt 25 24 (.mv 6), gt 26 24 (.bin
 .eql 25 (kI 0)), o1 27 (.pick 24 26 kF), im 28 27, gt 29 28 (.mv 2), gt 30 28 (.lenK 29), gt 31 28 (.bin .eql 30 (kI 1)), o1 32 (.pick 28 31 kF), im 33 32, ⟨⟨some 34, .mv 2, some
 (33, true)⟩, none, ⟨[], []⟩, false, some 33, true, false⟩, ⟨⟨some 35, .ixA 1 34 (kI 0), some (33, true)⟩, none, ⟨[], []⟩, false, none, true, false⟩, ⟨⟨some 36, .load false 1 35,
 some (33, true)⟩, none, ⟨[], []⟩, false, none, true, false⟩, ⟨⟨some 37, .build [(.string ⟨#[]⟩), (.int .i64 0)] [(0, 1, (.c (.string ⟨#[120]⟩))), (1, 1, (kI 1))], some (33, true)⟩,
 none, ⟨[], []⟩, false, none, true, false⟩, ⟨⟨some 38, .buildSl 2 [(.string ⟨#[]⟩), (.int .i64 0)] 1 [(0, 37)], some (33, true)⟩, some ((.pair .str bI), .leaf), ⟨[], []⟩, false,
 none, true, false⟩, ⟨⟨some 39, .call YU [36, 38], some (33, true)⟩, none, C8, false, none, true, true⟩, o1 40 (.pick 33 39 kF), im 41 40, gt
 42 41 (.mv 4), o0 ⟨some 43, .bin .eql 42 (.c (.string ⟨#[]⟩)), some (41, true)⟩, o1 44 (.pick 41 43 kF), im 45 44, gt 46 45 (.mv 5), o0 ⟨some 47, .bin .eql 46 (.c (.string
 ⟨#[97]⟩)), some (45, true)⟩, o1 48 (.pick 45 47 kF), ia 0 48]) .ret)))))
def FR : AFn := ⟨ Vm, HT.erase, [.tmp 0], 0⟩
def K3 (P : Pg) (x : Unit) (K : Bool → Unit → Prop) : Prop :=
 Fn P WR B7 (([([], ((0 : Int), ([(([120] : List UInt8), ([97] : List UInt8))] : List ((List UInt8) × (List UInt8)))))] : List Commit), (0 : Int)) (fun (d1 : ((List (List ((List UInt8) × Int))) × Int)) (e2 : Unit) => Fn P AaO CH (([([], ((0 : Int), ([(([120] : List UInt8), ([97] : List UInt8))] : List ((List UInt8) × (List UInt8)))))] : List Commit), ((0 : Int), ((0 : Int), ([120] : List UInt8)))) (fun (d3 : ((List UInt8) × ((List UInt8) × Int))) (e4 : Unit) => (((cond (cond (d1.2 == (0 : Int)) (d3.2.2 == (0 : Int)) false) ((d1.1.length : Int) == (1 : Int)) false) = true → (0 ≤ (0 : Int) ∧ (0 : Int) < (d1.1.length : Int)) ∧
 ((Int.toNat (0 : Int)) < d1.1.length) ∧
 ((Int.toNat (0 : Int)) < d1.1.length) ∧
 Fn P YU C8 ((List.getD d1.1 (Int.toNat (0 : Int)) []), ([(([120] : List UInt8), (1 : Int))] : List ((List UInt8) × Int))) (fun (d5 : Bool) (e6 : Unit) => K (cond (cond (cond true d5 false) (d3.1 == ([] : List UInt8)) false) (d3.2.1 == ([97] : List UInt8)) false) ())) ∧ ((cond (cond (d1.2 == (0 : Int)) (d3.2.2 == (0 : Int)) false) ((d1.1.length : Int) == (1 : Int)) false) = false → K (cond (cond (cond false false false) (d3.1 == ([] : List UInt8)) false) (d3.2.1 == ([97] : List UInt8)) false) ()))))
theorem Pl {P : Pg} (h : Has P FR) {x : DP Cb.ps} {K : DP Cb.rs → DP (ptrs Cb.ps) → Prop} (hw : K3 P x K) : Fn P Vm Cb x K :=
 Cc (c := HT) h rfl rfl (by kernel_rfl) (Eq.mpr (show Ca P FR Cb HT x K = _ by kernel_rfl) hw)
def IZ : Bw :=
 (.seq (.region [o1 4 (.asg (.c (.string ⟨#[]⟩))), o1 5 (.asg kF)]) (.seq (.seq (.region [ia 6 (kI 0)]) (.frame (rg [] 4 21) [] false (.join [.sl 4 false .str .leaf, .sl 5 false
 .bool .leaf] (.block 0 (.loop [.sl 4 false .str .leaf, .sl 5 false .bool .leaf, .si 6] (.seq (.seq (.region [im 7 6, im 8 0, o1 9 (.lenK 8), o1 10 (.bin .lss 7 9)]) (.cond 10 .skip
 (.exit 0))) (.seq (.frame (rg [4, 5] 13 12) [] false (.join [.sl 4 false .str .leaf, .sl 5 false .bool .leaf] (.block 1 (.seq (.region [im 13 0, im 14 6, o1 15 (.ixA 2 13 14), fa
 16 0 15, ld 17 16, im 18 1, o1 19 (.bin .eql 17 18)]) (.cond 19 (.seq (.region [im 20 0, im 21 6, o1 22 (.ixA 2 20 21), fa 23 1 22, ld 24 23, ia 4 24, o1 5 (.asg kT)]) .ret)
 .skip))))) (.region [im 11 6, o1 12 (.bin .add 11 (kI 1)), ia 6 12])))))))) (.seq (.region [o1 4 (.asg (.c (.string ⟨#[]⟩))), o1 5 (.asg kF)]) .ret)))
def Gq : AFn := ⟨ Vn, IZ.erase, [.tmp 4, .tmp 5], 2⟩
def LS (P : Pg) (x : ((List ((List UInt8) × (List UInt8))) × (List UInt8))) (K : ((List UInt8) × Bool) → Unit → Prop) : Prop :=
 Ai (D := ((List UInt8) × Bool)) (fun J1 => Bl (D := ((List UInt8) × (Bool × Int))) (([] : List UInt8), (false, (0 : Int))) (fun d3 J4 => (((decide (d3.2.2 < (x.1.length : Int))) = true → Ai (D := ((List UInt8) × Bool)) (fun J5 => (0 ≤ d3.2.2 ∧ d3.2.2 < (x.1.length : Int)) ∧
 (d3.2.2.toNat < x.1.length) ∧
 ((((List.getD x.1 d3.2.2.toNat ([], [])).1 == x.2) = true → (0 ≤ d3.2.2 ∧ d3.2.2 < (x.1.length : Int)) ∧
 (d3.2.2.toNat < x.1.length) ∧
 K ((List.getD x.1 d3.2.2.toNat ([], [])).2, true) ()) ∧ (((List.getD x.1 d3.2.2.toNat ([], [])).1 == x.2) = false → J5 (d3.1, d3.2.1)))) (fun d6 => J4 (d6.1, (d6.2, (i64.wrap (d3.2.2 + (1 : Int))))))) ∧ ((decide (d3.2.2 < (x.1.length : Int))) = false → J1 (d3.1, d3.2.1))))) (fun d2 => K (([] : List UInt8), false) ())
theorem QA {P : Pg} (h : Has P Gq) {x : DP Cn.ps} {K : DP Cn.rs → DP (ptrs Cn.ps) → Prop} (hw : LS P x K) : Fn P Vn Cn x K :=
 Cc (c := IZ) h rfl rfl (by kernel_rfl) (Eq.mpr (show Ca P Gq Cn IZ x K = _ by kernel_rfl) hw)
def Dp : Bw :=
 (.seq (.region [o1 4 (.asg kF)]) (.seq (.region [im 19 0, oS ⟨some 20, .call AaG [19, (kI 6), (kI 2)], none⟩ DQ, ia 5 20]) (.seq (.seq (.region
 [im 21 5, o1 22 (.lenK 21), o1 23 (.bin .eql 22 (kI 0))]) (.cond 23 (.seq (.region [oS ⟨some 24, .call Vm [], none⟩ Cb, ia 4 24]) .ret)
 .skip)) (.seq (.region [im 25 1, im 26 5, o1 27 (.lenK 26), oS ⟨some 28, .call zS1 [25, 27], none⟩ BL, ia 1 28]) (.seq (.region [im 30 5, im 31 1,
 oS ⟨some 32, .call Ab5 [30, 31], none⟩ Dr, im 29 32, o1 33 (.ext 29 0), o1 34 (.ext 29 1), ia 6 33, ia 7 34]) (.seq (.region [im 36 5,
 im 37 1, oS ⟨some 38, .call WR [36, 37], none⟩ B7, im 35 38, o1 39 (.ext 35 0), o1 40 (.ext 35 1), ia 8 39, ia 9 40]) (.seq (.seq (.region [im
 41 7, o1 42 (.bin .neq 41 (kI 0)), im 43 42, gf 44 43 (.mv 9), gf 45 43 (.bin .neq 44 (kI 0)), o1 46 (.pick 43 kT 45), im 47 46, gf 48 47 (.mv 8), gf 49 47 (.lenK 48), gf 50 47
 (.bin .eql 49 (kI 0)), o1 51 (.pick 47 kT 50)]) (.cond 51 (.seq (.region [o1 4 (.asg kF)]) .ret) .skip)) (.seq (.region [oT ⟨some 52, .buildSl 1 [(.string ⟨#[]⟩)] 4 [(0, (.c
 (.string ⟨#[97]⟩))), (1, (.c (.string ⟨#[98, 47, 120]⟩))), (2, (.c (.string ⟨#[98, 47, 121]⟩))), (3, (.c (.string ⟨#[99, 32, 100]⟩)))], none⟩ (some (.str, .leaf)), ia 10 52]) (.seq
 (.region [ia 11 (kI 0)]) (.seq (.seq (.region [ia 12 (kI 0)]) (.frame (rg [4, 11, 12, 13, 14, 15, 16, 17, 18] 53 86) [] false (.join [.sl 4 false .bool .leaf, .si 11] (.block 0
 (.loop [.sl 4 false .bool .leaf, .si 11, .si 12] (.seq (.seq (.region [im 53 12, o1 54 (.bin .lss 53 (kI 4))]) (.cond 54 .skip (.exit 0))) (.seq (.frame (rg [4, 11, 13, 14, 15, 16,
 17, 18] 57 82) [] false (.join [.sl 4 false .bool .leaf, .si 11] (.block 1 (.seq (.frame (rg [13, 14] 57 13) [] false (.join [.sl 13 false .str .leaf, .sl 14 false .bool .leaf]
 (.draw [(.first (im 58 5) (.first (im 59 1) (.first (o1 60 (.ixA 3 58 59)) (.first (fa 61 2 60) (.first (ld 62 61) (.first (im 63 10) (.first (im 64 12) (.first (o1 65 (.ixA 1 63
 64)) (.first (ld 66 65) (.alt (oS ⟨some 67, .call Vn [62, 66], none⟩ Cn) (.first (im 57 67) (.alt (o1 68 (.ext 57 0)) (.alt (o1 69 (.ext 57
 1)) (.alt (ia 13 68) (.alt (ia 14 69) .done .stop) .stop) (.alt (ia 13 68) (.alt (o1 69 (.ext 57 1)) (.alt (ia 14 69) .done .stop) .stop) .stop)) (.alt (o1 69 (.ext 57 1)) (.alt
 (o1 68 (.ext 57 0)) (.alt (ia 13 68) (.alt (ia 14 69) .done .stop) .stop) .stop) .stop))) .stop))))))))))]))) (.seq (.region [im 70 5, im 71 1, o1 72 (.ixA 3 70 71), fa 73 0 72, ld
 74 73, o1 75 (.lenK 74), o1 76 (.bin .gtr 75 (kI 0)), im 77 76, gf 78 77 (.mv 14), o1 79 (.pick 77 kT 78), ia 15 79]) (.seq (.seq (.region [ia 16 (kI 0)]) (.frame (rg [15, 16, 17,
 18] 80 41) [] false (.join [.sl 15 false .bool .leaf] (.block 2 (.loop [.sl 15 false .bool .leaf, .si 16] (.seq (.seq (.region [im 80 16, im 81 5, im 82 1, o1 83 (.ixA 3 81 82), fa
 84 0 83, ld 85 84, o1 86 (.lenK 85), o1 87 (.bin .lss 80 86)]) (.cond 87 .skip (.exit 2))) (.seq (.frame (rg [15, 17, 18] 90 31) [] false (.join [.sl 15 false .bool .leaf] (.block
 3 (.seq (.frame (rg [17, 18] 90 20) [] false (.join [.sl 17 false .str .leaf, .sl 18 false .bool .leaf] (.draw [(.first (im 91 5) (.first (im 92 5) (.first (im 93 1) (.first (o1 94
 (.ixA 3 92 93)) (.first (fa 95 0 94) (.first (im 97 16) (.first (im 103 10) (.first (im 104 12) (.first (o1 105 (.ixA 1 103 104)) (.first (ld 106 105) (.alt (ld 96 95) (.first (o1
 98 (.ixA 1 96 97)) (.first (ld 99 98) (.first (o1 100 (.ixA 3 91 99)) (.first (fa 101 2 100) (.first (ld 102 101) (.alt (oS ⟨some 107, .call Vn [102,
 106], none⟩ Cn) (.first (im 90 107) (.alt (o1 108 (.ext 90 0)) (.alt (o1 109 (.ext 90 1)) (.alt (ia 17 108) (.alt (ia 18 109) .done .stop) .stop) (.alt (ia 17 108) (.alt
 (o1 109 (.ext 90 1)) (.alt (ia 18 109) .done .stop) .stop) .stop)) (.alt (o1 109 (.ext 90 1)) (.alt (o1 108 (.ext 90 0)) (.alt (ia 17 108) (.alt (ia 18 109) .done .stop) .stop)
 .stop) .stop))) .stop)))))) .stop)))))))))))]))) (.region [im 110 15, im 111 110, gt 112 111 (.mv 18), gt 113 111 (.mv 14), gt 114 111 (.eqB true 112 113), gt 115 111 (.mv 114), gf
 116 115 (.mv 17), gf 117 115 (.mv 13), gf 118 115 (.bin .neq 116 117), gt 119 111 (.pick 115 kT 118), o1 120 (.pick 111 119 kF), ia 15 120]))))) (.region [im 88 16, o1 89 (.bin
 .add 88 (kI 1)), ia 16 89])))))))) (.seq (.region [im 121 15]) (.frame (rg [4, 11] 122 17) [] false (.join [.sl 4 false .bool .leaf, .si 11] (.cond 121 (.seq (.seq (.draw [(.first
 (im 122 11) (.first (im 123 6) (.first (o1 124 (.lenK 123)) (.first (o1 125 (.bin .geq 122 124)) (.first (im 126 125) (.first (gf 127 126 (.mv 6)) (.first (gf 128 126 (.mv 11))
 (.first (gf 129 126 (.ixA 1 127 128)) (.first (gf 130 126 (.load false 1 129)) (.first (gf 131 126 (.mv 10)) (.first (gf 132 126 (.mv 12)) (.first (gf 133 126 (.ixA 1 131 132))
 (.first (gf 134 126 (.load false 1 133)) (.first (gf 135 126 (.bin .neq 130 134)) (.first (o1 136 (.pick 126 kT 135)) .done)))))))))))))))]) (.cond 136 (.seq (.region [o1 4 (.asg
 kF)]) .ret) .skip)) (.region [im 137 11, o1 138 (.bin .add 137 (kI 1)), ia 11 138])) .skip)))))))))) (.region [im 55 12, o1 56 (.bin .add 55 (kI 1)), ia 12 56])))))))) (.seq
 (.region [im 139 11, im 140 6, o1 141 (.lenK 140), o1 142 (.bin .eql 139 141), im 143 142, gt 144 143 (.mv 8), gt 145 143 (.lenK 144), gt 146 143 (.bin .gtr 145 (kI 1)), gt 147 143
 (.mv 146), gf 148 147 (.mv 6), gf 149 147 (.lenK 148), gf 150 147 (.mv 8), gf 151 147 (.ixA 1 150 (kI 0)), gf 152 147 (.load false 1 151), gf 153 147 (.lenK 152), gf 154 147 (.bin
 .eql 149 153), gt 155 143 (.pick 147 kT 154), o1 156 (.pick 143 155 kF), im 157 156, oS ⟨some 158, .call Vm [], some (157, true)⟩ Cb, o1
 159 (.pick 157 158 kF), ia 4 159]) .ret)))))))))))
def Cx : AFn := ⟨ Adl, Dp.erase, [.tmp 4], 2⟩
abbrev AP : List (List UInt8) := ([([97] : List UInt8), ([98, 47, 120] : List UInt8), ([98, 47, 121] : List UInt8), ([99, 32, 100] : List UInt8)] : List (List UInt8))
def EC (P : Pg) (x : ((List Int) × Int)) (K : Bool → Unit → Prop) : Prop :=
 Fn P AaG DQ (x.1, ((6 : Int), (2 : Int))) (fun (d1 : (List Commit)) (e2 : Unit) => ((((d1.length : Int) == (0 : Int)) = true → Fn P Vm Cb () (fun (d3 : Bool) (e4 : Unit) => K d3 ())) ∧ (((d1.length : Int) == (0 : Int)) = false → Fn P zS1 BL (x.2, (d1.length : Int)) (fun (d5 : Int) (e6 : Unit) => Fn P Ab5 Dr (d1, d5) (fun (d7 : ((List (List UInt8)) × Int)) (e8 : Unit) => Fn P WR B7 (d1, d5) (fun (d9 : ((List (List ((List UInt8) × Int))) × Int)) (e10 : Unit) => (((cond (cond (d7.2 != (0 : Int)) true (d9.2 != (0 : Int))) true ((d9.1.length : Int) == (0 : Int))) = true → K false ()) ∧ ((cond (cond (d7.2 != (0 : Int)) true (d9.2 != (0 : Int))) true ((d9.1.length : Int) == (0 : Int))) = false → Ai (D := (Bool × Int)) (fun J11 => Bl (D := (Bool × (Int × Int))) (false, ((0 : Int), (0 : Int))) (fun d13 J14 => (((decide (d13.2.2 < (4 : Int))) = true → Ai (D := (Bool × Int)) (fun J15 => Ai (D := ((List UInt8) × Bool)) (fun J17 => (0 ≤ d5 ∧ d5 < (d1.length : Int)) ∧
 (d5.toNat < d1.length) ∧
 (0 ≤ d13.2.2 ∧ d13.2.2 < ((List.length AP : Nat) : Int)) ∧
 (d13.2.2.toNat < List.length AP) ∧
 (Fn P Vn Cn ((List.getD d1 d5.toNat Ak).2.2, (List.getD AP d13.2.2.toNat [])) (fun (d19 : ((List UInt8) × Bool)) (e20 : Unit) => ((((J17 d19) ∧ True) ∧ True) ∧ ((((J17 d19) ∧ True) ∧ True) ∧ True)) ∧ (((((J17 d19) ∧ True) ∧ True) ∧ True) ∧ True))) ∧ True) (fun d18 => (0 ≤ d5 ∧ d5 < (d1.length : Int)) ∧
 (d5.toNat < d1.length) ∧
 Ai (D := Bool) (fun J21 => Bl (D := (Bool × Int)) ((cond (decide (((List.length (List.getD d1 d5.toNat Ak).1 : Nat) : Int) > (0 : Int))) true d18.2), (0 : Int)) (fun d23 J24 => (0 ≤ d5 ∧ d5 < (d1.length : Int)) ∧
 (d5.toNat < d1.length) ∧
 (((decide (d23.2 < ((List.length (List.getD d1 d5.toNat Ak).1 : Nat) : Int))) = true → Ai (D := Bool) (fun J25 => Ai (D := ((List UInt8) × Bool)) (fun J27 => (0 ≤ d5 ∧ d5 < (d1.length : Int)) ∧
 (0 ≤ d13.2.2 ∧ d13.2.2 < ((List.length AP : Nat) : Int)) ∧
 (d13.2.2.toNat < List.length AP) ∧
 ((d5.toNat < d1.length) ∧
 (0 ≤ d23.2 ∧ d23.2 < ((List.length (List.getD d1 d5.toNat Ak).1 : Nat) : Int)) ∧
 (d23.2.toNat < List.length (List.getD d1 d5.toNat Ak).1) ∧
 (0 ≤ (List.getD (List.getD d1 d5.toNat Ak).1 d23.2.toNat (0 : Int)) ∧ (List.getD (List.getD d1 d5.toNat Ak).1 d23.2.toNat (0 : Int)) < (d1.length : Int)) ∧
 ((Int.toNat (List.getD (List.getD d1 d5.toNat Ak).1 d23.2.toNat (0 : Int))) < d1.length) ∧
 (Fn P Vn Cn ((List.getD d1 (Int.toNat (List.getD (List.getD d1 d5.toNat Ak).1 d23.2.toNat (0 : Int))) Ak).2.2, (List.getD AP d13.2.2.toNat [])) (fun (d29 : ((List UInt8) × Bool)) (e30 : Unit) => ((((J27 d29) ∧ True) ∧ True) ∧ ((((J27 d29) ∧ True) ∧ True) ∧ True)) ∧ (((((J27 d29) ∧ True) ∧ True) ∧ True) ∧ True))) ∧ True) ∧ True) (fun d28 => J25 (cond d23.1 (cond (!(d28.2 == d18.2)) true (!(d28.1 == d18.1))) false))) (fun d26 => J24 (d26, (i64.wrap (d23.2 + (1 : Int)))))) ∧ ((decide (d23.2 < ((List.length (List.getD d1 d5.toNat Ak).1 : Nat) : Int))) = false → J21 d23.1)))) (fun d22 => Ai (D := (Bool × Int)) (fun J31 => ((d22 = true → (((decide (d13.2.1 ≥ (d7.1.length : Int))) = false → 0 ≤ d13.2.1 ∧ d13.2.1 < (d7.1.length : Int))) ∧
 (((decide (d13.2.1 ≥ (d7.1.length : Int))) = false → d13.2.1.toNat < d7.1.length)) ∧
 (((decide (d13.2.1 ≥ (d7.1.length : Int))) = false → 0 ≤ d13.2.2 ∧ d13.2.2 < ((List.length AP : Nat) : Int))) ∧
 (((decide (d13.2.1 ≥ (d7.1.length : Int))) = false → d13.2.2.toNat < List.length AP)) ∧
 (((cond (decide (d13.2.1 ≥ (d7.1.length : Int))) true (!((List.getD d7.1 d13.2.1.toNat []) == (List.getD AP d13.2.2.toNat [])))) = true → K false ()) ∧ ((cond (decide (d13.2.1 ≥ (d7.1.length : Int))) true (!((List.getD d7.1 d13.2.1.toNat []) == (List.getD AP d13.2.2.toNat [])))) = false → J31 (d13.1, (i64.wrap (d13.2.1 + (1 : Int))))))) ∧ (d22 = false → J31 (d13.1, d13.2.1)))) (fun d32 => J15 d32)))) (fun d16 => J14 (d16.1, (d16.2, (i64.wrap (d13.2.2 + (1 : Int))))))) ∧ ((decide (d13.2.2 < (4 : Int))) = false → J11 (d13.1, d13.2.1))))) (fun d12 => (((decide ((d9.1.length : Int) > (1 : Int))) = false → ((d12.2 == (d7.1.length : Int)) = true → 0 ≤ (0 : Int) ∧ (0 : Int) < (d9.1.length : Int)))) ∧
 (((decide ((d9.1.length : Int) > (1 : Int))) = false → ((d12.2 == (d7.1.length : Int)) = true → (Int.toNat (0 : Int)) < d9.1.length))) ∧
 ((Int.toNat (0 : Int)) < d9.1.length) ∧
 Ai (D := Bool) (fun J33 => (((cond (d12.2 == (d7.1.length : Int)) (cond (decide ((d9.1.length : Int) > (1 : Int))) true ((d7.1.length : Int) == ((List.length (List.getD d9.1 (Int.toNat (0 : Int)) []) : Nat) : Int))) false) = true → Fn P Vm Cb () (fun (d34 : Bool) _ => J33 d34)) ∧ (((cond (d12.2 == (d7.1.length : Int)) (cond (decide ((d9.1.length : Int) > (1 : Int))) true ((d7.1.length : Int) == ((List.length (List.getD d9.1 (Int.toNat (0 : Int)) []) : Nat) : Int))) false) = false → J33 false) ∧ True))) (fun d35 => K (cond (cond (d12.2 == (d7.1.length : Int)) (cond (decide ((d9.1.length : Int) > (1 : Int))) true ((d7.1.length : Int) == ((List.length (List.getD d9.1 (Int.toNat (0 : Int)) []) : Nat) : Int))) false) d35 false) ()))))))))))
theorem G0 {P : Pg} (h : Has P Cx) {x : DP AZ.ps} {K : DP AZ.rs → DP (ptrs AZ.ps) → Prop} (hw : EC P x K) : Fn P Adl AZ x K :=
 Cc (c := Dp) h rfl rfl (by kernel_rfl) (Eq.mpr (show Ca P Cx AZ Dp x K = _ by kernel_rfl) hw)
def Kb : Bw :=
 (.seq (.region [ia 4 (kI 0)]) (.seq (.seq (.region [im 6 0, oS ⟨some 7, .call zS2 [6], none⟩ BQ, ia 5 7]) (.seq (.region [im 8 5, o1 9 (.bin .neq 8 (kI
 0))]) (.cond 9 (.seq (.region [im 10 5, ia 4 10]) .ret) .skip))) (.seq (.region [im 11 1, oS ⟨some 12, .call zS2 [11], none⟩ BQ, ia 4 12]) .ret)))
def Hw : AFn := ⟨ "mergelens/tree.both", Kb.erase, [.tmp 4], 2⟩
def NN (P : Pg) (x : ((List ((List UInt8) × (List UInt8))) × (List ((List UInt8) × (List UInt8))))) (K : Int → Unit → Prop) : Prop :=
 Fn P zS2 BQ x.1 (fun (d1 : Int) (e2 : Unit) => (((d1 != (0 : Int)) = true → K d1 ()) ∧ ((d1 != (0 : Int)) = false → Fn P zS2 BQ x.2 (fun (d3 : Int) (e4 : Unit) => K d3 ()))))
theorem Sl {P : Pg} (h : Has P Hw) {x : DP Ek.ps} {K : DP Ek.rs → DP (ptrs Ek.ps) → Prop} (hw : NN P x K) : Fn P "mergelens/tree.both" Ek x K :=
 Cc (c := Kb) h rfl rfl (by kernel_rfl) (Eq.mpr (show Ca P Hw Ek Kb x K = _ by kernel_rfl) hw)
end Go.VS
