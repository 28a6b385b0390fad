/- Functions of the program: typed code, and what it says, lifted. -/
import Derived.Test.YtdnomijflodcgaaDoorKTxSig
import Derived.KernelRfl
set_option linter.unusedVariables false
set_option linter.unusedSimpArgs false
set_option maxRecDepth 8000
namespace Go.VS
open IntKind
def G6 : Br :=
 (.seq (.region [o1 8 (.asg (.c (.string ⟨#[]⟩))), o1 9 (.asg (.c (.string ⟨#[]⟩))), ia 10 (kI 0)]) (.seq (.seq (.region [im 17 0, im 18 1, oS ⟨some 19, .call
 Z7 [17, 18], none⟩ BD, ia 11 19]) (.seq (.region [im 20 11, o1 21 (.bin .neq 20 (kI 0))]) (.cond 21 (.seq (.region [im 22 11, o1 8 (.asg (.c
 (.string ⟨#[]⟩))), o1 9 (.asg (.c (.string ⟨#[]⟩))), ia 10 22]) .ret) .skip))) (.seq (.region [im 23 0, im 24 1, oS ⟨some 25, .call Z8 [23, 24], none⟩
 Bp, ia 12 25]) (.seq (.seq (.region [im 26 2, o1 27 (.bin .lss 26 (kI 0)), im 28 27, gf 29 28 (.mv 2), gf 30 28 (.mv 12), gf 31 28 (.lenK 30), gf 32 28 (.bin .geq 29
 31), o1 33 (.pick 28 kT 32)]) (.cond 33 (.seq (.region [o1 8 (.asg (.c (.string ⟨#[]⟩))), o1 9 (.asg (.c (.string ⟨#[]⟩))), ia 10 (kI 3)]) .ret) .skip)) (.seq (.region [im 35 12,
 im 36 2, o1 37 (.ixA 1 35 36), ld 38 37, im 39 3, oS ⟨some 40, .call YJ [38, 39], none⟩ Cz, im 34 40, o1 41 (.ext 34 0), o1 42 (.ext 34 1), ia 13 41, ia
 14 42]) (.seq (.region [im 44 0, im 45 1, o1 46 (.ixA 3 44 45), fa 47 2 46, ld 48 47, im 49 3, oS ⟨some 50, .call YJ [48, 49], none⟩ Cz, im 43 50, o1 51
 (.ext 43 0), o1 52 (.ext 43 1), ia 15 51, ia 16 52]) (.seq (.region [im 53 13, im 54 15, ia 8 53, ia 9 54, ia 10 (kI 0)]) .ret)))))))
def Ec : AFn := ⟨ zS7, G6.erase, [.tmp 8, .tmp 9, .tmp 10], 4⟩
def GH (P : Pg) (x : ((List Commit) × (Int × (Int × (List UInt8))))) (K : ((List UInt8) × ((List UInt8) × Int)) → Unit → Prop) : Prop :=
 Fn P Z7 BD (x.1, x.2.1) (fun (d1 : Int) (e2 : Unit) => (((d1 != (0 : Int)) = true → K (([] : List UInt8), (([] : List UInt8), d1)) ()) ∧ ((d1 != (0 : Int)) = false → Fn P Z8 Bp (x.1, x.2.1) (fun (d3 : (List (List ((List UInt8) × (List UInt8))))) (e4 : Unit) => (((cond (decide (x.2.2.1 < (0 : Int))) true (decide (x.2.2.1 ≥ (d3.length : Int)))) = true → K (([] : List UInt8), (([] : List UInt8), (3 : Int))) ()) ∧ ((cond (decide (x.2.2.1 < (0 : Int))) true (decide (x.2.2.1 ≥ (d3.length : Int)))) = false → (0 ≤ x.2.2.1 ∧ x.2.2.1 < (d3.length : Int)) ∧
 (x.2.2.1.toNat < d3.length) ∧
 Fn P YJ Cz ((List.getD d3 x.2.2.1.toNat []), x.2.2.2) (fun (d5 : ((List UInt8) × Bool)) (e6 : Unit) => (0 ≤ x.2.1 ∧ x.2.1 < (x.1.length : Int)) ∧
 (x.2.1.toNat < x.1.length) ∧
 Fn P YJ Cz ((List.getD x.1 x.2.1.toNat Ai).2.2, x.2.2.2) (fun (d7 : ((List UInt8) × Bool)) (e8 : Unit) => K (d5.1, (d7.1, (0 : Int))) ()))))))))
theorem I1 {P : Pg} (h : Has P Ec) {x : DP BM.ps} {K : DP BM.rs → DP (ptrs BM.ps) → Prop} (hw : GH P x K) : Fn P zS7 BM x K :=
 Cb (c := G6) h rfl rfl (by kernel_rfl) (Eq.mpr (show B8 P Ec BM G6 x K = _ by kernel_rfl) hw)
def IK : Br :=
 (.seq (.region [o1 4 (.asg kF)]) (.seq (.seq (.region [im 6 0, o1 7 (.lenK 6), im 8 1, o1 9 (.lenK 8), o1 10 (.bin .neq 7 9)]) (.cond 10 (.seq (.region [o1 4 (.asg kF)]) .ret)
 .skip)) (.seq (.seq (.region [ia 5 (kI 0)]) (.frame (rg [4, 5] 11 15) [] false (.join [.sl 4 false .bool .leaf] (.block 0 (.loop [.sl 4 false .bool .leaf, .si 5] (.seq (.seq
 (.region [im 11 5, im 12 0, o1 13 (.lenK 12), o1 14 (.bin .lss 11 13)]) (.cond 14 .skip (.exit 0))) (.seq (.frame (rg [4] 17 9) [] false (.join [.sl 4 false .bool .leaf] (.block 1
 (.seq (.draw [(.first (im 17 0) (.first (im 18 5) (.first (o1 19 (.ixA 2 17 18)) (.first (o1 20 (.load true 2 19)) (.first (im 21 1) (.first (im 22 5) (.first (o1 23 (.ixA 2 21
 22)) (.first (o1 24 (.load true 2 23)) (.first (o1 25 (.eqA true [.str, .int] 20 24)) .done)))))))))]) (.cond 25 (.seq (.region [o1 4 (.asg kF)]) .ret) .skip))))) (.region [im 15
 5, o1 16 (.bin .add 15 (kI 1)), ia 5 16])))))))) (.seq (.region [o1 4 (.asg kT)]) .ret))))
def Gg : AFn := ⟨ YL, IK.erase, [.tmp 4], 2⟩
def Lp (P : Pg) (x : ((List ((List UInt8) × Int)) × (List ((List UInt8) × Int)))) (K : Bool → Unit → Prop) : Prop :=
 ((((x.1.length : Int) != (x.2.length : Int)) = true → K false ()) ∧ (((x.1.length : Int) != (x.2.length : Int)) = false → Aj (D := Bool) (fun J1 => A3 (D := (Bool × Int)) (false, (0 : Int)) (fun d3 J4 => (((decide (d3.2 < (x.1.length : Int))) = true → Aj (D := Bool) (fun J5 => (0 ≤ d3.2 ∧ d3.2 < (x.1.length : Int)) ∧
 (d3.2.toNat < x.1.length) ∧
 (0 ≤ d3.2 ∧ d3.2 < (x.2.length : Int)) ∧
 (d3.2.toNat < x.2.length) ∧
 (((!(((List.getD x.1 d3.2.toNat ([], (0 : Int))).1 == (List.getD x.2 d3.2.toNat ([], (0 : Int))).1) && (((List.getD x.1 d3.2.toNat ([], (0 : Int))).2 == (List.getD x.2 d3.2.toNat ([], (0 : Int))).2) && true))) = true → K false ()) ∧ ((!(((List.getD x.1 d3.2.toNat ([], (0 : Int))).1 == (List.getD x.2 d3.2.toNat ([], (0 : Int))).1) && (((List.getD x.1 d3.2.toNat ([], (0 : Int))).2 == (List.getD x.2 d3.2.toNat ([], (0 : Int))).2) && true))) = false → J5 d3.1))) (fun d6 => J4 (d6, (i64.wrap (d3.2 + (1 : Int)))))) ∧ ((decide (d3.2 < (x.1.length : Int))) = false → J1 d3.1)))) (fun d2 => K true ())))
theorem PR {P : Pg} (h : Has P Gg) {x : DP CV.ps} {K : DP CV.rs → DP (ptrs CV.ps) → Prop} (hw : Lp P x K) : Fn P YL CV x K :=
 Cb (c := IK) h rfl rfl (by kernel_rfl) (Eq.mpr (show B8 P Gg CV IK x K = _ by kernel_rfl) hw)
def HM : Br :=
 (.seq (.region [o1 0 (.asg kF)]) (.seq (.region [o1 7 (.build [(.string ⟨#[]⟩), (.string ⟨#[]⟩)] [(0, 1, (.c (.string ⟨#[120]⟩))), (1, 1, (.c (.string ⟨#[97]⟩)))]), ⟨⟨some 8,
 .buildSl 2 [(.string ⟨#[]⟩), (.string ⟨#[]⟩)] 1 [(0, 7)], none⟩, some ((.pair .str .str), .leaf), ⟨[], []⟩, true, none, false, false⟩, o1 9 (.build [(.slice none 0 0), (.int .i64
 0), (.slice none 0 0)] [(2, 1, 8)]), oT ⟨some 10, .buildSl 3 [(.slice none 0 0), (.int .i64 0), (.slice none 0 0)] 1 [(0, 9)], none⟩ (some (Bk, (.pair tM (.pair .leaf tM)))),
 ia 1 10]) (.seq (.frz [1] (.region [im 12 1, oS ⟨some 13, .call Xg [12, (kI 0)], none⟩ BC, im 11 13, o1 14 (.ext 11 0), o1 15 (.ext 11 1), ia 2
 14, ia 3 15])) (.seq (.frz [1] (.region [im 17 1, oS ⟨some 18, .call zS7 [17, (kI 0), (kI 0), (.c (.string ⟨#[120]⟩))], none⟩ BM, im 16 18, o1 19
 (.ext 16 0), o1 20 (.ext 16 1), o1 21 (.ext 16 2), ia 4 19, ia 5 20, ia 6 21])) (.seq (.region [im 22 3, o1 23 (.bin .eql 22 (kI 0)), im 24 23, gt 25 24 (.mv 6), gt 26 24 (.bin
 .eql 25 (kI 0)), o1 27 (.pick 24 26 kF), im 28 27, gt 29 28 (.mv 2), gt 30 28 (.lenK 29), gt 31 28 (.bin .eql 30 (kI 1)), o1 32 (.pick 28 31 kF), im 33 32, ⟨⟨some 34, .mv 2, some
 (33, true)⟩, none, ⟨[], []⟩, false, some 33, true, false⟩, ⟨⟨some 35, .ixA 1 34 (kI 0), some (33, true)⟩, none, ⟨[], []⟩, false, none, true, false⟩, ⟨⟨some 36, .load false 1 35,
 some (33, true)⟩, none, ⟨[], []⟩, false, none, true, false⟩, ⟨⟨some 37, .build [(.string ⟨#[]⟩), (.int .i64 0)] [(0, 1, (.c (.string ⟨#[120]⟩))), (1, 1, (kI 1))], some (33, true)⟩,
 none, ⟨[], []⟩, false, none, true, false⟩, ⟨⟨some 38, .buildSl 2 [(.string ⟨#[]⟩), (.int .i64 0)] 1 [(0, 37)], some (33, true)⟩, some ((.pair .str bI), .leaf), ⟨[], []⟩, false,
 none, true, false⟩, ⟨⟨some 39, .call YL [36, 38], some (33, true)⟩, none, CV, false, none, true, true⟩, o1 40 (.pick 33 39 kF), im 41 40, gt
 42 41 (.mv 4), o0 ⟨some 43, .bin .eql 42 (.c (.string ⟨#[]⟩)), some (41, true)⟩, o1 44 (.pick 41 43 kF), im 45 44, gt 46 45 (.mv 5), o0 ⟨some 47, .bin .eql 46 (.c (.string
 ⟨#[97]⟩)), some (45, true)⟩, o1 48 (.pick 45 47 kF), ia 0 48]) .ret)))))
def FG : AFn := ⟨ Vt, HM.erase, [.tmp 0], 0⟩
def Kn (P : Pg) (x : Unit) (K : Bool → Unit → Prop) : Prop :=
 Fn P Xg BC (([([], ((0 : Int), ([(([120] : List UInt8), ([97] : List UInt8))] : List ((List UInt8) × (List UInt8)))))] : List Commit), (0 : Int)) (fun (d1 : ((List (List ((List UInt8) × Int))) × Int)) (e2 : Unit) => Fn P zS7 BM (([([], ((0 : Int), ([(([120] : List UInt8), ([97] : List UInt8))] : List ((List UInt8) × (List UInt8)))))] : List Commit), ((0 : Int), ((0 : Int), ([120] : List UInt8)))) (fun (d3 : ((List UInt8) × ((List UInt8) × Int))) (e4 : Unit) => (((cond (cond (d1.2 == (0 : Int)) (d3.2.2 == (0 : Int)) false) ((d1.1.length : Int) == (1 : Int)) false) = true → (0 ≤ (0 : Int) ∧ (0 : Int) < (d1.1.length : Int)) ∧
 ((Int.toNat (0 : Int)) < d1.1.length) ∧
 ((Int.toNat (0 : Int)) < d1.1.length) ∧
 Fn P YL CV ((List.getD d1.1 (Int.toNat (0 : Int)) []), ([(([120] : List UInt8), (1 : Int))] : List ((List UInt8) × Int))) (fun (d5 : Bool) (e6 : Unit) => K (cond (cond (cond true d5 false) (d3.1 == ([] : List UInt8)) false) (d3.2.1 == ([97] : List UInt8)) false) ())) ∧ ((cond (cond (d1.2 == (0 : Int)) (d3.2.2 == (0 : Int)) false) ((d1.1.length : Int) == (1 : Int)) false) = false → K (cond (cond (cond false false false) (d3.1 == ([] : List UInt8)) false) (d3.2.1 == ([97] : List UInt8)) false) ()))))
theorem OB {P : Pg} (h : Has P FG) {x : DP B2.ps} {K : DP B2.rs → DP (ptrs B2.ps) → Prop} (hw : Kn P x K) : Fn P Vt B2 x K :=
 Cb (c := HM) h rfl rfl (by kernel_rfl) (Eq.mpr (show B8 P FG B2 HM x K = _ by kernel_rfl) hw)
def Acv : Br :=
 (.seq (.region [o1 6 (.asg kF)]) (.seq (.region [im 20 0, oS ⟨some 21, .call YQ [20, (kI 6), (kI 2)], none⟩ Acr, ia 7 21]) (.seq (.seq (.region
 [im 22 7, o1 23 (.lenK 22), o1 24 (.bin .eql 23 (kI 0))]) (.cond 24 (.seq (.region [oS ⟨some 25, .call Vt [], none⟩ B2, ia 6 25]) .ret)
 .skip)) (.seq (.region [im 26 1, im 27 7, o1 28 (.lenK 27), oS ⟨some 29, .call zS1 [26, 28], none⟩ Ach, ia 1 29]) (.seq (.region [im 31 7, im 32 1,
 oS ⟨some 33, .call Xg [31, 32], none⟩ BC, im 30 33, o1 34 (.ext 30 0), o1 35 (.ext 30 1), ia 8 34, ia 9 35]) (.seq (.seq (.region [im 36 9, o1
 37 (.bin .neq 36 (kI 0)), im 38 37, gf 39 38 (.mv 8), gf 40 38 (.lenK 39), gf 41 38 (.bin .eql 40 (kI 0)), o1 42 (.pick 38 kT 41)]) (.cond 42 (.seq (.region [o1 6 (.asg kF)]) .ret)
 .skip)) (.seq (.region [im 43 2, im 44 8, o1 45 (.lenK 44), oS ⟨some 46, .call zS1 [43, 45], none⟩ Ach, ia 2 46]) (.seq (.region [oT ⟨some 47,
 .buildSl 1 [(.string ⟨#[]⟩)] 4 [(0, (.c (.string ⟨#[97]⟩))), (1, (.c (.string ⟨#[98, 47, 120]⟩))), (2, (.c (.string ⟨#[98, 47, 121]⟩))), (3, (.c (.string ⟨#[99, 32, 100]⟩)))],
 none⟩ (some (.str, .leaf)), ia 10 47]) (.seq (.seq (.region [ia 11 (kI 0)]) (.frame (rg [6, 11, 12, 13, 14, 15, 16] 48 80) [] false (.join [.sl 6 false .bool .leaf] (.block 0
 (.loop [.sl 6 false .bool .leaf, .si 11] (.seq (.seq (.region [im 48 11, o1 49 (.bin .lss 48 (kI 4))]) (.cond 49 .skip (.exit 0))) (.seq (.frame (rg [6, 12, 13, 14, 15, 16] 52 76)
 [] false (.join [.sl 6 false .bool .leaf] (.block 1 (.seq (.region [im 53 7, im 54 1, im 55 2, im 56 10, im 57 11, o1 58 (.ixA 1 56 57), ld 59 58, oS ⟨some 60, .call
 zS7 [53, 54, 55, 59], none⟩ BM, im 52 60, o1 61 (.ext 52 0), o1 62 (.ext 52 1), o1 63 (.ext 52 2), ia 12 61, ia 13 62, ia 14 63]) (.seq (.seq
 (.region [im 64 14, o1 65 (.bin .neq 64 (kI 0))]) (.cond 65 (.seq (.region [o1 6 (.asg kF)]) .ret) .skip)) (.seq (.region [ia 15 (kI 0)]) (.seq (.seq (.region [ia 16 (kI 0)])
 (.frame (rg [15, 16] 66 30) [] false (.join [.si 15] (.block 2 (.loop [.si 15, .si 16] (.seq (.seq (.region [im 66 16, im 67 8, im 68 2, o1 69 (.ixA 1 67 68), ld 70 69, o1 71
 (.lenK 70), o1 72 (.bin .lss 66 71)]) (.cond 72 .skip (.exit 2))) (.seq (.frame (rg [15] 75 21) [] false (.join [.si 15] (.block 3 (.seq (.draw [(.first (im 75 8) (.first (im 76 2)
 (.first (o1 77 (.ixA 1 75 76)) (.first (ld 78 77) (.first (im 79 16) (.first (o1 80 (.ixA 2 78 79)) (.first (fa 81 0 80) (.first (ld 82 81) (.first (im 83 10) (.first (im 84 11)
 (.first (o1 85 (.ixA 1 83 84)) (.first (ld 86 85) (.first (o1 87 (.bin .eql 82 86)) .done)))))))))))))]) (.frame (rg [15] 88 8) [] false (.join [.si 15] (.cond 87 (.region [im 88
 8, im 89 2, o1 90 (.ixA 1 88 89), ld 91 90, im 92 16, o1 93 (.ixA 2 91 92), fa 94 1 93, ld 95 94, ia 15 95]) .skip))))))) (.region [im 73 16, o1 74 (.bin .add 73 (kI 1)), ia 16
 74])))))))) (.seq (.region [im 96 15, o1 97 (.bin .eql 96 (kI 0)), im 98 97, gt 99 98 (.mv 12), gt 100 98 (.mv 13), gt 101 98 (.bin .neq 99 100), o1 102 (.pick 98 101 kF), im 103
 102, gf 104 103 (.mv 15), gf 105 103 (.bin .eql 104 (kI 3)), gf 106 103 (.mv 105), gt 107 106 (.mv 12), gt 108 106 (.mv 13), gt 109 106 (.bin .eql 107 108), gf 110 103 (.pick 106
 109 kF), o1 111 (.pick 103 kT 110), im 112 111, gf 113 112 (.mv 15), gf 114 112 (.bin .eql 113 (kI 1)), gf 115 112 (.mv 114), gt 116 115 (.mv 12), o0 ⟨some 117, .bin .neq 116 (.c
 (.string ⟨#[]⟩)), some (115, true)⟩, gf 118 112 (.pick 115 117 kF), o1 119 (.pick 112 kT 118), im 120 119, gf 121 120 (.mv 15), gf 122 120 (.bin .eql 121 (kI 2)), gf 123 120 (.mv
 122), gt 124 123 (.mv 13), o0 ⟨some 125, .bin .neq 124 (.c (.string ⟨#[]⟩)), some (123, true)⟩, gf 126 120 (.pick 123 125 kF), o1 127 (.pick 120 kT 126)]) (.cond 127 (.seq (.region
 [o1 6 (.asg kF)]) .ret) .skip))))))))) (.region [im 50 11, o1 51 (.bin .add 50 (kI 1)), ia 11 51])))))))) (.seq (.region [im 129 7, im 130 1, im 131 8, o1 132 (.lenK 131), oS ⟨some
 133, .call zS7 [129, 130, 132, (.c (.string ⟨#[97]⟩))], none⟩ BM, im 128 133, o1 134 (.ext 128 0), o1 135 (.ext 128 1), o1 136 (.ext 128 2), ia 17
 134, ia 18 135, ia 19 136]) (.seq (.region [im 137 19, o1 138 (.bin .eql 137 (kI 3)), im 139 138, oS ⟨some 140, .call Vt [], some (139, true)⟩
 B2, o1 141 (.pick 139 140 kF), ia 6 141]) .ret)))))))))))
def Acq : AFn := ⟨ AeP, Acv.erase, [.tmp 6], 3⟩
abbrev Aci : List (List UInt8) := ([([97] : List UInt8), ([98, 47, 120] : List UInt8), ([98, 47, 121] : List UInt8), ([99, 32, 100] : List UInt8)] : List (List UInt8))
def Acy (P : Pg) (x : ((List Int) × (Int × Int))) (K : Bool → Unit → Prop) : Prop :=
 Fn P YQ Acr (x.1, ((6 : Int), (2 : Int))) (fun (d1 : (List Commit)) (e2 : Unit) => ((((d1.length : Int) == (0 : Int)) = true → Fn P Vt B2 () (fun (d3 : Bool) (e4 : Unit) => K d3 ())) ∧ (((d1.length : Int) == (0 : Int)) = false → Fn P zS1 Ach (x.2.1, (d1.length : Int)) (fun (d5 : Int) (e6 : Unit) => Fn P Xg BC (d1, d5) (fun (d7 : ((List (List ((List UInt8) × Int))) × Int)) (e8 : Unit) => (((cond (d7.2 != (0 : Int)) true ((d7.1.length : Int) == (0 : Int))) = true → K false ()) ∧ ((cond (d7.2 != (0 : Int)) true ((d7.1.length : Int) == (0 : Int))) = false → Fn P zS1 Ach (x.2.2, (d7.1.length : Int)) (fun (d9 : Int) (e10 : Unit) => Aj (D := Bool) (fun J11 => A3 (D := (Bool × Int)) (false, (0 : Int)) (fun d13 J14 => (((decide (d13.2 < (4 : Int))) = true → Aj (D := Bool) (fun J15 => (0 ≤ d13.2 ∧ d13.2 < ((List.length Aci : Nat) : Int)) ∧
 (d13.2.toNat < List.length Aci) ∧
 Fn P zS7 BM (d1, (d5, (d9, (List.getD Aci d13.2.toNat [])))) (fun (d17 : ((List UInt8) × ((List UInt8) × Int))) (e18 : Unit) => (((d17.2.2 != (0 : Int)) = true → K false ()) ∧ ((d17.2.2 != (0 : Int)) = false → Aj (D := Int) (fun J19 => A3 (D := (Int × Int)) ((0 : Int), (0 : Int)) (fun d21 J22 => (0 ≤ d9 ∧ d9 < (d7.1.length : Int)) ∧
 (d9.toNat < d7.1.length) ∧
 (d9.toNat < d7.1.length) ∧
 (((decide (d21.2 < ((List.length (List.getD d7.1 d9.toNat []) : Nat) : Int))) = true → Aj (D := Int) (fun J23 => (0 ≤ d9 ∧ d9 < (d7.1.length : Int)) ∧
 (d9.toNat < d7.1.length) ∧
 (d9.toNat < d7.1.length) ∧
 (0 ≤ d21.2 ∧ d21.2 < ((List.length (List.getD d7.1 d9.toNat []) : Nat) : Int)) ∧
 (d9.toNat < d7.1.length) ∧
 (d21.2.toNat < List.length (List.getD d7.1 d9.toNat [])) ∧
 (0 ≤ d13.2 ∧ d13.2 < ((List.length Aci : Nat) : Int)) ∧
 (d13.2.toNat < List.length Aci) ∧
 Aj (D := Int) (fun J25 => ((((List.getD (List.getD d7.1 d9.toNat []) d21.2.toNat ([], (0 : Int))).1 == (List.getD Aci d13.2.toNat [])) = true → (0 ≤ d9 ∧ d9 < (d7.1.length : Int)) ∧
 (d9.toNat < d7.1.length) ∧
 (d9.toNat < d7.1.length) ∧
 (0 ≤ d21.2 ∧ d21.2 < ((List.length (List.getD d7.1 d9.toNat []) : Nat) : Int)) ∧
 (d9.toNat < d7.1.length) ∧
 (d21.2.toNat < List.length (List.getD d7.1 d9.toNat [])) ∧
 J25 (List.getD (List.getD d7.1 d9.toNat []) d21.2.toNat ([], (0 : Int))).2) ∧ (((List.getD (List.getD d7.1 d9.toNat []) d21.2.toNat ([], (0 : Int))).1 == (List.getD Aci d13.2.toNat [])) = false → J25 d21.1))) (fun d26 => J23 d26)) (fun d24 => J22 (d24, (i64.wrap (d21.2 + (1 : Int)))))) ∧ ((decide (d21.2 < ((List.length (List.getD d7.1 d9.toNat []) : Nat) : Int))) = false → J19 d21.1)))) (fun d20 => (((cond (cond (cond (cond (d20 == (0 : Int)) (!(d17.1 == d17.2.1)) false) true (cond (d20 == (3 : Int)) (d17.1 == d17.2.1) false)) true (cond (d20 == (1 : Int)) (!(d17.1 == ([] : List UInt8))) false)) true (cond (d20 == (2 : Int)) (!(d17.2.1 == ([] : List UInt8))) false)) = true → K false ()) ∧ ((cond (cond (cond (cond (d20 == (0 : Int)) (!(d17.1 == d17.2.1)) false) true (cond (d20 == (3 : Int)) (d17.1 == d17.2.1) false)) true (cond (d20 == (1 : Int)) (!(d17.1 == ([] : List UInt8))) false)) true (cond (d20 == (2 : Int)) (!(d17.2.1 == ([] : List UInt8))) false)) = false → J15 d13.1))))))) (fun d16 => J14 (d16, (i64.wrap (d13.2 + (1 : Int)))))) ∧ ((decide (d13.2 < (4 : Int))) = false → J11 d13.1)))) (fun d12 => Fn P zS7 BM (d1, (d5, ((d7.1.length : Int), ([97] : List UInt8)))) (fun (d27 : ((List UInt8) × ((List UInt8) × Int))) (e28 : Unit) => Aj (D := Bool) (fun J29 => (((d27.2.2 == (3 : Int)) = true → Fn P Vt B2 () (fun (d30 : Bool) _ => J29 d30)) ∧ (((d27.2.2 == (3 : Int)) = false → J29 false) ∧ True))) (fun d31 => K (cond (d27.2.2 == (3 : Int)) d31 false) ())))))))))))
theorem AcO {P : Pg} (h : Has P Acq) {x : DP Acg.ps} {K : DP Acg.rs → DP (ptrs Acg.ps) → Prop} (hw : Acy P x K) : Fn P AeP Acg x K :=
 Cb (c := Acv) h rfl rfl (by kernel_rfl) (Eq.mpr (show B8 P Acq Acg Acv x K = _ by kernel_rfl) hw)
def JN : Br :=
 (.seq (.region [ia 4 (kI 0)]) (.seq (.seq (.region [im 6 0, oS ⟨some 7, .call zS2 [6], none⟩ BJ, ia 5 7]) (.seq (.region [im 8 5, o1 9 (.bin .neq 8 (kI
 0))]) (.cond 9 (.seq (.region [im 10 5, ia 4 10]) .ret) .skip))) (.seq (.region [im 11 1, oS ⟨some 12, .call zS2 [11], none⟩ BJ, ia 4 12]) .ret)))
def Ho : AFn := ⟨ "mergelens/tree.both", JN.erase, [.tmp 4], 2⟩
def Nc (P : Pg) (x : ((List ((List UInt8) × (List UInt8))) × (List ((List UInt8) × (List UInt8))))) (K : Int → Unit → Prop) : Prop :=
 Fn P zS2 BJ x.1 (fun (d1 : Int) (e2 : Unit) => (((d1 != (0 : Int)) = true → K d1 ()) ∧ ((d1 != (0 : Int)) = false → Fn P zS2 BJ x.2 (fun (d3 : Int) (e4 : Unit) => K d3 ()))))
theorem Rq {P : Pg} (h : Has P Ho) {x : DP Ee.ps} {K : DP Ee.rs → DP (ptrs Ee.ps) → Prop} (hw : Nc P x K) : Fn P "mergelens/tree.both" Ee x K :=
 Cb (c := JN) h rfl rfl (by kernel_rfl) (Eq.mpr (show B8 P Ho Ee JN x K = _ by kernel_rfl) hw)
end Go.VS
