/- Functions of the program: typed code, and what it says, lifted. -/
import Derived.Test.YtbpbcfiodckhjaaDoorKTxSig
import Derived.KernelRfl
set_option linter.unusedVariables false
set_option linter.unusedSimpArgs false
set_option maxRecDepth 8000
namespace Go.VS
open IntKind
def ZK : Bw :=
 (.seq (.region [o1 0 (.asg kF)]) (.seq (.region [oS ⟨some 6, .call zS9 [(.c (.string ⟨#[97, 10, 98, 10]⟩)), (.c (.string ⟨#[98, 10, 97, 10]⟩))], none⟩
 Zz, im 5 6, o1 7 (.ext 5 0), o1 8 (.ext 5 1), ia 1 7, ia 2 8]) (.seq (.region [oS ⟨some 10, .call zS9 [(.c (.string ⟨#[120]⟩)), (.c (.string
 ⟨#[120]⟩))], none⟩ Zz, im 9 10, o1 11 (.ext 9 0), o1 12 (.ext 9 1), ia 3 11, ia 4 12]) (.seq (.region [im 13 2, o1 14 (.bin .eql 13 (kI 0)), im 15 14, gt 16 15 (.mv
 4), gt 17 15 (.bin .eql 16 (kI 0)), o1 18 (.pick 15 17 kF), im 19 18, gt 20 19 (.mv 1), gt 21 19 (.bin .eql 20 (kI 99)), o1 22 (.pick 19 21 kF), im 23 22, gt 24 23 (.mv 3), gt 25
 23 (.bin .eql 24 (kI 100)), o1 26 (.pick 23 25 kF), ia 0 26]) .ret))))
def ZG : AFn := ⟨ zS3, ZK.erase, [.tmp 0], 0⟩
def ZR (P : Pg) (x : Unit) (K : Bool → Unit → Prop) : Prop :=
 Fn P zS9 Zz (([97, 10, 98, 10] : List UInt8), ([98, 10, 97, 10] : List UInt8)) (fun (d1 : (Int × Int)) (e2 : Unit) => Fn P zS9 Zz (([120] : List UInt8), ([120] : List UInt8)) (fun (d3 : (Int × Int)) (e4 : Unit) => K (cond (cond (cond (d1.2 == (0 : Int)) (d3.2 == (0 : Int)) false) (d1.1 == (99 : Int)) false) (d3.1 == (100 : Int)) false) ()))
theorem ZZ {P : Pg} (h : Has P ZG) {x : DP Zy.ps} {K : DP Zy.rs → DP (ptrs Zy.ps) → Prop} (hw : ZR P x K) : Fn P zS3 Zy x K :=
 CB (c := ZK) h rfl rfl (by kernel_rfl) (Eq.mpr (show Cu P ZG Zy ZK x K = _ by kernel_rfl) hw)
def Ei : Bw :=
 (.seq (.region [ia 2 (kI 0)]) (.seq (.seq (.region [im 5 0, o1 6 (.lenS 5), o1 7 (.bin .lss 6 (kI 1)), im 8 7, gf 9 8 (.mv 0), gf 10 8 (.lenS 9), gf 11 8 (.bin .gtr 10 (kI 200)),
 o1 12 (.pick 8 kT 11)]) (.cond 12 (.seq (.region [ia 2 (kI 210)]) .ret) .skip)) (.seq (.region [o1 3 (.asg (.c (.string ⟨#[]⟩)))]) (.seq (.seq (.region [ia 4 (kI 0)]) (.frame (rg
 [2, 3, 4] 13 43) [] false (.join [.si 2] (.block 0 (.loop [.si 2, .sl 3 false .str .leaf, .si 4] (.seq (.seq (.region [im 13 4, im 14 0, o1 15 (.lenS 14), o1 16 (.bin .leq 13 15)])
 (.cond 16 .skip (.exit 0))) (.seq (.frame (rg [2, 3] 19 37) [] false (.join [.si 2, .sl 3 false .str .leaf] (.block 1 (.seq (.seq (.region [im 19 4, im 20 0, o1 21 (.lenS 20), o1
 22 (.bin .lss 19 21), im 23 22, gt 24 23 (.mv 0), gt 25 23 (.mv 4), gt 26 23 (.ixS 24 25), gt 27 23 (.bin .eql 26 (.c (.int .u8 0))), o1 28 (.pick 23 27 kF)]) (.cond 28 (.seq
 (.region [ia 2 (kI 210)]) .ret) .skip)) (.seq (.seq (.region [im 29 4, im 30 0, o1 31 (.lenS 30), o1 32 (.bin .lss 29 31), im 33 32, gt 34 33 (.mv 0), gt 35 33 (.mv 4), gt 36 33
 (.ixS 34 35), gt 37 33 (.bin .neq 36 (.c (.int .u8 47))), o1 38 (.pick 33 37 kF)]) (.cond 38 (.seq (.region [im 39 3, im 40 0, im 41 4, im 42 4, o1 43 (.bin .add 42 (kI 1)), o1 44
 (.slS 40 (some 41) (some 43)), o1 45 (.bin .add 39 44), ia 3 45]) (.exit 1)) .skip)) (.seq (.seq (.region [im 46 3, o1 47 (.bin .eql 46 (.c (.string ⟨#[]⟩))), im 48 47, gf 49 48
 (.mv 3), o0 ⟨some 50, .bin .eql 49 (.c (.string ⟨#[46]⟩)), some (48, false)⟩, o1 51 (.pick 48 kT 50), im 52 51, gf 53 52 (.mv 3), o0 ⟨some 54, .bin .eql 53 (.c (.string ⟨#[46,
 46]⟩)), some (52, false)⟩, o1 55 (.pick 52 kT 54)]) (.cond 55 (.seq (.region [ia 2 (kI 210)]) .ret) .skip)) (.region [o1 3 (.asg (.c (.string ⟨#[]⟩)))]))))))) (.region [im 17 4, o1
 18 (.bin .add 17 (kI 1)), ia 4 18])))))))) (.seq (.region [ia 2 (kI 0)]) .ret)))))
def Dk : AFn := ⟨ RA, Ei.erase, [.tmp 2], 1⟩
def Gb (P : Pg) (x : (List UInt8)) (K : Int → Unit → Prop) : Prop :=
 (((cond (decide ((x.length : Int) < (1 : Int))) true (decide ((x.length : Int) > (200 : Int)))) = true → K (210 : Int) ()) ∧ ((cond (decide ((x.length : Int) < (1 : Int))) true (decide ((x.length : Int) > (200 : Int)))) = false → Ar (D := Int) (fun J1 => BU (D := (Int × ((List UInt8) × Int))) ((0 : Int), (([] : List UInt8), (0 : Int))) (fun d3 J4 => (((decide (d3.2.2 ≤ (x.length : Int))) = true → Ar (D := (Int × (List UInt8))) (fun J5 => (((decide (d3.2.2 < (x.length : Int))) = true → 0 ≤ d3.2.2 ∧ d3.2.2 < (x.length : Int))) ∧
 (((cond (decide (d3.2.2 < (x.length : Int))) (((x.getD d3.2.2.toNat 0).toNat : Int) == (0 : Int)) false) = true → K (210 : Int) ()) ∧ ((cond (decide (d3.2.2 < (x.length : Int))) (((x.getD d3.2.2.toNat 0).toNat : Int) == (0 : Int)) false) = false → (((decide (d3.2.2 < (x.length : Int))) = true → 0 ≤ d3.2.2 ∧ d3.2.2 < (x.length : Int))) ∧
 (((cond (decide (d3.2.2 < (x.length : Int))) (((x.getD d3.2.2.toNat 0).toNat : Int) != (47 : Int)) false) = true → (0 ≤ d3.2.2 ∧ d3.2.2 ≤ (i64.wrap (d3.2.2 + (1 : Int))) ∧ (i64.wrap (d3.2.2 + (1 : Int))) ≤ (x.length : Int)) ∧
 (d3.2.1.length + List.length (List.drop d3.2.2.toNat (List.take (Int.toNat (i64.wrap (d3.2.2 + (1 : Int)))) x)) ≤ 9223372036854775807) ∧
 J5 (d3.1, (d3.2.1 ++ (List.drop d3.2.2.toNat (List.take (Int.toNat (i64.wrap (d3.2.2 + (1 : Int)))) x))))) ∧ ((cond (decide (d3.2.2 < (x.length : Int))) (((x.getD d3.2.2.toNat 0).toNat : Int) != (47 : Int)) false) = false → (((cond (cond (d3.2.1 == ([] : List UInt8)) true (d3.2.1 == ([46] : List UInt8))) true (d3.2.1 == ([46, 46] : List UInt8))) = true → K (210 : Int) ()) ∧ ((cond (cond (d3.2.1 == ([] : List UInt8)) true (d3.2.1 == ([46] : List UInt8))) true (d3.2.1 == ([46, 46] : List UInt8))) = false → J5 (d3.1, ([] : List UInt8))))))))) (fun d6 => J4 (d6.1, (d6.2, (i64.wrap (d3.2.2 + (1 : Int))))))) ∧ ((decide (d3.2.2 ≤ (x.length : Int))) = false → J1 d3.1)))) (fun d2 => K (0 : Int) ())))
theorem I7 {P : Pg} (h : Has P Dk) {x : DP Bd.ps} {K : DP Bd.rs → DP (ptrs Bd.ps) → Prop} (hw : Gb P x K) : Fn P RA Bd x K :=
 CB (c := Ei) h rfl rfl (by kernel_rfl) (Eq.mpr (show Cu P Dk Bd Ei x K = _ by kernel_rfl) hw)
def Gw : Bw :=
 (.seq (.region [o1 4 (.asg kF)]) (.seq (.region [im 5 1, o1 6 (.lenS 5), im 7 0, o1 8 (.lenS 7), o1 9 (.bin .gtr 6 8), im 10 9, gt 11 10 (.mv 1), gt 12 10 (.mv 0), gt 13 10 (.lenS
 12), gt 14 10 (.slS 11 none (some 13)), gt 15 10 (.mv 0), gt 16 10 (.bin .eql 14 15), o1 17 (.pick 10 16 kF), im 18 17, gt 19 18 (.mv 1), gt 20 18 (.mv 0), gt 21 18 (.lenS 20), gt
 22 18 (.ixS 19 21), gt 23 18 (.bin .eql 22 (.c (.int .u8 47))), o1 24 (.pick 18 23 kF), ia 4 24]) .ret))
def EE : AFn := ⟨ RB, Gw.erase, [.tmp 4], 2⟩
def IE (P : Pg) (x : ((List UInt8) × (List UInt8))) (K : Bool → Unit → Prop) : Prop :=
 (((decide ((x.2.length : Int) > (x.1.length : Int))) = true → 0 ≤ (x.1.length : Int) ∧ (x.1.length : Int) ≤ (x.2.length : Int))) ∧
 (((cond (decide ((x.2.length : Int) > (x.1.length : Int))) ((List.take (Int.toNat (x.1.length : Int)) x.2) == x.1) false) = true → 0 ≤ (x.1.length : Int) ∧ (x.1.length : Int) < (x.2.length : Int))) ∧
 K (cond (cond (decide ((x.2.length : Int) > (x.1.length : Int))) ((List.take (Int.toNat (x.1.length : Int)) x.2) == x.1) false) (((UInt8.toNat (List.getD x.2 (Int.toNat (x.1.length : Int)) 0) : Nat) : Int) == (47 : Int)) false) ()
theorem My {P : Pg} (h : Has P EE) {x : DP Ce.ps} {K : DP Ce.rs → DP (ptrs Ce.ps) → Prop} (hw : IE P x K) : Fn P RB Ce x K :=
 CB (c := Gw) h rfl rfl (by kernel_rfl) (Eq.mpr (show Cu P EE Ce Gw x K = _ by kernel_rfl) hw)
def Gv : Bw :=
 (.seq (.region [o1 2 (.asg (.c (.slice none 0 0)))]) (.seq (.region [o1 3 (.asg (.c (.slice none 0 0)))]) (.seq (.region [ia 4 (kI 0)]) (.seq (.seq (.region [ia 5 (kI 0)]) (.frame
 (rg [] 3 30) [] false (.join [.sl 3 false (.sl .str) tO] (.block 0 (.loop [.sl 3 false (.sl .str) tO, .si 4, .si 5] (.seq (.seq (.region [im 6 5, im 7 0, o1 8 (.lenS 7), o1 9 (.bin
 .lss 6 8)]) (.cond 9 .skip (.exit 0))) (.seq (.frame (rg [3, 4] 12 21) [] false (.join [.sl 3 false (.sl .str) tO, .si 4] (.block 1 (.seq (.region [im 12 0, im 13 5, o1 14 (.ixS 12
 13), o1 15 (.bin .eql 14 (.c (.int .u8 10))), im 16 15, gf 17 16 (.mv 5), gf 18 16 (.bin .add 17 (kI 1)), gf 19 16 (.mv 0), gf 20 16 (.lenS 19), gf 21 16 (.bin .eql 18 20), o1 22
 (.pick 16 kT 21)]) (.frame (rg [3, 4] 23 10) [] false (.join [.sl 3 false (.sl .str) tO, .si 4] (.cond 22 (.seq (.region [im 23 3, im 24 0, im 25 4, im 26 5, o1 27 (.bin .add 26
 (kI 1)), o1 28 (.slS 24 (some 25) (some 27)), oT ⟨some 29, .buildSl 1 [(.string ⟨#[]⟩)] 1 [(0, 28)], none⟩ (some (.str, .leaf)), oT ⟨some 30, .app 1 16 23 29, none⟩ (some (.str,
 .leaf)), ia 3 30]) (.region [im 31 5, o1 32 (.bin .add 31 (kI 1)), ia 4 32])) .skip))))))) (.region [im 10 5, o1 11 (.bin .add 10 (kI 1)), ia 5 11])))))))) (.seq (.region [im 33 3,
 ia 2 33]) .ret)))))
def ED : AFn := ⟨ V0, Gv.erase, [.tmp 2], 1⟩
def ID (P : Pg) (x : (List UInt8)) (K : (List (List UInt8)) → Unit → Prop) : Prop :=
 Ar (D := (List (List UInt8))) (fun J1 => BU (D := ((List (List UInt8)) × (Int × Int))) ([], ((0 : Int), (0 : Int))) (fun d3 J4 => (((decide (d3.2.2 < (x.length : Int))) = true → Ar (D := ((List (List UInt8)) × Int)) (fun J5 => (0 ≤ d3.2.2 ∧ d3.2.2 < (x.length : Int)) ∧
 Ar (D := ((List (List UInt8)) × Int)) (fun J7 => (((cond (((x.getD d3.2.2.toNat 0).toNat : Int) == (10 : Int)) true ((i64.wrap (d3.2.2 + (1 : Int))) == (x.length : Int))) = true → (0 ≤ d3.2.1 ∧ d3.2.1 ≤ (i64.wrap (d3.2.2 + (1 : Int))) ∧ (i64.wrap (d3.2.2 + (1 : Int))) ≤ (x.length : Int)) ∧
 ((d3.1.length + List.length ([(List.drop d3.2.1.toNat (List.take (Int.toNat (i64.wrap (d3.2.2 + (1 : Int)))) x))] : List (List UInt8))) * 16 ≤ 140737488355328) ∧
 J7 ((d3.1 ++ ([(List.drop d3.2.1.toNat (List.take (Int.toNat (i64.wrap (d3.2.2 + (1 : Int)))) x))] : List (List UInt8))), (i64.wrap (d3.2.2 + (1 : Int))))) ∧ ((cond (((x.getD d3.2.2.toNat 0).toNat : Int) == (10 : Int)) true ((i64.wrap (d3.2.2 + (1 : Int))) == (x.length : Int))) = false → J7 (d3.1, d3.2.1)))) (fun d8 => J5 d8)) (fun d6 => J4 (d6.1, (d6.2, (i64.wrap (d3.2.2 + (1 : Int))))))) ∧ ((decide (d3.2.2 < (x.length : Int))) = false → J1 d3.1)))) (fun d2 => K d2 ())
theorem Mx {P : Pg} (h : Has P ED) {x : DP Cd.ps} {K : DP Cd.rs → DP (ptrs Cd.ps) → Prop} (hw : ID P x K) : Fn P V0 Cd x K :=
 CB (c := Gv) h rfl rfl (by kernel_rfl) (Eq.mpr (show Cu P ED Cd Gv x K = _ by kernel_rfl) hw)
def Gu : Bw :=
 (.seq (.region [ia 2 (kI 0)]) (.seq (.seq (.region [im 3 0, o1 4 (.lenS 3), o1 5 (.bin .gtr 4 (kI 1048576)), im 6 5, ⟨⟨some 7, .mv 0, some (6, false)⟩, none, ⟨[], []⟩, false, some
 6, true, false⟩, ⟨⟨some 8, .call V0 [7], some (6, false)⟩, none, Cd, false, none, true, false⟩, ⟨⟨some 9, .lenK 8, some (6, false)⟩, none,
 ⟨[], []⟩, false, none, true, false⟩, ⟨⟨some 10, .bin .gtr 9 (kI 4096), some (6, false)⟩, none, ⟨[], []⟩, false, none, true, true⟩, o1 11 (.pick 6 kT 10)]) (.cond 11 (.seq (.region
 [ia 2 (kI 1)]) .ret) .skip)) (.seq (.region [ia 2 (kI 0)]) .ret)))
def EC : AFn := ⟨ V1, Gu.erase, [.tmp 2], 1⟩
def IC (P : Pg) (x : (List UInt8)) (K : Int → Unit → Prop) : Prop :=
 (((decide ((x.length : Int) > (1048576 : Int))) = true → (((cond true true false) = true → K (1 : Int) ()) ∧ ((cond true true false) = false → K (0 : Int) ()))) ∧ ((decide ((x.length : Int) > (1048576 : Int))) = false → Fn P V0 Cd x (fun (d1 : (List (List UInt8))) (e2 : Unit) => (((cond false true (decide ((d1.length : Int) > (4096 : Int)))) = true → K (1 : Int) ()) ∧ ((cond false true (decide ((d1.length : Int) > (4096 : Int)))) = false → K (0 : Int) ())))))
theorem Mw {P : Pg} (h : Has P EC) {x : DP Cc.ps} {K : DP Cc.rs → DP (ptrs Cc.ps) → Prop} (hw : IC P x K) : Fn P V1 Cc x K :=
 CB (c := Gu) h rfl rfl (by kernel_rfl) (Eq.mpr (show Cu P EC Cc Gu x K = _ by kernel_rfl) hw)
def Gx : Bw :=
 (.seq (.region [ia 2 (kI 0)]) (.seq (.seq (.region [im 7 0, o1 8 (.lenK 7), o1 9 (.bin .gtr 8 (kI 200))]) (.cond 9 (.seq (.region [ia 2 (kI 1)]) .ret) .skip)) (.seq (.seq (.region
 [ia 3 (kI 0)]) (.frame (rg [2, 3] 10 13) [] false (.join [.si 2] (.block 0 (.loop [.si 2, .si 3] (.seq (.seq (.region [im 10 3, im 11 0, o1 12 (.lenK 11), o1 13 (.bin .lss 10 12)])
 (.cond 13 .skip (.exit 0))) (.seq (.frame (rg [2] 16 7) [] false (.join [.si 2] (.block 1 (.seq (.region [im 16 0, im 17 3, o1 18 (.ixA 2 16 17), fa 19 0 18, ld 20 19, oS ⟨some 21,
 .call RA [20], none⟩ Bd, o1 22 (.bin .neq 21 (kI 0))]) (.cond 22 (.seq (.region [ia 2 (kI 210)]) .ret) .skip))))) (.region [im 14
 3, o1 15 (.bin .add 14 (kI 1)), ia 3 15])))))))) (.seq (.seq (.region [ia 4 (kI 0)]) (.frame (rg [2, 4, 5] 23 35) [] false (.join [.si 2] (.block 2 (.loop [.si 2, .si 4] (.seq
 (.seq (.region [im 23 4, im 24 0, o1 25 (.lenK 24), o1 26 (.bin .lss 23 25)]) (.cond 26 .skip (.exit 2))) (.seq (.frame (rg [2, 5] 29 29) [] false (.join [.si 2] (.block 3 (.seq
 (.region [ia 5 (kI 0)]) (.frame (rg [2, 5] 29 29) [] false (.join [.si 2] (.block 4 (.loop [.si 2, .si 5] (.seq (.seq (.region [im 29 5, im 30 4, o1 31 (.bin .lss 29 30)]) (.cond
 31 .skip (.exit 4))) (.seq (.frame (rg [2] 34 24) [] false (.join [.si 2] (.block 5 (.seq (.frame (rg [] 34 24) [] false (.join [.sl 57 false .bool .leaf] (.draw [(.first (im 34 0)
 (.first (im 35 5) (.first (o1 36 (.ixA 2 34 35)) (.first (fa 37 0 36) (.first (ld 38 37) (.first (im 39 0) (.first (im 40 4) (.first (o1 41 (.ixA 2 39 40)) (.first (fa 42 0 41)
 (.first (ld 43 42) (.first (o1 44 (.bin .geq 38 43)) (.first (im 45 44) (.first (gf 46 45 (.mv 0)) (.first (gf 47 45 (.mv 5)) (.first (gf 48 45 (.ixA 2 46 47)) (.first (gf 49 45
 (.fAddr 0 48)) (.first (gf 50 45 (.load false 1 49)) (.first (gf 51 45 (.mv 0)) (.first (gf 52 45 (.mv 4)) (.first (gf 53 45 (.ixA 2 51 52)) (.first (gf 54 45 (.fAddr 0 53))
 (.first (gf 55 45 (.load false 1 54)) (.alt (oS ⟨some 56, .call RB [50, 55], some (45, false)⟩ Ce) (.first (o1 57 (.pick 45 kT 56)) .done)
 .stop)))))))))))))))))))))))]))) (.cond 57 (.seq (.region [ia 2 (kI 211)]) .ret) .skip))))) (.region [im 32 5, o1 33 (.bin .add 32 (kI 1)), ia 5 33]))))))))))) (.region [im 27 4,
 o1 28 (.bin .add 27 (kI 1)), ia 4 28])))))))) (.seq (.seq (.region [ia 6 (kI 0)]) (.frame (rg [2, 6] 58 13) [] false (.join [.si 2] (.block 6 (.loop [.si 2, .si 6] (.seq (.seq
 (.region [im 58 6, im 59 0, o1 60 (.lenK 59), o1 61 (.bin .lss 58 60)]) (.cond 61 .skip (.exit 6))) (.seq (.frame (rg [2] 64 7) [] false (.join [.si 2] (.block 7 (.seq (.region [im
 64 0, im 65 6, o1 66 (.ixA 2 64 65), fa 67 1 66, ld 68 67, oS ⟨some 69, .call V1 [68], none⟩ Cc, o1 70 (.bin .neq 69 (kI 0))]) (.cond 70
 (.seq (.region [ia 2 (kI 1)]) .ret) .skip))))) (.region [im 62 6, o1 63 (.bin .add 62 (kI 1)), ia 6 63])))))))) (.seq (.region [ia 2 (kI 0)]) .ret))))))
def EF : AFn := ⟨ zS0, Gx.erase, [.tmp 2], 1⟩
def IG (P : Pg) (x : (List ((List UInt8) × (List UInt8)))) (K : Int → Unit → Prop) : Prop :=
 (((decide ((x.length : Int) > (200 : Int))) = true → K (1 : Int) ()) ∧ ((decide ((x.length : Int) > (200 : Int))) = false → Ar (D := Int) (fun J1 => BU (D := (Int × Int)) ((0 : Int), (0 : Int)) (fun d3 J4 => (((decide (d3.2 < (x.length : Int))) = true → Ar (D := Int) (fun J5 => (0 ≤ d3.2 ∧ d3.2 < (x.length : Int)) ∧
 (d3.2.toNat < x.length) ∧
 Fn P RA Bd (List.getD x d3.2.toNat ([], [])).1 (fun (d7 : Int) (e8 : Unit) => (((d7 != (0 : Int)) = true → K (210 : Int) ()) ∧ ((d7 != (0 : Int)) = false → J5 d3.1)))) (fun d6 => J4 (d6, (i64.wrap (d3.2 + (1 : Int)))))) ∧ ((decide (d3.2 < (x.length : Int))) = false → J1 d3.1)))) (fun d2 => Ar (D := Int) (fun J9 => BU (D := (Int × Int)) (d2, (0 : Int)) (fun d11 J12 => (((decide (d11.2 < (x.length : Int))) = true → Ar (D := Int) (fun J13 => Ar (D := Int) (fun J15 => BU (D := (Int × Int)) (d11.1, (0 : Int)) (fun d17 J18 => (((decide (d17.2 < d11.2)) = true → Ar (D := Int) (fun J19 => Ar (D := Bool) (fun J21 => (0 ≤ d17.2 ∧ d17.2 < (x.length : Int)) ∧
 (d17.2.toNat < x.length) ∧
 (0 ≤ d11.2 ∧ d11.2 < (x.length : Int)) ∧
 (d11.2.toNat < x.length) ∧
 (((!(Op.bytesLess (List.getD x d17.2.toNat ([], [])).1 (List.getD x d11.2.toNat ([], [])).1)) = false → 0 ≤ d17.2 ∧ d17.2 < (x.length : Int))) ∧
 (((!(Op.bytesLess (List.getD x d17.2.toNat ([], [])).1 (List.getD x d11.2.toNat ([], [])).1)) = false → d17.2.toNat < x.length)) ∧
 (((!(Op.bytesLess (List.getD x d17.2.toNat ([], [])).1 (List.getD x d11.2.toNat ([], [])).1)) = false → 0 ≤ d11.2 ∧ d11.2 < (x.length : Int))) ∧
 (((!(Op.bytesLess (List.getD x d17.2.toNat ([], [])).1 (List.getD x d11.2.toNat ([], [])).1)) = false → d11.2.toNat < x.length)) ∧
 (Ar (D := Bool) (fun J23 => (((!(Op.bytesLess (List.getD x d17.2.toNat ([], [])).1 (List.getD x d11.2.toNat ([], [])).1)) = false → Fn P RB Ce ((List.getD x d17.2.toNat ([], [])).1, (List.getD x d11.2.toNat ([], [])).1) (fun (d24 : Bool) _ => J23 d24)) ∧ (((!(Op.bytesLess (List.getD x d17.2.toNat ([], [])).1 (List.getD x d11.2.toNat ([], [])).1)) = true → J23 false) ∧ True))) (fun d25 => J21 (cond (!(Op.bytesLess (List.getD x d17.2.toNat ([], [])).1 (List.getD x d11.2.toNat ([], [])).1)) true d25))) ∧ True) (fun d22 => ((d22 = true → K (211 : Int) ()) ∧ (d22 = false → J19 d17.1)))) (fun d20 => J18 (d20, (i64.wrap (d17.2 + (1 : Int)))))) ∧ ((decide (d17.2 < d11.2)) = false → J15 d17.1)))) (fun d16 => J13 d16)) (fun d14 => J12 (d14, (i64.wrap (d11.2 + (1 : Int)))))) ∧ ((decide (d11.2 < (x.length : Int))) = false → J9 d11.1)))) (fun d10 => Ar (D := Int) (fun J26 => BU (D := (Int × Int)) (d10, (0 : Int)) (fun d28 J29 => (((decide (d28.2 < (x.length : Int))) = true → Ar (D := Int) (fun J30 => (0 ≤ d28.2 ∧ d28.2 < (x.length : Int)) ∧
 (d28.2.toNat < x.length) ∧
 Fn P V1 Cc (List.getD x d28.2.toNat ([], [])).2 (fun (d32 : Int) (e33 : Unit) => (((d32 != (0 : Int)) = true → K (1 : Int) ()) ∧ ((d32 != (0 : Int)) = false → J30 d28.1)))) (fun d31 => J29 (d31, (i64.wrap (d28.2 + (1 : Int)))))) ∧ ((decide (d28.2 < (x.length : Int))) = false → J26 d28.1)))) (fun d27 => K (0 : Int) ())))))
theorem Mz {P : Pg} (h : Has P EF) {x : DP Bq.ps} {K : DP Bq.rs → DP (ptrs Bq.ps) → Prop} (hw : IG P x K) : Fn P zS0 Bq x K :=
 CB (c := Gx) h rfl rfl (by kernel_rfl) (Eq.mpr (show Cu P EF Bq Gx x K = _ by kernel_rfl) hw)
def Hd : Bw :=
 (.seq (.region [o1 4 (.asg (.c (.string ⟨#[]⟩))), o1 5 (.asg kF)]) (.seq (.seq (.region [ia 6 (kI 0)]) (.frame (rg [] 4 21) [] false (.join [.sl 4 false .str .leaf, .sl 5 false
 .bool .leaf] (.block 0 (.loop [.sl 4 false .str .leaf, .sl 5 false .bool .leaf, .si 6] (.seq (.seq (.region [im 7 6, im 8 0, o1 9 (.lenK 8), o1 10 (.bin .lss 7 9)]) (.cond 10 .skip
 (.exit 0))) (.seq (.frame (rg [4, 5] 13 12) [] false (.join [.sl 4 false .str .leaf, .sl 5 false .bool .leaf] (.block 1 (.seq (.region [im 13 0, im 14 6, o1 15 (.ixA 2 13 14), fa
 16 0 15, ld 17 16, im 18 1, o1 19 (.bin .eql 17 18)]) (.cond 19 (.seq (.region [im 20 0, im 21 6, o1 22 (.ixA 2 20 21), fa 23 1 22, ld 24 23, ia 4 24, o1 5 (.asg kT)]) .ret)
 .skip))))) (.region [im 11 6, o1 12 (.bin .add 11 (kI 1)), ia 6 12])))))))) (.seq (.region [o1 4 (.asg (.c (.string ⟨#[]⟩))), o1 5 (.asg kF)]) .ret)))
def E5 : AFn := ⟨ zS4, Hd.erase, [.tmp 4, .tmp 5], 2⟩
def Ju (P : Pg) (x : ((List ((List UInt8) × (List UInt8))) × (List UInt8))) (K : ((List UInt8) × Bool) → Unit → Prop) : Prop :=
 Ar (D := ((List UInt8) × Bool)) (fun J1 => BU (D := ((List UInt8) × (Bool × Int))) (([] : List UInt8), (false, (0 : Int))) (fun d3 J4 => (((decide (d3.2.2 < (x.1.length : Int))) = true → Ar (D := ((List UInt8) × Bool)) (fun J5 => (0 ≤ d3.2.2 ∧ d3.2.2 < (x.1.length : Int)) ∧
 (d3.2.2.toNat < x.1.length) ∧
 ((((List.getD x.1 d3.2.2.toNat ([], [])).1 == x.2) = true → (0 ≤ d3.2.2 ∧ d3.2.2 < (x.1.length : Int)) ∧
 (d3.2.2.toNat < x.1.length) ∧
 K ((List.getD x.1 d3.2.2.toNat ([], [])).2, true) ()) ∧ (((List.getD x.1 d3.2.2.toNat ([], [])).1 == x.2) = false → J5 (d3.1, d3.2.1)))) (fun d6 => J4 (d6.1, (d6.2, (i64.wrap (d3.2.2 + (1 : Int))))))) ∧ ((decide (d3.2.2 < (x.1.length : Int))) = false → J1 (d3.1, d3.2.1))))) (fun d2 => K (([] : List UInt8), false) ())
theorem NJ {P : Pg} (h : Has P E5) {x : DP BE.ps} {K : DP BE.rs → DP (ptrs BE.ps) → Prop} (hw : Ju P x K) : Fn P zS4 BE x K :=
 CB (c := Hd) h rfl rfl (by kernel_rfl) (Eq.mpr (show Cu P E5 BE Hd x K = _ by kernel_rfl) hw)
def Gy : Bw :=
 (.seq (.region [o1 4 (.asg (.c (.slice none 0 0)))]) (.seq (.region [o1 5 (.asg (.c (.slice none 0 0)))]) (.seq (.region [ia 6 (kI 0), ia 7 (kI 0)]) (.seq (.frame (rg [] 5 87) []
 false (.join [.sl 5 false (.sl .str) tO] (.block 0 (.loop [.sl 5 false (.sl .str) tO, .si 6, .si 7] (.seq (.seq (.region [im 8 6, im 9 0, o1 10 (.lenK 9), o1 11 (.bin .lss 8 10),
 im 12 11, gf 13 12 (.mv 7), gf 14 12 (.mv 1), gf 15 12 (.lenK 14), gf 16 12 (.bin .lss 13 15), o1 17 (.pick 12 kT 16)]) (.cond 17 .skip (.exit 0))) (.frame (rg [5, 6, 7] 18 74) []
 false (.join [.sl 5 false (.sl .str) tO, .si 6, .si 7] (.block 1 (.frame (rg [5, 6, 7] 18 74) [] false (.join [.sl 5 false (.sl .str) tO, .si 6, .si 7] (.block 2 (.seq (.frame (rg
 [] 30 24) [] false (.join [.sl 30 false .bool .leaf] (.draw [(.first (im 31 7) (.first (im 32 1) (.first (o1 33 (.lenK 32)) (.first (o1 34 (.bin .eql 31 33)) (.first (im 35 34)
 (.first (gf 36 35 (.mv 6)) (.first (gf 37 35 (.mv 0)) (.first (gf 38 35 (.lenK 37)) (.first (gf 39 35 (.bin .lss 36 38)) (.first (gf 40 35 (.mv 39)) (.first (gt 41 40 (.mv 0))
 (.first (gt 42 40 (.mv 6)) (.first (gt 43 40 (.ixA 2 41 42)) (.first (gt 44 40 (.fAddr 0 43)) (.first (gt 45 40 (.load false 1 44)) (.first (gt 46 40 (.mv 1)) (.first (gt 47 40
 (.mv 7)) (.first (gt 48 40 (.ixA 2 46 47)) (.first (gt 49 40 (.fAddr 0 48)) (.first (gt 50 40 (.load false 1 49)) (.first (gt 51 40 (.bin .lss 45 50)) (.first (gf 52 35 (.pick 40
 51 kF)) (.first (o1 53 (.pick 35 kT 52)) (.alt (ia 30 53) .done .stop))))))))))))))))))))))))]))) (.frame (rg [5, 6, 7, 18, 19, 20, 21, 22, 23, 24, 25, 26, 27, 28, 29] 54 38) []
 false (.join [.sl 5 false (.sl .str) tO, .si 6, .si 7] (.cond 30 (.seq (.region [im 54 5, im 55 0, im 56 6, o1 57 (.ixA 2 55 56), fa 58 0 57, ld 59 58, oT ⟨some 60, .buildSl 1
 [(.string ⟨#[]⟩)] 1 [(0, 59)], none⟩ (some (.str, .leaf)), oT ⟨some 61, .app 1 16 54 60, none⟩ (some (.str, .leaf)), ia 5 61]) (.region [im 62 6, o1 63 (.bin .add 62 (kI 1)), ia 6
 63])) (.seq (.frame (rg [] 64 18) [] false (.join [.sl 64 false .bool .leaf] (.draw [(.first (im 65 6) (.first (im 66 0) (.first (o1 67 (.lenK 66)) (.first (o1 68 (.bin .eql 65
 67)) (.first (im 69 68) (.first (gf 70 69 (.mv 1)) (.first (gf 71 69 (.mv 7)) (.first (gf 72 69 (.ixA 2 70 71)) (.first (gf 73 69 (.fAddr 0 72)) (.first (gf 74 69 (.load false 1
 73)) (.first (gf 75 69 (.mv 0)) (.first (gf 76 69 (.mv 6)) (.first (gf 77 69 (.ixA 2 75 76)) (.first (gf 78 69 (.fAddr 0 77)) (.first (gf 79 69 (.load false 1 78)) (.first (gf 80
 69 (.bin .lss 74 79)) (.first (o1 81 (.pick 69 kT 80)) (.alt (ia 64 81) .done .stop))))))))))))))))))]))) (.frame (rg [5, 6, 7, 18, 19, 20, 21, 22, 23, 24, 25, 26, 27, 28, 29] 82
 10) [] false (.join [.sl 5 false (.sl .str) tO, .si 6, .si 7] (.cond 64 (.seq (.region [im 82 5, im 83 1, im 84 7, o1 85 (.ixA 2 83 84), fa 86 0 85, ld 87 86, oT ⟨some 88, .buildSl
 1 [(.string ⟨#[]⟩)] 1 [(0, 87)], none⟩ (some (.str, .leaf)), oT ⟨some 89, .app 1 16 82 88, none⟩ (some (.str, .leaf)), ia 5 89]) (.region [im 90 7, o1 91 (.bin .add 90 (kI 1)), ia
 7 91])) (.seq (.region [im 18 5, im 19 0, im 20 6, o1 21 (.ixA 2 19 20), fa 22 0 21, ld 23 22, oT ⟨some 24, .buildSl 1 [(.string ⟨#[]⟩)] 1 [(0, 23)], none⟩ (some (.str, .leaf)), oT
 ⟨some 25, .app 1 16 18 24, none⟩ (some (.str, .leaf)), ia 5 25]) (.region [im 26 6, o1 27 (.bin .add 26 (kI 1)), im 28 7, o1 29 (.bin .add 28 (kI 1)), ia 6 27, ia 7
 29]))))))))))))))))))))) (.seq (.region [im 92 5, ia 4 92]) .ret)))))
def EG : AFn := ⟨ SZ, Gy.erase, [.tmp 4], 2⟩
def IH (P : Pg) (x : ((List ((List UInt8) × (List UInt8))) × (List ((List UInt8) × (List UInt8))))) (K : (List (List UInt8)) → Unit → Prop) : Prop :=
 Ar (D := (List (List UInt8))) (fun J1 => BU (D := ((List (List UInt8)) × (Int × Int))) ([], ((0 : Int), (0 : Int))) (fun d3 J4 => (((cond (decide (d3.2.1 < (x.1.length : Int))) true (decide (d3.2.2 < (x.2.length : Int)))) = true → Ar (D := ((List (List UInt8)) × (Int × Int))) (fun J5 => Ar (D := ((List (List UInt8)) × (Int × Int))) (fun J7 => Ar (D := Bool) (fun J9 => (((decide (d3.2.1 < (x.1.length : Int))) = true → ((d3.2.2 == (x.2.length : Int)) = false → 0 ≤ d3.2.1 ∧ d3.2.1 < (x.1.length : Int)))) ∧
 (((decide (d3.2.1 < (x.1.length : Int))) = true → ((d3.2.2 == (x.2.length : Int)) = false → d3.2.1.toNat < x.1.length))) ∧
 (((decide (d3.2.1 < (x.1.length : Int))) = true → ((d3.2.2 == (x.2.length : Int)) = false → 0 ≤ d3.2.2 ∧ d3.2.2 < (x.2.length : Int)))) ∧
 (((decide (d3.2.1 < (x.1.length : Int))) = true → ((d3.2.2 == (x.2.length : Int)) = false → d3.2.2.toNat < x.2.length))) ∧
 (J9 (cond (d3.2.2 == (x.2.length : Int)) true (cond (decide (d3.2.1 < (x.1.length : Int))) (Op.bytesLess (List.getD x.1 d3.2.1.toNat ([], [])).1 (List.getD x.2 d3.2.2.toNat ([], [])).1) false))) ∧ True) (fun d10 => Ar (D := ((List (List UInt8)) × (Int × Int))) (fun J11 => ((d10 = true → (0 ≤ d3.2.1 ∧ d3.2.1 < (x.1.length : Int)) ∧
 (d3.2.1.toNat < x.1.length) ∧
 ((d3.1.length + List.length ([(List.getD x.1 d3.2.1.toNat ([], [])).1] : List (List UInt8))) * 16 ≤ 140737488355328) ∧
 J11 ((d3.1 ++ ([(List.getD x.1 d3.2.1.toNat ([], [])).1] : List (List UInt8))), ((i64.wrap (d3.2.1 + (1 : Int))), d3.2.2))) ∧ (d10 = false → Ar (D := Bool) (fun J13 => (((d3.2.1 == (x.1.length : Int)) = false → 0 ≤ d3.2.2 ∧ d3.2.2 < (x.2.length : Int))) ∧
 (((d3.2.1 == (x.1.length : Int)) = false → d3.2.2.toNat < x.2.length)) ∧
 (((d3.2.1 == (x.1.length : Int)) = false → 0 ≤ d3.2.1 ∧ d3.2.1 < (x.1.length : Int))) ∧
 (((d3.2.1 == (x.1.length : Int)) = false → d3.2.1.toNat < x.1.length)) ∧
 (J13 (cond (d3.2.1 == (x.1.length : Int)) true (Op.bytesLess (List.getD x.2 d3.2.2.toNat ([], [])).1 (List.getD x.1 d3.2.1.toNat ([], [])).1))) ∧ True) (fun d14 => Ar (D := ((List (List UInt8)) × (Int × Int))) (fun J15 => ((d14 = true → (0 ≤ d3.2.2 ∧ d3.2.2 < (x.2.length : Int)) ∧
 (d3.2.2.toNat < x.2.length) ∧
 ((d3.1.length + List.length ([(List.getD x.2 d3.2.2.toNat ([], [])).1] : List (List UInt8))) * 16 ≤ 140737488355328) ∧
 J15 ((d3.1 ++ ([(List.getD x.2 d3.2.2.toNat ([], [])).1] : List (List UInt8))), (d3.2.1, (i64.wrap (d3.2.2 + (1 : Int)))))) ∧ (d14 = false → (0 ≤ d3.2.1 ∧ d3.2.1 < (x.1.length : Int)) ∧
 (d3.2.1.toNat < x.1.length) ∧
 ((d3.1.length + List.length ([(List.getD x.1 d3.2.1.toNat ([], [])).1] : List (List UInt8))) * 16 ≤ 140737488355328) ∧
 J15 ((d3.1 ++ ([(List.getD x.1 d3.2.1.toNat ([], [])).1] : List (List UInt8))), ((i64.wrap (d3.2.1 + (1 : Int))), (i64.wrap (d3.2.2 + (1 : Int)))))))) (fun d16 => J11 d16))))) (fun d12 => J7 d12))) (fun d8 => J5 d8)) (fun d6 => J4 d6)) ∧ ((cond (decide (d3.2.1 < (x.1.length : Int))) true (decide (d3.2.2 < (x.2.length : Int)))) = false → J1 d3.1)))) (fun d2 => K d2 ())
theorem MA {P : Pg} (h : Has P EG) {x : DP Cf.ps} {K : DP Cf.rs → DP (ptrs Cf.ps) → Prop} (hw : IH P x K) : Fn P SZ Cf x K :=
 CB (c := Gy) h rfl rfl (by kernel_rfl) (Eq.mpr (show Cu P EG Cf Gy x K = _ by kernel_rfl) hw)
def FP : Bw :=
 (.seq (.region [o1 4 (.asg (.c (.slice none 0 0)))]) (.seq (.region [o1 5 (.asg (.c (.slice none 0 0)))]) (.seq (.region [im 12 0, im 13 1, oS ⟨some 14, .call
 SZ [12, 13], none⟩ Cf, ia 6 14]) (.seq (.seq (.region [ia 7 (kI 0)]) (.frame (rg [5, 7, 8, 9, 10, 11] 15 58) [] false (.join [.sl 5 false
 (.sl (.pair .str bI)) tO] (.block 0 (.loop [.sl 5 false (.sl (.pair .str bI)) tO, .si 7] (.seq (.seq (.region [im 15 7, im 16 6, o1 17 (.lenK 16), o1 18 (.bin .lss 15 17)]) (.cond
 18 .skip (.exit 0))) (.seq (.frame (rg [5, 8, 9, 10, 11] 21 52) [] false (.join [.sl 5 false (.sl (.pair .str bI)) tO] (.block 1 (.seq (.region [im 22 0, im 23 6, im 24 7, o1 25
 (.ixA 1 23 24), ld 26 25, oS ⟨some 27, .call zS4 [22, 26], none⟩ BE, im 21 27, o1 28 (.ext 21 0), o1 29 (.ext 21 1), ia 8 28, ia 9 29]) (.seq
 (.region [im 31 1, im 32 6, im 33 7, o1 34 (.ixA 1 32 33), ld 35 34, oS ⟨some 36, .call zS4 [31, 35], none⟩ BE, im 30 36, o1 37 (.ext 30 0),
 o1 38 (.ext 30 1), ia 10 37, ia 11 38]) (.frame (rg [5] 39 34) [] false (.join [.sl 5 false (.sl (.pair .str bI)) tO] (.block 2 (.seq (.region [im 40 9, o1 41 (.un .not 40), ia 39
 41]) (.frame (rg [5] 42 31) [] false (.join [.sl 5 false (.sl (.pair .str bI)) tO] (.cond 39 (.region [im 42 5, im 43 6, im 44 7, o1 45 (.ixA 1 43 44), ld 46 45, o1 47 (.build
 [(.string ⟨#[]⟩), (.int .i64 0)] [(0, 1, 46), (1, 1, (kI 1))]), oT ⟨some 48, .buildSl 2 [(.string ⟨#[]⟩), (.int .i64 0)] 1 [(0, 47)], none⟩ (some ((.pair .str bI), .leaf)), oT
 ⟨some 49, .app 2 24 42 48, none⟩ (some ((.pair .str bI), .leaf)), ia 5 49]) (.seq (.region [im 51 11, o1 52 (.un .not 51), ia 50 52]) (.frame (rg [5] 53 20) [] false (.join [.sl 5
 false (.sl (.pair .str bI)) tO] (.cond 50 (.region [im 53 5, im 54 6, im 55 7, o1 56 (.ixA 1 54 55), ld 57 56, o1 58 (.build [(.string ⟨#[]⟩), (.int .i64 0)] [(0, 1, 57), (1, 1,
 (kI 2))]), oT ⟨some 59, .buildSl 2 [(.string ⟨#[]⟩), (.int .i64 0)] 1 [(0, 58)], none⟩ (some ((.pair .str bI), .leaf)), oT ⟨some 60, .app 2 24 53 59, none⟩ (some ((.pair .str bI),
 .leaf)), ia 5 60]) (.seq (.region [im 62 8, im 63 10, o1 64 (.bin .neq 62 63), ia 61 64]) (.frame (rg [5] 65 8) [] false (.join [.sl 5 false (.sl (.pair .str bI)) tO] (.cond 61
 (.region [im 65 5, im 66 6, im 67 7, o1 68 (.ixA 1 66 67), ld 69 68, o1 70 (.build [(.string ⟨#[]⟩), (.int .i64 0)] [(0, 1, 69), (1, 1, (kI 3))]), oT ⟨some 71, .buildSl 2 [(.string
 ⟨#[]⟩), (.int .i64 0)] 1 [(0, 70)], none⟩ (some ((.pair .str bI), .leaf)), oT ⟨some 72, .app 2 24 65 71, none⟩ (some ((.pair .str bI), .leaf)), ia 5 72]) .skip))))))))))))))))))))
 (.region [im 19 7, o1 20 (.bin .add 19 (kI 1)), ia 7 20])))))))) (.seq (.region [im 73 5, ia 4 73]) .ret)))))
def DY : AFn := ⟨ S0, FP.erase, [.tmp 4], 2⟩
def Hv (P : Pg) (x : ((List ((List UInt8) × (List UInt8))) × (List ((List UInt8) × (List UInt8))))) (K : (List ((List UInt8) × Int)) → Unit → Prop) : Prop :=
 Fn P SZ Cf x (fun (d1 : (List (List UInt8))) (e2 : Unit) => Ar (D := (List ((List UInt8) × Int))) (fun J3 => BU (D := ((List ((List UInt8) × Int)) × Int)) ([], (0 : Int)) (fun d5 J6 => (((decide (d5.2 < (d1.length : Int))) = true → Ar (D := (List ((List UInt8) × Int))) (fun J7 => (0 ≤ d5.2 ∧ d5.2 < (d1.length : Int)) ∧
 (d5.2.toNat < d1.length) ∧
 Fn P zS4 BE (x.1, (List.getD d1 d5.2.toNat [])) (fun (d9 : ((List UInt8) × Bool)) (e10 : Unit) => (0 ≤ d5.2 ∧ d5.2 < (d1.length : Int)) ∧
 (d5.2.toNat < d1.length) ∧
 Fn P zS4 BE (x.2, (List.getD d1 d5.2.toNat [])) (fun (d11 : ((List UInt8) × Bool)) (e12 : Unit) => Ar (D := (List ((List UInt8) × Int))) (fun J13 => Ar (D := (List ((List UInt8) × Int))) (fun J15 => (((!d9.2) = true → (0 ≤ d5.2 ∧ d5.2 < (d1.length : Int)) ∧
 (d5.2.toNat < d1.length) ∧
 ((d5.1.length + List.length ([((List.getD d1 d5.2.toNat []), (1 : Int))] : List ((List UInt8) × Int))) * 24 ≤ 140737488355328) ∧
 J15 (d5.1 ++ ([((List.getD d1 d5.2.toNat []), (1 : Int))] : List ((List UInt8) × Int)))) ∧ ((!d9.2) = false → Ar (D := (List ((List UInt8) × Int))) (fun J17 => (((!d11.2) = true → (0 ≤ d5.2 ∧ d5.2 < (d1.length : Int)) ∧
 (d5.2.toNat < d1.length) ∧
 ((d5.1.length + List.length ([((List.getD d1 d5.2.toNat []), (2 : Int))] : List ((List UInt8) × Int))) * 24 ≤ 140737488355328) ∧
 J17 (d5.1 ++ ([((List.getD d1 d5.2.toNat []), (2 : Int))] : List ((List UInt8) × Int)))) ∧ ((!d11.2) = false → Ar (D := (List ((List UInt8) × Int))) (fun J19 => (((!(d9.1 == d11.1)) = true → (0 ≤ d5.2 ∧ d5.2 < (d1.length : Int)) ∧
 (d5.2.toNat < d1.length) ∧
 ((d5.1.length + List.length ([((List.getD d1 d5.2.toNat []), (3 : Int))] : List ((List UInt8) × Int))) * 24 ≤ 140737488355328) ∧
 J19 (d5.1 ++ ([((List.getD d1 d5.2.toNat []), (3 : Int))] : List ((List UInt8) × Int)))) ∧ ((!(d9.1 == d11.1)) = false → J19 d5.1))) (fun d20 => J17 d20)))) (fun d18 => J15 d18)))) (fun d16 => J13 d16)) (fun d14 => J7 d14)))) (fun d8 => J6 (d8, (i64.wrap (d5.2 + (1 : Int)))))) ∧ ((decide (d5.2 < (d1.length : Int))) = false → J3 d5.1)))) (fun d4 => K d4 ()))
theorem LG {P : Pg} (h : Has P DY) {x : DP BX.ps} {K : DP BX.rs → DP (ptrs BX.ps) → Prop} (hw : Hv P x K) : Fn P S0 BX x K :=
 CB (c := FP) h rfl rfl (by kernel_rfl) (Eq.mpr (show Cu P DY BX FP x K = _ by kernel_rfl) hw)
def Hc : Bw :=
 (.seq (.region [o1 4 (.asg (.c (.slice none 0 0))), ia 5 (kI 0)]) (.seq (.seq (.region [im 8 0, oS ⟨some 9, .call zS0 [8], none⟩ Bq, ia 6
 9]) (.seq (.region [im 10 6, o1 11 (.bin .neq 10 (kI 0))]) (.cond 11 (.seq (.region [im 12 6, o1 4 (.asg (.c (.slice none 0 0))), ia 5 12]) .ret) .skip))) (.seq (.seq (.region [im
 13 1, oS ⟨some 14, .call zS0 [13], none⟩ Bq, ia 7 14]) (.seq (.region [im 15 7, o1 16 (.bin .neq 15 (kI 0))]) (.cond 16 (.seq (.region [im
 17 7, o1 4 (.asg (.c (.slice none 0 0))), ia 5 17]) .ret) .skip))) (.seq (.region [im 18 0, im 19 1, oS ⟨some 20, .call S0 [18, 19], none⟩
 BX, ia 4 20, ia 5 (kI 0)]) .ret))))
def E4 : AFn := ⟨ UL, Hc.erase, [.tmp 4, .tmp 5], 2⟩
def Jt (P : Pg) (x : ((List ((List UInt8) × (List UInt8))) × (List ((List UInt8) × (List UInt8))))) (K : ((List ((List UInt8) × Int)) × Int) → Unit → Prop) : Prop :=
 Fn P zS0 Bq x.1 (fun (d1 : Int) (e2 : Unit) => (((d1 != (0 : Int)) = true → K ([], d1) ()) ∧ ((d1 != (0 : Int)) = false → Fn P zS0 Bq x.2 (fun (d3 : Int) (e4 : Unit) => (((d3 != (0 : Int)) = true → K ([], d3) ()) ∧ ((d3 != (0 : Int)) = false → Fn P S0 BX x (fun (d5 : (List ((List UInt8) × Int))) (e6 : Unit) => K (d5, (0 : Int)) ())))))))
theorem NI {P : Pg} (h : Has P E4) {x : DP BQ.ps} {K : DP BQ.rs → DP (ptrs BQ.ps) → Prop} (hw : Jt P x K) : Fn P UL BQ x K :=
 CB (c := Hc) h rfl rfl (by kernel_rfl) (Eq.mpr (show Cu P E4 BQ Hc x K = _ by kernel_rfl) hw)
def ZC : Bw :=
 (.seq (.region [o1 6 (.asg kF)]) (.seq (.seq (.region [im 11 0, o1 12 (.lenK 11), o1 13 (.bin .gtr 12 (kI 6)), im 14 13, gf 15 14 (.mv 1), gf 16 14 (.lenK 15), gf 17 14 (.bin .gtr
 16 (kI 6)), o1 18 (.pick 14 kT 17), im 19 18, gf 20 19 (.mv 0), oS ⟨some 21, .call zS0 [20], some (19, false)⟩ Bq, gf 22 19 (.bin .eql 21
 (kI 0)), gf 23 19 (.mv 22), gt 24 23 (.mv 1), oS ⟨some 25, .call zS0 [24], some (23, true)⟩ Bq, gt 26 23 (.bin .eql 25 (kI 0)), gf 27 19
 (.pick 23 26 kF), o1 28 (.pick 19 kT 27)]) (.cond 28 (.seq (.region [oS ⟨some 29, .call zS3 [], none⟩ Zy, ia 6 29]) .ret) .skip)) (.seq
 (.region [im 31 0, im 32 1, oS ⟨some 33, .call UL [31, 32], none⟩ BQ, im 30 33, o1 34 (.ext 30 0), o1 35 (.ext 30 1), ia 7 34, ia 8 35])
 (.seq (.region [im 37 0, im 38 1, im 39 2, oS ⟨some 40, .call V5 [37, 38, 39], none⟩ ZE, im 36 40, o1 41 (.ext 36 0), o1 42 (.ext 36 1), ia
 9 41, ia 10 42]) (.seq (.region [im 43 10, im 44 8, o1 45 (.bin .eql 43 44), im 46 45, gt 47 46 (.mv 9), gt 48 46 (.lenK 47), gt 49 46 (.bin .eql 48 (kI 0)), o1 50 (.pick 46 49
 kF), im 51 50, oS ⟨some 52, .call zS3 [], some (51, true)⟩ Zy, o1 53 (.pick 51 52 kF), ia 6 53]) .ret)))))
def ZA : AFn := ⟨ V6, ZC.erase, [.tmp 6], 3⟩
def ZF (P : Pg) (x : ((List ((List UInt8) × (List UInt8))) × ((List ((List UInt8) × (List UInt8))) × Int))) (K : Bool → Unit → Prop) : Prop :=
 Ar (D := Int) (fun J1 => (((cond (decide ((x.1.length : Int) > (6 : Int))) true (decide ((x.2.1.length : Int) > (6 : Int)))) = false → Fn P zS0 Bq x.1 (fun (d2 : Int) _ => J1 d2)) ∧ (((cond (decide ((x.1.length : Int) > (6 : Int))) true (decide ((x.2.1.length : Int) > (6 : Int)))) = true → J1 (0 : Int)) ∧ True))) (fun d3 => Ar (D := Int) (fun J4 => (((d3 == (0 : Int)) = true → ((cond (decide ((x.1.length : Int) > (6 : Int))) true (decide ((x.2.1.length : Int) > (6 : Int)))) = false → Fn P zS0 Bq x.2.1 (fun (d5 : Int) _ => J4 d5))) ∧ (((d3 == (0 : Int)) = false → J4 (0 : Int)) ∧ (((cond (decide ((x.1.length : Int) > (6 : Int))) true (decide ((x.2.1.length : Int) > (6 : Int)))) = true → J4 (0 : Int)) ∧ True)))) (fun d6 => (((cond (cond (decide ((x.1.length : Int) > (6 : Int))) true (decide ((x.2.1.length : Int) > (6 : Int)))) true (cond (d3 == (0 : Int)) (d6 == (0 : Int)) false)) = true → Fn P zS3 Zy () (fun (d7 : Bool) (e8 : Unit) => K d7 ())) ∧ ((cond (cond (decide ((x.1.length : Int) > (6 : Int))) true (decide ((x.2.1.length : Int) > (6 : Int)))) true (cond (d3 == (0 : Int)) (d6 == (0 : Int)) false)) = false → Fn P UL BQ (x.1, x.2.1) (fun (d9 : ((List ((List UInt8) × Int)) × Int)) (e10 : Unit) => Fn P V5 ZE x (fun (d11 : ((List Rename) × Int)) (e12 : Unit) => Ar (D := Bool) (fun J13 => (((cond (d11.2 == d9.2) ((d11.1.length : Int) == (0 : Int)) false) = true → Fn P zS3 Zy () (fun (d14 : Bool) _ => J13 d14)) ∧ (((cond (d11.2 == d9.2) ((d11.1.length : Int) == (0 : Int)) false) = false → J13 false) ∧ True))) (fun d15 => K (cond (cond (d11.2 == d9.2) ((d11.1.length : Int) == (0 : Int)) false) d15 false) ())))))))
theorem ZL {P : Pg} (h : Has P ZA) {x : DP Zx.ps} {K : DP Zx.rs → DP (ptrs Zx.ps) → Prop} (hw : ZF P x K) : Fn P V6 Zx x K :=
 CB (c := ZC) h rfl rfl (by kernel_rfl) (Eq.mpr (show Cu P ZA Zx ZC x K = _ by kernel_rfl) hw)
def FQ : Bw :=
 (.seq (.region [o1 1 (.box 0), o1 2 (.asg kF)]) (.seq (.region [fa 3 0 1, ld 4 3, oS ⟨some 5, .call V2 [4], none⟩ Bm, o1 6 (.bin .neq 5 (kI
 0)), ia 2 6]) .ret))
def DZ : AFn := ⟨ zS6, FQ.erase, [.tmp 2], 1⟩
def Hw (P : Pg) (x : ((List UInt8) × (List UInt8))) (K : Bool → Unit → Prop) : Prop :=
 Fn P V2 Bm x.1 (fun (d1 : Int) (e2 : Unit) => K (d1 != (0 : Int)) ())
theorem LH {P : Pg} (h : Has P DZ) {x : DP BZ.ps} {K : DP BZ.rs → DP (ptrs BZ.ps) → Prop} (hw : Hw P x K) : Fn P zS6 BZ x K :=
 CB (c := FQ) h rfl rfl (by kernel_rfl) (Eq.mpr (show Cu P DZ BZ FQ x K = _ by kernel_rfl) hw)
def AX : Bw :=
 (.seq (.region [ia 4 (kI 0)]) (.seq (.seq (.region [im 6 0, o1 7 (.lenK 6), o1 8 (.mv (kI 0))]) (.frame (rg [4, 5] 8 11) [] false (.join [.si 4] (.block 0 (.loop [.si 4, .si 8]
 (.seq (.region [o1 9 (.bin .lss 8 7)]) (.seq (.cond 9 .skip (.exit 0)) (.seq (.frame (rg [4, 5] 10 8) [] false (.join [.si 4] (.block 1 (.seq (.region [im 10 8, ia 5 10]) (.seq
 (.region [im 11 1, im 12 0, im 13 5, o1 14 (.ixA 2 12 13), o1 15 (.load true 2 14), oS ⟨some 16, .callv 11 [15], none⟩ BZ]) (.cond 16 (.seq (.region [im 17 5, ia 4 17])
 .ret) .skip)))))) (.region [o1 18 (.bin .add 8 (kI 1)), im 8 18]))))))))) (.seq (.region [ia 4 (kI (-1))]) .ret)))
def AH : AFn := ⟨ zS1, AX.erase, [.tmp 4], 2⟩
def Bf (P : Pg) (x : ((List ((List UInt8) × (List UInt8))) × Unit)) (K : Int → Unit → Prop) : Prop :=
 Ar (D := Int) (fun J1 => BU (D := (Int × Int)) ((0 : Int), (0 : Int)) (fun d3 J4 => (((decide (d3.2 < (x.1.length : Int))) = true → Ar (D := Int) (fun J5 => (0 ≤ d3.2 ∧ d3.2 < (x.1.length : Int)) ∧
 (d3.2.toNat < x.1.length) ∧
 Fn P zS6 BZ (List.getD x.1 d3.2.toNat ([], [])) (fun (d7 : Bool) (e8 : Unit) => ((d7 = true → K d3.2 ()) ∧ (d7 = false → J5 d3.1)))) (fun d6 => J4 (d6, (i64.wrap (d3.2 + (1 : Int)))))) ∧ ((decide (d3.2 < (x.1.length : Int))) = false → J1 d3.1)))) (fun d2 => K (-1 : Int) ())
theorem Cj {P : Pg} (h : Has P AH) {x : DP Am.ps} {K : DP Am.rs → DP (ptrs Am.ps) → Prop} (hw : Bf P x K) : Fn P zS1 Am x K :=
 CB (c := AX) h rfl rfl (by kernel_rfl) (Eq.mpr (show Cu P AH Am AX x K = _ by kernel_rfl) hw)
def AQ : Bw :=
 (.seq (.region [o1 4 (.asg kF)]) (.seq (.region [im 5 0, im 6 1, oS ⟨some 7, .call zS1 [5, 6], none⟩
 Am, o1 8 (.bin .geq 7 (kI 0)), ia 4 8]) .ret))
def AE : AFn := ⟨ zS2, AQ.erase, [.tmp 4], 2⟩
def Ba (P : Pg) (x : ((List ((List UInt8) × (List UInt8))) × Unit)) (K : Bool → Unit → Prop) : Prop :=
 Fn P zS1 Am (x.1, ()) (fun (d1 : Int) (e2 : Unit) => K (decide (d1 ≥ (0 : Int))) ())
theorem B7 {P : Pg} (h : Has P AE) {x : DP Ak.ps} {K : DP Ak.rs → DP (ptrs Ak.ps) → Prop} (hw : Ba P x K) : Fn P zS2 Ak x K :=
 CB (c := AQ) h rfl rfl (by kernel_rfl) (Eq.mpr (show Cu P AE Ak AQ x K = _ by kernel_rfl) hw)
def Hf : Bw :=
 (.seq (.region [o1 2 (.asg kF)]) (.seq (.region [im 3 0, oS ⟨some 4, .call "strings.HasSuffix" [3, (.c (.string ⟨#[10]⟩))], none⟩ B9, ia 2 4]) .ret))
def E7 : AFn := ⟨ UM, Hf.erase, [.tmp 2], 1⟩
def Jw (P : Pg) (x : (List UInt8)) (K : Bool → Unit → Prop) : Prop :=
 Fn P "strings.HasSuffix" B9 (x, ([10] : List UInt8)) (fun (d1 : Bool) (e2 : Unit) => K d1 ())
theorem NL {P : Pg} (h : Has P E7) {x : DP Cz.ps} {K : DP Cz.rs → DP (ptrs Cz.ps) → Prop} (hw : Jw P x K) : Fn P UM Cz x K :=
 CB (c := Hf) h rfl rfl (by kernel_rfl) (Eq.mpr (show Cu P E7 Cz Hf x K = _ by kernel_rfl) hw)
def He : Bw :=
 (.seq (.region [ia 2 (kI 0)]) (.seq (.region [im 4 0, oS ⟨some 5, .call "strings.Count" [4, (.c (.string ⟨#[10]⟩))], none⟩ C6, ia 3 5]) (.seq (.seq (.region [im 6 0,
 o1 7 (.bin .neq 6 (.c (.string ⟨#[]⟩))), im 8 7, gt 9 8 (.mv 0), oS ⟨some 10, .call UM [9], some (8, true)⟩ Cz, gt 11 8 (.un .not 10), o1 12 (.pick 8
 11 kF)]) (.frame [3, 13, 14] [] false (.join [.si 3] (.cond 12 (.region [im 13 3, o1 14 (.bin .add 13 (kI 1)), ia 3 14]) .skip)))) (.seq (.seq (.region [im 15 0, o1 16 (.lenS 15),
 o1 17 (.bin .gtr 16 (kI 1048576)), im 18 17, gf 19 18 (.mv 3), gf 20 18 (.bin .gtr 19 (kI 4096)), o1 21 (.pick 18 kT 20)]) (.cond 21 (.seq (.region [ia 2 (kI 1)]) .ret) .skip))
 (.seq (.region [ia 2 (kI 0)]) .ret)))))
def E6 : AFn := ⟨ zS8, He.erase, [.tmp 2], 1⟩
def Jv (P : Pg) (x : (List UInt8)) (K : Int → Unit → Prop) : Prop :=
 Fn P "strings.Count" C6 (x, ([10] : List UInt8)) (fun (d1 : Int) (e2 : Unit) => Ar (D := Bool) (fun J3 => (((!(x == ([] : List UInt8))) = true → Fn P UM Cz x (fun (d4 : Bool) _ => J3 d4)) ∧ (((!(x == ([] : List UInt8))) = false → J3 false) ∧ True))) (fun d5 => Ar (D := Int) (fun J6 => (((cond (!(x == ([] : List UInt8))) (!d5) false) = true → J6 (i64.wrap (d1 + (1 : Int)))) ∧ ((cond (!(x == ([] : List UInt8))) (!d5) false) = false → J6 d1))) (fun d7 => (((cond (decide ((x.length : Int) > (1048576 : Int))) true (decide (d7 > (4096 : Int)))) = true → K (1 : Int) ()) ∧ ((cond (decide ((x.length : Int) > (1048576 : Int))) true (decide (d7 > (4096 : Int)))) = false → K (0 : Int) ())))))
theorem NK {P : Pg} (h : Has P E6) {x : DP Cy.ps} {K : DP Cy.rs → DP (ptrs Cy.ps) → Prop} (hw : Jv P x K) : Fn P zS8 Cy x K :=
 CB (c := He) h rfl rfl (by kernel_rfl) (Eq.mpr (show Cu P E6 Cy He x K = _ by kernel_rfl) hw)
def FR : Bw :=
 (.seq (.region [o1 1 (.box 0), o1 2 (.asg kF)]) (.seq (.region [fa 3 1 1, ld 4 3, oS ⟨some 5, .call zS8 [4], none⟩ Cy, o1 6 (.bin .neq 5 (kI 0)), ia 2
 6]) .ret))
def D0 : AFn := ⟨ zS7, FR.erase, [.tmp 2], 1⟩
def Hx (P : Pg) (x : ((List UInt8) × (List UInt8))) (K : Bool → Unit → Prop) : Prop :=
 Fn P zS8 Cy x.2 (fun (d1 : Int) (e2 : Unit) => K (d1 != (0 : Int)) ())
theorem LJ {P : Pg} (h : Has P D0) {x : DP B0.ps} {K : DP B0.rs → DP (ptrs B0.ps) → Prop} (hw : Hx P x K) : Fn P zS7 B0 x K :=
 CB (c := FR) h rfl rfl (by kernel_rfl) (Eq.mpr (show Cu P D0 B0 FR x K = _ by kernel_rfl) hw)
def AY : Bw :=
 (.seq (.region [ia 4 (kI 0)]) (.seq (.seq (.region [im 6 0, o1 7 (.lenK 6), o1 8 (.mv (kI 0))]) (.frame (rg [4, 5] 8 11) [] false (.join [.si 4] (.block 0 (.loop [.si 4, .si 8]
 (.seq (.region [o1 9 (.bin .lss 8 7)]) (.seq (.cond 9 .skip (.exit 0)) (.seq (.frame (rg [4, 5] 10 8) [] false (.join [.si 4] (.block 1 (.seq (.region [im 10 8, ia 5 10]) (.seq
 (.region [im 11 1, im 12 0, im 13 5, o1 14 (.ixA 2 12 13), o1 15 (.load true 2 14), oS ⟨some 16, .callv 11 [15], none⟩ B0]) (.cond 16 (.seq (.region [im 17 5, ia 4 17])
 .ret) .skip)))))) (.region [o1 18 (.bin .add 8 (kI 1)), im 8 18]))))))))) (.seq (.region [ia 4 (kI (-1))]) .ret)))
def AJ : AFn := ⟨ zS1, AY.erase, [.tmp 4], 2⟩
def Bg (P : Pg) (x : ((List ((List UInt8) × (List UInt8))) × Unit)) (K : Int → Unit → Prop) : Prop :=
 Ar (D := Int) (fun J1 => BU (D := (Int × Int)) ((0 : Int), (0 : Int)) (fun d3 J4 => (((decide (d3.2 < (x.1.length : Int))) = true → Ar (D := Int) (fun J5 => (0 ≤ d3.2 ∧ d3.2 < (x.1.length : Int)) ∧
 (d3.2.toNat < x.1.length) ∧
 Fn P zS7 B0 (List.getD x.1 d3.2.toNat ([], [])) (fun (d7 : Bool) (e8 : Unit) => ((d7 = true → K d3.2 ()) ∧ (d7 = false → J5 d3.1)))) (fun d6 => J4 (d6, (i64.wrap (d3.2 + (1 : Int)))))) ∧ ((decide (d3.2 < (x.1.length : Int))) = false → J1 d3.1)))) (fun d2 => K (-1 : Int) ())
theorem Ck {P : Pg} (h : Has P AJ) {x : DP Ao.ps} {K : DP Ao.rs → DP (ptrs Ao.ps) → Prop} (hw : Bg P x K) : Fn P zS1 Ao x K :=
 CB (c := AY) h rfl rfl (by kernel_rfl) (Eq.mpr (show Cu P AJ Ao AY x K = _ by kernel_rfl) hw)
def AR : Bw :=
 (.seq (.region [o1 4 (.asg kF)]) (.seq (.region [im 5 0, im 6 1, oS ⟨some 7, .call zS1 [5, 6], none⟩
 Ao, o1 8 (.bin .geq 7 (kI 0)), ia 4 8]) .ret))
def AF : AFn := ⟨ zS2, AR.erase, [.tmp 4], 2⟩
def Bb (P : Pg) (x : ((List ((List UInt8) × (List UInt8))) × Unit)) (K : Bool → Unit → Prop) : Prop :=
 Fn P zS1 Ao (x.1, ()) (fun (d1 : Int) (e2 : Unit) => K (decide (d1 ≥ (0 : Int))) ())
theorem B8 {P : Pg} (h : Has P AF) {x : DP Al.ps} {K : DP Al.rs → DP (ptrs Al.ps) → Prop} (hw : Bb P x K) : Fn P zS2 Al x K :=
 CB (c := AR) h rfl rfl (by kernel_rfl) (Eq.mpr (show Cu P AF Al AR x K = _ by kernel_rfl) hw)
def Hg : Bw :=
 (.seq (.region [ia 2 (kI 0)]) (.seq (.frame (rg [] 2 15) [] false (.join [.si 2] (.block 0 (.seq (.region [im 4 0, o1 5 (.lenK 4), o1 6 (.bin .gtr 5 (kI 200)), ia 3 6]) (.cond 3
 (.seq (.region [ia 2 (kI 1)]) .ret) (.seq (.region [im 8 0, oS ⟨some 9, .call zS2 [8, (.f zS6)],
 none⟩ Ak, ia 7 9]) (.cond 7 (.seq (.region [ia 2 (kI 210)]) .ret) (.seq (.region [im 11 0, oS ⟨some 12, .call
 "mergelens/tree.ordered" [11], none⟩ D2, o1 13 (.un .not 12), ia 10 13]) (.cond 10 (.seq (.region [ia 2 (kI 211)]) .ret) (.seq (.region [im 15 0, oS ⟨some 16, .call
 zS2 [15, (.f zS7)], none⟩ Al, ia 14 16]) (.cond
 14 (.seq (.region [ia 2 (kI 1)]) .ret) .skip))))))))))) (.seq (.region [ia 2 (kI 0)]) .ret)))
def E8 : AFn := ⟨ zS5, Hg.erase, [.tmp 2], 1⟩
def Jy (P : Pg) (x : (List ((List UInt8) × (List UInt8)))) (K : Int → Unit → Prop) : Prop :=
 Ar (D := Int) (fun J1 => (((decide ((x.length : Int) > (200 : Int))) = true → K (1 : Int) ()) ∧ ((decide ((x.length : Int) > (200 : Int))) = false → Fn P zS2 Ak (x, ()) (fun (d3 : Bool) (e4 : Unit) => ((d3 = true → K (210 : Int) ()) ∧ (d3 = false → Fn P "mergelens/tree.ordered" D2 x (fun (d5 : Bool) (e6 : Unit) => (((!d5) = true → K (211 : Int) ()) ∧ ((!d5) = false → Fn P zS2 Al (x, ()) (fun (d7 : Bool) (e8 : Unit) => ((d7 = true → K (1 : Int) ()) ∧ (d7 = false → J1 (0 : Int))))))))))))) (fun d2 => K (0 : Int) ())
theorem NM {P : Pg} (h : Has P E8) {x : DP A8.ps} {K : DP A8.rs → DP (ptrs A8.ps) → Prop} (hw : Jy P x K) : Fn P zS5 A8 x K :=
 CB (c := Hg) h rfl rfl (by kernel_rfl) (Eq.mpr (show Cu P E8 A8 Hg x K = _ by kernel_rfl) hw)
def ZN : Bw :=
 (.seq (.region [o1 2 (.asg (.c (.slice none 0 0))), ia 3 (kI 0)]) (.seq (.seq (.region [im 6 0, oS ⟨some 7, .call zS8 [6], none⟩ Cy, ia 4 7]) (.seq
 (.region [im 8 4, o1 9 (.bin .neq 8 (kI 0))]) (.cond 9 (.seq (.region [im 10 4, o1 2 (.asg (.c (.slice none 0 0))), ia 3 10]) .ret) .skip))) (.seq (.region [im 11 0, oS ⟨some 12,
 .call "strings.SplitAfter" [11, (.c (.string ⟨#[10]⟩))], none⟩ EO, ia 5 12]) (.seq (.seq (.region [im 13 5, im 14 5, o1 15 (.lenK 14), o1 16 (.bin .sub 15 (kI
 1)), o1 17 (.ixA 1 13 16), ld 18 17, o1 19 (.bin .eql 18 (.c (.string ⟨#[]⟩)))]) (.frame (rg [5] 20 5) [] false (.join [.sl 5 false (.sl .str) tO] (.cond 19 (.region [im 20 5, im
 21 5, o1 22 (.lenK 21), o1 23 (.bin .sub 22 (kI 1)), o1 24 (.slK 1 20 none (some 23)), ia 5 24]) .skip)))) (.seq (.region [im 25 5, ia 2 25, ia 3 (kI 0)]) .ret)))))
def ZH : AFn := ⟨ V4, ZN.erase, [.tmp 2, .tmp 3], 1⟩
def ZT (P : Pg) (x : (List UInt8)) (K : ((List (List UInt8)) × Int) → Unit → Prop) : Prop :=
 Fn P zS8 Cy x (fun (d1 : Int) (e2 : Unit) => (((d1 != (0 : Int)) = true → K ([], d1) ()) ∧ ((d1 != (0 : Int)) = false → Fn P "strings.SplitAfter" EO (x, ([10] : List UInt8)) (fun (d3 : (List (List UInt8))) (e4 : Unit) => (0 ≤ (i64.wrap ((d3.length : Int) - (1 : Int))) ∧ (i64.wrap ((d3.length : Int) - (1 : Int))) < (d3.length : Int)) ∧
 ((Int.toNat (i64.wrap ((d3.length : Int) - (1 : Int)))) < d3.length) ∧
 Ar (D := (List (List UInt8))) (fun J5 => ((((List.getD d3 (Int.toNat (i64.wrap ((d3.length : Int) - (1 : Int)))) []) == ([] : List UInt8)) = true → (0 ≤ (i64.wrap ((d3.length : Int) - (1 : Int))) ∧ (i64.wrap ((d3.length : Int) - (1 : Int))) ≤ (d3.length : Int)) ∧
 (0 + (Int.toNat (i64.wrap ((d3.length : Int) - (1 : Int)))) ≤ d3.length) ∧
 J5 (List.take (Int.toNat (i64.wrap ((d3.length : Int) - (1 : Int)))) (List.drop 0 d3))) ∧ (((List.getD d3 (Int.toNat (i64.wrap ((d3.length : Int) - (1 : Int)))) []) == ([] : List UInt8)) = false → J5 d3))) (fun d6 => K (d6, (0 : Int)) ())))))
theorem Z3 {P : Pg} (h : Has P ZH) {x : DP ZB.ps} {K : DP ZB.rs → DP (ptrs ZB.ps) → Prop} (hw : ZT P x K) : Fn P V4 ZB x K :=
 CB (c := ZN) h rfl rfl (by kernel_rfl) (Eq.mpr (show Cu P ZH ZB ZN x K = _ by kernel_rfl) hw)
def H4 : Bw :=
 (.seq (.region [ia 4 (kI 0)]) (.seq (.seq (.region [im 6 0, oS ⟨some 7, .call zS5 [6], none⟩ A8, ia 5 7]) (.seq (.region [im 8 5, o1 9 (.bin .neq 8 (kI
 0))]) (.cond 9 (.seq (.region [im 10 5, ia 4 10]) .ret) .skip))) (.seq (.region [im 11 1, oS ⟨some 12, .call zS5 [11], none⟩ A8, ia 4 12]) .ret)))
def F8 : AFn := ⟨ "mergelens/tree.both", H4.erase, [.tmp 4], 2⟩
def Ll (P : Pg) (x : ((List ((List UInt8) × (List UInt8))) × (List ((List UInt8) × (List UInt8))))) (K : Int → Unit → Prop) : Prop :=
 Fn P zS5 A8 x.1 (fun (d1 : Int) (e2 : Unit) => (((d1 != (0 : Int)) = true → K d1 ()) ∧ ((d1 != (0 : Int)) = false → Fn P zS5 A8 x.2 (fun (d3 : Int) (e4 : Unit) => K d3 ()))))
theorem Pk {P : Pg} (h : Has P F8) {x : DP Dn.ps} {K : DP Dn.rs → DP (ptrs Dn.ps) → Prop} (hw : Ll P x K) : Fn P "mergelens/tree.both" Dn x K :=
 CB (c := H4) h rfl rfl (by kernel_rfl) (Eq.mpr (show Cu P F8 Dn H4 x K = _ by kernel_rfl) hw)
end Go.VS
