/- Functions of the program: typed code, and what it says, lifted. -/
import Derived.Test.YtbpbcfiodckhjaaDoorKTxSig
import Derived.KernelRfl
set_option linter.unusedVariables false
set_option linter.unusedSimpArgs false
set_option maxRecDepth 8000
namespace Go.VS
open IntKind
def H3 : Bw :=
 (.seq (.region [o1 4 (.asg (.c (.string ⟨#[]⟩))), o1 5 (.asg kF)]) (.seq (.seq (.region [im 8 0, o1 9 (.lenK 8), o1 10 (.mv (kI 0))]) (.frame (rg [4, 5, 7] 10 11) [1007] false
 (.join [.sl 4 false .str .leaf, .sl 5 false .bool .leaf] (.block 0 (.loop [.sl 4 false .str .leaf, .sl 5 false .bool .leaf, .si 10] (.seq (.region [o1 11 (.bin .lss 10 9)]) (.seq
 (.cond 11 .skip (.exit 0)) (.seq (.frame (rg [4, 5, 7] 12 8) [1007] false (.join [.sl 4 false .str .leaf, .sl 5 false .bool .leaf] (.block 1 (.seq (.region [o1 12 (.ixA 2 8 10), o1
 13 (.load true 2 12), o1 7 (.alloc [(.string ⟨#[]⟩), (.string ⟨#[]⟩)]), o0 ⟨none, .store 2 7 13, none⟩]) (.seq (.region [fa 14 0 7, ld 15 14, im 16 1, o1 17 (.bin .eql 15 16)])
 (.cond 17 (.seq (.region [fa 18 1 7, ld 19 18, ia 4 19, o1 5 (.asg kT)]) .ret) .skip)))))) (.region [o1 20 (.bin .add 10 (kI 1)), im 10 20]))))))))) (.seq (.region [o1 4 (.asg (.c
 (.string ⟨#[]⟩))), o1 5 (.asg kF)]) .ret)))
def F7 : AFn := ⟨ zS6, H3.erase, [.tmp 4, .tmp 5], 2⟩
def Lk (P : Pg) (x : ((List ((List UInt8) × (List UInt8))) × (List UInt8))) (K : ((List UInt8) × Bool) → Unit → Prop) : Prop :=
 Ar (D := ((List UInt8) × Bool)) (fun J1 => BU (D := ((List UInt8) × (Bool × Int))) (([] : List UInt8), (false, (0 : Int))) (fun d3 J4 => (((decide (d3.2.2 < (x.1.length : Int))) = true → Ar (D := ((List UInt8) × Bool)) (fun J5 => (0 ≤ d3.2.2 ∧ d3.2.2 < (x.1.length : Int)) ∧
 (d3.2.2.toNat < x.1.length) ∧
 ((((List.getD x.1 d3.2.2.toNat ([], [])).1 == x.2) = true → K ((List.getD x.1 d3.2.2.toNat ([], [])).2, true) ()) ∧ (((List.getD x.1 d3.2.2.toNat ([], [])).1 == x.2) = false → J5 (d3.1, d3.2.1)))) (fun d6 => J4 (d6.1, (d6.2, (i64.wrap (d3.2.2 + (1 : Int))))))) ∧ ((decide (d3.2.2 < (x.1.length : Int))) = false → J1 (d3.1, d3.2.1))))) (fun d2 => K (([] : List UInt8), false) ())
theorem Pj {P : Pg} (h : Has P F7) {x : DP CA.ps} {K : DP CA.rs → DP (ptrs CA.ps) → Prop} (hw : Lk P x K) : Fn P zS6 CA x K :=
 CB (c := H3) h rfl rfl (by kernel_rfl) (Eq.mpr (show Cu P F7 CA H3 x K = _ by kernel_rfl) hw)
def FQ : Bw :=
 (.seq (.region [o1 1 (.box 0), o1 2 (.asg kF)]) (.seq (.region [fa 3 0 1, ld 4 3, oS ⟨some 5, .call zS3 [4], none⟩ Bm, o1 6 (.bin .neq 5 (kI
 0)), ia 2 6]) .ret))
def DZ : AFn := ⟨ zS4, FQ.erase, [.tmp 2], 1⟩
def Hw (P : Pg) (x : ((List UInt8) × (List UInt8))) (K : Bool → Unit → Prop) : Prop :=
 Fn P zS3 Bm x.1 (fun (d1 : Int) (e2 : Unit) => K (d1 != (0 : Int)) ())
theorem LH {P : Pg} (h : Has P DZ) {x : DP BZ.ps} {K : DP BZ.rs → DP (ptrs BZ.ps) → Prop} (hw : Hw P x K) : Fn P zS4 BZ x K :=
 CB (c := FQ) h rfl rfl (by kernel_rfl) (Eq.mpr (show Cu P DZ BZ FQ x K = _ by kernel_rfl) hw)
def AX : Bw :=
 (.seq (.region [ia 4 (kI 0)]) (.seq (.seq (.region [im 6 0, o1 7 (.lenK 6), o1 8 (.mv (kI 0))]) (.frame (rg [4, 5] 8 11) [] false (.join [.si 4] (.block 0 (.loop [.si 4, .si 8]
 (.seq (.region [o1 9 (.bin .lss 8 7)]) (.seq (.cond 9 .skip (.exit 0)) (.seq (.frame (rg [4, 5] 10 8) [] false (.join [.si 4] (.block 1 (.seq (.region [im 10 8, ia 5 10]) (.seq
 (.region [im 11 1, im 12 0, im 13 5, o1 14 (.ixA 2 12 13), o1 15 (.load true 2 14), oS ⟨some 16, .callv 11 [15], none⟩ BZ]) (.cond 16 (.seq (.region [im 17 5, ia 4 17])
 .ret) .skip)))))) (.region [o1 18 (.bin .add 8 (kI 1)), im 8 18]))))))))) (.seq (.region [ia 4 (kI (-1))]) .ret)))
def AH : AFn := ⟨ zS1, AX.erase, [.tmp 4], 2⟩
def Bf (P : Pg) (x : ((List ((List UInt8) × (List UInt8))) × Unit)) (K : Int → Unit → Prop) : Prop :=
 Ar (D := Int) (fun J1 => BU (D := (Int × Int)) ((0 : Int), (0 : Int)) (fun d3 J4 => (((decide (d3.2 < (x.1.length : Int))) = true → Ar (D := Int) (fun J5 => (0 ≤ d3.2 ∧ d3.2 < (x.1.length : Int)) ∧
 (d3.2.toNat < x.1.length) ∧
 Fn P zS4 BZ (List.getD x.1 d3.2.toNat ([], [])) (fun (d7 : Bool) (e8 : Unit) => ((d7 = true → K d3.2 ()) ∧ (d7 = false → J5 d3.1)))) (fun d6 => J4 (d6, (i64.wrap (d3.2 + (1 : Int)))))) ∧ ((decide (d3.2 < (x.1.length : Int))) = false → J1 d3.1)))) (fun d2 => K (-1 : Int) ())
theorem Cj {P : Pg} (h : Has P AH) {x : DP Am.ps} {K : DP Am.rs → DP (ptrs Am.ps) → Prop} (hw : Bf P x K) : Fn P zS1 Am x K :=
 CB (c := AX) h rfl rfl (by kernel_rfl) (Eq.mpr (show Cu P AH Am AX x K = _ by kernel_rfl) hw)
def AQ : Bw :=
 (.seq (.region [o1 4 (.asg kF)]) (.seq (.region [im 5 0, im 6 1, oS ⟨some 7, .call zS1 [5, 6], none⟩
 Am, o1 8 (.bin .geq 7 (kI 0)), ia 4 8]) .ret))
def AE : AFn := ⟨ zS2, AQ.erase, [.tmp 4], 2⟩
def Ba (P : Pg) (x : ((List ((List UInt8) × (List UInt8))) × Unit)) (K : Bool → Unit → Prop) : Prop :=
 Fn P zS1 Am (x.1, ()) (fun (d1 : Int) (e2 : Unit) => K (decide (d1 ≥ (0 : Int))) ())
theorem B7 {P : Pg} (h : Has P AE) {x : DP Ak.ps} {K : DP Ak.rs → DP (ptrs Ak.ps) → Prop} (hw : Ba P x K) : Fn P zS2 Ak x K :=
 CB (c := AQ) h rfl rfl (by kernel_rfl) (Eq.mpr (show Cu P AE Ak AQ x K = _ by kernel_rfl) hw)
def Hf : Bw :=
 (.seq (.region [o1 2 (.asg kF)]) (.seq (.region [im 3 0, oS ⟨some 4, .call "strings.HasSuffix" [3, (.c (.string ⟨#[10]⟩))], none⟩ B9, ia 2 4]) .ret))
def E7 : AFn := ⟨ zS8, Hf.erase, [.tmp 2], 1⟩
def Jw (P : Pg) (x : (List UInt8)) (K : Bool → Unit → Prop) : Prop :=
 Fn P "strings.HasSuffix" B9 (x, ([10] : List UInt8)) (fun (d1 : Bool) (e2 : Unit) => K d1 ())
theorem NL {P : Pg} (h : Has P E7) {x : DP Cz.ps} {K : DP Cz.rs → DP (ptrs Cz.ps) → Prop} (hw : Jw P x K) : Fn P zS8 Cz x K :=
 CB (c := Hf) h rfl rfl (by kernel_rfl) (Eq.mpr (show Cu P E7 Cz Hf x K = _ by kernel_rfl) hw)
def He : Bw :=
 (.seq (.region [ia 2 (kI 0)]) (.seq (.region [im 4 0, oS ⟨some 5, .call "strings.Count" [4, (.c (.string ⟨#[10]⟩))], none⟩ C6, ia 3 5]) (.seq (.seq (.region [im 6 0,
 o1 7 (.bin .neq 6 (.c (.string ⟨#[]⟩))), im 8 7, gt 9 8 (.mv 0), oS ⟨some 10, .call zS8 [9], some (8, true)⟩ Cz, gt 11 8 (.un .not 10), o1 12 (.pick 8
 11 kF)]) (.frame [3, 13, 14] [] false (.join [.si 3] (.cond 12 (.region [im 13 3, o1 14 (.bin .add 13 (kI 1)), ia 3 14]) .skip)))) (.seq (.seq (.region [im 15 0, o1 16 (.lenS 15),
 o1 17 (.bin .gtr 16 (kI 1048576)), im 18 17, gf 19 18 (.mv 3), gf 20 18 (.bin .gtr 19 (kI 4096)), o1 21 (.pick 18 kT 20)]) (.cond 21 (.seq (.region [ia 2 (kI 1)]) .ret) .skip))
 (.seq (.region [ia 2 (kI 0)]) .ret)))))
def E6 : AFn := ⟨ zS9, He.erase, [.tmp 2], 1⟩
def Jv (P : Pg) (x : (List UInt8)) (K : Int → Unit → Prop) : Prop :=
 Fn P "strings.Count" C6 (x, ([10] : List UInt8)) (fun (d1 : Int) (e2 : Unit) => Ar (D := Bool) (fun J3 => (((!(x == ([] : List UInt8))) = true → Fn P zS8 Cz x (fun (d4 : Bool) _ => J3 d4)) ∧ (((!(x == ([] : List UInt8))) = false → J3 false) ∧ True))) (fun d5 => Ar (D := Int) (fun J6 => (((cond (!(x == ([] : List UInt8))) (!d5) false) = true → J6 (i64.wrap (d1 + (1 : Int)))) ∧ ((cond (!(x == ([] : List UInt8))) (!d5) false) = false → J6 d1))) (fun d7 => (((cond (decide ((x.length : Int) > (1048576 : Int))) true (decide (d7 > (4096 : Int)))) = true → K (1 : Int) ()) ∧ ((cond (decide ((x.length : Int) > (1048576 : Int))) true (decide (d7 > (4096 : Int)))) = false → K (0 : Int) ())))))
theorem NK {P : Pg} (h : Has P E6) {x : DP Cy.ps} {K : DP Cy.rs → DP (ptrs Cy.ps) → Prop} (hw : Jv P x K) : Fn P zS9 Cy x K :=
 CB (c := He) h rfl rfl (by kernel_rfl) (Eq.mpr (show Cu P E6 Cy He x K = _ by kernel_rfl) hw)
def FR : Bw :=
 (.seq (.region [o1 1 (.box 0), o1 2 (.asg kF)]) (.seq (.region [fa 3 1 1, ld 4 3, oS ⟨some 5, .call zS9 [4], none⟩ Cy, o1 6 (.bin .neq 5 (kI 0)), ia 2
 6]) .ret))
def D0 : AFn := ⟨ zS5, FR.erase, [.tmp 2], 1⟩
def Hx (P : Pg) (x : ((List UInt8) × (List UInt8))) (K : Bool → Unit → Prop) : Prop :=
 Fn P zS9 Cy x.2 (fun (d1 : Int) (e2 : Unit) => K (d1 != (0 : Int)) ())
theorem LJ {P : Pg} (h : Has P D0) {x : DP B0.ps} {K : DP B0.rs → DP (ptrs B0.ps) → Prop} (hw : Hx P x K) : Fn P zS5 B0 x K :=
 CB (c := FR) h rfl rfl (by kernel_rfl) (Eq.mpr (show Cu P D0 B0 FR x K = _ by kernel_rfl) hw)
def AY : Bw :=
 (.seq (.region [ia 4 (kI 0)]) (.seq (.seq (.region [im 6 0, o1 7 (.lenK 6), o1 8 (.mv (kI 0))]) (.frame (rg [4, 5] 8 11) [] false (.join [.si 4] (.block 0 (.loop [.si 4, .si 8]
 (.seq (.region [o1 9 (.bin .lss 8 7)]) (.seq (.cond 9 .skip (.exit 0)) (.seq (.frame (rg [4, 5] 10 8) [] false (.join [.si 4] (.block 1 (.seq (.region [im 10 8, ia 5 10]) (.seq
 (.region [im 11 1, im 12 0, im 13 5, o1 14 (.ixA 2 12 13), o1 15 (.load true 2 14), oS ⟨some 16, .callv 11 [15], none⟩ B0]) (.cond 16 (.seq (.region [im 17 5, ia 4 17])
 .ret) .skip)))))) (.region [o1 18 (.bin .add 8 (kI 1)), im 8 18]))))))))) (.seq (.region [ia 4 (kI (-1))]) .ret)))
def AJ : AFn := ⟨ zS1, AY.erase, [.tmp 4], 2⟩
def Bg (P : Pg) (x : ((List ((List UInt8) × (List UInt8))) × Unit)) (K : Int → Unit → Prop) : Prop :=
 Ar (D := Int) (fun J1 => BU (D := (Int × Int)) ((0 : Int), (0 : Int)) (fun d3 J4 => (((decide (d3.2 < (x.1.length : Int))) = true → Ar (D := Int) (fun J5 => (0 ≤ d3.2 ∧ d3.2 < (x.1.length : Int)) ∧
 (d3.2.toNat < x.1.length) ∧
 Fn P zS5 B0 (List.getD x.1 d3.2.toNat ([], [])) (fun (d7 : Bool) (e8 : Unit) => ((d7 = true → K d3.2 ()) ∧ (d7 = false → J5 d3.1)))) (fun d6 => J4 (d6, (i64.wrap (d3.2 + (1 : Int)))))) ∧ ((decide (d3.2 < (x.1.length : Int))) = false → J1 d3.1)))) (fun d2 => K (-1 : Int) ())
theorem Ck {P : Pg} (h : Has P AJ) {x : DP Ao.ps} {K : DP Ao.rs → DP (ptrs Ao.ps) → Prop} (hw : Bg P x K) : Fn P zS1 Ao x K :=
 CB (c := AY) h rfl rfl (by kernel_rfl) (Eq.mpr (show Cu P AJ Ao AY x K = _ by kernel_rfl) hw)
def AR : Bw :=
 (.seq (.region [o1 4 (.asg kF)]) (.seq (.region [im 5 0, im 6 1, oS ⟨some 7, .call zS1 [5, 6], none⟩
 Ao, o1 8 (.bin .geq 7 (kI 0)), ia 4 8]) .ret))
def AF : AFn := ⟨ zS2, AR.erase, [.tmp 4], 2⟩
def Bb (P : Pg) (x : ((List ((List UInt8) × (List UInt8))) × Unit)) (K : Bool → Unit → Prop) : Prop :=
 Fn P zS1 Ao (x.1, ()) (fun (d1 : Int) (e2 : Unit) => K (decide (d1 ≥ (0 : Int))) ())
theorem B8 {P : Pg} (h : Has P AF) {x : DP Al.ps} {K : DP Al.rs → DP (ptrs Al.ps) → Prop} (hw : Bb P x K) : Fn P zS2 Al x K :=
 CB (c := AR) h rfl rfl (by kernel_rfl) (Eq.mpr (show Cu P AF Al AR x K = _ by kernel_rfl) hw)
def Hg : Bw :=
 (.seq (.region [ia 2 (kI 0)]) (.seq (.frame (rg [] 2 15) [] false (.join [.si 2] (.block 0 (.seq (.region [im 4 0, o1 5 (.lenK 4), o1 6 (.bin .gtr 5 (kI 200)), ia 3 6]) (.cond 3
 (.seq (.region [ia 2 (kI 1)]) .ret) (.seq (.region [im 8 0, oS ⟨some 9, .call zS2 [8, (.f zS4)],
 none⟩ Ak, ia 7 9]) (.cond 7 (.seq (.region [ia 2 (kI 210)]) .ret) (.seq (.region [im 11 0, oS ⟨some 12, .call
 "mergelens/tree.ordered" [11], none⟩ D2, o1 13 (.un .not 12), ia 10 13]) (.cond 10 (.seq (.region [ia 2 (kI 211)]) .ret) (.seq (.region [im 15 0, oS ⟨some 16, .call
 zS2 [15, (.f zS5)], none⟩ Al, ia 14 16]) (.cond
 14 (.seq (.region [ia 2 (kI 1)]) .ret) .skip))))))))))) (.seq (.region [ia 2 (kI 0)]) .ret)))
def E8 : AFn := ⟨ zS0, Hg.erase, [.tmp 2], 1⟩
def Jy (P : Pg) (x : (List ((List UInt8) × (List UInt8)))) (K : Int → Unit → Prop) : Prop :=
 Ar (D := Int) (fun J1 => (((decide ((x.length : Int) > (200 : Int))) = true → K (1 : Int) ()) ∧ ((decide ((x.length : Int) > (200 : Int))) = false → Fn P zS2 Ak (x, ()) (fun (d3 : Bool) (e4 : Unit) => ((d3 = true → K (210 : Int) ()) ∧ (d3 = false → Fn P "mergelens/tree.ordered" D2 x (fun (d5 : Bool) (e6 : Unit) => (((!d5) = true → K (211 : Int) ()) ∧ ((!d5) = false → Fn P zS2 Al (x, ()) (fun (d7 : Bool) (e8 : Unit) => ((d7 = true → K (1 : Int) ()) ∧ (d7 = false → J1 (0 : Int))))))))))))) (fun d2 => K (0 : Int) ())
theorem NM {P : Pg} (h : Has P E8) {x : DP A8.ps} {K : DP A8.rs → DP (ptrs A8.ps) → Prop} (hw : Jy P x K) : Fn P zS0 A8 x K :=
 CB (c := Hg) h rfl rfl (by kernel_rfl) (Eq.mpr (show Cu P E8 A8 Hg x K = _ by kernel_rfl) hw)
def Gs : Bw :=
 (.seq (.region [o1 0 (.asg kF)]) (.seq (.region [o1 4 (.build [(.string ⟨#[]⟩), (.string ⟨#[]⟩)] [(0, 1, (.c (.string ⟨#[97]⟩)))]), o1 5 (.build [(.string ⟨#[]⟩), (.string ⟨#[]⟩)]
 [(0, 1, (.c (.string ⟨#[97, 45, 98]⟩)))]), o1 6 (.build [(.string ⟨#[]⟩), (.string ⟨#[]⟩)] [(0, 1, (.c (.string ⟨#[97, 47, 99]⟩)))]), oT ⟨some 7, .buildSl 2 [(.string ⟨#[]⟩),
 (.string ⟨#[]⟩)] 3 [(0, 4), (1, 5), (2, 6)], none⟩ (some ((.pair .str .str), .leaf)), ia 1 7]) (.seq (.region [o1 9 (.build [(.string ⟨#[]⟩), (.string ⟨#[]⟩)] [(0, 1, (.c (.string
 ⟨#[97]⟩))), (1, 1, (.c (.string ⟨#[120]⟩)))]), oT ⟨some 10, .buildSl 2 [(.string ⟨#[]⟩), (.string ⟨#[]⟩)] 1 [(0, 9)], none⟩ (some ((.pair .str .str), .leaf)), oS ⟨some 11, .call
 zS6 [10, (.c (.string ⟨#[97]⟩))], none⟩ CA, im 8 11, o1 12 (.ext 8 0), o1 13 (.ext 8 1), ia 2 12, ia 3 13]) (.seq (.region [im 14 1, oS ⟨some 15, .call
 zS0 [14], none⟩ A8, o1 16 (.bin .eql 15 (kI 211)), im 17 16, gt 18 17 (.mv 1), gt 19 17 (.slK 2 18 none (some (kI 2))), oS ⟨some 20, .call
 zS0 [19], some (17, true)⟩ A8, gt 21 17 (.bin .eql 20 (kI 0)), o1 22 (.pick 17 21 kF), im 23 22, gt 24 23 (.mv 3), o1 25 (.pick 23 24 kF), im 26 25, gt
 27 26 (.mv 2), o0 ⟨some 28, .bin .eql 27 (.c (.string ⟨#[120]⟩)), some (26, true)⟩, o1 29 (.pick 26 28 kF), im 30 29, oS ⟨some 31, .call zS3 [(.c (.string
 ⟨#[97, 47, 47, 98]⟩))], some (30, true)⟩ Bm, gt 32 30 (.bin .eql 31 (kI 210)), o1 33 (.pick 30 32 kF), im 34 33, oS ⟨some 35, .call zS3 [(.c
 (.string ⟨#[97, 47, 98]⟩))], some (34, true)⟩ Bm, gt 36 34 (.bin .eql 35 (kI 0)), o1 37 (.pick 34 36 kF), ia 0 37]) .ret))))
def EA : AFn := ⟨ zS7, Gs.erase, [.tmp 0], 0⟩
def IA (P : Pg) (x : Unit) (K : Bool → Unit → Prop) : Prop :=
 Fn P zS6 CA (([(([97] : List UInt8), ([120] : List UInt8))] : List ((List UInt8) × (List UInt8))), ([97] : List UInt8)) (fun (d1 : ((List UInt8) × Bool)) (e2 : Unit) => Fn P zS0 A8 ([(([97] : List UInt8), ([] : List UInt8)), (([97, 45, 98] : List UInt8), ([] : List UInt8)), (([97, 47, 99] : List UInt8), ([] : List UInt8))] : List ((List UInt8) × (List UInt8))) (fun (d3 : Int) (e4 : Unit) => (((d3 == (211 : Int)) = true → 0 ≤ (2 : Int) ∧ (2 : Int) ≤ ((List.length ([(([97] : List UInt8), ([] : List UInt8)), (([97, 45, 98] : List UInt8), ([] : List UInt8)), (([97, 47, 99] : List UInt8), ([] : List UInt8))] : List ((List UInt8) × (List UInt8))) : Nat) : Int))) ∧
 Ar (D := Int) (fun J5 => (((0 + (Int.toNat (2 : Int)) ≤ List.length ([(([97] : List UInt8), ([] : List UInt8)), (([97, 45, 98] : List UInt8), ([] : List UInt8)), (([97, 47, 99] : List UInt8), ([] : List UInt8))] : List ((List UInt8) × (List UInt8)))) ∧
 ((d3 == (211 : Int)) = true → Fn P zS0 A8 (List.take (Int.toNat (2 : Int)) (List.drop 0 ([(([97] : List UInt8), ([] : List UInt8)), (([97, 45, 98] : List UInt8), ([] : List UInt8)), (([97, 47, 99] : List UInt8), ([] : List UInt8))] : List ((List UInt8) × (List UInt8))))) (fun (d6 : Int) _ => J5 d6))) ∧ (((d3 == (211 : Int)) = false → J5 (0 : Int)) ∧ True))) (fun d7 => Ar (D := Int) (fun J8 => (((cond (cond (cond (d3 == (211 : Int)) (d7 == (0 : Int)) false) d1.2 false) (d1.1 == ([120] : List UInt8)) false) = true → Fn P zS3 Bm ([97, 47, 47, 98] : List UInt8) (fun (d9 : Int) _ => J8 d9)) ∧ (((cond (cond (cond (d3 == (211 : Int)) (d7 == (0 : Int)) false) d1.2 false) (d1.1 == ([120] : List UInt8)) false) = false → J8 (0 : Int)) ∧ True))) (fun d10 => Ar (D := Int) (fun J11 => (((cond (cond (cond (cond (d3 == (211 : Int)) (d7 == (0 : Int)) false) d1.2 false) (d1.1 == ([120] : List UInt8)) false) (d10 == (210 : Int)) false) = true → Fn P zS3 Bm ([97, 47, 98] : List UInt8) (fun (d12 : Int) _ => J11 d12)) ∧ (((cond (cond (cond (cond (d3 == (211 : Int)) (d7 == (0 : Int)) false) d1.2 false) (d1.1 == ([120] : List UInt8)) false) (d10 == (210 : Int)) false) = false → J11 (0 : Int)) ∧ True))) (fun d13 => K (cond (cond (cond (cond (cond (d3 == (211 : Int)) (d7 == (0 : Int)) false) d1.2 false) (d1.1 == ([120] : List UInt8)) false) (d10 == (210 : Int)) false) (d13 == (0 : Int)) false) ())))))
theorem Mu {P : Pg} (h : Has P EA) {x : DP Bp.ps} {K : DP Bp.rs → DP (ptrs Bp.ps) → Prop} (hw : IA P x K) : Fn P zS7 Bp x K :=
 CB (c := Gs) h rfl rfl (by kernel_rfl) (Eq.mpr (show Cu P EA Bp Gs x K = _ by kernel_rfl) hw)
def Zb : Bw :=
 (.seq (.region [o1 2 (.asg kF)]) (.seq (.region [ia 3 (kI 200)]) (.seq (.region [ia 4 (kI 0)]) (.seq (.seq (.region [im 9 0]) (.frame [3, 4, 10, 11] [] false (.join [.si 3, .si 4]
 (.cond 9 (.seq (.region [im 10 3, o1 11 (.bin .add 10 (kI 1)), ia 3 11]) (.region [ia 4 (kI 1)])) .skip)))) (.seq (.region [o1 5 (.asg (.c (.slice none 0 0)))]) (.seq (.seq
 (.region [ia 6 (kI 0)]) (.frame (rg [5, 6] 12 24) [] false (.join [.sl 5 false (.sl (.pair .str .str)) tO] (.block 0 (.loop [.sl 5 false (.sl (.pair .str .str)) tO, .si 6] (.seq
 (.seq (.region [im 12 6, im 13 3, o1 14 (.bin .lss 12 13)]) (.cond 14 .skip (.exit 0))) (.seq (.frame (rg [5] 17 19) [] false (.join [.sl 5 false (.sl (.pair .str .str)) tO]
 (.block 1 (.region [im 17 5, im 18 6, o1 19 (.bin .quo 18 (kI 100)), o1 20 (.bin .add (kI 48) 19), o1 21 (.conv (.toInt .u8) 20), im 22 6, o1 23 (.bin .quo 22 (kI 10)), o1 24 (.bin
 .rem 23 (kI 10)), o1 25 (.bin .add (kI 48) 24), o1 26 (.conv (.toInt .u8) 25), im 27 6, o1 28 (.bin .rem 27 (kI 10)), o1 29 (.bin .add (kI 48) 28), o1 30 (.conv (.toInt .u8) 29),
 oT ⟨some 31, .buildSl 1 [(.int .u8 0)] 4 [(0, (.c (.int .u8 102))), (1, 21), (2, 26), (3, 30)], none⟩ (some ((.int .u8), .leaf)), o1 32 (.conv .bytesToStr 31), o1 33 (.build
 [(.string ⟨#[]⟩), (.string ⟨#[]⟩)] [(0, 1, 32)]), oT ⟨some 34, .buildSl 2 [(.string ⟨#[]⟩), (.string ⟨#[]⟩)] 1 [(0, 33)], none⟩ (some ((.pair .str .str), .leaf)), oT ⟨some 35, .app
 2 32 17 34, none⟩ (some ((.pair .str .str), .leaf)), ia 5 35])))) (.region [im 15 6, o1 16 (.bin .add 15 (kI 1)), ia 6 16])))))))) (.seq (.region [im 37 5, oS ⟨some 38, .call
 "mergelens/tree.Diff" [(.c (.slice none 0 0)), 37], none⟩ EP, im 36 38, o1 39 (.ext 36 0), o1 40 (.ext 36 1), ia 7 39, ia 8 40]) (.seq (.region [im 41 5, oS ⟨some 42,
 .call zS0 [41], none⟩ A8, im 43 4, o1 44 (.bin .eql 42 43), im 45 44, gt 46 45 (.mv 8), gt 47 45 (.mv 4), gt 48 45 (.bin .eql 46 47), o1 49 (.pick 45
 48 kF), im 50 49, oS ⟨some 51, .call zS7 [], some (50, true)⟩ Bp, o1 52 (.pick 50 51 kF), ia 2 52]) .ret))))))))
def Za : AFn := ⟨ RA, Zb.erase, [.tmp 2], 1⟩
def Zc (P : Pg) (x : Bool) (K : Bool → Unit → Prop) : Prop :=
 Ar (D := (Int × Int)) (fun J1 => ((x = true → J1 ((i64.wrap ((200 : Int) + (1 : Int))), (1 : Int))) ∧ (x = false → J1 ((200 : Int), (0 : Int))))) (fun d2 => Ar (D := (List ((List UInt8) × (List UInt8)))) (fun J3 => BU (D := ((List ((List UInt8) × (List UInt8))) × Int)) ([], (0 : Int)) (fun d5 J6 => (((decide (d5.2 < d2.1)) = true → Ar (D := (List ((List UInt8) × (List UInt8)))) (fun J7 => ((100 : Int) ≠ 0) ∧
 ((10 : Int) ≠ 0) ∧
 ((10 : Int) ≠ 0) ∧
 ((10 : Int) ≠ 0) ∧
 ((d5.1.length + List.length ([((strOf ([(102 : Int), (u8.wrap (i64.wrap ((48 : Int) + (i64.wrap (Int.tdiv d5.2 (100 : Int)))))), (u8.wrap (i64.wrap ((48 : Int) + (Int.tmod (i64.wrap (Int.tdiv d5.2 (10 : Int))) (10 : Int))))), (u8.wrap (i64.wrap ((48 : Int) + (Int.tmod d5.2 (10 : Int)))))] : List Int)), ([] : List UInt8))] : List ((List UInt8) × (List UInt8)))) * 32 ≤ 140737488355328) ∧
 J7 (d5.1 ++ ([((strOf ([(102 : Int), (u8.wrap (i64.wrap ((48 : Int) + (i64.wrap (Int.tdiv d5.2 (100 : Int)))))), (u8.wrap (i64.wrap ((48 : Int) + (Int.tmod (i64.wrap (Int.tdiv d5.2 (10 : Int))) (10 : Int))))), (u8.wrap (i64.wrap ((48 : Int) + (Int.tmod d5.2 (10 : Int)))))] : List Int)), ([] : List UInt8))] : List ((List UInt8) × (List UInt8))))) (fun d8 => J6 (d8, (i64.wrap (d5.2 + (1 : Int)))))) ∧ ((decide (d5.2 < d2.1)) = false → J3 d5.1)))) (fun d4 => Fn P "mergelens/tree.Diff" EP ([], d4) (fun (d9 : ((List ((List UInt8) × Int)) × Int)) (e10 : Unit) => Fn P zS0 A8 d4 (fun (d11 : Int) (e12 : Unit) => Ar (D := Bool) (fun J13 => (((cond (d11 == d2.2) (d9.2 == d2.2) false) = true → Fn P zS7 Bp () (fun (d14 : Bool) _ => J13 d14)) ∧ (((cond (d11 == d2.2) (d9.2 == d2.2) false) = false → J13 false) ∧ True))) (fun d15 => K (cond (cond (d11 == d2.2) (d9.2 == d2.2) false) d15 false) ())))))
theorem Zf {P : Pg} (h : Has P Za) {x : DP Y9.ps} {K : DP Y9.rs → DP (ptrs Y9.ps) → Prop} (hw : Zc P x K) : Fn P RA Y9 x K :=
 CB (c := Zb) h rfl rfl (by kernel_rfl) (Eq.mpr (show Cu P Za Y9 Zb x K = _ by kernel_rfl) hw)
def H4 : Bw :=
 (.seq (.region [ia 4 (kI 0)]) (.seq (.seq (.region [im 6 0, oS ⟨some 7, .call zS0 [6], none⟩ A8, ia 5 7]) (.seq (.region [im 8 5, o1 9 (.bin .neq 8 (kI
 0))]) (.cond 9 (.seq (.region [im 10 5, ia 4 10]) .ret) .skip))) (.seq (.region [im 11 1, oS ⟨some 12, .call zS0 [11], none⟩ A8, ia 4 12]) .ret)))
def F8 : AFn := ⟨ "mergelens/tree.both", H4.erase, [.tmp 4], 2⟩
def Ll (P : Pg) (x : ((List ((List UInt8) × (List UInt8))) × (List ((List UInt8) × (List UInt8))))) (K : Int → Unit → Prop) : Prop :=
 Fn P zS0 A8 x.1 (fun (d1 : Int) (e2 : Unit) => (((d1 != (0 : Int)) = true → K d1 ()) ∧ ((d1 != (0 : Int)) = false → Fn P zS0 A8 x.2 (fun (d3 : Int) (e4 : Unit) => K d3 ()))))
theorem Pk {P : Pg} (h : Has P F8) {x : DP Dn.ps} {K : DP Dn.rs → DP (ptrs Dn.ps) → Prop} (hw : Ll P x K) : Fn P "mergelens/tree.both" Dn x K :=
 CB (c := H4) h rfl rfl (by kernel_rfl) (Eq.mpr (show Cu P F8 Dn H4 x K = _ by kernel_rfl) hw)
end Go.VS
