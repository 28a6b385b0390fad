/- Functions of the program: typed code, and what it says, lifted. -/
import Derived.Test.YtbpbcfiodckhjaaDoorKTxSig
import Derived.KernelRfl
set_option linter.unusedVariables false
set_option linter.unusedSimpArgs false
set_option maxRecDepth 8000
namespace Go.VS
open IntKind
def H3 : Bw :=
 (.seq (.region [o1 4 (.asg (.c (.string ⟨#[]⟩))), o1 5 (.asg kF)]) (.seq (.seq (.region [im 8 0, o1 9 (.lenK 8), o1 10 (.mv (kI 0))]) (.frame (rg [4, 5, 7] 10 11) [1007] false
 (.join [.sl 4 false .str .leaf, .sl 5 false .bool .leaf] (.block 0 (.loop [.sl 4 false .str .leaf, .sl 5 false .bool .leaf, .si 10] (.seq (.region [o1 11 (.bin .lss 10 9)]) (.seq
 (.cond 11 .skip (.exit 0)) (.seq (.frame (rg [4, 5, 7] 12 8) [1007] false (.join [.sl 4 false .str .leaf, .sl 5 false .bool .leaf] (.block 1 (.seq (.region [o1 12 (.ixA 2 8 10), o1
 13 (.load true 2 12), o1 7 (.alloc [(.string ⟨#[]⟩), (.string ⟨#[]⟩)]), o0 ⟨none, .store 2 7 13, none⟩]) (.seq (.region [fa 14 0 7, ld 15 14, im 16 1, o1 17 (.bin .eql 15 16)])
 (.cond 17 (.seq (.region [fa 18 1 7, ld 19 18, ia 4 19, o1 5 (.asg kT)]) .ret) .skip)))))) (.region [o1 20 (.bin .add 10 (kI 1)), im 10 20]))))))))) (.seq (.region [o1 4 (.asg (.c
 (.string ⟨#[]⟩))), o1 5 (.asg kF)]) .ret)))
def F7 : AFn := ⟨ UL, H3.erase, [.tmp 4, .tmp 5], 2⟩
def Lk (P : Pg) (x : ((List ((List UInt8) × (List UInt8))) × (List UInt8))) (K : ((List UInt8) × Bool) → Unit → Prop) : Prop :=
 Ar (D := ((List UInt8) × Bool)) (fun J1 => BU (D := ((List UInt8) × (Bool × Int))) (([] : List UInt8), (false, (0 : Int))) (fun d3 J4 => (((decide (d3.2.2 < (x.1.length : Int))) = true → Ar (D := ((List UInt8) × Bool)) (fun J5 => (0 ≤ d3.2.2 ∧ d3.2.2 < (x.1.length : Int)) ∧
 (d3.2.2.toNat < x.1.length) ∧
 ((((List.getD x.1 d3.2.2.toNat ([], [])).1 == x.2) = true → K ((List.getD x.1 d3.2.2.toNat ([], [])).2, true) ()) ∧ (((List.getD x.1 d3.2.2.toNat ([], [])).1 == x.2) = false → J5 (d3.1, d3.2.1)))) (fun d6 => J4 (d6.1, (d6.2, (i64.wrap (d3.2.2 + (1 : Int))))))) ∧ ((decide (d3.2.2 < (x.1.length : Int))) = false → J1 (d3.1, d3.2.1))))) (fun d2 => K (([] : List UInt8), false) ())
theorem Pj {P : Pg} (h : Has P F7) {x : DP CA.ps} {K : DP CA.rs → DP (ptrs CA.ps) → Prop} (hw : Lk P x K) : Fn P UL CA x K :=
 CB (c := H3) h rfl rfl (by kernel_rfl) (Eq.mpr (show Cu P F7 CA H3 x K = _ by kernel_rfl) hw)
def FQ : Bw :=
 (.seq (.region [o1 1 (.box 0), o1 2 (.asg kF)]) (.seq (.region [fa 3 0 1, ld 4 3, oS ⟨some 5, .call zS7 [4], none⟩ Bm, o1 6 (.bin .neq 5 (kI
 0)), ia 2 6]) .ret))
def DZ : AFn := ⟨ V0, FQ.erase, [.tmp 2], 1⟩
def Hw (P : Pg) (x : ((List UInt8) × (List UInt8))) (K : Bool → Unit → Prop) : Prop :=
 Fn P zS7 Bm x.1 (fun (d1 : Int) (e2 : Unit) => K (d1 != (0 : Int)) ())
theorem LH {P : Pg} (h : Has P DZ) {x : DP BZ.ps} {K : DP BZ.rs → DP (ptrs BZ.ps) → Prop} (hw : Hw P x K) : Fn P V0 BZ x K :=
 CB (c := FQ) h rfl rfl (by kernel_rfl) (Eq.mpr (show Cu P DZ BZ FQ x K = _ by kernel_rfl) hw)
def AX : Bw :=
 (.seq (.region [ia 4 (kI 0)]) (.seq (.seq (.region [im 6 0, o1 7 (.lenK 6), o1 8 (.mv (kI 0))]) (.frame (rg [4, 5] 8 11) [] false (.join [.si 4] (.block 0 (.loop [.si 4, .si 8]
 (.seq (.region [o1 9 (.bin .lss 8 7)]) (.seq (.cond 9 .skip (.exit 0)) (.seq (.frame (rg [4, 5] 10 8) [] false (.join [.si 4] (.block 1 (.seq (.region [im 10 8, ia 5 10]) (.seq
 (.region [im 11 1, im 12 0, im 13 5, o1 14 (.ixA 2 12 13), o1 15 (.load true 2 14), oS ⟨some 16, .callv 11 [15], none⟩ BZ]) (.cond 16 (.seq (.region [im 17 5, ia 4 17])
 .ret) .skip)))))) (.region [o1 18 (.bin .add 8 (kI 1)), im 8 18]))))))))) (.seq (.region [ia 4 (kI (-1))]) .ret)))
def AH : AFn := ⟨ zS4, AX.erase, [.tmp 4], 2⟩
def Bf (P : Pg) (x : ((List ((List UInt8) × (List UInt8))) × Unit)) (K : Int → Unit → Prop) : Prop :=
 Ar (D := Int) (fun J1 => BU (D := (Int × Int)) ((0 : Int), (0 : Int)) (fun d3 J4 => (((decide (d3.2 < (x.1.length : Int))) = true → Ar (D := Int) (fun J5 => (0 ≤ d3.2 ∧ d3.2 < (x.1.length : Int)) ∧
 (d3.2.toNat < x.1.length) ∧
 Fn P V0 BZ (List.getD x.1 d3.2.toNat ([], [])) (fun (d7 : Bool) (e8 : Unit) => ((d7 = true → K d3.2 ()) ∧ (d7 = false → J5 d3.1)))) (fun d6 => J4 (d6, (i64.wrap (d3.2 + (1 : Int)))))) ∧ ((decide (d3.2 < (x.1.length : Int))) = false → J1 d3.1)))) (fun d2 => K (-1 : Int) ())
theorem Cj {P : Pg} (h : Has P AH) {x : DP Am.ps} {K : DP Am.rs → DP (ptrs Am.ps) → Prop} (hw : Bf P x K) : Fn P zS4 Am x K :=
 CB (c := AX) h rfl rfl (by kernel_rfl) (Eq.mpr (show Cu P AH Am AX x K = _ by kernel_rfl) hw)
def AQ : Bw :=
 (.seq (.region [o1 4 (.asg kF)]) (.seq (.region [im 5 0, im 6 1, oS ⟨some 7, .call zS4 [5, 6], none⟩
 Am, o1 8 (.bin .geq 7 (kI 0)), ia 4 8]) .ret))
def AE : AFn := ⟨ zS5, AQ.erase, [.tmp 4], 2⟩
def Ba (P : Pg) (x : ((List ((List UInt8) × (List UInt8))) × Unit)) (K : Bool → Unit → Prop) : Prop :=
 Fn P zS4 Am (x.1, ()) (fun (d1 : Int) (e2 : Unit) => K (decide (d1 ≥ (0 : Int))) ())
theorem B7 {P : Pg} (h : Has P AE) {x : DP Ak.ps} {K : DP Ak.rs → DP (ptrs Ak.ps) → Prop} (hw : Ba P x K) : Fn P zS5 Ak x K :=
 CB (c := AQ) h rfl rfl (by kernel_rfl) (Eq.mpr (show Cu P AE Ak AQ x K = _ by kernel_rfl) hw)
def Hf : Bw :=
 (.seq (.region [o1 2 (.asg kF)]) (.seq (.region [im 3 0, oS ⟨some 4, .call "strings.HasSuffix" [3, (.c (.string ⟨#[10]⟩))], none⟩ S_strings_HasSuffix, ia 2 4]) .ret))
def E7 : AFn := ⟨ V2, Hf.erase, [.tmp 2], 1⟩
def Jw (P : Pg) (x : (List UInt8)) (K : Bool → Unit → Prop) : Prop :=
 Fn P "strings.HasSuffix" S_strings_HasSuffix (x, ([10] : List UInt8)) (fun (d1 : Bool) (e2 : Unit) => K d1 ())
theorem NL {P : Pg} (h : Has P E7) {x : DP Cz.ps} {K : DP Cz.rs → DP (ptrs Cz.ps) → Prop} (hw : Jw P x K) : Fn P V2 Cz x K :=
 CB (c := Hf) h rfl rfl (by kernel_rfl) (Eq.mpr (show Cu P E7 Cz Hf x K = _ by kernel_rfl) hw)
def He : Bw :=
 (.seq (.region [ia 2 (kI 0)]) (.seq (.region [im 4 0, oS ⟨some 5, .call "strings.Count" [4, (.c (.string ⟨#[10]⟩))], none⟩ C6, ia 3 5]) (.seq (.seq (.region [im 6 0,
 o1 7 (.bin .neq 6 (.c (.string ⟨#[]⟩))), im 8 7, gt 9 8 (.mv 0), oS ⟨some 10, .call V2 [9], some (8, true)⟩ Cz, gt 11 8 (.un .not 10), o1 12 (.pick 8
 11 kF)]) (.frame [3, 13, 14] [] false (.join [.si 3] (.cond 12 (.region [im 13 3, o1 14 (.bin .add 13 (kI 1)), ia 3 14]) .skip)))) (.seq (.seq (.region [im 15 0, o1 16 (.lenS 15),
 o1 17 (.bin .gtr 16 (kI 1048576)), im 18 17, gf 19 18 (.mv 3), gf 20 18 (.bin .gtr 19 (kI 4096)), o1 21 (.pick 18 kT 20)]) (.cond 21 (.seq (.region [ia 2 (kI 1)]) .ret) .skip))
 (.seq (.region [ia 2 (kI 0)]) .ret)))))
def E6 : AFn := ⟨ V4, He.erase, [.tmp 2], 1⟩
def Jv (P : Pg) (x : (List UInt8)) (K : Int → Unit → Prop) : Prop :=
 Fn P "strings.Count" C6 (x, ([10] : List UInt8)) (fun (d1 : Int) (e2 : Unit) => Ar (D := Bool) (fun J3 => (((!(x == ([] : List UInt8))) = true → Fn P V2 Cz x (fun (d4 : Bool) _ => J3 d4)) ∧ (((!(x == ([] : List UInt8))) = false → J3 false) ∧ True))) (fun d5 => Ar (D := Int) (fun J6 => (((cond (!(x == ([] : List UInt8))) (!d5) false) = true → J6 (i64.wrap (d1 + (1 : Int)))) ∧ ((cond (!(x == ([] : List UInt8))) (!d5) false) = false → J6 d1))) (fun d7 => (((cond (decide ((x.length : Int) > (1048576 : Int))) true (decide (d7 > (4096 : Int)))) = true → K (1 : Int) ()) ∧ ((cond (decide ((x.length : Int) > (1048576 : Int))) true (decide (d7 > (4096 : Int)))) = false → K (0 : Int) ())))))
theorem NK {P : Pg} (h : Has P E6) {x : DP Cy.ps} {K : DP Cy.rs → DP (ptrs Cy.ps) → Prop} (hw : Jv P x K) : Fn P V4 Cy x K :=
 CB (c := He) h rfl rfl (by kernel_rfl) (Eq.mpr (show Cu P E6 Cy He x K = _ by kernel_rfl) hw)
def FR : Bw :=
 (.seq (.region [o1 1 (.box 0), o1 2 (.asg kF)]) (.seq (.region [fa 3 1 1, ld 4 3, oS ⟨some 5, .call V4 [4], none⟩ Cy, o1 6 (.bin .neq 5 (kI 0)), ia 2
 6]) .ret))
def D0 : AFn := ⟨ V1, FR.erase, [.tmp 2], 1⟩
def Hx (P : Pg) (x : ((List UInt8) × (List UInt8))) (K : Bool → Unit → Prop) : Prop :=
 Fn P V4 Cy x.2 (fun (d1 : Int) (e2 : Unit) => K (d1 != (0 : Int)) ())
theorem LJ {P : Pg} (h : Has P D0) {x : DP B0.ps} {K : DP B0.rs → DP (ptrs B0.ps) → Prop} (hw : Hx P x K) : Fn P V1 B0 x K :=
 CB (c := FR) h rfl rfl (by kernel_rfl) (Eq.mpr (show Cu P D0 B0 FR x K = _ by kernel_rfl) hw)
def AY : Bw :=
 (.seq (.region [ia 4 (kI 0)]) (.seq (.seq (.region [im 6 0, o1 7 (.lenK 6), o1 8 (.mv (kI 0))]) (.frame (rg [4, 5] 8 11) [] false (.join [.si 4] (.block 0 (.loop [.si 4, .si 8]
 (.seq (.region [o1 9 (.bin .lss 8 7)]) (.seq (.cond 9 .skip (.exit 0)) (.seq (.frame (rg [4, 5] 10 8) [] false (.join [.si 4] (.block 1 (.seq (.region [im 10 8, ia 5 10]) (.seq
 (.region [im 11 1, im 12 0, im 13 5, o1 14 (.ixA 2 12 13), o1 15 (.load true 2 14), oS ⟨some 16, .callv 11 [15], none⟩ B0]) (.cond 16 (.seq (.region [im 17 5, ia 4 17])
 .ret) .skip)))))) (.region [o1 18 (.bin .add 8 (kI 1)), im 8 18]))))))))) (.seq (.region [ia 4 (kI (-1))]) .ret)))
def AJ : AFn := ⟨ zS4, AY.erase, [.tmp 4], 2⟩
def Bg (P : Pg) (x : ((List ((List UInt8) × (List UInt8))) × Unit)) (K : Int → Unit → Prop) : Prop :=
 Ar (D := Int) (fun J1 => BU (D := (Int × Int)) ((0 : Int), (0 : Int)) (fun d3 J4 => (((decide (d3.2 < (x.1.length : Int))) = true → Ar (D := Int) (fun J5 => (0 ≤ d3.2 ∧ d3.2 < (x.1.length : Int)) ∧
 (d3.2.toNat < x.1.length) ∧
 Fn P V1 B0 (List.getD x.1 d3.2.toNat ([], [])) (fun (d7 : Bool) (e8 : Unit) => ((d7 = true → K d3.2 ()) ∧ (d7 = false → J5 d3.1)))) (fun d6 => J4 (d6, (i64.wrap (d3.2 + (1 : Int)))))) ∧ ((decide (d3.2 < (x.1.length : Int))) = false → J1 d3.1)))) (fun d2 => K (-1 : Int) ())
theorem Ck {P : Pg} (h : Has P AJ) {x : DP Ao.ps} {K : DP Ao.rs → DP (ptrs Ao.ps) → Prop} (hw : Bg P x K) : Fn P zS4 Ao x K :=
 CB (c := AY) h rfl rfl (by kernel_rfl) (Eq.mpr (show Cu P AJ Ao AY x K = _ by kernel_rfl) hw)
def AR : Bw :=
 (.seq (.region [o1 4 (.asg kF)]) (.seq (.region [im 5 0, im 6 1, oS ⟨some 7, .call zS4 [5, 6], none⟩
 Ao, o1 8 (.bin .geq 7 (kI 0)), ia 4 8]) .ret))
def AF : AFn := ⟨ zS5, AR.erase, [.tmp 4], 2⟩
def Bb (P : Pg) (x : ((List ((List UInt8) × (List UInt8))) × Unit)) (K : Bool → Unit → Prop) : Prop :=
 Fn P zS4 Ao (x.1, ()) (fun (d1 : Int) (e2 : Unit) => K (decide (d1 ≥ (0 : Int))) ())
theorem B8 {P : Pg} (h : Has P AF) {x : DP Al.ps} {K : DP Al.rs → DP (ptrs Al.ps) → Prop} (hw : Bb P x K) : Fn P zS5 Al x K :=
 CB (c := AR) h rfl rfl (by kernel_rfl) (Eq.mpr (show Cu P AF Al AR x K = _ by kernel_rfl) hw)
def Hg : Bw :=
 (.seq (.region [ia 2 (kI 0)]) (.seq (.frame (rg [] 2 15) [] false (.join [.si 2] (.block 0 (.seq (.region [im 4 0, o1 5 (.lenK 4), o1 6 (.bin .gtr 5 (kI 200)), ia 3 6]) (.cond 3
 (.seq (.region [ia 2 (kI 1)]) .ret) (.seq (.region [im 8 0, oS ⟨some 9, .call zS5 [8, (.f V0)],
 none⟩ Ak, ia 7 9]) (.cond 7 (.seq (.region [ia 2 (kI 210)]) .ret) (.seq (.region [im 11 0, oS ⟨some 12, .call
 "mergelens/tree.ordered" [11], none⟩ D2, o1 13 (.un .not 12), ia 10 13]) (.cond 10 (.seq (.region [ia 2 (kI 211)]) .ret) (.seq (.region [im 15 0, oS ⟨some 16, .call
 zS5 [15, (.f V1)], none⟩ Al, ia 14 16]) (.cond
 14 (.seq (.region [ia 2 (kI 1)]) .ret) .skip))))))))))) (.seq (.region [ia 2 (kI 0)]) .ret)))
def E8 : AFn := ⟨ zS2, Hg.erase, [.tmp 2], 1⟩
def Jy (P : Pg) (x : (List ((List UInt8) × (List UInt8)))) (K : Int → Unit → Prop) : Prop :=
 Ar (D := Int) (fun J1 => (((decide ((x.length : Int) > (200 : Int))) = true → K (1 : Int) ()) ∧ ((decide ((x.length : Int) > (200 : Int))) = false → Fn P zS5 Ak (x, ()) (fun (d3 : Bool) (e4 : Unit) => ((d3 = true → K (210 : Int) ()) ∧ (d3 = false → Fn P "mergelens/tree.ordered" D2 x (fun (d5 : Bool) (e6 : Unit) => (((!d5) = true → K (211 : Int) ()) ∧ ((!d5) = false → Fn P zS5 Al (x, ()) (fun (d7 : Bool) (e8 : Unit) => ((d7 = true → K (1 : Int) ()) ∧ (d7 = false → J1 (0 : Int))))))))))))) (fun d2 => K (0 : Int) ())
theorem NM {P : Pg} (h : Has P E8) {x : DP A8.ps} {K : DP A8.rs → DP (ptrs A8.ps) → Prop} (hw : Jy P x K) : Fn P zS2 A8 x K :=
 CB (c := Hg) h rfl rfl (by kernel_rfl) (Eq.mpr (show Cu P E8 A8 Hg x K = _ by kernel_rfl) hw)
def Gs : Bw :=
 (.seq (.region [o1 0 (.asg kF)]) (.seq (.region [o1 4 (.build [(.string ⟨#[]⟩), (.string ⟨#[]⟩)] [(0, 1, (.c (.string ⟨#[97]⟩)))]), o1 5 (.build [(.string ⟨#[]⟩), (.string ⟨#[]⟩)]
 [(0, 1, (.c (.string ⟨#[97, 45, 98]⟩)))]), o1 6 (.build [(.string ⟨#[]⟩), (.string ⟨#[]⟩)] [(0, 1, (.c (.string ⟨#[97, 47, 99]⟩)))]), oT ⟨some 7, .buildSl 2 [(.string ⟨#[]⟩),
 (.string ⟨#[]⟩)] 3 [(0, 4), (1, 5), (2, 6)], none⟩ (some ((.pair .str .str), .leaf)), ia 1 7]) (.seq (.region [o1 9 (.build [(.string ⟨#[]⟩), (.string ⟨#[]⟩)] [(0, 1, (.c (.string
 ⟨#[97]⟩))), (1, 1, (.c (.string ⟨#[120]⟩)))]), oT ⟨some 10, .buildSl 2 [(.string ⟨#[]⟩), (.string ⟨#[]⟩)] 1 [(0, 9)], none⟩ (some ((.pair .str .str), .leaf)), oS ⟨some 11, .call
 UL [10, (.c (.string ⟨#[97]⟩))], none⟩ CA, im 8 11, o1 12 (.ext 8 0), o1 13 (.ext 8 1), ia 2 12, ia 3 13]) (.seq (.region [im 14 1, oS ⟨some 15, .call
 zS2 [14], none⟩ A8, o1 16 (.bin .eql 15 (kI 211)), im 17 16, gt 18 17 (.mv 1), gt 19 17 (.slK 2 18 none (some (kI 2))), oS ⟨some 20, .call
 zS2 [19], some (17, true)⟩ A8, gt 21 17 (.bin .eql 20 (kI 0)), o1 22 (.pick 17 21 kF), im 23 22, gt 24 23 (.mv 3), o1 25 (.pick 23 24 kF), im 26 25, gt
 27 26 (.mv 2), o0 ⟨some 28, .bin .eql 27 (.c (.string ⟨#[120]⟩)), some (26, true)⟩, o1 29 (.pick 26 28 kF), im 30 29, oS ⟨some 31, .call zS7 [(.c (.string
 ⟨#[97, 47, 47, 98]⟩))], some (30, true)⟩ Bm, gt 32 30 (.bin .eql 31 (kI 210)), o1 33 (.pick 30 32 kF), im 34 33, oS ⟨some 35, .call zS7 [(.c
 (.string ⟨#[97, 47, 98]⟩))], some (34, true)⟩ Bm, gt 36 34 (.bin .eql 35 (kI 0)), o1 37 (.pick 34 36 kF), ia 0 37]) .ret))))
def EA : AFn := ⟨ zS8, Gs.erase, [.tmp 0], 0⟩
def IA (P : Pg) (x : Unit) (K : Bool → Unit → Prop) : Prop :=
 Fn P UL CA (([(([97] : List UInt8), ([120] : List UInt8))] : List ((List UInt8) × (List UInt8))), ([97] : List UInt8)) (fun (d1 : ((List UInt8) × Bool)) (e2 : Unit) => Fn P zS2 A8 ([(([97] : List UInt8), ([] : List UInt8)), (([97, 45, 98] : List UInt8), ([] : List UInt8)), (([97, 47, 99] : List UInt8), ([] : List UInt8))] : List ((List UInt8) × (List UInt8))) (fun (d3 : Int) (e4 : Unit) => (((d3 == (211 : Int)) = true → 0 ≤ (2 : Int) ∧ (2 : Int) ≤ ((List.length ([(([97] : List UInt8), ([] : List UInt8)), (([97, 45, 98] : List UInt8), ([] : List UInt8)), (([97, 47, 99] : List UInt8), ([] : List UInt8))] : List ((List UInt8) × (List UInt8))) : Nat) : Int))) ∧
 Ar (D := Int) (fun J5 => (((0 + (Int.toNat (2 : Int)) ≤ List.length ([(([97] : List UInt8), ([] : List UInt8)), (([97, 45, 98] : List UInt8), ([] : List UInt8)), (([97, 47, 99] : List UInt8), ([] : List UInt8))] : List ((List UInt8) × (List UInt8)))) ∧
 ((d3 == (211 : Int)) = true → Fn P zS2 A8 (List.take (Int.toNat (2 : Int)) (List.drop 0 ([(([97] : List UInt8), ([] : List UInt8)), (([97, 45, 98] : List UInt8), ([] : List UInt8)), (([97, 47, 99] : List UInt8), ([] : List UInt8))] : List ((List UInt8) × (List UInt8))))) (fun (d6 : Int) _ => J5 d6))) ∧ (((d3 == (211 : Int)) = false → J5 (0 : Int)) ∧ True))) (fun d7 => Ar (D := Int) (fun J8 => (((cond (cond (cond (d3 == (211 : Int)) (d7 == (0 : Int)) false) d1.2 false) (d1.1 == ([120] : List UInt8)) false) = true → Fn P zS7 Bm ([97, 47, 47, 98] : List UInt8) (fun (d9 : Int) _ => J8 d9)) ∧ (((cond (cond (cond (d3 == (211 : Int)) (d7 == (0 : Int)) false) d1.2 false) (d1.1 == ([120] : List UInt8)) false) = false → J8 (0 : Int)) ∧ True))) (fun d10 => Ar (D := Int) (fun J11 => (((cond (cond (cond (cond (d3 == (211 : Int)) (d7 == (0 : Int)) false) d1.2 false) (d1.1 == ([120] : List UInt8)) false) (d10 == (210 : Int)) false) = true → Fn P zS7 Bm ([97, 47, 98] : List UInt8) (fun (d12 : Int) _ => J11 d12)) ∧ (((cond (cond (cond (cond (d3 == (211 : Int)) (d7 == (0 : Int)) false) d1.2 false) (d1.1 == ([120] : List UInt8)) false) (d10 == (210 : Int)) false) = false → J11 (0 : Int)) ∧ True))) (fun d13 => K (cond (cond (cond (cond (cond (d3 == (211 : Int)) (d7 == (0 : Int)) false) d1.2 false) (d1.1 == ([120] : List UInt8)) false) (d10 == (210 : Int)) false) (d13 == (0 : Int)) false) ())))))
theorem Mu {P : Pg} (h : Has P EA) {x : DP Bp.ps} {K : DP Bp.rs → DP (ptrs Bp.ps) → Prop} (hw : IA P x K) : Fn P zS8 Bp x K :=
 CB (c := Gs) h rfl rfl (by kernel_rfl) (Eq.mpr (show Cu P EA Bp Gs x K = _ by kernel_rfl) hw)
def Ld : Bw :=
 (.seq (.region [ia 4 (kI 0)]) (.seq (.region [im 5 0, o1 6 (.conv (.toInt .u64) 5), im 7 1, o1 8 (.conv (.toInt .u64) 7), o1 9 (.bin .rem 6 8), o1 10 (.conv (.toInt .i64) 9), ia 4
 10]) .ret))
def H9 : AFn := ⟨ zS1, Ld.erase, [.tmp 4], 2⟩
def N7 (P : Pg) (x : (Int × Int)) (K : Int → Unit → Prop) : Prop :=
 ((u64.wrap x.2) ≠ 0) ∧
 K (i64.wrap (Int.tmod (u64.wrap x.1) (u64.wrap x.2))) ()
theorem Sb {P : Pg} (h : Has P H9) {x : DP Ci.ps} {K : DP Ci.rs → DP (ptrs Ci.ps) → Prop} (hw : N7 P x K) : Fn P zS1 Ci x K :=
 CB (c := Ld) h rfl rfl (by kernel_rfl) (Eq.mpr (show Cu P H9 Ci Ld x K = _ by kernel_rfl) hw)
def Jm : Bw :=
 (.seq (.region [o1 2 (.asg (.c (.string ⟨#[]⟩)))]) (.seq (.region [oT ⟨some 3, .buildSl 1 [(.string ⟨#[]⟩)] 10 [(0, (.c (.string ⟨#[97]⟩))), (1, (.c (.string ⟨#[98]⟩))), (2, (.c
 (.string ⟨#[99]⟩))), (3, (.c (.string ⟨#[97, 98]⟩))), (4, (.c (.string ⟨#[98, 97]⟩))), (5, (.c (.string ⟨#[]⟩))), (6, (.c (.string ⟨#[97, 97]⟩))), (7, (.c (.string ⟨#[98, 32,
 97]⟩))), (8, (.c (.string ⟨#[120, 43, 121]⟩))), (9, (.c (.string ⟨#[92]⟩)))], none⟩ (some (.str, .leaf)), im 4 0, oS ⟨some 5, .call zS1 [4, (kI 10)], none⟩
 Ci, o1 6 (.ixA 1 3 5), ld 7 6, ia 2 7]) .ret))
def GV : AFn := ⟨ V5, Jm.erase, [.tmp 2], 1⟩
abbrev HT : List (List UInt8) := ([([97] : List UInt8), ([98] : List UInt8), ([99] : List UInt8), ([97, 98] : List UInt8), ([98, 97] : List UInt8), ([] : List UInt8), ([97, 97] : List UInt8), ([98, 32, 97] : List UInt8), ([120, 43, 121] : List UInt8), ([92] : List UInt8)] : List (List UInt8))
def Ma (P : Pg) (x : Int) (K : (List UInt8) → Unit → Prop) : Prop :=
 Fn P zS1 Ci (x, (10 : Int)) (fun (d1 : Int) (e2 : Unit) => (0 ≤ d1 ∧ d1 < ((List.length HT : Nat) : Int)) ∧
 (d1.toNat < List.length HT) ∧
 K (List.getD HT d1.toNat []) ())
theorem Qn {P : Pg} (h : Has P GV) {x : DP Dm.ps} {K : DP Dm.rs → DP (ptrs Dm.ps) → Prop} (hw : Ma P x K) : Fn P V5 Dm x K :=
 CB (c := Jm) h rfl rfl (by kernel_rfl) (Eq.mpr (show Cu P GV Dm Jm x K = _ by kernel_rfl) hw)
def Nw : Bw :=
 (.seq (.region [ia 4 (kI 0)]) (.seq (.region [im 6 1, o1 7 (.bin .add 6 (kI 1)), o1 8 (.conv (.toInt .u64) 7), o1 9 (.bin .mul 8 (.c (.int .u64 11400714819323198485))), ia 5 9])
 (.seq (.seq (.region [im 10 0, o1 11 (.lenK 10), o1 12 (.bin .gtr 11 (kI 0))]) (.frame (rg [5] 13 10) [] false (.join [.sl 5 false (.int .u64) .leaf] (.cond 12 (.region [im 13 5,
 im 14 0, im 15 1, im 16 0, o1 17 (.lenK 16), o1 18 (.bin .rem 15 17), o1 19 (.ixA 1 14 18), ld 20 19, o1 21 (.conv (.toInt .u64) 20), o1 22 (.bin .xor 13 21), ia 5 22]) .skip))))
 (.seq (.region [im 23 5, im 24 5, o1 25 (.bin .shr 24 (.c (.int .u64 31))), o1 26 (.bin .xor 23 25), o1 27 (.bin .mul 26 (.c (.int .u64 13787848793156543929))), ia 5 27]) (.seq
 (.region [im 28 5, im 29 5, o1 30 (.bin .shr 29 (.c (.int .u64 29))), o1 31 (.bin .xor 28 30), o1 32 (.bin .shr 31 (.c (.int .u64 1))), o1 33 (.conv (.toInt .i64) 32), ia 4 33])
 .ret)))))
def Jr : AFn := ⟨ zS3, Nw.erase, [.tmp 4], 2⟩
def P1 (P : Pg) (x : ((List Int) × Int)) (K : Int → Unit → Prop) : Prop :=
 Ar (D := Int) (fun J1 => (((decide ((x.1.length : Int) > (0 : Int))) = true → ((x.1.length : Int) ≠ 0) ∧
 (0 ≤ (Int.tmod x.2 (x.1.length : Int)) ∧ (Int.tmod x.2 (x.1.length : Int)) < (x.1.length : Int)) ∧
 ((Int.toNat (Int.tmod x.2 (x.1.length : Int))) < x.1.length) ∧
 J1 (u64.wrap ((BitVec.toNat (BitVec.ofInt u64.bits (u64.wrap ((u64.wrap (i64.wrap (x.2 + (1 : Int)))) * (11400714819323198485 : Int))) ^^^ BitVec.ofInt u64.bits (u64.wrap (List.getD x.1 (Int.toNat (Int.tmod x.2 (x.1.length : Int))) (0 : Int)))) : Nat) : Int))) ∧ ((decide ((x.1.length : Int) > (0 : Int))) = false → J1 (u64.wrap ((u64.wrap (i64.wrap (x.2 + (1 : Int)))) * (11400714819323198485 : Int)))))) (fun d2 => (0 ≤ (31 : Int)) ∧
 (0 ≤ (29 : Int)) ∧
 (0 ≤ (1 : Int)) ∧
 K (i64.wrap (Int.fdiv (u64.wrap ((BitVec.toNat (BitVec.ofInt u64.bits (u64.wrap ((u64.wrap ((BitVec.toNat (BitVec.ofInt u64.bits d2 ^^^ BitVec.ofInt u64.bits (Int.fdiv d2 (2 ^ (min (Int.toNat (31 : Int)) u64.bits)))) : Nat) : Int)) * (13787848793156543929 : Int))) ^^^ BitVec.ofInt u64.bits (Int.fdiv (u64.wrap ((u64.wrap ((BitVec.toNat (BitVec.ofInt u64.bits d2 ^^^ BitVec.ofInt u64.bits (Int.fdiv d2 (2 ^ (min (Int.toNat (31 : Int)) u64.bits)))) : Nat) : Int)) * (13787848793156543929 : Int))) (2 ^ (min (Int.toNat (29 : Int)) u64.bits)))) : Nat) : Int)) (2 ^ (min (Int.toNat (1 : Int)) u64.bits)))) ())
theorem T9 {P : Pg} (h : Has P Jr) {x : DP Cm.ps} {K : DP Cm.rs → DP (ptrs Cm.ps) → Prop} (hw : P1 P x K) : Fn P zS3 Cm x K :=
 CB (c := Nw) h rfl rfl (by kernel_rfl) (Eq.mpr (show Cu P Jr Cm Nw x K = _ by kernel_rfl) hw)
def Jl : Bw :=
 (.seq (.region [o1 8 (.asg (.c (.string ⟨#[]⟩)))]) (.seq (.region [im 11 0, im 12 1, oS ⟨some 13, .call zS3 [11, 12], none⟩ Cm, im 14 2, o1 15 (.bin
 .add 14 (kI 1)), oS ⟨some 16, .call zS1 [13, 15], none⟩ Ci, ia 2 16]) (.seq (.region [o1 9 (.asg (.c (.string ⟨#[]⟩)))]) (.seq (.seq (.region [ia 10
 (kI 0)]) (.frame (rg [9, 10] 17 17) [] false (.join [.sl 9 false .str .leaf] (.block 0 (.loop [.sl 9 false .str .leaf, .si 10] (.seq (.seq (.region [im 17 10, im 18 2, o1 19 (.bin
 .lss 17 18)]) (.cond 19 .skip (.exit 0))) (.seq (.frame (rg [9] 22 12) [] false (.join [.sl 9 false .str .leaf] (.block 1 (.region [im 22 9, im 23 0, im 24 1, o1 25 (.bin .add 24
 (kI 1)), im 26 10, o1 27 (.bin .add 25 26), oS ⟨some 28, .call zS3 [23, 27], none⟩ Cm, im 29 3, oS ⟨some 30, .call zS1 [28,
 29], none⟩ Ci, oS ⟨some 31, .call V5 [30], none⟩ Dm, o1 32 (.bin .add 22 31), o1 33 (.bin .add 32 (.c (.string ⟨#[10]⟩))), ia 9 33]))))
 (.region [im 20 10, o1 21 (.bin .add 20 (kI 1)), ia 10 21])))))))) (.seq (.seq (.region [im 34 0, im 35 1, o1 36 (.bin .add 35 (kI 90)), oS ⟨some 37, .call
 zS3 [34, 36], none⟩ Cm, o1 38 (.bin .rem 37 (kI 4)), o1 39 (.bin .eql 38 (kI 0)), im 40 39, gt 41 40 (.mv 9), gt 42 40 (.lenS 41), gt 43 40 (.bin .gtr
 42 (kI 1)), o1 44 (.pick 40 43 kF), im 45 44, gt 46 45 (.mv 9), gt 47 45 (.mv 9), gt 48 45 (.lenS 47), gt 49 45 (.bin .sub 48 (kI 2)), gt 50 45 (.ixS 46 49), gt 51 45 (.bin .neq 50
 (.c (.int .u8 10))), o1 52 (.pick 45 51 kF)]) (.frame (rg [9] 53 5) [] false (.join [.sl 9 false .str .leaf] (.cond 52 (.region [im 53 9, im 54 9, o1 55 (.lenS 54), o1 56 (.bin
 .sub 55 (kI 1)), o1 57 (.slS 53 none (some 56)), ia 9 57]) .skip)))) (.seq (.region [im 58 9, ia 8 58]) .ret))))))
def GU : AFn := ⟨ zS9, Jl.erase, [.tmp 8], 4⟩
def L9 (P : Pg) (x : ((List Int) × (Int × (Int × Int)))) (K : (List UInt8) → Unit → Prop) : Prop :=
 Fn P zS3 Cm (x.1, x.2.1) (fun (d1 : Int) (e2 : Unit) => Fn P zS1 Ci (d1, (i64.wrap (x.2.2.1 + (1 : Int)))) (fun (d3 : Int) (e4 : Unit) => Ar (D := (List UInt8)) (fun J5 => BU (D := ((List UInt8) × Int)) (([] : List UInt8), (0 : Int)) (fun d7 J8 => (((decide (d7.2 < d3)) = true → Ar (D := (List UInt8)) (fun J9 => Fn P zS3 Cm (x.1, (i64.wrap ((i64.wrap (x.2.1 + (1 : Int))) + d7.2))) (fun (d11 : Int) (e12 : Unit) => Fn P zS1 Ci (d11, x.2.2.2) (fun (d13 : Int) (e14 : Unit) => Fn P V5 Dm d13 (fun (d15 : (List UInt8)) (e16 : Unit) => (d7.1.length + d15.length ≤ 9223372036854775807) ∧
 (List.length (d7.1 ++ d15) + List.length ([10] : List UInt8) ≤ 9223372036854775807) ∧
 J9 ((d7.1 ++ d15) ++ ([10] : List UInt8)))))) (fun d10 => J8 (d10, (i64.wrap (d7.2 + (1 : Int)))))) ∧ ((decide (d7.2 < d3)) = false → J5 d7.1)))) (fun d6 => Fn P zS3 Cm (x.1, (i64.wrap (x.2.1 + (90 : Int)))) (fun (d17 : Int) (e18 : Unit) => ((4 : Int) ≠ 0) ∧
 (((cond ((Int.tmod d17 (4 : Int)) == (0 : Int)) (decide ((d6.length : Int) > (1 : Int))) false) = true → 0 ≤ (i64.wrap ((d6.length : Int) - (2 : Int))) ∧ (i64.wrap ((d6.length : Int) - (2 : Int))) < (d6.length : Int))) ∧
 Ar (D := (List UInt8)) (fun J19 => (((cond (cond ((Int.tmod d17 (4 : Int)) == (0 : Int)) (decide ((d6.length : Int) > (1 : Int))) false) (((UInt8.toNat (List.getD d6 (Int.toNat (i64.wrap ((d6.length : Int) - (2 : Int)))) 0) : Nat) : Int) != (10 : Int)) false) = true → (0 ≤ (i64.wrap ((d6.length : Int) - (1 : Int))) ∧ (i64.wrap ((d6.length : Int) - (1 : Int))) ≤ (d6.length : Int)) ∧
 J19 (List.take (Int.toNat (i64.wrap ((d6.length : Int) - (1 : Int)))) d6)) ∧ ((cond (cond ((Int.tmod d17 (4 : Int)) == (0 : Int)) (decide ((d6.length : Int) > (1 : Int))) false) (((UInt8.toNat (List.getD d6 (Int.toNat (i64.wrap ((d6.length : Int) - (2 : Int)))) 0) : Nat) : Int) != (10 : Int)) false) = false → J19 d6))) (fun d20 => K d20 ())))))
theorem Qm {P : Pg} (h : Has P GU) {x : DP Cn.ps} {K : DP Cn.rs → DP (ptrs Cn.ps) → Prop} (hw : L9 P x K) : Fn P zS9 Cn x K :=
 CB (c := Jl) h rfl rfl (by kernel_rfl) (Eq.mpr (show Cu P GU Cn Jl x K = _ by kernel_rfl) hw)
def HZ : Bw :=
 (.seq (.region [o1 6 (.asg (.c (.slice none 0 0)))]) (.seq (.region [oT ⟨some 10, .buildSl 1 [(.string ⟨#[]⟩)] 4 [(0, (.c (.string ⟨#[97]⟩))), (1, (.c (.string ⟨#[98, 47, 120]⟩))),
 (2, (.c (.string ⟨#[98, 47, 121]⟩))), (3, (.c (.string ⟨#[99, 32, 100]⟩)))], none⟩ (some (.str, .leaf)), ia 7 10]) (.seq (.region [o1 8 (.asg (.c (.slice none 0 0)))]) (.seq (.seq
 (.region [ia 9 (kI 0)]) (.frame (rg [8, 9] 11 27) [] false (.join [.sl 8 false (.sl (.pair .str .str)) tO] (.block 0 (.loop [.sl 8 false (.sl (.pair .str .str)) tO, .si 9] (.seq
 (.seq (.region [im 11 9, o1 12 (.bin .lss 11 (kI 4))]) (.cond 12 .skip (.exit 0))) (.seq (.frame (rg [8] 15 23) [] false (.join [.sl 8 false (.sl (.pair .str .str)) tO] (.block 1
 (.seq (.region [im 15 0, im 16 1, im 17 9, o1 18 (.bin .add 16 17), oS ⟨some 19, .call zS3 [15, 18], none⟩ Cm, o1 20 (.bin .rem 19 (kI 3)), o1 21
 (.bin .gtr 20 (kI 0))]) (.frame (rg [8] 22 16) [] false (.join [.sl 8 false (.sl (.pair .str .str)) tO] (.cond 21 (.frame (rg [8] 22 16) [] false (.join [.sl 8 false (.sl (.pair
 .str .str)) tO] (.draw [(.first (im 22 8) (.first (im 23 7) (.first (im 24 9) (.first (o1 25 (.ixA 1 23 24)) (.first (im 27 0) (.first (im 28 1) (.first (o1 29 (.bin .add 28 (kI
 10))) (.first (im 30 9) (.first (o1 31 (.bin .mul (kI 20) 30)) (.first (o1 32 (.bin .add 29 31)) (.first (im 33 2) (.alt (ld 26 25) (.alt (oS ⟨some 34, .call
 zS9 [27, 32, 33, (kI 4)], none⟩ Cn) (.first (o1 35 (.build [(.string ⟨#[]⟩), (.string ⟨#[]⟩)] [(0, 1, 26), (1, 1, 34)])) (.alt (oT ⟨some 36,
 .buildSl 2 [(.string ⟨#[]⟩), (.string ⟨#[]⟩)] 1 [(0, 35)], none⟩ (some ((.pair .str .str), .leaf))) (.alt (oT ⟨some 37, .app 2 32 22 36, none⟩ (some ((.pair .str .str), .leaf)))
 (.alt (ia 8 37) .done .stop) .stop) .stop)) .stop) (.alt (oS ⟨some 34, .call zS9 [27, 32, 33, (kI 4)], none⟩ Cn) (.first (ld 26 25) (.first (o1 35
 (.build [(.string ⟨#[]⟩), (.string ⟨#[]⟩)] [(0, 1, 26), (1, 1, 34)])) (.alt (oT ⟨some 36, .buildSl 2 [(.string ⟨#[]⟩), (.string ⟨#[]⟩)] 1 [(0, 35)], none⟩ (some ((.pair .str .str),
 .leaf))) (.alt (oT ⟨some 37, .app 2 32 22 36, none⟩ (some ((.pair .str .str), .leaf))) (.alt (ia 8 37) .done .stop) .stop) .stop))) .stop)))))))))))))]))) .skip))))))) (.region [im
 13 9, o1 14 (.bin .add 13 (kI 1)), ia 9 14])))))))) (.seq (.region [im 38 8, ia 6 38]) .ret)))))
def F6 : AFn := ⟨ RA, HZ.erase, [.tmp 6], 3⟩
abbrev C4 : List (List UInt8) := ([([97] : List UInt8), ([98, 47, 120] : List UInt8), ([98, 47, 121] : List UInt8), ([99, 32, 100] : List UInt8)] : List (List UInt8))
def Lj (P : Pg) (x : ((List Int) × (Int × Int))) (K : (List ((List UInt8) × (List UInt8))) → Unit → Prop) : Prop :=
 Ar (D := (List ((List UInt8) × (List UInt8)))) (fun J1 => BU (D := ((List ((List UInt8) × (List UInt8))) × Int)) ([], (0 : Int)) (fun d3 J4 => (((decide (d3.2 < (4 : Int))) = true → Ar (D := (List ((List UInt8) × (List UInt8)))) (fun J5 => Fn P zS3 Cm (x.1, (i64.wrap (x.2.1 + d3.2))) (fun (d7 : Int) (e8 : Unit) => ((3 : Int) ≠ 0) ∧
 Ar (D := (List ((List UInt8) × (List UInt8)))) (fun J9 => (((decide ((Int.tmod d7 (3 : Int)) > (0 : Int))) = true → Ar (D := (List ((List UInt8) × (List UInt8)))) (fun J11 => (0 ≤ d3.2 ∧ d3.2 < ((List.length C4 : Nat) : Int)) ∧
 ((d3.2.toNat < List.length C4) ∧
 (Fn P zS9 Cn (x.1, ((i64.wrap ((i64.wrap (x.2.1 + (10 : Int))) + (i64.wrap ((20 : Int) * d3.2)))), (x.2.2, (4 : Int)))) (fun (d13 : (List UInt8)) (e14 : Unit) => ((((d3.1.length + List.length ([((List.getD C4 d3.2.toNat []), d13)] : List ((List UInt8) × (List UInt8)))) * 32 ≤ 140737488355328) ∧
 (J11 (d3.1 ++ ([((List.getD C4 d3.2.toNat []), d13)] : List ((List UInt8) × (List UInt8))))) ∧ True) ∧ True) ∧ True)) ∧ True) ∧ ((Fn P zS9 Cn (x.1, ((i64.wrap ((i64.wrap (x.2.1 + (10 : Int))) + (i64.wrap ((20 : Int) * d3.2)))), (x.2.2, (4 : Int)))) (fun (d15 : (List UInt8)) (e16 : Unit) => (d3.2.toNat < List.length C4) ∧
 ((((d3.1.length + List.length ([((List.getD C4 d3.2.toNat []), d15)] : List ((List UInt8) × (List UInt8)))) * 32 ≤ 140737488355328) ∧
 (J11 (d3.1 ++ ([((List.getD C4 d3.2.toNat []), d15)] : List ((List UInt8) × (List UInt8))))) ∧ True) ∧ True) ∧ True)) ∧ True)) (fun d12 => J9 d12)) ∧ ((decide ((Int.tmod d7 (3 : Int)) > (0 : Int))) = false → J9 d3.1))) (fun d10 => J5 d10))) (fun d6 => J4 (d6, (i64.wrap (d3.2 + (1 : Int)))))) ∧ ((decide (d3.2 < (4 : Int))) = false → J1 d3.1)))) (fun d2 => K d2 ())
theorem Ph {P : Pg} (h : Has P F6) {x : DP BV.ps} {K : DP BV.rs → DP (ptrs BV.ps) → Prop} (hw : Lj P x K) : Fn P RA BV x K :=
 CB (c := HZ) h rfl rfl (by kernel_rfl) (Eq.mpr (show Cu P F6 BV HZ x K = _ by kernel_rfl) hw)
def Hd : Bw :=
 (.seq (.region [o1 4 (.asg (.c (.string ⟨#[]⟩))), o1 5 (.asg kF)]) (.seq (.seq (.region [ia 6 (kI 0)]) (.frame (rg [] 4 21) [] false (.join [.sl 4 false .str .leaf, .sl 5 false
 .bool .leaf] (.block 0 (.loop [.sl 4 false .str .leaf, .sl 5 false .bool .leaf, .si 6] (.seq (.seq (.region [im 7 6, im 8 0, o1 9 (.lenK 8), o1 10 (.bin .lss 7 9)]) (.cond 10 .skip
 (.exit 0))) (.seq (.frame (rg [4, 5] 13 12) [] false (.join [.sl 4 false .str .leaf, .sl 5 false .bool .leaf] (.block 1 (.seq (.region [im 13 0, im 14 6, o1 15 (.ixA 2 13 14), fa
 16 0 15, ld 17 16, im 18 1, o1 19 (.bin .eql 17 18)]) (.cond 19 (.seq (.region [im 20 0, im 21 6, o1 22 (.ixA 2 20 21), fa 23 1 22, ld 24 23, ia 4 24, o1 5 (.asg kT)]) .ret)
 .skip))))) (.region [im 11 6, o1 12 (.bin .add 11 (kI 1)), ia 6 12])))))))) (.seq (.region [o1 4 (.asg (.c (.string ⟨#[]⟩))), o1 5 (.asg kF)]) .ret)))
def E5 : AFn := ⟨ zS0, Hd.erase, [.tmp 4, .tmp 5], 2⟩
def Ju (P : Pg) (x : ((List ((List UInt8) × (List UInt8))) × (List UInt8))) (K : ((List UInt8) × Bool) → Unit → Prop) : Prop :=
 Ar (D := ((List UInt8) × Bool)) (fun J1 => BU (D := ((List UInt8) × (Bool × Int))) (([] : List UInt8), (false, (0 : Int))) (fun d3 J4 => (((decide (d3.2.2 < (x.1.length : Int))) = true → Ar (D := ((List UInt8) × Bool)) (fun J5 => (0 ≤ d3.2.2 ∧ d3.2.2 < (x.1.length : Int)) ∧
 (d3.2.2.toNat < x.1.length) ∧
 ((((List.getD x.1 d3.2.2.toNat ([], [])).1 == x.2) = true → (0 ≤ d3.2.2 ∧ d3.2.2 < (x.1.length : Int)) ∧
 (d3.2.2.toNat < x.1.length) ∧
 K ((List.getD x.1 d3.2.2.toNat ([], [])).2, true) ()) ∧ (((List.getD x.1 d3.2.2.toNat ([], [])).1 == x.2) = false → J5 (d3.1, d3.2.1)))) (fun d6 => J4 (d6.1, (d6.2, (i64.wrap (d3.2.2 + (1 : Int))))))) ∧ ((decide (d3.2.2 < (x.1.length : Int))) = false → J1 (d3.1, d3.2.1))))) (fun d2 => K (([] : List UInt8), false) ())
theorem NJ {P : Pg} (h : Has P E5) {x : DP BE.ps} {K : DP BE.rs → DP (ptrs BE.ps) → Prop} (hw : Ju P x K) : Fn P zS0 BE x K :=
 CB (c := Hd) h rfl rfl (by kernel_rfl) (Eq.mpr (show Cu P E5 BE Hd x K = _ by kernel_rfl) hw)
def Gy : Bw :=
 (.seq (.region [o1 4 (.asg (.c (.slice none 0 0)))]) (.seq (.region [o1 5 (.asg (.c (.slice none 0 0)))]) (.seq (.region [ia 6 (kI 0), ia 7 (kI 0)]) (.seq (.frame (rg [] 5 87) []
 false (.join [.sl 5 false (.sl .str) tO] (.block 0 (.loop [.sl 5 false (.sl .str) tO, .si 6, .si 7] (.seq (.seq (.region [im 8 6, im 9 0, o1 10 (.lenK 9), o1 11 (.bin .lss 8 10),
 im 12 11, gf 13 12 (.mv 7), gf 14 12 (.mv 1), gf 15 12 (.lenK 14), gf 16 12 (.bin .lss 13 15), o1 17 (.pick 12 kT 16)]) (.cond 17 .skip (.exit 0))) (.frame (rg [5, 6, 7] 18 74) []
 false (.join [.sl 5 false (.sl .str) tO, .si 6, .si 7] (.block 1 (.frame (rg [5, 6, 7] 18 74) [] false (.join [.sl 5 false (.sl .str) tO, .si 6, .si 7] (.block 2 (.seq (.frame (rg
 [] 30 24) [] false (.join [.sl 30 false .bool .leaf] (.draw [(.first (im 31 7) (.first (im 32 1) (.first (o1 33 (.lenK 32)) (.first (o1 34 (.bin .eql 31 33)) (.first (im 35 34)
 (.first (gf 36 35 (.mv 6)) (.first (gf 37 35 (.mv 0)) (.first (gf 38 35 (.lenK 37)) (.first (gf 39 35 (.bin .lss 36 38)) (.first (gf 40 35 (.mv 39)) (.first (gt 41 40 (.mv 0))
 (.first (gt 42 40 (.mv 6)) (.first (gt 43 40 (.ixA 2 41 42)) (.first (gt 44 40 (.fAddr 0 43)) (.first (gt 45 40 (.load false 1 44)) (.first (gt 46 40 (.mv 1)) (.first (gt 47 40
 (.mv 7)) (.first (gt 48 40 (.ixA 2 46 47)) (.first (gt 49 40 (.fAddr 0 48)) (.first (gt 50 40 (.load false 1 49)) (.first (gt 51 40 (.bin .lss 45 50)) (.first (gf 52 35 (.pick 40
 51 kF)) (.first (o1 53 (.pick 35 kT 52)) (.alt (ia 30 53) .done .stop))))))))))))))))))))))))]))) (.frame (rg [5, 6, 7, 18, 19, 20, 21, 22, 23, 24, 25, 26, 27, 28, 29] 54 38) []
 false (.join [.sl 5 false (.sl .str) tO, .si 6, .si 7] (.cond 30 (.seq (.region [im 54 5, im 55 0, im 56 6, o1 57 (.ixA 2 55 56), fa 58 0 57, ld 59 58, oT ⟨some 60, .buildSl 1
 [(.string ⟨#[]⟩)] 1 [(0, 59)], none⟩ (some (.str, .leaf)), oT ⟨some 61, .app 1 16 54 60, none⟩ (some (.str, .leaf)), ia 5 61]) (.region [im 62 6, o1 63 (.bin .add 62 (kI 1)), ia 6
 63])) (.seq (.frame (rg [] 64 18) [] false (.join [.sl 64 false .bool .leaf] (.draw [(.first (im 65 6) (.first (im 66 0) (.first (o1 67 (.lenK 66)) (.first (o1 68 (.bin .eql 65
 67)) (.first (im 69 68) (.first (gf 70 69 (.mv 1)) (.first (gf 71 69 (.mv 7)) (.first (gf 72 69 (.ixA 2 70 71)) (.first (gf 73 69 (.fAddr 0 72)) (.first (gf 74 69 (.load false 1
 73)) (.first (gf 75 69 (.mv 0)) (.first (gf 76 69 (.mv 6)) (.first (gf 77 69 (.ixA 2 75 76)) (.first (gf 78 69 (.fAddr 0 77)) (.first (gf 79 69 (.load false 1 78)) (.first (gf 80
 69 (.bin .lss 74 79)) (.first (o1 81 (.pick 69 kT 80)) (.alt (ia 64 81) .done .stop))))))))))))))))))]))) (.frame (rg [5, 6, 7, 18, 19, 20, 21, 22, 23, 24, 25, 26, 27, 28, 29] 82
 10) [] false (.join [.sl 5 false (.sl .str) tO, .si 6, .si 7] (.cond 64 (.seq (.region [im 82 5, im 83 1, im 84 7, o1 85 (.ixA 2 83 84), fa 86 0 85, ld 87 86, oT ⟨some 88, .buildSl
 1 [(.string ⟨#[]⟩)] 1 [(0, 87)], none⟩ (some (.str, .leaf)), oT ⟨some 89, .app 1 16 82 88, none⟩ (some (.str, .leaf)), ia 5 89]) (.region [im 90 7, o1 91 (.bin .add 90 (kI 1)), ia
 7 91])) (.seq (.region [im 18 5, im 19 0, im 20 6, o1 21 (.ixA 2 19 20), fa 22 0 21, ld 23 22, oT ⟨some 24, .buildSl 1 [(.string ⟨#[]⟩)] 1 [(0, 23)], none⟩ (some (.str, .leaf)), oT
 ⟨some 25, .app 1 16 18 24, none⟩ (some (.str, .leaf)), ia 5 25]) (.region [im 26 6, o1 27 (.bin .add 26 (kI 1)), im 28 7, o1 29 (.bin .add 28 (kI 1)), ia 6 27, ia 7
 29]))))))))))))))))))))) (.seq (.region [im 92 5, ia 4 92]) .ret)))))
def EG : AFn := ⟨ SZ, Gy.erase, [.tmp 4], 2⟩
def IH (P : Pg) (x : ((List ((List UInt8) × (List UInt8))) × (List ((List UInt8) × (List UInt8))))) (K : (List (List UInt8)) → Unit → Prop) : Prop :=
 Ar (D := (List (List UInt8))) (fun J1 => BU (D := ((List (List UInt8)) × (Int × Int))) ([], ((0 : Int), (0 : Int))) (fun d3 J4 => (((cond (decide (d3.2.1 < (x.1.length : Int))) true (decide (d3.2.2 < (x.2.length : Int)))) = true → Ar (D := ((List (List UInt8)) × (Int × Int))) (fun J5 => Ar (D := ((List (List UInt8)) × (Int × Int))) (fun J7 => Ar (D := Bool) (fun J9 => (((decide (d3.2.1 < (x.1.length : Int))) = true → ((d3.2.2 == (x.2.length : Int)) = false → 0 ≤ d3.2.1 ∧ d3.2.1 < (x.1.length : Int)))) ∧
 (((decide (d3.2.1 < (x.1.length : Int))) = true → ((d3.2.2 == (x.2.length : Int)) = false → d3.2.1.toNat < x.1.length))) ∧
 (((decide (d3.2.1 < (x.1.length : Int))) = true → ((d3.2.2 == (x.2.length : Int)) = false → 0 ≤ d3.2.2 ∧ d3.2.2 < (x.2.length : Int)))) ∧
 (((decide (d3.2.1 < (x.1.length : Int))) = true → ((d3.2.2 == (x.2.length : Int)) = false → d3.2.2.toNat < x.2.length))) ∧
 (J9 (cond (d3.2.2 == (x.2.length : Int)) true (cond (decide (d3.2.1 < (x.1.length : Int))) (Op.bytesLess (List.getD x.1 d3.2.1.toNat ([], [])).1 (List.getD x.2 d3.2.2.toNat ([], [])).1) false))) ∧ True) (fun d10 => Ar (D := ((List (List UInt8)) × (Int × Int))) (fun J11 => ((d10 = true → (0 ≤ d3.2.1 ∧ d3.2.1 < (x.1.length : Int)) ∧
 (d3.2.1.toNat < x.1.length) ∧
 ((d3.1.length + List.length ([(List.getD x.1 d3.2.1.toNat ([], [])).1] : List (List UInt8))) * 16 ≤ 140737488355328) ∧
 J11 ((d3.1 ++ ([(List.getD x.1 d3.2.1.toNat ([], [])).1] : List (List UInt8))), ((i64.wrap (d3.2.1 + (1 : Int))), d3.2.2))) ∧ (d10 = false → Ar (D := Bool) (fun J13 => (((d3.2.1 == (x.1.length : Int)) = false → 0 ≤ d3.2.2 ∧ d3.2.2 < (x.2.length : Int))) ∧
 (((d3.2.1 == (x.1.length : Int)) = false → d3.2.2.toNat < x.2.length)) ∧
 (((d3.2.1 == (x.1.length : Int)) = false → 0 ≤ d3.2.1 ∧ d3.2.1 < (x.1.length : Int))) ∧
 (((d3.2.1 == (x.1.length : Int)) = false → d3.2.1.toNat < x.1.length)) ∧
 (J13 (cond (d3.2.1 == (x.1.length : Int)) true (Op.bytesLess (List.getD x.2 d3.2.2.toNat ([], [])).1 (List.getD x.1 d3.2.1.toNat ([], [])).1))) ∧ True) (fun d14 => Ar (D := ((List (List UInt8)) × (Int × Int))) (fun J15 => ((d14 = true → (0 ≤ d3.2.2 ∧ d3.2.2 < (x.2.length : Int)) ∧
 (d3.2.2.toNat < x.2.length) ∧
 ((d3.1.length + List.length ([(List.getD x.2 d3.2.2.toNat ([], [])).1] : List (List UInt8))) * 16 ≤ 140737488355328) ∧
 J15 ((d3.1 ++ ([(List.getD x.2 d3.2.2.toNat ([], [])).1] : List (List UInt8))), (d3.2.1, (i64.wrap (d3.2.2 + (1 : Int)))))) ∧ (d14 = false → (0 ≤ d3.2.1 ∧ d3.2.1 < (x.1.length : Int)) ∧
 (d3.2.1.toNat < x.1.length) ∧
 ((d3.1.length + List.length ([(List.getD x.1 d3.2.1.toNat ([], [])).1] : List (List UInt8))) * 16 ≤ 140737488355328) ∧
 J15 ((d3.1 ++ ([(List.getD x.1 d3.2.1.toNat ([], [])).1] : List (List UInt8))), ((i64.wrap (d3.2.1 + (1 : Int))), (i64.wrap (d3.2.2 + (1 : Int)))))))) (fun d16 => J11 d16))))) (fun d12 => J7 d12))) (fun d8 => J5 d8)) (fun d6 => J4 d6)) ∧ ((cond (decide (d3.2.1 < (x.1.length : Int))) true (decide (d3.2.2 < (x.2.length : Int)))) = false → J1 d3.1)))) (fun d2 => K d2 ())
theorem MA {P : Pg} (h : Has P EG) {x : DP Cf.ps} {K : DP Cf.rs → DP (ptrs Cf.ps) → Prop} (hw : IH P x K) : Fn P SZ Cf x K :=
 CB (c := Gy) h rfl rfl (by kernel_rfl) (Eq.mpr (show Cu P EG Cf Gy x K = _ by kernel_rfl) hw)
def FP : Bw :=
 (.seq (.region [o1 4 (.asg (.c (.slice none 0 0)))]) (.seq (.region [o1 5 (.asg (.c (.slice none 0 0)))]) (.seq (.region [im 12 0, im 13 1, oS ⟨some 14, .call
 SZ [12, 13], none⟩ Cf, ia 6 14]) (.seq (.seq (.region [ia 7 (kI 0)]) (.frame (rg [5, 7, 8, 9, 10, 11] 15 58) [] false (.join [.sl 5 false
 (.sl (.pair .str bI)) tO] (.block 0 (.loop [.sl 5 false (.sl (.pair .str bI)) tO, .si 7] (.seq (.seq (.region [im 15 7, im 16 6, o1 17 (.lenK 16), o1 18 (.bin .lss 15 17)]) (.cond
 18 .skip (.exit 0))) (.seq (.frame (rg [5, 8, 9, 10, 11] 21 52) [] false (.join [.sl 5 false (.sl (.pair .str bI)) tO] (.block 1 (.seq (.region [im 22 0, im 23 6, im 24 7, o1 25
 (.ixA 1 23 24), ld 26 25, oS ⟨some 27, .call zS0 [22, 26], none⟩ BE, im 21 27, o1 28 (.ext 21 0), o1 29 (.ext 21 1), ia 8 28, ia 9 29]) (.seq
 (.region [im 31 1, im 32 6, im 33 7, o1 34 (.ixA 1 32 33), ld 35 34, oS ⟨some 36, .call zS0 [31, 35], none⟩ BE, im 30 36, o1 37 (.ext 30 0),
 o1 38 (.ext 30 1), ia 10 37, ia 11 38]) (.frame (rg [5] 39 34) [] false (.join [.sl 5 false (.sl (.pair .str bI)) tO] (.block 2 (.seq (.region [im 40 9, o1 41 (.un .not 40), ia 39
 41]) (.frame (rg [5] 42 31) [] false (.join [.sl 5 false (.sl (.pair .str bI)) tO] (.cond 39 (.region [im 42 5, im 43 6, im 44 7, o1 45 (.ixA 1 43 44), ld 46 45, o1 47 (.build
 [(.string ⟨#[]⟩), (.int .i64 0)] [(0, 1, 46), (1, 1, (kI 1))]), oT ⟨some 48, .buildSl 2 [(.string ⟨#[]⟩), (.int .i64 0)] 1 [(0, 47)], none⟩ (some ((.pair .str bI), .leaf)), oT
 ⟨some 49, .app 2 24 42 48, none⟩ (some ((.pair .str bI), .leaf)), ia 5 49]) (.seq (.region [im 51 11, o1 52 (.un .not 51), ia 50 52]) (.frame (rg [5] 53 20) [] false (.join [.sl 5
 false (.sl (.pair .str bI)) tO] (.cond 50 (.region [im 53 5, im 54 6, im 55 7, o1 56 (.ixA 1 54 55), ld 57 56, o1 58 (.build [(.string ⟨#[]⟩), (.int .i64 0)] [(0, 1, 57), (1, 1,
 (kI 2))]), oT ⟨some 59, .buildSl 2 [(.string ⟨#[]⟩), (.int .i64 0)] 1 [(0, 58)], none⟩ (some ((.pair .str bI), .leaf)), oT ⟨some 60, .app 2 24 53 59, none⟩ (some ((.pair .str bI),
 .leaf)), ia 5 60]) (.seq (.region [im 62 8, im 63 10, o1 64 (.bin .neq 62 63), ia 61 64]) (.frame (rg [5] 65 8) [] false (.join [.sl 5 false (.sl (.pair .str bI)) tO] (.cond 61
 (.region [im 65 5, im 66 6, im 67 7, o1 68 (.ixA 1 66 67), ld 69 68, o1 70 (.build [(.string ⟨#[]⟩), (.int .i64 0)] [(0, 1, 69), (1, 1, (kI 3))]), oT ⟨some 71, .buildSl 2 [(.string
 ⟨#[]⟩), (.int .i64 0)] 1 [(0, 70)], none⟩ (some ((.pair .str bI), .leaf)), oT ⟨some 72, .app 2 24 65 71, none⟩ (some ((.pair .str bI), .leaf)), ia 5 72]) .skip))))))))))))))))))))
 (.region [im 19 7, o1 20 (.bin .add 19 (kI 1)), ia 7 20])))))))) (.seq (.region [im 73 5, ia 4 73]) .ret)))))
def DY : AFn := ⟨ V6, FP.erase, [.tmp 4], 2⟩
def Hv (P : Pg) (x : ((List ((List UInt8) × (List UInt8))) × (List ((List UInt8) × (List UInt8))))) (K : (List ((List UInt8) × Int)) → Unit → Prop) : Prop :=
 Fn P SZ Cf x (fun (d1 : (List (List UInt8))) (e2 : Unit) => Ar (D := (List ((List UInt8) × Int))) (fun J3 => BU (D := ((List ((List UInt8) × Int)) × Int)) ([], (0 : Int)) (fun d5 J6 => (((decide (d5.2 < (d1.length : Int))) = true → Ar (D := (List ((List UInt8) × Int))) (fun J7 => (0 ≤ d5.2 ∧ d5.2 < (d1.length : Int)) ∧
 (d5.2.toNat < d1.length) ∧
 Fn P zS0 BE (x.1, (List.getD d1 d5.2.toNat [])) (fun (d9 : ((List UInt8) × Bool)) (e10 : Unit) => (0 ≤ d5.2 ∧ d5.2 < (d1.length : Int)) ∧
 (d5.2.toNat < d1.length) ∧
 Fn P zS0 BE (x.2, (List.getD d1 d5.2.toNat [])) (fun (d11 : ((List UInt8) × Bool)) (e12 : Unit) => Ar (D := (List ((List UInt8) × Int))) (fun J13 => Ar (D := (List ((List UInt8) × Int))) (fun J15 => (((!d9.2) = true → (0 ≤ d5.2 ∧ d5.2 < (d1.length : Int)) ∧
 (d5.2.toNat < d1.length) ∧
 ((d5.1.length + List.length ([((List.getD d1 d5.2.toNat []), (1 : Int))] : List ((List UInt8) × Int))) * 24 ≤ 140737488355328) ∧
 J15 (d5.1 ++ ([((List.getD d1 d5.2.toNat []), (1 : Int))] : List ((List UInt8) × Int)))) ∧ ((!d9.2) = false → Ar (D := (List ((List UInt8) × Int))) (fun J17 => (((!d11.2) = true → (0 ≤ d5.2 ∧ d5.2 < (d1.length : Int)) ∧
 (d5.2.toNat < d1.length) ∧
 ((d5.1.length + List.length ([((List.getD d1 d5.2.toNat []), (2 : Int))] : List ((List UInt8) × Int))) * 24 ≤ 140737488355328) ∧
 J17 (d5.1 ++ ([((List.getD d1 d5.2.toNat []), (2 : Int))] : List ((List UInt8) × Int)))) ∧ ((!d11.2) = false → Ar (D := (List ((List UInt8) × Int))) (fun J19 => (((!(d9.1 == d11.1)) = true → (0 ≤ d5.2 ∧ d5.2 < (d1.length : Int)) ∧
 (d5.2.toNat < d1.length) ∧
 ((d5.1.length + List.length ([((List.getD d1 d5.2.toNat []), (3 : Int))] : List ((List UInt8) × Int))) * 24 ≤ 140737488355328) ∧
 J19 (d5.1 ++ ([((List.getD d1 d5.2.toNat []), (3 : Int))] : List ((List UInt8) × Int)))) ∧ ((!(d9.1 == d11.1)) = false → J19 d5.1))) (fun d20 => J17 d20)))) (fun d18 => J15 d18)))) (fun d16 => J13 d16)) (fun d14 => J7 d14)))) (fun d8 => J6 (d8, (i64.wrap (d5.2 + (1 : Int)))))) ∧ ((decide (d5.2 < (d1.length : Int))) = false → J3 d5.1)))) (fun d4 => K d4 ()))
theorem LG {P : Pg} (h : Has P DY) {x : DP BX.ps} {K : DP BX.rs → DP (ptrs BX.ps) → Prop} (hw : Hv P x K) : Fn P V6 BX x K :=
 CB (c := FP) h rfl rfl (by kernel_rfl) (Eq.mpr (show Cu P DY BX FP x K = _ by kernel_rfl) hw)
def Ei : Bw :=
 (.seq (.region [ia 2 (kI 0)]) (.seq (.seq (.region [im 5 0, o1 6 (.lenS 5), o1 7 (.bin .lss 6 (kI 1)), im 8 7, gf 9 8 (.mv 0), gf 10 8 (.lenS 9), gf 11 8 (.bin .gtr 10 (kI 200)),
 o1 12 (.pick 8 kT 11)]) (.cond 12 (.seq (.region [ia 2 (kI 210)]) .ret) .skip)) (.seq (.region [o1 3 (.asg (.c (.string ⟨#[]⟩)))]) (.seq (.seq (.region [ia 4 (kI 0)]) (.frame (rg
 [2, 3, 4] 13 43) [] false (.join [.si 2] (.block 0 (.loop [.si 2, .sl 3 false .str .leaf, .si 4] (.seq (.seq (.region [im 13 4, im 14 0, o1 15 (.lenS 14), o1 16 (.bin .leq 13 15)])
 (.cond 16 .skip (.exit 0))) (.seq (.frame (rg [2, 3] 19 37) [] false (.join [.si 2, .sl 3 false .str .leaf] (.block 1 (.seq (.seq (.region [im 19 4, im 20 0, o1 21 (.lenS 20), o1
 22 (.bin .lss 19 21), im 23 22, gt 24 23 (.mv 0), gt 25 23 (.mv 4), gt 26 23 (.ixS 24 25), gt 27 23 (.bin .eql 26 (.c (.int .u8 0))), o1 28 (.pick 23 27 kF)]) (.cond 28 (.seq
 (.region [ia 2 (kI 210)]) .ret) .skip)) (.seq (.seq (.region [im 29 4, im 30 0, o1 31 (.lenS 30), o1 32 (.bin .lss 29 31), im 33 32, gt 34 33 (.mv 0), gt 35 33 (.mv 4), gt 36 33
 (.ixS 34 35), gt 37 33 (.bin .neq 36 (.c (.int .u8 47))), o1 38 (.pick 33 37 kF)]) (.cond 38 (.seq (.region [im 39 3, im 40 0, im 41 4, im 42 4, o1 43 (.bin .add 42 (kI 1)), o1 44
 (.slS 40 (some 41) (some 43)), o1 45 (.bin .add 39 44), ia 3 45]) (.exit 1)) .skip)) (.seq (.seq (.region [im 46 3, o1 47 (.bin .eql 46 (.c (.string ⟨#[]⟩))), im 48 47, gf 49 48
 (.mv 3), o0 ⟨some 50, .bin .eql 49 (.c (.string ⟨#[46]⟩)), some (48, false)⟩, o1 51 (.pick 48 kT 50), im 52 51, gf 53 52 (.mv 3), o0 ⟨some 54, .bin .eql 53 (.c (.string ⟨#[46,
 46]⟩)), some (52, false)⟩, o1 55 (.pick 52 kT 54)]) (.cond 55 (.seq (.region [ia 2 (kI 210)]) .ret) .skip)) (.region [o1 3 (.asg (.c (.string ⟨#[]⟩)))]))))))) (.region [im 17 4, o1
 18 (.bin .add 17 (kI 1)), ia 4 18])))))))) (.seq (.region [ia 2 (kI 0)]) .ret)))))
def Dk : AFn := ⟨ UM, Ei.erase, [.tmp 2], 1⟩
def Gb (P : Pg) (x : (List UInt8)) (K : Int → Unit → Prop) : Prop :=
 (((cond (decide ((x.length : Int) < (1 : Int))) true (decide ((x.length : Int) > (200 : Int)))) = true → K (210 : Int) ()) ∧ ((cond (decide ((x.length : Int) < (1 : Int))) true (decide ((x.length : Int) > (200 : Int)))) = false → Ar (D := Int) (fun J1 => BU (D := (Int × ((List UInt8) × Int))) ((0 : Int), (([] : List UInt8), (0 : Int))) (fun d3 J4 => (((decide (d3.2.2 ≤ (x.length : Int))) = true → Ar (D := (Int × (List UInt8))) (fun J5 => (((decide (d3.2.2 < (x.length : Int))) = true → 0 ≤ d3.2.2 ∧ d3.2.2 < (x.length : Int))) ∧
 (((cond (decide (d3.2.2 < (x.length : Int))) (((x.getD d3.2.2.toNat 0).toNat : Int) == (0 : Int)) false) = true → K (210 : Int) ()) ∧ ((cond (decide (d3.2.2 < (x.length : Int))) (((x.getD d3.2.2.toNat 0).toNat : Int) == (0 : Int)) false) = false → (((decide (d3.2.2 < (x.length : Int))) = true → 0 ≤ d3.2.2 ∧ d3.2.2 < (x.length : Int))) ∧
 (((cond (decide (d3.2.2 < (x.length : Int))) (((x.getD d3.2.2.toNat 0).toNat : Int) != (47 : Int)) false) = true → (0 ≤ d3.2.2 ∧ d3.2.2 ≤ (i64.wrap (d3.2.2 + (1 : Int))) ∧ (i64.wrap (d3.2.2 + (1 : Int))) ≤ (x.length : Int)) ∧
 (d3.2.1.length + List.length (List.drop d3.2.2.toNat (List.take (Int.toNat (i64.wrap (d3.2.2 + (1 : Int)))) x)) ≤ 9223372036854775807) ∧
 J5 (d3.1, (d3.2.1 ++ (List.drop d3.2.2.toNat (List.take (Int.toNat (i64.wrap (d3.2.2 + (1 : Int)))) x))))) ∧ ((cond (decide (d3.2.2 < (x.length : Int))) (((x.getD d3.2.2.toNat 0).toNat : Int) != (47 : Int)) false) = false → (((cond (cond (d3.2.1 == ([] : List UInt8)) true (d3.2.1 == ([46] : List UInt8))) true (d3.2.1 == ([46, 46] : List UInt8))) = true → K (210 : Int) ()) ∧ ((cond (cond (d3.2.1 == ([] : List UInt8)) true (d3.2.1 == ([46] : List UInt8))) true (d3.2.1 == ([46, 46] : List UInt8))) = false → J5 (d3.1, ([] : List UInt8))))))))) (fun d6 => J4 (d6.1, (d6.2, (i64.wrap (d3.2.2 + (1 : Int))))))) ∧ ((decide (d3.2.2 ≤ (x.length : Int))) = false → J1 d3.1)))) (fun d2 => K (0 : Int) ())))
theorem I7 {P : Pg} (h : Has P Dk) {x : DP Bd.ps} {K : DP Bd.rs → DP (ptrs Bd.ps) → Prop} (hw : Gb P x K) : Fn P UM Bd x K :=
 CB (c := Ei) h rfl rfl (by kernel_rfl) (Eq.mpr (show Cu P Dk Bd Ei x K = _ by kernel_rfl) hw)
def Gw : Bw :=
 (.seq (.region [o1 4 (.asg kF)]) (.seq (.region [im 5 1, o1 6 (.lenS 5), im 7 0, o1 8 (.lenS 7), o1 9 (.bin .gtr 6 8), im 10 9, gt 11 10 (.mv 1), gt 12 10 (.mv 0), gt 13 10 (.lenS
 12), gt 14 10 (.slS 11 none (some 13)), gt 15 10 (.mv 0), gt 16 10 (.bin .eql 14 15), o1 17 (.pick 10 16 kF), im 18 17, gt 19 18 (.mv 1), gt 20 18 (.mv 0), gt 21 18 (.lenS 20), gt
 22 18 (.ixS 19 21), gt 23 18 (.bin .eql 22 (.c (.int .u8 47))), o1 24 (.pick 18 23 kF), ia 4 24]) .ret))
def EE : AFn := ⟨ V7, Gw.erase, [.tmp 4], 2⟩
def IE (P : Pg) (x : ((List UInt8) × (List UInt8))) (K : Bool → Unit → Prop) : Prop :=
 (((decide ((x.2.length : Int) > (x.1.length : Int))) = true → 0 ≤ (x.1.length : Int) ∧ (x.1.length : Int) ≤ (x.2.length : Int))) ∧
 (((cond (decide ((x.2.length : Int) > (x.1.length : Int))) ((List.take (Int.toNat (x.1.length : Int)) x.2) == x.1) false) = true → 0 ≤ (x.1.length : Int) ∧ (x.1.length : Int) < (x.2.length : Int))) ∧
 K (cond (cond (decide ((x.2.length : Int) > (x.1.length : Int))) ((List.take (Int.toNat (x.1.length : Int)) x.2) == x.1) false) (((UInt8.toNat (List.getD x.2 (Int.toNat (x.1.length : Int)) 0) : Nat) : Int) == (47 : Int)) false) ()
theorem My {P : Pg} (h : Has P EE) {x : DP Ce.ps} {K : DP Ce.rs → DP (ptrs Ce.ps) → Prop} (hw : IE P x K) : Fn P V7 Ce x K :=
 CB (c := Gw) h rfl rfl (by kernel_rfl) (Eq.mpr (show Cu P EE Ce Gw x K = _ by kernel_rfl) hw)
def Gv : Bw :=
 (.seq (.region [o1 2 (.asg (.c (.slice none 0 0)))]) (.seq (.region [o1 3 (.asg (.c (.slice none 0 0)))]) (.seq (.region [ia 4 (kI 0)]) (.seq (.seq (.region [ia 5 (kI 0)]) (.frame
 (rg [] 3 30) [] false (.join [.sl 3 false (.sl .str) tO] (.block 0 (.loop [.sl 3 false (.sl .str) tO, .si 4, .si 5] (.seq (.seq (.region [im 6 5, im 7 0, o1 8 (.lenS 7), o1 9 (.bin
 .lss 6 8)]) (.cond 9 .skip (.exit 0))) (.seq (.frame (rg [3, 4] 12 21) [] false (.join [.sl 3 false (.sl .str) tO, .si 4] (.block 1 (.seq (.region [im 12 0, im 13 5, o1 14 (.ixS 12
 13), o1 15 (.bin .eql 14 (.c (.int .u8 10))), im 16 15, gf 17 16 (.mv 5), gf 18 16 (.bin .add 17 (kI 1)), gf 19 16 (.mv 0), gf 20 16 (.lenS 19), gf 21 16 (.bin .eql 18 20), o1 22
 (.pick 16 kT 21)]) (.frame (rg [3, 4] 23 10) [] false (.join [.sl 3 false (.sl .str) tO, .si 4] (.cond 22 (.seq (.region [im 23 3, im 24 0, im 25 4, im 26 5, o1 27 (.bin .add 26
 (kI 1)), o1 28 (.slS 24 (some 25) (some 27)), oT ⟨some 29, .buildSl 1 [(.string ⟨#[]⟩)] 1 [(0, 28)], none⟩ (some (.str, .leaf)), oT ⟨some 30, .app 1 16 23 29, none⟩ (some (.str,
 .leaf)), ia 3 30]) (.region [im 31 5, o1 32 (.bin .add 31 (kI 1)), ia 4 32])) .skip))))))) (.region [im 10 5, o1 11 (.bin .add 10 (kI 1)), ia 5 11])))))))) (.seq (.region [im 33 3,
 ia 2 33]) .ret)))))
def ED : AFn := ⟨ V8, Gv.erase, [.tmp 2], 1⟩
def ID (P : Pg) (x : (List UInt8)) (K : (List (List UInt8)) → Unit → Prop) : Prop :=
 Ar (D := (List (List UInt8))) (fun J1 => BU (D := ((List (List UInt8)) × (Int × Int))) ([], ((0 : Int), (0 : Int))) (fun d3 J4 => (((decide (d3.2.2 < (x.length : Int))) = true → Ar (D := ((List (List UInt8)) × Int)) (fun J5 => (0 ≤ d3.2.2 ∧ d3.2.2 < (x.length : Int)) ∧
 Ar (D := ((List (List UInt8)) × Int)) (fun J7 => (((cond (((x.getD d3.2.2.toNat 0).toNat : Int) == (10 : Int)) true ((i64.wrap (d3.2.2 + (1 : Int))) == (x.length : Int))) = true → (0 ≤ d3.2.1 ∧ d3.2.1 ≤ (i64.wrap (d3.2.2 + (1 : Int))) ∧ (i64.wrap (d3.2.2 + (1 : Int))) ≤ (x.length : Int)) ∧
 ((d3.1.length + List.length ([(List.drop d3.2.1.toNat (List.take (Int.toNat (i64.wrap (d3.2.2 + (1 : Int)))) x))] : List (List UInt8))) * 16 ≤ 140737488355328) ∧
 J7 ((d3.1 ++ ([(List.drop d3.2.1.toNat (List.take (Int.toNat (i64.wrap (d3.2.2 + (1 : Int)))) x))] : List (List UInt8))), (i64.wrap (d3.2.2 + (1 : Int))))) ∧ ((cond (((x.getD d3.2.2.toNat 0).toNat : Int) == (10 : Int)) true ((i64.wrap (d3.2.2 + (1 : Int))) == (x.length : Int))) = false → J7 (d3.1, d3.2.1)))) (fun d8 => J5 d8)) (fun d6 => J4 (d6.1, (d6.2, (i64.wrap (d3.2.2 + (1 : Int))))))) ∧ ((decide (d3.2.2 < (x.length : Int))) = false → J1 d3.1)))) (fun d2 => K d2 ())
theorem Mx {P : Pg} (h : Has P ED) {x : DP Cd.ps} {K : DP Cd.rs → DP (ptrs Cd.ps) → Prop} (hw : ID P x K) : Fn P V8 Cd x K :=
 CB (c := Gv) h rfl rfl (by kernel_rfl) (Eq.mpr (show Cu P ED Cd Gv x K = _ by kernel_rfl) hw)
def Gu : Bw :=
 (.seq (.region [ia 2 (kI 0)]) (.seq (.seq (.region [im 3 0, o1 4 (.lenS 3), o1 5 (.bin .gtr 4 (kI 1048576)), im 6 5, ⟨⟨some 7, .mv 0, some (6, false)⟩, none, ⟨[], []⟩, false, some
 6, true, false⟩, ⟨⟨some 8, .call V8 [7], some (6, false)⟩, none, Cd, false, none, true, false⟩, ⟨⟨some 9, .lenK 8, some (6, false)⟩, none,
 ⟨[], []⟩, false, none, true, false⟩, ⟨⟨some 10, .bin .gtr 9 (kI 4096), some (6, false)⟩, none, ⟨[], []⟩, false, none, true, true⟩, o1 11 (.pick 6 kT 10)]) (.cond 11 (.seq (.region
 [ia 2 (kI 1)]) .ret) .skip)) (.seq (.region [ia 2 (kI 0)]) .ret)))
def EC : AFn := ⟨ V9, Gu.erase, [.tmp 2], 1⟩
def IC (P : Pg) (x : (List UInt8)) (K : Int → Unit → Prop) : Prop :=
 (((decide ((x.length : Int) > (1048576 : Int))) = true → (((cond true true false) = true → K (1 : Int) ()) ∧ ((cond true true false) = false → K (0 : Int) ()))) ∧ ((decide ((x.length : Int) > (1048576 : Int))) = false → Fn P V8 Cd x (fun (d1 : (List (List UInt8))) (e2 : Unit) => (((cond false true (decide ((d1.length : Int) > (4096 : Int)))) = true → K (1 : Int) ()) ∧ ((cond false true (decide ((d1.length : Int) > (4096 : Int)))) = false → K (0 : Int) ())))))
theorem Mw {P : Pg} (h : Has P EC) {x : DP Cc.ps} {K : DP Cc.rs → DP (ptrs Cc.ps) → Prop} (hw : IC P x K) : Fn P V9 Cc x K :=
 CB (c := Gu) h rfl rfl (by kernel_rfl) (Eq.mpr (show Cu P EC Cc Gu x K = _ by kernel_rfl) hw)
def Gx : Bw :=
 (.seq (.region [ia 2 (kI 0)]) (.seq (.seq (.region [im 7 0, o1 8 (.lenK 7), o1 9 (.bin .gtr 8 (kI 200))]) (.cond 9 (.seq (.region [ia 2 (kI 1)]) .ret) .skip)) (.seq (.seq (.region
 [ia 3 (kI 0)]) (.frame (rg [2, 3] 10 13) [] false (.join [.si 2] (.block 0 (.loop [.si 2, .si 3] (.seq (.seq (.region [im 10 3, im 11 0, o1 12 (.lenK 11), o1 13 (.bin .lss 10 12)])
 (.cond 13 .skip (.exit 0))) (.seq (.frame (rg [2] 16 7) [] false (.join [.si 2] (.block 1 (.seq (.region [im 16 0, im 17 3, o1 18 (.ixA 2 16 17), fa 19 0 18, ld 20 19, oS ⟨some 21,
 .call UM [20], none⟩ Bd, o1 22 (.bin .neq 21 (kI 0))]) (.cond 22 (.seq (.region [ia 2 (kI 210)]) .ret) .skip))))) (.region [im 14
 3, o1 15 (.bin .add 14 (kI 1)), ia 3 15])))))))) (.seq (.seq (.region [ia 4 (kI 0)]) (.frame (rg [2, 4, 5] 23 35) [] false (.join [.si 2] (.block 2 (.loop [.si 2, .si 4] (.seq
 (.seq (.region [im 23 4, im 24 0, o1 25 (.lenK 24), o1 26 (.bin .lss 23 25)]) (.cond 26 .skip (.exit 2))) (.seq (.frame (rg [2, 5] 29 29) [] false (.join [.si 2] (.block 3 (.seq
 (.region [ia 5 (kI 0)]) (.frame (rg [2, 5] 29 29) [] false (.join [.si 2] (.block 4 (.loop [.si 2, .si 5] (.seq (.seq (.region [im 29 5, im 30 4, o1 31 (.bin .lss 29 30)]) (.cond
 31 .skip (.exit 4))) (.seq (.frame (rg [2] 34 24) [] false (.join [.si 2] (.block 5 (.seq (.frame (rg [] 34 24) [] false (.join [.sl 57 false .bool .leaf] (.draw [(.first (im 34 0)
 (.first (im 35 5) (.first (o1 36 (.ixA 2 34 35)) (.first (fa 37 0 36) (.first (ld 38 37) (.first (im 39 0) (.first (im 40 4) (.first (o1 41 (.ixA 2 39 40)) (.first (fa 42 0 41)
 (.first (ld 43 42) (.first (o1 44 (.bin .geq 38 43)) (.first (im 45 44) (.first (gf 46 45 (.mv 0)) (.first (gf 47 45 (.mv 5)) (.first (gf 48 45 (.ixA 2 46 47)) (.first (gf 49 45
 (.fAddr 0 48)) (.first (gf 50 45 (.load false 1 49)) (.first (gf 51 45 (.mv 0)) (.first (gf 52 45 (.mv 4)) (.first (gf 53 45 (.ixA 2 51 52)) (.first (gf 54 45 (.fAddr 0 53))
 (.first (gf 55 45 (.load false 1 54)) (.alt (oS ⟨some 56, .call V7 [50, 55], some (45, false)⟩ Ce) (.first (o1 57 (.pick 45 kT 56)) .done)
 .stop)))))))))))))))))))))))]))) (.cond 57 (.seq (.region [ia 2 (kI 211)]) .ret) .skip))))) (.region [im 32 5, o1 33 (.bin .add 32 (kI 1)), ia 5 33]))))))))))) (.region [im 27 4,
 o1 28 (.bin .add 27 (kI 1)), ia 4 28])))))))) (.seq (.seq (.region [ia 6 (kI 0)]) (.frame (rg [2, 6] 58 13) [] false (.join [.si 2] (.block 6 (.loop [.si 2, .si 6] (.seq (.seq
 (.region [im 58 6, im 59 0, o1 60 (.lenK 59), o1 61 (.bin .lss 58 60)]) (.cond 61 .skip (.exit 6))) (.seq (.frame (rg [2] 64 7) [] false (.join [.si 2] (.block 7 (.seq (.region [im
 64 0, im 65 6, o1 66 (.ixA 2 64 65), fa 67 1 66, ld 68 67, oS ⟨some 69, .call V9 [68], none⟩ Cc, o1 70 (.bin .neq 69 (kI 0))]) (.cond 70
 (.seq (.region [ia 2 (kI 1)]) .ret) .skip))))) (.region [im 62 6, o1 63 (.bin .add 62 (kI 1)), ia 6 63])))))))) (.seq (.region [ia 2 (kI 0)]) .ret))))))
def EF : AFn := ⟨ zS6, Gx.erase, [.tmp 2], 1⟩
def IG (P : Pg) (x : (List ((List UInt8) × (List UInt8)))) (K : Int → Unit → Prop) : Prop :=
 (((decide ((x.length : Int) > (200 : Int))) = true → K (1 : Int) ()) ∧ ((decide ((x.length : Int) > (200 : Int))) = false → Ar (D := Int) (fun J1 => BU (D := (Int × Int)) ((0 : Int), (0 : Int)) (fun d3 J4 => (((decide (d3.2 < (x.length : Int))) = true → Ar (D := Int) (fun J5 => (0 ≤ d3.2 ∧ d3.2 < (x.length : Int)) ∧
 (d3.2.toNat < x.length) ∧
 Fn P UM Bd (List.getD x d3.2.toNat ([], [])).1 (fun (d7 : Int) (e8 : Unit) => (((d7 != (0 : Int)) = true → K (210 : Int) ()) ∧ ((d7 != (0 : Int)) = false → J5 d3.1)))) (fun d6 => J4 (d6, (i64.wrap (d3.2 + (1 : Int)))))) ∧ ((decide (d3.2 < (x.length : Int))) = false → J1 d3.1)))) (fun d2 => Ar (D := Int) (fun J9 => BU (D := (Int × Int)) (d2, (0 : Int)) (fun d11 J12 => (((decide (d11.2 < (x.length : Int))) = true → Ar (D := Int) (fun J13 => Ar (D := Int) (fun J15 => BU (D := (Int × Int)) (d11.1, (0 : Int)) (fun d17 J18 => (((decide (d17.2 < d11.2)) = true → Ar (D := Int) (fun J19 => Ar (D := Bool) (fun J21 => (0 ≤ d17.2 ∧ d17.2 < (x.length : Int)) ∧
 (d17.2.toNat < x.length) ∧
 (0 ≤ d11.2 ∧ d11.2 < (x.length : Int)) ∧
 (d11.2.toNat < x.length) ∧
 (((!(Op.bytesLess (List.getD x d17.2.toNat ([], [])).1 (List.getD x d11.2.toNat ([], [])).1)) = false → 0 ≤ d17.2 ∧ d17.2 < (x.length : Int))) ∧
 (((!(Op.bytesLess (List.getD x d17.2.toNat ([], [])).1 (List.getD x d11.2.toNat ([], [])).1)) = false → d17.2.toNat < x.length)) ∧
 (((!(Op.bytesLess (List.getD x d17.2.toNat ([], [])).1 (List.getD x d11.2.toNat ([], [])).1)) = false → 0 ≤ d11.2 ∧ d11.2 < (x.length : Int))) ∧
 (((!(Op.bytesLess (List.getD x d17.2.toNat ([], [])).1 (List.getD x d11.2.toNat ([], [])).1)) = false → d11.2.toNat < x.length)) ∧
 (Ar (D := Bool) (fun J23 => (((!(Op.bytesLess (List.getD x d17.2.toNat ([], [])).1 (List.getD x d11.2.toNat ([], [])).1)) = false → Fn P V7 Ce ((List.getD x d17.2.toNat ([], [])).1, (List.getD x d11.2.toNat ([], [])).1) (fun (d24 : Bool) _ => J23 d24)) ∧ (((!(Op.bytesLess (List.getD x d17.2.toNat ([], [])).1 (List.getD x d11.2.toNat ([], [])).1)) = true → J23 false) ∧ True))) (fun d25 => J21 (cond (!(Op.bytesLess (List.getD x d17.2.toNat ([], [])).1 (List.getD x d11.2.toNat ([], [])).1)) true d25))) ∧ True) (fun d22 => ((d22 = true → K (211 : Int) ()) ∧ (d22 = false → J19 d17.1)))) (fun d20 => J18 (d20, (i64.wrap (d17.2 + (1 : Int)))))) ∧ ((decide (d17.2 < d11.2)) = false → J15 d17.1)))) (fun d16 => J13 d16)) (fun d14 => J12 (d14, (i64.wrap (d11.2 + (1 : Int)))))) ∧ ((decide (d11.2 < (x.length : Int))) = false → J9 d11.1)))) (fun d10 => Ar (D := Int) (fun J26 => BU (D := (Int × Int)) (d10, (0 : Int)) (fun d28 J29 => (((decide (d28.2 < (x.length : Int))) = true → Ar (D := Int) (fun J30 => (0 ≤ d28.2 ∧ d28.2 < (x.length : Int)) ∧
 (d28.2.toNat < x.length) ∧
 Fn P V9 Cc (List.getD x d28.2.toNat ([], [])).2 (fun (d32 : Int) (e33 : Unit) => (((d32 != (0 : Int)) = true → K (1 : Int) ()) ∧ ((d32 != (0 : Int)) = false → J30 d28.1)))) (fun d31 => J29 (d31, (i64.wrap (d28.2 + (1 : Int)))))) ∧ ((decide (d28.2 < (x.length : Int))) = false → J26 d28.1)))) (fun d27 => K (0 : Int) ())))))
theorem Mz {P : Pg} (h : Has P EF) {x : DP Bq.ps} {K : DP Bq.rs → DP (ptrs Bq.ps) → Prop} (hw : IG P x K) : Fn P zS6 Bq x K :=
 CB (c := Gx) h rfl rfl (by kernel_rfl) (Eq.mpr (show Cu P EF Bq Gx x K = _ by kernel_rfl) hw)
def AaS : Bw :=
 (.seq (.region [o1 6 (.asg (.c (.slice none 0 0))), ia 7 (kI 0)]) (.seq (.seq (.region [im 24 0, oS ⟨some 25, .call zS6 [24], none⟩ Bq, ia 8
 25]) (.seq (.region [im 26 8, o1 27 (.bin .neq 26 (kI 0))]) (.cond 27 (.seq (.region [im 28 8, o1 6 (.asg (.c (.slice none 0 0))), ia 7 28]) .ret) .skip))) (.seq (.seq (.region [im
 29 1, oS ⟨some 30, .call zS6 [29], none⟩ Bq, ia 9 30]) (.seq (.region [im 31 9, o1 32 (.bin .neq 31 (kI 0))]) (.cond 32 (.seq (.region [im
 33 9, o1 6 (.asg (.c (.slice none 0 0))), ia 7 33]) .ret) .skip))) (.seq (.seq (.region [ia 10 (kI 0)]) (.frame (rg [6, 7, 10, 11] 34 36) [] false (.join [.sl 6 false (.sl (.pair
 .str .str)) tO, .si 7] (.block 0 (.loop [.sl 6 false (.sl (.pair .str .str)) tO, .si 7, .si 10] (.seq (.seq (.region [im 34 10, im 35 2, o1 36 (.lenK 35), o1 37 (.bin .lss 34 36)])
 (.cond 37 .skip (.exit 0))) (.seq (.frame (rg [6, 7, 11] 40 30) [] false (.join [.sl 6 false (.sl (.pair .str .str)) tO, .si 7] (.block 1 (.seq (.seq (.region [im 40 2, im 41 10,
 o1 42 (.ixA 2 40 41), fa 43 1 42, ld 44 43, o1 45 (.bin .lss 44 (kI 1)), im 46 45, gf 47 46 (.mv 2), gf 48 46 (.mv 10), gf 49 46 (.ixA 2 47 48), gf 50 46 (.fAddr 1 49), gf 51 46
 (.load false 1 50), gf 52 46 (.bin .gtr 51 (kI 3)), o1 53 (.pick 46 kT 52)]) (.cond 53 (.seq (.region [o1 6 (.asg (.c (.slice none 0 0))), ia 7 (kI 2)]) .ret) .skip)) (.seq
 (.region [ia 11 (kI 0)]) (.frame (rg [6, 7, 11] 54 16) [] false (.join [.sl 6 false (.sl (.pair .str .str)) tO, .si 7] (.block 2 (.loop [.sl 6 false (.sl (.pair .str .str)) tO, .si
 7, .si 11] (.seq (.seq (.region [im 54 11, im 55 10, o1 56 (.bin .lss 54 55)]) (.cond 56 .skip (.exit 2))) (.seq (.frame (rg [6, 7] 59 11) [] false (.join [.sl 6 false (.sl (.pair
 .str .str)) tO, .si 7] (.block 3 (.seq (.draw [(.first (im 59 2) (.first (im 60 11) (.first (o1 61 (.ixA 2 59 60)) (.first (fa 62 0 61) (.first (ld 63 62) (.first (im 64 2) (.first
 (im 65 10) (.first (o1 66 (.ixA 2 64 65)) (.first (fa 67 0 66) (.first (ld 68 67) (.first (o1 69 (.bin .eql 63 68)) .done)))))))))))]) (.cond 69 (.seq (.region [o1 6 (.asg (.c
 (.slice none 0 0))), ia 7 (kI 2)]) .ret) .skip))))) (.region [im 57 11, o1 58 (.bin .add 57 (kI 1)), ia 11 58])))))))))))) (.region [im 38 10, o1 39 (.bin .add 38 (kI 1)), ia 10
 39])))))))) (.seq (.seq (.region [ia 12 (kI 0)]) (.frame (rg [6, 7, 12, 13, 14, 15, 16] 70 46) [] false (.join [.sl 6 false (.sl (.pair .str .str)) tO, .si 7] (.block 4 (.loop [.sl
 6 false (.sl (.pair .str .str)) tO, .si 7, .si 12] (.seq (.seq (.region [im 70 12, im 71 2, o1 72 (.lenK 71), o1 73 (.bin .lss 70 72)]) (.cond 73 .skip (.exit 4))) (.seq (.frame
 (rg [6, 7, 13, 14, 15, 16] 76 40) [] false (.join [.sl 6 false (.sl (.pair .str .str)) tO, .si 7] (.block 5 (.seq (.region [im 77 0, im 78 2, im 79 12, o1 80 (.ixA 2 78 79), fa 81
 0 80, ld 82 81, oS ⟨some 83, .call zS0 [77, 82], none⟩ BE, im 76 83, o1 84 (.ext 76 0), o1 85 (.ext 76 1), ia 13 84, ia 14 85]) (.seq (.region
 [im 87 1, im 88 2, im 89 12, o1 90 (.ixA 2 88 89), fa 91 0 90, ld 92 91, oS ⟨some 93, .call zS0 [87, 92], none⟩ BE, im 86 93, o1 94 (.ext 86
 0), o1 95 (.ext 86 1), ia 15 94, ia 16 95]) (.seq (.region [im 96 2, im 97 12, o1 98 (.ixA 2 96 97), fa 99 1 98, ld 100 99, o1 101 (.bin .neq 100 (kI 2)), im 102 101, gt 103 102
 (.mv 16), gt 104 102 (.un .not 103), o1 105 (.pick 102 104 kF), im 106 105, gf 107 106 (.mv 14), gf 108 106 (.mv 2), gf 109 106 (.mv 12), gf 110 106 (.ixA 2 108 109), gf 111 106
 (.fAddr 1 110), gf 112 106 (.load false 1 111), gf 113 106 (.bin .neq 112 (kI 1)), gf 114 106 (.eqB true 107 113), o1 115 (.pick 106 kT 114)]) (.cond 115 (.seq (.region [o1 6 (.asg
 (.c (.slice none 0 0))), ia 7 (kI 5)]) .ret) .skip))))))) (.region [im 74 12, o1 75 (.bin .add 74 (kI 1)), ia 12 75])))))))) (.seq (.region [o1 17 (.asg (.c (.slice none 0 0)))])
 (.seq (.region [im 116 0, im 117 1, oS ⟨some 118, .call SZ [116, 117], none⟩ Cf, ia 18 118]) (.seq (.seq (.region [ia 19 (kI 0)]) (.frame
 (rg [17, 19, 20, 21, 22] 119 57) [] false (.join [.sl 17 false (.sl (.pair .str .str)) tO] (.block 6 (.loop [.sl 17 false (.sl (.pair .str .str)) tO, .si 19] (.seq (.seq (.region
 [im 119 19, im 120 18, o1 121 (.lenK 120), o1 122 (.bin .lss 119 121)]) (.cond 122 .skip (.exit 6))) (.seq (.frame (rg [17, 20, 21, 22] 125 51) [] false (.join [.sl 17 false (.sl
 (.pair .str .str)) tO] (.block 7 (.seq (.region [im 126 0, im 127 18, im 128 19, o1 129 (.ixA 1 127 128), ld 130 129, oS ⟨some 131, .call zS0 [126,
 130], none⟩ BE, im 125 131, o1 132 (.ext 125 0), o1 133 (.ext 125 1), ia 20 132, ia 21 133]) (.seq (.seq (.region [ia 22 (kI 0)]) (.frame (rg [20, 21, 22] 134 32) []
 false (.join [.sl 20 false .str .leaf, .sl 21 false .bool .leaf] (.block 8 (.loop [.sl 20 false .str .leaf, .sl 21 false .bool .leaf, .si 22] (.seq (.seq (.region [im 134 22, im
 135 2, o1 136 (.lenK 135), o1 137 (.bin .lss 134 136)]) (.cond 137 .skip (.exit 8))) (.seq (.frame (rg [20, 21] 140 26) [] false (.join [.sl 20 false .str .leaf, .sl 21 false .bool
 .leaf] (.block 9 (.seq (.seq (.draw [(.first (im 140 2) (.first (im 141 22) (.first (o1 142 (.ixA 2 140 141)) (.first (fa 143 0 142) (.first (ld 144 143) (.first (im 145 18)
 (.first (im 146 19) (.first (o1 147 (.ixA 1 145 146)) (.first (ld 148 147) (.first (o1 149 (.bin .neq 144 148)) .done))))))))))]) (.cond 149 (.exit 9) .skip)) (.seq (.region [im
 150 2, im 151 22, o1 152 (.ixA 2 150 151), fa 153 1 152, ld 154 153, o1 155 (.bin .neq 154 (kI 2)), ia 21 155]) (.seq (.region [im 156 21]) (.frame (rg [20] 157 9) [] false (.join
 [.sl 20 false .str .leaf] (.cond 156 (.region [im 158 1, im 159 18, im 160 19, o1 161 (.ixA 1 159 160), ld 162 161, oS ⟨some 163, .call zS0 [158, 162],
 none⟩ BE, im 157 163, o1 164 (.ext 157 0), o1 165 (.ext 157 1), ia 20 164]) .skip))))))))) (.region [im 138 22, o1 139 (.bin .add 138 (kI 1)), ia 22 139])))))))) (.seq
 (.region [im 166 21]) (.frame (rg [17] 167 9) [] false (.join [.sl 17 false (.sl (.pair .str .str)) tO] (.cond 166 (.region [im 167 17, im 168 18, im 169 19, o1 170 (.ixA 1 168
 169), ld 171 170, im 172 20, o1 173 (.build [(.string ⟨#[]⟩), (.string ⟨#[]⟩)] [(0, 1, 171), (1, 1, 172)]), oT ⟨some 174, .buildSl 2 [(.string ⟨#[]⟩), (.string ⟨#[]⟩)] 1 [(0,
 173)], none⟩ (some ((.pair .str .str), .leaf)), oT ⟨some 175, .app 2 32 167 174, none⟩ (some ((.pair .str .str), .leaf)), ia 17 175]) .skip))))))))) (.region [im 123 19, o1 124
 (.bin .add 123 (kI 1)), ia 19 124])))))))) (.seq (.seq (.region [im 176 17, oS ⟨some 177, .call zS6 [176], none⟩ Bq, ia 23 177]) (.seq
 (.region [im 178 23, o1 179 (.bin .neq 178 (kI 0))]) (.cond 179 (.seq (.region [im 180 23, o1 6 (.asg (.c (.slice none 0 0))), ia 7 180]) .ret) .skip))) (.seq (.region [im 181 17,
 ia 6 181, ia 7 (kI 0)]) .ret))))))))))
def AaO : AFn := ⟨ S0, AaS.erase, [.tmp 6, .tmp 7], 3⟩
def Aa2 (P : Pg) (x : ((List ((List UInt8) × (List UInt8))) × ((List ((List UInt8) × (List UInt8))) × (List ((List UInt8) × Int))))) (K : ((List ((List UInt8) × (List UInt8))) × Int) → Unit → Prop) : Prop :=
 Fn P zS6 Bq x.1 (fun (d1 : Int) (e2 : Unit) => (((d1 != (0 : Int)) = true → K ([], d1) ()) ∧ ((d1 != (0 : Int)) = false → Fn P zS6 Bq x.2.1 (fun (d3 : Int) (e4 : Unit) => (((d3 != (0 : Int)) = true → K ([], d3) ()) ∧ ((d3 != (0 : Int)) = false → Ar (D := ((List ((List UInt8) × (List UInt8))) × Int)) (fun J5 => BU (D := ((List ((List UInt8) × (List UInt8))) × (Int × Int))) ([], ((0 : Int), (0 : Int))) (fun d7 J8 => (((decide (d7.2.2 < (x.2.2.length : Int))) = true → Ar (D := ((List ((List UInt8) × (List UInt8))) × Int)) (fun J9 => (0 ≤ d7.2.2 ∧ d7.2.2 < (x.2.2.length : Int)) ∧
 (d7.2.2.toNat < x.2.2.length) ∧
 (((decide ((List.getD x.2.2 d7.2.2.toNat ([], (0 : Int))).2 < (1 : Int))) = false → 0 ≤ d7.2.2 ∧ d7.2.2 < (x.2.2.length : Int))) ∧
 (((decide ((List.getD x.2.2 d7.2.2.toNat ([], (0 : Int))).2 < (1 : Int))) = false → d7.2.2.toNat < x.2.2.length)) ∧
 (((cond (decide ((List.getD x.2.2 d7.2.2.toNat ([], (0 : Int))).2 < (1 : Int))) true (decide ((List.getD x.2.2 d7.2.2.toNat ([], (0 : Int))).2 > (3 : Int)))) = true → K ([], (2 : Int)) ()) ∧ ((cond (decide ((List.getD x.2.2 d7.2.2.toNat ([], (0 : Int))).2 < (1 : Int))) true (decide ((List.getD x.2.2 d7.2.2.toNat ([], (0 : Int))).2 > (3 : Int)))) = false → Ar (D := ((List ((List UInt8) × (List UInt8))) × Int)) (fun J11 => BU (D := ((List ((List UInt8) × (List UInt8))) × (Int × Int))) (d7.1, (d7.2.1, (0 : Int))) (fun d13 J14 => (((decide (d13.2.2 < d7.2.2)) = true → Ar (D := ((List ((List UInt8) × (List UInt8))) × Int)) (fun J15 => (0 ≤ d13.2.2 ∧ d13.2.2 < (x.2.2.length : Int)) ∧
 (d13.2.2.toNat < x.2.2.length) ∧
 (0 ≤ d7.2.2 ∧ d7.2.2 < (x.2.2.length : Int)) ∧
 (d7.2.2.toNat < x.2.2.length) ∧
 ((((List.getD x.2.2 d13.2.2.toNat ([], (0 : Int))).1 == (List.getD x.2.2 d7.2.2.toNat ([], (0 : Int))).1) = true → K ([], (2 : Int)) ()) ∧ (((List.getD x.2.2 d13.2.2.toNat ([], (0 : Int))).1 == (List.getD x.2.2 d7.2.2.toNat ([], (0 : Int))).1) = false → J15 (d13.1, d13.2.1)))) (fun d16 => J14 (d16.1, (d16.2, (i64.wrap (d13.2.2 + (1 : Int))))))) ∧ ((decide (d13.2.2 < d7.2.2)) = false → J11 (d13.1, d13.2.1))))) (fun d12 => J9 d12)))) (fun d10 => J8 (d10.1, (d10.2, (i64.wrap (d7.2.2 + (1 : Int))))))) ∧ ((decide (d7.2.2 < (x.2.2.length : Int))) = false → J5 (d7.1, d7.2.1))))) (fun d6 => Ar (D := ((List ((List UInt8) × (List UInt8))) × Int)) (fun J17 => BU (D := ((List ((List UInt8) × (List UInt8))) × (Int × Int))) (d6.1, (d6.2, (0 : Int))) (fun d19 J20 => (((decide (d19.2.2 < (x.2.2.length : Int))) = true → Ar (D := ((List ((List UInt8) × (List UInt8))) × Int)) (fun J21 => (0 ≤ d19.2.2 ∧ d19.2.2 < (x.2.2.length : Int)) ∧
 (d19.2.2.toNat < x.2.2.length) ∧
 Fn P zS0 BE (x.1, (List.getD x.2.2 d19.2.2.toNat ([], (0 : Int))).1) (fun (d23 : ((List UInt8) × Bool)) (e24 : Unit) => (0 ≤ d19.2.2 ∧ d19.2.2 < (x.2.2.length : Int)) ∧
 (d19.2.2.toNat < x.2.2.length) ∧
 Fn P zS0 BE (x.2.1, (List.getD x.2.2 d19.2.2.toNat ([], (0 : Int))).1) (fun (d25 : ((List UInt8) × Bool)) (e26 : Unit) => (0 ≤ d19.2.2 ∧ d19.2.2 < (x.2.2.length : Int)) ∧
 (d19.2.2.toNat < x.2.2.length) ∧
 (((cond ((List.getD x.2.2 d19.2.2.toNat ([], (0 : Int))).2 != (2 : Int)) (!d25.2) false) = false → 0 ≤ d19.2.2 ∧ d19.2.2 < (x.2.2.length : Int))) ∧
 (((cond ((List.getD x.2.2 d19.2.2.toNat ([], (0 : Int))).2 != (2 : Int)) (!d25.2) false) = false → d19.2.2.toNat < x.2.2.length)) ∧
 (((cond (cond ((List.getD x.2.2 d19.2.2.toNat ([], (0 : Int))).2 != (2 : Int)) (!d25.2) false) true (!(d23.2 == ((List.getD x.2.2 d19.2.2.toNat ([], (0 : Int))).2 != (1 : Int))))) = true → K ([], (5 : Int)) ()) ∧ ((cond (cond ((List.getD x.2.2 d19.2.2.toNat ([], (0 : Int))).2 != (2 : Int)) (!d25.2) false) true (!(d23.2 == ((List.getD x.2.2 d19.2.2.toNat ([], (0 : Int))).2 != (1 : Int))))) = false → J21 (d19.1, d19.2.1)))))) (fun d22 => J20 (d22.1, (d22.2, (i64.wrap (d19.2.2 + (1 : Int))))))) ∧ ((decide (d19.2.2 < (x.2.2.length : Int))) = false → J17 (d19.1, d19.2.1))))) (fun d18 => Fn P SZ Cf (x.1, x.2.1) (fun (d27 : (List (List UInt8))) (e28 : Unit) => Ar (D := (List ((List UInt8) × (List UInt8)))) (fun J29 => BU (D := ((List ((List UInt8) × (List UInt8))) × Int)) ([], (0 : Int)) (fun d31 J32 => (((decide (d31.2 < (d27.length : Int))) = true → Ar (D := (List ((List UInt8) × (List UInt8)))) (fun J33 => (0 ≤ d31.2 ∧ d31.2 < (d27.length : Int)) ∧
 (d31.2.toNat < d27.length) ∧
 Fn P zS0 BE (x.1, (List.getD d27 d31.2.toNat [])) (fun (d35 : ((List UInt8) × Bool)) (e36 : Unit) => Ar (D := ((List UInt8) × Bool)) (fun J37 => BU (D := ((List UInt8) × (Bool × Int))) (d35.1, (d35.2, (0 : Int))) (fun d39 J40 => (((decide (d39.2.2 < (x.2.2.length : Int))) = true → Ar (D := ((List UInt8) × Bool)) (fun J41 => (0 ≤ d39.2.2 ∧ d39.2.2 < (x.2.2.length : Int)) ∧
 (d39.2.2.toNat < x.2.2.length) ∧
 (0 ≤ d31.2 ∧ d31.2 < (d27.length : Int)) ∧
 (d31.2.toNat < d27.length) ∧
 (((!((List.getD x.2.2 d39.2.2.toNat ([], (0 : Int))).1 == (List.getD d27 d31.2.toNat []))) = true → J41 (d39.1, d39.2.1)) ∧ ((!((List.getD x.2.2 d39.2.2.toNat ([], (0 : Int))).1 == (List.getD d27 d31.2.toNat []))) = false → (0 ≤ d39.2.2 ∧ d39.2.2 < (x.2.2.length : Int)) ∧
 (d39.2.2.toNat < x.2.2.length) ∧
 Ar (D := (List UInt8)) (fun J43 => ((((List.getD x.2.2 d39.2.2.toNat ([], (0 : Int))).2 != (2 : Int)) = true → (0 ≤ d31.2 ∧ d31.2 < (d27.length : Int)) ∧
 (d31.2.toNat < d27.length) ∧
 Fn P zS0 BE (x.2.1, (List.getD d27 d31.2.toNat [])) (fun (d45 : ((List UInt8) × Bool)) (e46 : Unit) => J43 d45.1)) ∧ (((List.getD x.2.2 d39.2.2.toNat ([], (0 : Int))).2 != (2 : Int)) = false → J43 d39.1))) (fun d44 => J41 (d44, ((List.getD x.2.2 d39.2.2.toNat ([], (0 : Int))).2 != (2 : Int))))))) (fun d42 => J40 (d42.1, (d42.2, (i64.wrap (d39.2.2 + (1 : Int))))))) ∧ ((decide (d39.2.2 < (x.2.2.length : Int))) = false → J37 (d39.1, d39.2.1))))) (fun d38 => Ar (D := (List ((List UInt8) × (List UInt8)))) (fun J47 => ((d38.2 = true → (0 ≤ d31.2 ∧ d31.2 < (d27.length : Int)) ∧
 (d31.2.toNat < d27.length) ∧
 ((d31.1.length + List.length ([((List.getD d27 d31.2.toNat []), d38.1)] : List ((List UInt8) × (List UInt8)))) * 32 ≤ 140737488355328) ∧
 J47 (d31.1 ++ ([((List.getD d27 d31.2.toNat []), d38.1)] : List ((List UInt8) × (List UInt8))))) ∧ (d38.2 = false → J47 d31.1))) (fun d48 => J33 d48)))) (fun d34 => J32 (d34, (i64.wrap (d31.2 + (1 : Int)))))) ∧ ((decide (d31.2 < (d27.length : Int))) = false → J29 d31.1)))) (fun d30 => Fn P zS6 Bq d30 (fun (d49 : Int) (e50 : Unit) => (((d49 != (0 : Int)) = true → K ([], d49) ()) ∧ ((d49 != (0 : Int)) = false → K (d30, (0 : Int)) ())))))))))))))
theorem Abh {P : Pg} (h : Has P AaO) {x : DP AaG.ps} {K : DP AaG.rs → DP (ptrs AaG.ps) → Prop} (hw : Aa2 P x K) : Fn P S0 AaG x K :=
 CB (c := AaS) h rfl rfl (by kernel_rfl) (Eq.mpr (show Cu P AaO AaG AaS x K = _ by kernel_rfl) hw)
def AaX : Bw :=
 (.seq (.region [o1 4 (.asg kF)]) (.seq (.seq (.region [im 6 0, o1 7 (.lenK 6), im 8 1, o1 9 (.lenK 8), o1 10 (.bin .neq 7 9)]) (.cond 10 (.seq (.region [o1 4 (.asg kF)]) .ret)
 .skip)) (.seq (.seq (.region [ia 5 (kI 0)]) (.frame (rg [4, 5] 11 15) [] false (.join [.sl 4 false .bool .leaf] (.block 0 (.loop [.sl 4 false .bool .leaf, .si 5] (.seq (.seq
 (.region [im 11 5, im 12 0, o1 13 (.lenK 12), o1 14 (.bin .lss 11 13)]) (.cond 14 .skip (.exit 0))) (.seq (.frame (rg [4] 17 9) [] false (.join [.sl 4 false .bool .leaf] (.block 1
 (.seq (.draw [(.first (im 17 0) (.first (im 18 5) (.first (o1 19 (.ixA 2 17 18)) (.first (o1 20 (.load true 2 19)) (.first (im 21 1) (.first (im 22 5) (.first (o1 23 (.ixA 2 21
 22)) (.first (o1 24 (.load true 2 23)) (.first (o1 25 (.eqA true [.str, .str] 20 24)) .done)))))))))]) (.cond 25 (.seq (.region [o1 4 (.asg kF)]) .ret) .skip))))) (.region [im 15
 5, o1 16 (.bin .add 15 (kI 1)), ia 5 16])))))))) (.seq (.region [o1 4 (.asg kT)]) .ret))))
def AaR : AFn := ⟨ RB, AaX.erase, [.tmp 4], 2⟩
def Aa8 (P : Pg) (x : ((List ((List UInt8) × (List UInt8))) × (List ((List UInt8) × (List UInt8))))) (K : Bool → Unit → Prop) : Prop :=
 ((((x.1.length : Int) != (x.2.length : Int)) = true → K false ()) ∧ (((x.1.length : Int) != (x.2.length : Int)) = false → Ar (D := Bool) (fun J1 => BU (D := (Bool × Int)) (false, (0 : Int)) (fun d3 J4 => (((decide (d3.2 < (x.1.length : Int))) = true → Ar (D := Bool) (fun J5 => (0 ≤ d3.2 ∧ d3.2 < (x.1.length : Int)) ∧
 (d3.2.toNat < x.1.length) ∧
 (0 ≤ d3.2 ∧ d3.2 < (x.2.length : Int)) ∧
 (d3.2.toNat < x.2.length) ∧
 (((!(((List.getD x.1 d3.2.toNat ([], [])).1 == (List.getD x.2 d3.2.toNat ([], [])).1) && (((List.getD x.1 d3.2.toNat ([], [])).2 == (List.getD x.2 d3.2.toNat ([], [])).2) && true))) = true → K false ()) ∧ ((!(((List.getD x.1 d3.2.toNat ([], [])).1 == (List.getD x.2 d3.2.toNat ([], [])).1) && (((List.getD x.1 d3.2.toNat ([], [])).2 == (List.getD x.2 d3.2.toNat ([], [])).2) && true))) = false → J5 d3.1))) (fun d6 => J4 (d6, (i64.wrap (d3.2 + (1 : Int)))))) ∧ ((decide (d3.2 < (x.1.length : Int))) = false → J1 d3.1)))) (fun d2 => K true ())))
theorem Abs {P : Pg} (h : Has P AaR) {x : DP AaH.ps} {K : DP AaH.rs → DP (ptrs AaH.ps) → Prop} (hw : Aa8 P x K) : Fn P RB AaH x K :=
 CB (c := AaX) h rfl rfl (by kernel_rfl) (Eq.mpr (show Cu P AaR AaH AaX x K = _ by kernel_rfl) hw)
def AaM : Bw :=
 (.seq (.region [o1 8 (.asg kF)]) (.seq (.seq (.region [im 22 2, o1 23 (.lenK 22), o1 24 (.bin .gtr 23 (kI 6))]) (.cond 24 (.seq (.region [oS ⟨some 25, .call
 zS8 [], none⟩ Bp, ia 8 25]) .ret) .skip)) (.seq (.region [im 26 0, oS ⟨some 27, .call RA [26, (kI 0), (kI 2)],
 none⟩ BV, im 28 0, oS ⟨some 29, .call RA [28, (kI 200), (kI 2)], none⟩ BV, ia 9 27, ia 10 29]) (.seq (.region [im 30 9, im 31 10, oS
 ⟨some 32, .call V6 [30, 31], none⟩ BX, ia 11 32]) (.seq (.region [o1 12 (.asg (.c (.slice none 0 0)))]) (.seq (.seq (.region [ia 13 (kI
 0)]) (.frame (rg [12, 13] 33 23) [] false (.join [.sl 12 false (.sl (.pair .str bI)) tO] (.block 0 (.loop [.sl 12 false (.sl (.pair .str bI)) tO, .si 13] (.seq (.seq (.region [im
 33 13, im 34 11, o1 35 (.lenK 34), o1 36 (.bin .lss 33 35)]) (.cond 36 .skip (.exit 0))) (.seq (.frame (rg [12] 39 17) [] false (.join [.sl 12 false (.sl (.pair .str bI)) tO]
 (.block 1 (.seq (.region [im 39 13, im 40 1, o1 41 (.lenK 40), o1 42 (.bin .lss 39 41), im 43 42, gt 44 43 (.mv 1), gt 45 43 (.mv 13), gt 46 43 (.ixA 1 44 45), gt 47 43 (.load
 false 1 46), o1 48 (.pick 43 47 kF)]) (.frame (rg [12] 49 7) [] false (.join [.sl 12 false (.sl (.pair .str bI)) tO] (.cond 48 (.region [im 49 12, im 50 11, im 51 13, o1 52 (.ixA 2
 50 51), o1 53 (.load true 2 52), oT ⟨some 54, .buildSl 2 [(.string ⟨#[]⟩), (.int .i64 0)] 1 [(0, 53)], none⟩ (some ((.pair .str bI), .leaf)), oT ⟨some 55, .app 2 24 49 54, none⟩
 (some ((.pair .str bI), .leaf)), ia 12 55]) .skip))))))) (.region [im 37 13, o1 38 (.bin .add 37 (kI 1)), ia 13 38])))))))) (.seq (.seq (.region [im 56 12, o1 57 (.lenK 56), o1 58
 (.bin .gtr 57 (kI 0)), im 59 58, gt 60 59 (.mv 3), gt 61 59 (.bin .rem 60 (kI 4)), gt 62 59 (.bin .eql 61 (kI 0)), o1 63 (.pick 59 62 kF)]) (.frame (rg [12] 64 11) [] false (.join
 [.sl 12 false (.sl (.pair .str bI)) tO] (.cond 63 (.region [im 64 12, im 65 3, im 66 12, o1 67 (.lenK 66), oS ⟨some 68, .call zS1 [65, 67], none⟩
 Ci, im 69 3, o1 70 (.bin .quo 69 (kI 4)), oS ⟨some 71, .call zS1 [70, (kI 6)], none⟩ Ci, o1 72 (.bin .sub 71 (kI 1)), o1 73 (.ixA 2 64 68),
 fa 74 1 73, o0 ⟨none, .store 1 74 72, none⟩]) .skip)))) (.seq (.seq (.region [im 75 12, o1 76 (.lenK 75), o1 77 (.bin .gtr 76 (kI 0)), im 78 77, gt 79 78 (.mv 3), gt 80 78 (.bin
 .rem 79 (kI 7)), gt 81 78 (.bin .eql 80 (kI 0)), o1 82 (.pick 78 81 kF)]) (.frame (rg [12] 83 6) [] false (.join [.sl 12 false (.sl (.pair .str bI)) tO] (.cond 82 (.region [im 83
 12, im 84 12, o1 85 (.ixA 2 84 (kI 0)), o1 86 (.load true 2 85), oT ⟨some 87, .buildSl 2 [(.string ⟨#[]⟩), (.int .i64 0)] 1 [(0, 86)], none⟩ (some ((.pair .str bI), .leaf)), oT
 ⟨some 88, .app 2 24 83 87, none⟩ (some ((.pair .str bI), .leaf)), ia 12 88]) .skip)))) (.seq (.region [im 90 9, im 91 10, im 92 12, oS ⟨some 93, .call Wa [90,
 91, 92], none⟩ AaN, im 89 93, o1 94 (.ext 89 0), o1 95 (.ext 89 1), ia 14 94, ia 15 95]) (.seq (.region [im 97 9, im 98 10, im 99 12, oS ⟨some 100, .call
 S0 [97, 98, 99], none⟩ AaG, im 96 100, o1 101 (.ext 96 0), o1 102 (.ext 96 1), ia 16 101, ia 17 102]) (.seq (.region [im 104 9, im 105 10,
 im 106 2, oS ⟨some 107, .call Wa [104, 105, 106], none⟩ AaN, im 103 107, o1 108 (.ext 103 0), o1 109 (.ext 103 1), ia 18 108, ia 19 109]) (.seq
 (.region [im 111 9, im 112 10, im 113 2, oS ⟨some 114, .call S0 [111, 112, 113], none⟩ AaG, im 110 114, o1 115 (.ext 110 0), o1 116 (.ext
 110 1), ia 20 115, ia 21 116]) (.seq (.region [im 117 14, im 118 16, oS ⟨some 119, .call RB [117, 118], none⟩ AaH, im 120 119, gt 121 120 (.mv
 15), gt 122 120 (.mv 17), gt 123 120 (.bin .eql 121 122), o1 124 (.pick 120 123 kF), im 125 124, gt 126 125 (.mv 18), gt 127 125 (.mv 20), oS ⟨some 128, .call
 RB [126, 127], some (125, true)⟩ AaH, o1 129 (.pick 125 128 kF), im 130 129, gt 131 130 (.mv 19), gt 132 130 (.mv 21), gt 133 130 (.bin .eql 131
 132), o1 134 (.pick 130 133 kF), im 135 134, oS ⟨some 136, .call zS8 [], some (135, true)⟩ Bp, o1 137 (.pick 135 136 kF), ia 8 137])
 .ret)))))))))))))
def AaI : AFn := ⟨ Wb, AaM.erase, [.tmp 8], 4⟩
def AaQ (P : Pg) (x : ((List Int) × ((List Bool) × ((List ((List UInt8) × Int)) × Int)))) (K : Bool → Unit → Prop) : Prop :=
 (((decide ((x.2.2.1.length : Int) > (6 : Int))) = true → Fn P zS8 Bp () (fun (d1 : Bool) (e2 : Unit) => K d1 ())) ∧ ((decide ((x.2.2.1.length : Int) > (6 : Int))) = false → Fn P RA BV (x.1, ((0 : Int), (2 : Int))) (fun (d3 : (List ((List UInt8) × (List UInt8)))) (e4 : Unit) => Fn P RA BV (x.1, ((200 : Int), (2 : Int))) (fun (d5 : (List ((List UInt8) × (List UInt8)))) (e6 : Unit) => Fn P V6 BX (d3, d5) (fun (d7 : (List ((List UInt8) × Int))) (e8 : Unit) => Ar (D := (List ((List UInt8) × Int))) (fun J9 => BU (D := ((List ((List UInt8) × Int)) × Int)) ([], (0 : Int)) (fun d11 J12 => (((decide (d11.2 < (d7.length : Int))) = true → Ar (D := (List ((List UInt8) × Int))) (fun J13 => (((decide (d11.2 < (x.2.1.length : Int))) = true → 0 ≤ d11.2 ∧ d11.2 < (x.2.1.length : Int))) ∧
 (((decide (d11.2 < (x.2.1.length : Int))) = true → d11.2.toNat < x.2.1.length)) ∧
 Ar (D := (List ((List UInt8) × Int))) (fun J15 => (((cond (decide (d11.2 < (x.2.1.length : Int))) (List.getD x.2.1 d11.2.toNat false) false) = true → (0 ≤ d11.2 ∧ d11.2 < (d7.length : Int)) ∧
 (d11.2.toNat < d7.length) ∧
 ((d11.1.length + List.length ([(List.getD d7 d11.2.toNat ([], (0 : Int)))] : List ((List UInt8) × Int))) * 24 ≤ 140737488355328) ∧
 J15 (d11.1 ++ ([(List.getD d7 d11.2.toNat ([], (0 : Int)))] : List ((List UInt8) × Int)))) ∧ ((cond (decide (d11.2 < (x.2.1.length : Int))) (List.getD x.2.1 d11.2.toNat false) false) = false → J15 d11.1))) (fun d16 => J13 d16)) (fun d14 => J12 (d14, (i64.wrap (d11.2 + (1 : Int)))))) ∧ ((decide (d11.2 < (d7.length : Int))) = false → J9 d11.1)))) (fun d10 => (((decide ((d10.length : Int) > (0 : Int))) = true → (4 : Int) ≠ 0)) ∧
 Ar (D := (List ((List UInt8) × Int))) (fun J17 => (((cond (decide ((d10.length : Int) > (0 : Int))) ((Int.tmod x.2.2.2 (4 : Int)) == (0 : Int)) false) = true → Fn P zS1 Ci (x.2.2.2, (d10.length : Int)) (fun (d19 : Int) (e20 : Unit) => ((4 : Int) ≠ 0) ∧
 Fn P zS1 Ci ((i64.wrap (Int.tdiv x.2.2.2 (4 : Int))), (6 : Int)) (fun (d21 : Int) (e22 : Unit) => (0 ≤ d19 ∧ d19 < (d10.length : Int)) ∧
 (d19.toNat < d10.length) ∧
 J17 (List.set d10 d19.toNat ((List.getD d10 d19.toNat ([], (0 : Int))).1, (i64.wrap (d21 - (1 : Int)))))))) ∧ ((cond (decide ((d10.length : Int) > (0 : Int))) ((Int.tmod x.2.2.2 (4 : Int)) == (0 : Int)) false) = false → J17 d10))) (fun d18 => (((decide ((d18.length : Int) > (0 : Int))) = true → (7 : Int) ≠ 0)) ∧
 Ar (D := (List ((List UInt8) × Int))) (fun J23 => (((cond (decide ((d18.length : Int) > (0 : Int))) ((Int.tmod x.2.2.2 (7 : Int)) == (0 : Int)) false) = true → (0 ≤ (0 : Int) ∧ (0 : Int) < (d18.length : Int)) ∧
 ((Int.toNat (0 : Int)) < d18.length) ∧
 ((d18.length + List.length ([(List.getD d18 (Int.toNat (0 : Int)) ([], (0 : Int)))] : List ((List UInt8) × Int))) * 24 ≤ 140737488355328) ∧
 J23 (d18 ++ ([(List.getD d18 (Int.toNat (0 : Int)) ([], (0 : Int)))] : List ((List UInt8) × Int)))) ∧ ((cond (decide ((d18.length : Int) > (0 : Int))) ((Int.tmod x.2.2.2 (7 : Int)) == (0 : Int)) false) = false → J23 d18))) (fun d24 => Fn P Wa AaN (d3, (d5, d24)) (fun (d25 : ((List ((List UInt8) × (List UInt8))) × Int)) (e26 : Unit) => Fn P S0 AaG (d3, (d5, d24)) (fun (d27 : ((List ((List UInt8) × (List UInt8))) × Int)) (e28 : Unit) => Fn P Wa AaN (d3, (d5, x.2.2.1)) (fun (d29 : ((List ((List UInt8) × (List UInt8))) × Int)) (e30 : Unit) => Fn P S0 AaG (d3, (d5, x.2.2.1)) (fun (d31 : ((List ((List UInt8) × (List UInt8))) × Int)) (e32 : Unit) => Fn P RB AaH (d25.1, d27.1) (fun (d33 : Bool) (e34 : Unit) => Ar (D := Bool) (fun J35 => (((cond d33 (d25.2 == d27.2) false) = true → Fn P RB AaH (d29.1, d31.1) (fun (d36 : Bool) _ => J35 d36)) ∧ (((cond d33 (d25.2 == d27.2) false) = false → J35 false) ∧ True))) (fun d37 => Ar (D := Bool) (fun J38 => (((cond (cond (cond d33 (d25.2 == d27.2) false) d37 false) (d29.2 == d31.2) false) = true → Fn P zS8 Bp () (fun (d39 : Bool) _ => J38 d39)) ∧ (((cond (cond (cond d33 (d25.2 == d27.2) false) d37 false) (d29.2 == d31.2) false) = false → J38 false) ∧ True))) (fun d40 => K (cond (cond (cond (cond d33 (d25.2 == d27.2) false) d37 false) (d29.2 == d31.2) false) d40 false) ())))))))))))))))
theorem AaW {P : Pg} (h : Has P AaI) {x : DP AaF.ps} {K : DP AaF.rs → DP (ptrs AaF.ps) → Prop} (hw : AaQ P x K) : Fn P Wb AaF x K :=
 CB (c := AaM) h rfl rfl (by kernel_rfl) (Eq.mpr (show Cu P AaI AaF AaM x K = _ by kernel_rfl) hw)
def H4 : Bw :=
 (.seq (.region [ia 4 (kI 0)]) (.seq (.seq (.region [im 6 0, oS ⟨some 7, .call zS2 [6], none⟩ A8, ia 5 7]) (.seq (.region [im 8 5, o1 9 (.bin .neq 8 (kI
 0))]) (.cond 9 (.seq (.region [im 10 5, ia 4 10]) .ret) .skip))) (.seq (.region [im 11 1, oS ⟨some 12, .call zS2 [11], none⟩ A8, ia 4 12]) .ret)))
def F8 : AFn := ⟨ "mergelens/tree.both", H4.erase, [.tmp 4], 2⟩
def Ll (P : Pg) (x : ((List ((List UInt8) × (List UInt8))) × (List ((List UInt8) × (List UInt8))))) (K : Int → Unit → Prop) : Prop :=
 Fn P zS2 A8 x.1 (fun (d1 : Int) (e2 : Unit) => (((d1 != (0 : Int)) = true → K d1 ()) ∧ ((d1 != (0 : Int)) = false → Fn P zS2 A8 x.2 (fun (d3 : Int) (e4 : Unit) => K d3 ()))))
theorem Pk {P : Pg} (h : Has P F8) {x : DP Dn.ps} {K : DP Dn.rs → DP (ptrs Dn.ps) → Prop} (hw : Ll P x K) : Fn P "mergelens/tree.both" Dn x K :=
 CB (c := H4) h rfl rfl (by kernel_rfl) (Eq.mpr (show Cu P F8 Dn H4 x K = _ by kernel_rfl) hw)
end Go.VS
