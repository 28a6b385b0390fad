/- Functions of the program: typed code, and what it says, lifted. -/
import Derived.Test.YtbpbcfiodckhjaaDoorKTxSig
import Derived.KernelRfl
set_option linter.unusedVariables false
set_option linter.unusedSimpArgs false
set_option maxRecDepth 8000
namespace Go.VS
open IntKind
def H3 : Bw :=
 (.seq (.region [o1 4 (.asg (.c (.string ⟨#[]⟩))), o1 5 (.asg kF)]) (.seq (.seq (.region [im 8 0, o1 9 (.lenK 8), o1 10 (.mv (kI 0))]) (.frame (rg [4, 5, 7] 10 11) [1007] false
 (.join [.sl 4 false .str .leaf, .sl 5 false .bool .leaf] (.block 0 (.loop [.sl 4 false .str .leaf, .sl 5 false .bool .leaf, .si 10] (.seq (.region [o1 11 (.bin .lss 10 9)]) (.seq
 (.cond 11 .skip (.exit 0)) (.seq (.frame (rg [4, 5, 7] 12 8) [1007] false (.join [.sl 4 false .str .leaf, .sl 5 false .bool .leaf] (.block 1 (.seq (.region [o1 12 (.ixA 2 8 10), o1
 13 (.load true 2 12), o1 7 (.alloc [(.string ⟨#[]⟩), (.string ⟨#[]⟩)]), o0 ⟨none, .store 2 7 13, none⟩]) (.seq (.region [fa 14 0 7, ld 15 14, im 16 1, o1 17 (.bin .eql 15 16)])
 (.cond 17 (.seq (.region [fa 18 1 7, ld 19 18, ia 4 19, o1 5 (.asg kT)]) .ret) .skip)))))) (.region [o1 20 (.bin .add 10 (kI 1)), im 10 20]))))))))) (.seq (.region [o1 4 (.asg (.c
 (.string ⟨#[]⟩))), o1 5 (.asg kF)]) .ret)))
def F7 : AFn := ⟨ RA, H3.erase, [.tmp 4, .tmp 5], 2⟩
def Lk (P : Pg) (x : ((List ((List UInt8) × (List UInt8))) × (List UInt8))) (K : ((List UInt8) × Bool) → Unit → Prop) : Prop :=
 Ar (D := ((List UInt8) × Bool)) (fun J1 => BU (D := ((List UInt8) × (Bool × Int))) (([] : List UInt8), (false, (0 : Int))) (fun d3 J4 => (((decide (d3.2.2 < (x.1.length : Int))) = true → Ar (D := ((List UInt8) × Bool)) (fun J5 => (0 ≤ d3.2.2 ∧ d3.2.2 < (x.1.length : Int)) ∧
 (d3.2.2.toNat < x.1.length) ∧
 ((((List.getD x.1 d3.2.2.toNat ([], [])).1 == x.2) = true → K ((List.getD x.1 d3.2.2.toNat ([], [])).2, true) ()) ∧ (((List.getD x.1 d3.2.2.toNat ([], [])).1 == x.2) = false → J5 (d3.1, d3.2.1)))) (fun d6 => J4 (d6.1, (d6.2, (i64.wrap (d3.2.2 + (1 : Int))))))) ∧ ((decide (d3.2.2 < (x.1.length : Int))) = false → J1 (d3.1, d3.2.1))))) (fun d2 => K (([] : List UInt8), false) ())
theorem Pj {P : Pg} (h : Has P F7) {x : DP CA.ps} {K : DP CA.rs → DP (ptrs CA.ps) → Prop} (hw : Lk P x K) : Fn P RA CA x K :=
 CB (c := H3) h rfl rfl (by kernel_rfl) (Eq.mpr (show Cu P F7 CA H3 x K = _ by kernel_rfl) hw)
def FQ : Bw :=
 (.seq (.region [o1 1 (.box 0), o1 2 (.asg kF)]) (.seq (.region [fa 3 0 1, ld 4 3, oS ⟨some 5, .call zS5 [4], none⟩ Bm, o1 6 (.bin .neq 5 (kI
 0)), ia 2 6]) .ret))
def DZ : AFn := ⟨ zS8, FQ.erase, [.tmp 2], 1⟩
def Hw (P : Pg) (x : ((List UInt8) × (List UInt8))) (K : Bool → Unit → Prop) : Prop :=
 Fn P zS5 Bm x.1 (fun (d1 : Int) (e2 : Unit) => K (d1 != (0 : Int)) ())
theorem LH {P : Pg} (h : Has P DZ) {x : DP BZ.ps} {K : DP BZ.rs → DP (ptrs BZ.ps) → Prop} (hw : Hw P x K) : Fn P zS8 BZ x K :=
 CB (c := FQ) h rfl rfl (by kernel_rfl) (Eq.mpr (show Cu P DZ BZ FQ x K = _ by kernel_rfl) hw)
def AX : Bw :=
 (.seq (.region [ia 4 (kI 0)]) (.seq (.seq (.region [im 6 0, o1 7 (.lenK 6), o1 8 (.mv (kI 0))]) (.frame (rg [4, 5] 8 11) [] false (.join [.si 4] (.block 0 (.loop [.si 4, .si 8]
 (.seq (.region [o1 9 (.bin .lss 8 7)]) (.seq (.cond 9 .skip (.exit 0)) (.seq (.frame (rg [4, 5] 10 8) [] false (.join [.si 4] (.block 1 (.seq (.region [im 10 8, ia 5 10]) (.seq
 (.region [im 11 1, im 12 0, im 13 5, o1 14 (.ixA 2 12 13), o1 15 (.load true 2 14), oS ⟨some 16, .callv 11 [15], none⟩ BZ]) (.cond 16 (.seq (.region [im 17 5, ia 4 17])
 .ret) .skip)))))) (.region [o1 18 (.bin .add 8 (kI 1)), im 8 18]))))))))) (.seq (.region [ia 4 (kI (-1))]) .ret)))
def AH : AFn := ⟨ zS2, AX.erase, [.tmp 4], 2⟩
def Bf (P : Pg) (x : ((List ((List UInt8) × (List UInt8))) × Unit)) (K : Int → Unit → Prop) : Prop :=
 Ar (D := Int) (fun J1 => BU (D := (Int × Int)) ((0 : Int), (0 : Int)) (fun d3 J4 => (((decide (d3.2 < (x.1.length : Int))) = true → Ar (D := Int) (fun J5 => (0 ≤ d3.2 ∧ d3.2 < (x.1.length : Int)) ∧
 (d3.2.toNat < x.1.length) ∧
 Fn P zS8 BZ (List.getD x.1 d3.2.toNat ([], [])) (fun (d7 : Bool) (e8 : Unit) => ((d7 = true → K d3.2 ()) ∧ (d7 = false → J5 d3.1)))) (fun d6 => J4 (d6, (i64.wrap (d3.2 + (1 : Int)))))) ∧ ((decide (d3.2 < (x.1.length : Int))) = false → J1 d3.1)))) (fun d2 => K (-1 : Int) ())
theorem Cj {P : Pg} (h : Has P AH) {x : DP Am.ps} {K : DP Am.rs → DP (ptrs Am.ps) → Prop} (hw : Bf P x K) : Fn P zS2 Am x K :=
 CB (c := AX) h rfl rfl (by kernel_rfl) (Eq.mpr (show Cu P AH Am AX x K = _ by kernel_rfl) hw)
def AQ : Bw :=
 (.seq (.region [o1 4 (.asg kF)]) (.seq (.region [im 5 0, im 6 1, oS ⟨some 7, .call zS2 [5, 6], none⟩
 Am, o1 8 (.bin .geq 7 (kI 0)), ia 4 8]) .ret))
def AE : AFn := ⟨ zS3, AQ.erase, [.tmp 4], 2⟩
def Ba (P : Pg) (x : ((List ((List UInt8) × (List UInt8))) × Unit)) (K : Bool → Unit → Prop) : Prop :=
 Fn P zS2 Am (x.1, ()) (fun (d1 : Int) (e2 : Unit) => K (decide (d1 ≥ (0 : Int))) ())
theorem B7 {P : Pg} (h : Has P AE) {x : DP Ak.ps} {K : DP Ak.rs → DP (ptrs Ak.ps) → Prop} (hw : Ba P x K) : Fn P zS3 Ak x K :=
 CB (c := AQ) h rfl rfl (by kernel_rfl) (Eq.mpr (show Cu P AE Ak AQ x K = _ by kernel_rfl) hw)
def Hf : Bw :=
 (.seq (.region [o1 2 (.asg kF)]) (.seq (.region [im 3 0, oS ⟨some 4, .call "strings.HasSuffix" [3, (.c (.string ⟨#[10]⟩))], none⟩ S_strings_HasSuffix, ia 2 4]) .ret))
def E7 : AFn := ⟨ V1, Hf.erase, [.tmp 2], 1⟩
def Jw (P : Pg) (x : (List UInt8)) (K : Bool → Unit → Prop) : Prop :=
 Fn P "strings.HasSuffix" S_strings_HasSuffix (x, ([10] : List UInt8)) (fun (d1 : Bool) (e2 : Unit) => K d1 ())
theorem NL {P : Pg} (h : Has P E7) {x : DP Cz.ps} {K : DP Cz.rs → DP (ptrs Cz.ps) → Prop} (hw : Jw P x K) : Fn P V1 Cz x K :=
 CB (c := Hf) h rfl rfl (by kernel_rfl) (Eq.mpr (show Cu P E7 Cz Hf x K = _ by kernel_rfl) hw)
def He : Bw :=
 (.seq (.region [ia 2 (kI 0)]) (.seq (.region [im 4 0, oS ⟨some 5, .call "strings.Count" [4, (.c (.string ⟨#[10]⟩))], none⟩ C6, ia 3 5]) (.seq (.seq (.region [im 6 0,
 o1 7 (.bin .neq 6 (.c (.string ⟨#[]⟩))), im 8 7, gt 9 8 (.mv 0), oS ⟨some 10, .call V1 [9], some (8, true)⟩ Cz, gt 11 8 (.un .not 10), o1 12 (.pick 8
 11 kF)]) (.frame [3, 13, 14] [] false (.join [.si 3] (.cond 12 (.region [im 13 3, o1 14 (.bin .add 13 (kI 1)), ia 3 14]) .skip)))) (.seq (.seq (.region [im 15 0, o1 16 (.lenS 15),
 o1 17 (.bin .gtr 16 (kI 1048576)), im 18 17, gf 19 18 (.mv 3), gf 20 18 (.bin .gtr 19 (kI 4096)), o1 21 (.pick 18 kT 20)]) (.cond 21 (.seq (.region [ia 2 (kI 1)]) .ret) .skip))
 (.seq (.region [ia 2 (kI 0)]) .ret)))))
def E6 : AFn := ⟨ SZ, He.erase, [.tmp 2], 1⟩
def Jv (P : Pg) (x : (List UInt8)) (K : Int → Unit → Prop) : Prop :=
 Fn P "strings.Count" C6 (x, ([10] : List UInt8)) (fun (d1 : Int) (e2 : Unit) => Ar (D := Bool) (fun J3 => (((!(x == ([] : List UInt8))) = true → Fn P V1 Cz x (fun (d4 : Bool) _ => J3 d4)) ∧ (((!(x == ([] : List UInt8))) = false → J3 false) ∧ True))) (fun d5 => Ar (D := Int) (fun J6 => (((cond (!(x == ([] : List UInt8))) (!d5) false) = true → J6 (i64.wrap (d1 + (1 : Int)))) ∧ ((cond (!(x == ([] : List UInt8))) (!d5) false) = false → J6 d1))) (fun d7 => (((cond (decide ((x.length : Int) > (1048576 : Int))) true (decide (d7 > (4096 : Int)))) = true → K (1 : Int) ()) ∧ ((cond (decide ((x.length : Int) > (1048576 : Int))) true (decide (d7 > (4096 : Int)))) = false → K (0 : Int) ())))))
theorem NK {P : Pg} (h : Has P E6) {x : DP Cy.ps} {K : DP Cy.rs → DP (ptrs Cy.ps) → Prop} (hw : Jv P x K) : Fn P SZ Cy x K :=
 CB (c := He) h rfl rfl (by kernel_rfl) (Eq.mpr (show Cu P E6 Cy He x K = _ by kernel_rfl) hw)
def FR : Bw :=
 (.seq (.region [o1 1 (.box 0), o1 2 (.asg kF)]) (.seq (.region [fa 3 1 1, ld 4 3, oS ⟨some 5, .call SZ [4], none⟩ Cy, o1 6 (.bin .neq 5 (kI 0)), ia 2
 6]) .ret))
def D0 : AFn := ⟨ zS9, FR.erase, [.tmp 2], 1⟩
def Hx (P : Pg) (x : ((List UInt8) × (List UInt8))) (K : Bool → Unit → Prop) : Prop :=
 Fn P SZ Cy x.2 (fun (d1 : Int) (e2 : Unit) => K (d1 != (0 : Int)) ())
theorem LJ {P : Pg} (h : Has P D0) {x : DP B0.ps} {K : DP B0.rs → DP (ptrs B0.ps) → Prop} (hw : Hx P x K) : Fn P zS9 B0 x K :=
 CB (c := FR) h rfl rfl (by kernel_rfl) (Eq.mpr (show Cu P D0 B0 FR x K = _ by kernel_rfl) hw)
def AY : Bw :=
 (.seq (.region [ia 4 (kI 0)]) (.seq (.seq (.region [im 6 0, o1 7 (.lenK 6), o1 8 (.mv (kI 0))]) (.frame (rg [4, 5] 8 11) [] false (.join [.si 4] (.block 0 (.loop [.si 4, .si 8]
 (.seq (.region [o1 9 (.bin .lss 8 7)]) (.seq (.cond 9 .skip (.exit 0)) (.seq (.frame (rg [4, 5] 10 8) [] false (.join [.si 4] (.block 1 (.seq (.region [im 10 8, ia 5 10]) (.seq
 (.region [im 11 1, im 12 0, im 13 5, o1 14 (.ixA 2 12 13), o1 15 (.load true 2 14), oS ⟨some 16, .callv 11 [15], none⟩ B0]) (.cond 16 (.seq (.region [im 17 5, ia 4 17])
 .ret) .skip)))))) (.region [o1 18 (.bin .add 8 (kI 1)), im 8 18]))))))))) (.seq (.region [ia 4 (kI (-1))]) .ret)))
def AJ : AFn := ⟨ zS2, AY.erase, [.tmp 4], 2⟩
def Bg (P : Pg) (x : ((List ((List UInt8) × (List UInt8))) × Unit)) (K : Int → Unit → Prop) : Prop :=
 Ar (D := Int) (fun J1 => BU (D := (Int × Int)) ((0 : Int), (0 : Int)) (fun d3 J4 => (((decide (d3.2 < (x.1.length : Int))) = true → Ar (D := Int) (fun J5 => (0 ≤ d3.2 ∧ d3.2 < (x.1.length : Int)) ∧
 (d3.2.toNat < x.1.length) ∧
 Fn P zS9 B0 (List.getD x.1 d3.2.toNat ([], [])) (fun (d7 : Bool) (e8 : Unit) => ((d7 = true → K d3.2 ()) ∧ (d7 = false → J5 d3.1)))) (fun d6 => J4 (d6, (i64.wrap (d3.2 + (1 : Int)))))) ∧ ((decide (d3.2 < (x.1.length : Int))) = false → J1 d3.1)))) (fun d2 => K (-1 : Int) ())
theorem Ck {P : Pg} (h : Has P AJ) {x : DP Ao.ps} {K : DP Ao.rs → DP (ptrs Ao.ps) → Prop} (hw : Bg P x K) : Fn P zS2 Ao x K :=
 CB (c := AY) h rfl rfl (by kernel_rfl) (Eq.mpr (show Cu P AJ Ao AY x K = _ by kernel_rfl) hw)
def AR : Bw :=
 (.seq (.region [o1 4 (.asg kF)]) (.seq (.region [im 5 0, im 6 1, oS ⟨some 7, .call zS2 [5, 6], none⟩
 Ao, o1 8 (.bin .geq 7 (kI 0)), ia 4 8]) .ret))
def AF : AFn := ⟨ zS3, AR.erase, [.tmp 4], 2⟩
def Bb (P : Pg) (x : ((List ((List UInt8) × (List UInt8))) × Unit)) (K : Bool → Unit → Prop) : Prop :=
 Fn P zS2 Ao (x.1, ()) (fun (d1 : Int) (e2 : Unit) => K (decide (d1 ≥ (0 : Int))) ())
theorem B8 {P : Pg} (h : Has P AF) {x : DP Al.ps} {K : DP Al.rs → DP (ptrs Al.ps) → Prop} (hw : Bb P x K) : Fn P zS3 Al x K :=
 CB (c := AR) h rfl rfl (by kernel_rfl) (Eq.mpr (show Cu P AF Al AR x K = _ by kernel_rfl) hw)
def Hg : Bw :=
 (.seq (.region [ia 2 (kI 0)]) (.seq (.frame (rg [] 2 15) [] false (.join [.si 2] (.block 0 (.seq (.region [im 4 0, o1 5 (.lenK 4), o1 6 (.bin .gtr 5 (kI 200)), ia 3 6]) (.cond 3
 (.seq (.region [ia 2 (kI 1)]) .ret) (.seq (.region [im 8 0, oS ⟨some 9, .call zS3 [8, (.f zS8)],
 none⟩ Ak, ia 7 9]) (.cond 7 (.seq (.region [ia 2 (kI 210)]) .ret) (.seq (.region [im 11 0, oS ⟨some 12, .call
 "mergelens/tree.ordered" [11], none⟩ D2, o1 13 (.un .not 12), ia 10 13]) (.cond 10 (.seq (.region [ia 2 (kI 211)]) .ret) (.seq (.region [im 15 0, oS ⟨some 16, .call
 zS3 [15, (.f zS9)], none⟩ Al, ia 14 16]) (.cond
 14 (.seq (.region [ia 2 (kI 1)]) .ret) .skip))))))))))) (.seq (.region [ia 2 (kI 0)]) .ret)))
def E8 : AFn := ⟨ zS0, Hg.erase, [.tmp 2], 1⟩
def Jy (P : Pg) (x : (List ((List UInt8) × (List UInt8)))) (K : Int → Unit → Prop) : Prop :=
 Ar (D := Int) (fun J1 => (((decide ((x.length : Int) > (200 : Int))) = true → K (1 : Int) ()) ∧ ((decide ((x.length : Int) > (200 : Int))) = false → Fn P zS3 Ak (x, ()) (fun (d3 : Bool) (e4 : Unit) => ((d3 = true → K (210 : Int) ()) ∧ (d3 = false → Fn P "mergelens/tree.ordered" D2 x (fun (d5 : Bool) (e6 : Unit) => (((!d5) = true → K (211 : Int) ()) ∧ ((!d5) = false → Fn P zS3 Al (x, ()) (fun (d7 : Bool) (e8 : Unit) => ((d7 = true → K (1 : Int) ()) ∧ (d7 = false → J1 (0 : Int))))))))))))) (fun d2 => K (0 : Int) ())
theorem NM {P : Pg} (h : Has P E8) {x : DP A8.ps} {K : DP A8.rs → DP (ptrs A8.ps) → Prop} (hw : Jy P x K) : Fn P zS0 A8 x K :=
 CB (c := Hg) h rfl rfl (by kernel_rfl) (Eq.mpr (show Cu P E8 A8 Hg x K = _ by kernel_rfl) hw)
def Gs : Bw :=
 (.seq (.region [o1 0 (.asg kF)]) (.seq (.region [o1 4 (.build [(.string ⟨#[]⟩), (.string ⟨#[]⟩)] [(0, 1, (.c (.string ⟨#[97]⟩)))]), o1 5 (.build [(.string ⟨#[]⟩), (.string ⟨#[]⟩)]
 [(0, 1, (.c (.string ⟨#[97, 45, 98]⟩)))]), o1 6 (.build [(.string ⟨#[]⟩), (.string ⟨#[]⟩)] [(0, 1, (.c (.string ⟨#[97, 47, 99]⟩)))]), oT ⟨some 7, .buildSl 2 [(.string ⟨#[]⟩),
 (.string ⟨#[]⟩)] 3 [(0, 4), (1, 5), (2, 6)], none⟩ (some ((.pair .str .str), .leaf)), ia 1 7]) (.seq (.region [o1 9 (.build [(.string ⟨#[]⟩), (.string ⟨#[]⟩)] [(0, 1, (.c (.string
 ⟨#[97]⟩))), (1, 1, (.c (.string ⟨#[120]⟩)))]), oT ⟨some 10, .buildSl 2 [(.string ⟨#[]⟩), (.string ⟨#[]⟩)] 1 [(0, 9)], none⟩ (some ((.pair .str .str), .leaf)), oS ⟨some 11, .call
 RA [10, (.c (.string ⟨#[97]⟩))], none⟩ CA, im 8 11, o1 12 (.ext 8 0), o1 13 (.ext 8 1), ia 2 12, ia 3 13]) (.seq (.region [im 14 1, oS ⟨some 15, .call
 zS0 [14], none⟩ A8, o1 16 (.bin .eql 15 (kI 211)), im 17 16, gt 18 17 (.mv 1), gt 19 17 (.slK 2 18 none (some (kI 2))), oS ⟨some 20, .call
 zS0 [19], some (17, true)⟩ A8, gt 21 17 (.bin .eql 20 (kI 0)), o1 22 (.pick 17 21 kF), im 23 22, gt 24 23 (.mv 3), o1 25 (.pick 23 24 kF), im 26 25, gt
 27 26 (.mv 2), o0 ⟨some 28, .bin .eql 27 (.c (.string ⟨#[120]⟩)), some (26, true)⟩, o1 29 (.pick 26 28 kF), im 30 29, oS ⟨some 31, .call zS5 [(.c (.string
 ⟨#[97, 47, 47, 98]⟩))], some (30, true)⟩ Bm, gt 32 30 (.bin .eql 31 (kI 210)), o1 33 (.pick 30 32 kF), im 34 33, oS ⟨some 35, .call zS5 [(.c
 (.string ⟨#[97, 47, 98]⟩))], some (34, true)⟩ Bm, gt 36 34 (.bin .eql 35 (kI 0)), o1 37 (.pick 34 36 kF), ia 0 37]) .ret))))
def EA : AFn := ⟨ RB, Gs.erase, [.tmp 0], 0⟩
def IA (P : Pg) (x : Unit) (K : Bool → Unit → Prop) : Prop :=
 Fn P RA CA (([(([97] : List UInt8), ([120] : List UInt8))] : List ((List UInt8) × (List UInt8))), ([97] : List UInt8)) (fun (d1 : ((List UInt8) × Bool)) (e2 : Unit) => Fn P zS0 A8 ([(([97] : List UInt8), ([] : List UInt8)), (([97, 45, 98] : List UInt8), ([] : List UInt8)), (([97, 47, 99] : List UInt8), ([] : List UInt8))] : List ((List UInt8) × (List UInt8))) (fun (d3 : Int) (e4 : Unit) => (((d3 == (211 : Int)) = true → 0 ≤ (2 : Int) ∧ (2 : Int) ≤ ((List.length ([(([97] : List UInt8), ([] : List UInt8)), (([97, 45, 98] : List UInt8), ([] : List UInt8)), (([97, 47, 99] : List UInt8), ([] : List UInt8))] : List ((List UInt8) × (List UInt8))) : Nat) : Int))) ∧
 Ar (D := Int) (fun J5 => (((0 + (Int.toNat (2 : Int)) ≤ List.length ([(([97] : List UInt8), ([] : List UInt8)), (([97, 45, 98] : List UInt8), ([] : List UInt8)), (([97, 47, 99] : List UInt8), ([] : List UInt8))] : List ((List UInt8) × (List UInt8)))) ∧
 ((d3 == (211 : Int)) = true → Fn P zS0 A8 (List.take (Int.toNat (2 : Int)) (List.drop 0 ([(([97] : List UInt8), ([] : List UInt8)), (([97, 45, 98] : List UInt8), ([] : List UInt8)), (([97, 47, 99] : List UInt8), ([] : List UInt8))] : List ((List UInt8) × (List UInt8))))) (fun (d6 : Int) _ => J5 d6))) ∧ (((d3 == (211 : Int)) = false → J5 (0 : Int)) ∧ True))) (fun d7 => Ar (D := Int) (fun J8 => (((cond (cond (cond (d3 == (211 : Int)) (d7 == (0 : Int)) false) d1.2 false) (d1.1 == ([120] : List UInt8)) false) = true → Fn P zS5 Bm ([97, 47, 47, 98] : List UInt8) (fun (d9 : Int) _ => J8 d9)) ∧ (((cond (cond (cond (d3 == (211 : Int)) (d7 == (0 : Int)) false) d1.2 false) (d1.1 == ([120] : List UInt8)) false) = false → J8 (0 : Int)) ∧ True))) (fun d10 => Ar (D := Int) (fun J11 => (((cond (cond (cond (cond (d3 == (211 : Int)) (d7 == (0 : Int)) false) d1.2 false) (d1.1 == ([120] : List UInt8)) false) (d10 == (210 : Int)) false) = true → Fn P zS5 Bm ([97, 47, 98] : List UInt8) (fun (d12 : Int) _ => J11 d12)) ∧ (((cond (cond (cond (cond (d3 == (211 : Int)) (d7 == (0 : Int)) false) d1.2 false) (d1.1 == ([120] : List UInt8)) false) (d10 == (210 : Int)) false) = false → J11 (0 : Int)) ∧ True))) (fun d13 => K (cond (cond (cond (cond (cond (d3 == (211 : Int)) (d7 == (0 : Int)) false) d1.2 false) (d1.1 == ([120] : List UInt8)) false) (d10 == (210 : Int)) false) (d13 == (0 : Int)) false) ())))))
theorem Mu {P : Pg} (h : Has P EA) {x : DP Bp.ps} {K : DP Bp.rs → DP (ptrs Bp.ps) → Prop} (hw : IA P x K) : Fn P RB Bp x K :=
 CB (c := Gs) h rfl rfl (by kernel_rfl) (Eq.mpr (show Cu P EA Bp Gs x K = _ by kernel_rfl) hw)
def Ld : Bw :=
 (.seq (.region [ia 4 (kI 0)]) (.seq (.region [im 5 0, o1 6 (.conv (.toInt .u64) 5), im 7 1, o1 8 (.conv (.toInt .u64) 7), o1 9 (.bin .rem 6 8), o1 10 (.conv (.toInt .i64) 9), ia 4
 10]) .ret))
def H9 : AFn := ⟨ zS4, Ld.erase, [.tmp 4], 2⟩
def N7 (P : Pg) (x : (Int × Int)) (K : Int → Unit → Prop) : Prop :=
 ((u64.wrap x.2) ≠ 0) ∧
 K (i64.wrap (Int.tmod (u64.wrap x.1) (u64.wrap x.2))) ()
theorem Sb {P : Pg} (h : Has P H9) {x : DP Ci.ps} {K : DP Ci.rs → DP (ptrs Ci.ps) → Prop} (hw : N7 P x K) : Fn P zS4 Ci x K :=
 CB (c := Ld) h rfl rfl (by kernel_rfl) (Eq.mpr (show Cu P H9 Ci Ld x K = _ by kernel_rfl) hw)
def Jm : Bw :=
 (.seq (.region [o1 2 (.asg (.c (.string ⟨#[]⟩)))]) (.seq (.region [oT ⟨some 3, .buildSl 1 [(.string ⟨#[]⟩)] 10 [(0, (.c (.string ⟨#[97]⟩))), (1, (.c (.string ⟨#[98]⟩))), (2, (.c
 (.string ⟨#[99]⟩))), (3, (.c (.string ⟨#[97, 98]⟩))), (4, (.c (.string ⟨#[98, 97]⟩))), (5, (.c (.string ⟨#[]⟩))), (6, (.c (.string ⟨#[97, 97]⟩))), (7, (.c (.string ⟨#[98, 32,
 97]⟩))), (8, (.c (.string ⟨#[120, 43, 121]⟩))), (9, (.c (.string ⟨#[92]⟩)))], none⟩ (some (.str, .leaf)), im 4 0, oS ⟨some 5, .call zS4 [4, (kI 10)], none⟩
 Ci, o1 6 (.ixA 1 3 5), ld 7 6, ia 2 7]) .ret))
def GV : AFn := ⟨ S0, Jm.erase, [.tmp 2], 1⟩
abbrev HT : List (List UInt8) := ([([97] : List UInt8), ([98] : List UInt8), ([99] : List UInt8), ([97, 98] : List UInt8), ([98, 97] : List UInt8), ([] : List UInt8), ([97, 97] : List UInt8), ([98, 32, 97] : List UInt8), ([120, 43, 121] : List UInt8), ([92] : List UInt8)] : List (List UInt8))
def Ma (P : Pg) (x : Int) (K : (List UInt8) → Unit → Prop) : Prop :=
 Fn P zS4 Ci (x, (10 : Int)) (fun (d1 : Int) (e2 : Unit) => (0 ≤ d1 ∧ d1 < ((List.length HT : Nat) : Int)) ∧
 (d1.toNat < List.length HT) ∧
 K (List.getD HT d1.toNat []) ())
theorem Qn {P : Pg} (h : Has P GV) {x : DP Dm.ps} {K : DP Dm.rs → DP (ptrs Dm.ps) → Prop} (hw : Ma P x K) : Fn P S0 Dm x K :=
 CB (c := Jm) h rfl rfl (by kernel_rfl) (Eq.mpr (show Cu P GV Dm Jm x K = _ by kernel_rfl) hw)
def Nw : Bw :=
 (.seq (.region [ia 4 (kI 0)]) (.seq (.region [im 6 1, o1 7 (.bin .add 6 (kI 1)), o1 8 (.conv (.toInt .u64) 7), o1 9 (.bin .mul 8 (.c (.int .u64 11400714819323198485))), ia 5 9])
 (.seq (.seq (.region [im 10 0, o1 11 (.lenK 10), o1 12 (.bin .gtr 11 (kI 0))]) (.frame (rg [5] 13 10) [] false (.join [.sl 5 false (.int .u64) .leaf] (.cond 12 (.region [im 13 5,
 im 14 0, im 15 1, im 16 0, o1 17 (.lenK 16), o1 18 (.bin .rem 15 17), o1 19 (.ixA 1 14 18), ld 20 19, o1 21 (.conv (.toInt .u64) 20), o1 22 (.bin .xor 13 21), ia 5 22]) .skip))))
 (.seq (.region [im 23 5, im 24 5, o1 25 (.bin .shr 24 (.c (.int .u64 31))), o1 26 (.bin .xor 23 25), o1 27 (.bin .mul 26 (.c (.int .u64 13787848793156543929))), ia 5 27]) (.seq
 (.region [im 28 5, im 29 5, o1 30 (.bin .shr 29 (.c (.int .u64 29))), o1 31 (.bin .xor 28 30), o1 32 (.bin .shr 31 (.c (.int .u64 1))), o1 33 (.conv (.toInt .i64) 32), ia 4 33])
 .ret)))))
def Jr : AFn := ⟨ zS1, Nw.erase, [.tmp 4], 2⟩
def P1 (P : Pg) (x : ((List Int) × Int)) (K : Int → Unit → Prop) : Prop :=
 Ar (D := Int) (fun J1 => (((decide ((x.1.length : Int) > (0 : Int))) = true → ((x.1.length : Int) ≠ 0) ∧
 (0 ≤ (Int.tmod x.2 (x.1.length : Int)) ∧ (Int.tmod x.2 (x.1.length : Int)) < (x.1.length : Int)) ∧
 ((Int.toNat (Int.tmod x.2 (x.1.length : Int))) < x.1.length) ∧
 J1 (u64.wrap ((BitVec.toNat (BitVec.ofInt u64.bits (u64.wrap ((u64.wrap (i64.wrap (x.2 + (1 : Int)))) * (11400714819323198485 : Int))) ^^^ BitVec.ofInt u64.bits (u64.wrap (List.getD x.1 (Int.toNat (Int.tmod x.2 (x.1.length : Int))) (0 : Int)))) : Nat) : Int))) ∧ ((decide ((x.1.length : Int) > (0 : Int))) = false → J1 (u64.wrap ((u64.wrap (i64.wrap (x.2 + (1 : Int)))) * (11400714819323198485 : Int)))))) (fun d2 => (0 ≤ (31 : Int)) ∧
 (0 ≤ (29 : Int)) ∧
 (0 ≤ (1 : Int)) ∧
 K (i64.wrap (Int.fdiv (u64.wrap ((BitVec.toNat (BitVec.ofInt u64.bits (u64.wrap ((u64.wrap ((BitVec.toNat (BitVec.ofInt u64.bits d2 ^^^ BitVec.ofInt u64.bits (Int.fdiv d2 (2 ^ (min (Int.toNat (31 : Int)) u64.bits)))) : Nat) : Int)) * (13787848793156543929 : Int))) ^^^ BitVec.ofInt u64.bits (Int.fdiv (u64.wrap ((u64.wrap ((BitVec.toNat (BitVec.ofInt u64.bits d2 ^^^ BitVec.ofInt u64.bits (Int.fdiv d2 (2 ^ (min (Int.toNat (31 : Int)) u64.bits)))) : Nat) : Int)) * (13787848793156543929 : Int))) (2 ^ (min (Int.toNat (29 : Int)) u64.bits)))) : Nat) : Int)) (2 ^ (min (Int.toNat (1 : Int)) u64.bits)))) ())
theorem T9 {P : Pg} (h : Has P Jr) {x : DP Cm.ps} {K : DP Cm.rs → DP (ptrs Cm.ps) → Prop} (hw : P1 P x K) : Fn P zS1 Cm x K :=
 CB (c := Nw) h rfl rfl (by kernel_rfl) (Eq.mpr (show Cu P Jr Cm Nw x K = _ by kernel_rfl) hw)
def Jl : Bw :=
 (.seq (.region [o1 8 (.asg (.c (.string ⟨#[]⟩)))]) (.seq (.region [im 11 0, im 12 1, oS ⟨some 13, .call zS1 [11, 12], none⟩ Cm, im 14 2, o1 15 (.bin
 .add 14 (kI 1)), oS ⟨some 16, .call zS4 [13, 15], none⟩ Ci, ia 2 16]) (.seq (.region [o1 9 (.asg (.c (.string ⟨#[]⟩)))]) (.seq (.seq (.region [ia 10
 (kI 0)]) (.frame (rg [9, 10] 17 17) [] false (.join [.sl 9 false .str .leaf] (.block 0 (.loop [.sl 9 false .str .leaf, .si 10] (.seq (.seq (.region [im 17 10, im 18 2, o1 19 (.bin
 .lss 17 18)]) (.cond 19 .skip (.exit 0))) (.seq (.frame (rg [9] 22 12) [] false (.join [.sl 9 false .str .leaf] (.block 1 (.region [im 22 9, im 23 0, im 24 1, o1 25 (.bin .add 24
 (kI 1)), im 26 10, o1 27 (.bin .add 25 26), oS ⟨some 28, .call zS1 [23, 27], none⟩ Cm, im 29 3, oS ⟨some 30, .call zS4 [28,
 29], none⟩ Ci, oS ⟨some 31, .call S0 [30], none⟩ Dm, o1 32 (.bin .add 22 31), o1 33 (.bin .add 32 (.c (.string ⟨#[10]⟩))), ia 9 33]))))
 (.region [im 20 10, o1 21 (.bin .add 20 (kI 1)), ia 10 21])))))))) (.seq (.seq (.region [im 34 0, im 35 1, o1 36 (.bin .add 35 (kI 90)), oS ⟨some 37, .call
 zS1 [34, 36], none⟩ Cm, o1 38 (.bin .rem 37 (kI 4)), o1 39 (.bin .eql 38 (kI 0)), im 40 39, gt 41 40 (.mv 9), gt 42 40 (.lenS 41), gt 43 40 (.bin .gtr
 42 (kI 1)), o1 44 (.pick 40 43 kF), im 45 44, gt 46 45 (.mv 9), gt 47 45 (.mv 9), gt 48 45 (.lenS 47), gt 49 45 (.bin .sub 48 (kI 2)), gt 50 45 (.ixS 46 49), gt 51 45 (.bin .neq 50
 (.c (.int .u8 10))), o1 52 (.pick 45 51 kF)]) (.frame (rg [9] 53 5) [] false (.join [.sl 9 false .str .leaf] (.cond 52 (.region [im 53 9, im 54 9, o1 55 (.lenS 54), o1 56 (.bin
 .sub 55 (kI 1)), o1 57 (.slS 53 none (some 56)), ia 9 57]) .skip)))) (.seq (.region [im 58 9, ia 8 58]) .ret))))))
def GU : AFn := ⟨ zS6, Jl.erase, [.tmp 8], 4⟩
def L9 (P : Pg) (x : ((List Int) × (Int × (Int × Int)))) (K : (List UInt8) → Unit → Prop) : Prop :=
 Fn P zS1 Cm (x.1, x.2.1) (fun (d1 : Int) (e2 : Unit) => Fn P zS4 Ci (d1, (i64.wrap (x.2.2.1 + (1 : Int)))) (fun (d3 : Int) (e4 : Unit) => Ar (D := (List UInt8)) (fun J5 => BU (D := ((List UInt8) × Int)) (([] : List UInt8), (0 : Int)) (fun d7 J8 => (((decide (d7.2 < d3)) = true → Ar (D := (List UInt8)) (fun J9 => Fn P zS1 Cm (x.1, (i64.wrap ((i64.wrap (x.2.1 + (1 : Int))) + d7.2))) (fun (d11 : Int) (e12 : Unit) => Fn P zS4 Ci (d11, x.2.2.2) (fun (d13 : Int) (e14 : Unit) => Fn P S0 Dm d13 (fun (d15 : (List UInt8)) (e16 : Unit) => (d7.1.length + d15.length ≤ 9223372036854775807) ∧
 (List.length (d7.1 ++ d15) + List.length ([10] : List UInt8) ≤ 9223372036854775807) ∧
 J9 ((d7.1 ++ d15) ++ ([10] : List UInt8)))))) (fun d10 => J8 (d10, (i64.wrap (d7.2 + (1 : Int)))))) ∧ ((decide (d7.2 < d3)) = false → J5 d7.1)))) (fun d6 => Fn P zS1 Cm (x.1, (i64.wrap (x.2.1 + (90 : Int)))) (fun (d17 : Int) (e18 : Unit) => ((4 : Int) ≠ 0) ∧
 (((cond ((Int.tmod d17 (4 : Int)) == (0 : Int)) (decide ((d6.length : Int) > (1 : Int))) false) = true → 0 ≤ (i64.wrap ((d6.length : Int) - (2 : Int))) ∧ (i64.wrap ((d6.length : Int) - (2 : Int))) < (d6.length : Int))) ∧
 Ar (D := (List UInt8)) (fun J19 => (((cond (cond ((Int.tmod d17 (4 : Int)) == (0 : Int)) (decide ((d6.length : Int) > (1 : Int))) false) (((UInt8.toNat (List.getD d6 (Int.toNat (i64.wrap ((d6.length : Int) - (2 : Int)))) 0) : Nat) : Int) != (10 : Int)) false) = true → (0 ≤ (i64.wrap ((d6.length : Int) - (1 : Int))) ∧ (i64.wrap ((d6.length : Int) - (1 : Int))) ≤ (d6.length : Int)) ∧
 J19 (List.take (Int.toNat (i64.wrap ((d6.length : Int) - (1 : Int)))) d6)) ∧ ((cond (cond ((Int.tmod d17 (4 : Int)) == (0 : Int)) (decide ((d6.length : Int) > (1 : Int))) false) (((UInt8.toNat (List.getD d6 (Int.toNat (i64.wrap ((d6.length : Int) - (2 : Int)))) 0) : Nat) : Int) != (10 : Int)) false) = false → J19 d6))) (fun d20 => K d20 ())))))
theorem Qm {P : Pg} (h : Has P GU) {x : DP Cn.ps} {K : DP Cn.rs → DP (ptrs Cn.ps) → Prop} (hw : L9 P x K) : Fn P zS6 Cn x K :=
 CB (c := Jl) h rfl rfl (by kernel_rfl) (Eq.mpr (show Cu P GU Cn Jl x K = _ by kernel_rfl) hw)
def HZ : Bw :=
 (.seq (.region [o1 6 (.asg (.c (.slice none 0 0)))]) (.seq (.region [oT ⟨some 10, .buildSl 1 [(.string ⟨#[]⟩)] 4 [(0, (.c (.string ⟨#[97]⟩))), (1, (.c (.string ⟨#[98, 47, 120]⟩))),
 (2, (.c (.string ⟨#[98, 47, 121]⟩))), (3, (.c (.string ⟨#[99, 32, 100]⟩)))], none⟩ (some (.str, .leaf)), ia 7 10]) (.seq (.region [o1 8 (.asg (.c (.slice none 0 0)))]) (.seq (.seq
 (.region [ia 9 (kI 0)]) (.frame (rg [8, 9] 11 27) [] false (.join [.sl 8 false (.sl (.pair .str .str)) tO] (.block 0 (.loop [.sl 8 false (.sl (.pair .str .str)) tO, .si 9] (.seq
 (.seq (.region [im 11 9, o1 12 (.bin .lss 11 (kI 4))]) (.cond 12 .skip (.exit 0))) (.seq (.frame (rg [8] 15 23) [] false (.join [.sl 8 false (.sl (.pair .str .str)) tO] (.block 1
 (.seq (.region [im 15 0, im 16 1, im 17 9, o1 18 (.bin .add 16 17), oS ⟨some 19, .call zS1 [15, 18], none⟩ Cm, o1 20 (.bin .rem 19 (kI 3)), o1 21
 (.bin .gtr 20 (kI 0))]) (.frame (rg [8] 22 16) [] false (.join [.sl 8 false (.sl (.pair .str .str)) tO] (.cond 21 (.frame (rg [8] 22 16) [] false (.join [.sl 8 false (.sl (.pair
 .str .str)) tO] (.draw [(.first (im 22 8) (.first (im 23 7) (.first (im 24 9) (.first (o1 25 (.ixA 1 23 24)) (.first (im 27 0) (.first (im 28 1) (.first (o1 29 (.bin .add 28 (kI
 10))) (.first (im 30 9) (.first (o1 31 (.bin .mul (kI 20) 30)) (.first (o1 32 (.bin .add 29 31)) (.first (im 33 2) (.alt (ld 26 25) (.alt (oS ⟨some 34, .call
 zS6 [27, 32, 33, (kI 4)], none⟩ Cn) (.first (o1 35 (.build [(.string ⟨#[]⟩), (.string ⟨#[]⟩)] [(0, 1, 26), (1, 1, 34)])) (.alt (oT ⟨some 36,
 .buildSl 2 [(.string ⟨#[]⟩), (.string ⟨#[]⟩)] 1 [(0, 35)], none⟩ (some ((.pair .str .str), .leaf))) (.alt (oT ⟨some 37, .app 2 32 22 36, none⟩ (some ((.pair .str .str), .leaf)))
 (.alt (ia 8 37) .done .stop) .stop) .stop)) .stop) (.alt (oS ⟨some 34, .call zS6 [27, 32, 33, (kI 4)], none⟩ Cn) (.first (ld 26 25) (.first (o1 35
 (.build [(.string ⟨#[]⟩), (.string ⟨#[]⟩)] [(0, 1, 26), (1, 1, 34)])) (.alt (oT ⟨some 36, .buildSl 2 [(.string ⟨#[]⟩), (.string ⟨#[]⟩)] 1 [(0, 35)], none⟩ (some ((.pair .str .str),
 .leaf))) (.alt (oT ⟨some 37, .app 2 32 22 36, none⟩ (some ((.pair .str .str), .leaf))) (.alt (ia 8 37) .done .stop) .stop) .stop))) .stop)))))))))))))]))) .skip))))))) (.region [im
 13 9, o1 14 (.bin .add 13 (kI 1)), ia 9 14])))))))) (.seq (.region [im 38 8, ia 6 38]) .ret)))))
def F6 : AFn := ⟨ zS7, HZ.erase, [.tmp 6], 3⟩
abbrev C4 : List (List UInt8) := ([([97] : List UInt8), ([98, 47, 120] : List UInt8), ([98, 47, 121] : List UInt8), ([99, 32, 100] : List UInt8)] : List (List UInt8))
def Lj (P : Pg) (x : ((List Int) × (Int × Int))) (K : (List ((List UInt8) × (List UInt8))) → Unit → Prop) : Prop :=
 Ar (D := (List ((List UInt8) × (List UInt8)))) (fun J1 => BU (D := ((List ((List UInt8) × (List UInt8))) × Int)) ([], (0 : Int)) (fun d3 J4 => (((decide (d3.2 < (4 : Int))) = true → Ar (D := (List ((List UInt8) × (List UInt8)))) (fun J5 => Fn P zS1 Cm (x.1, (i64.wrap (x.2.1 + d3.2))) (fun (d7 : Int) (e8 : Unit) => ((3 : Int) ≠ 0) ∧
 Ar (D := (List ((List UInt8) × (List UInt8)))) (fun J9 => (((decide ((Int.tmod d7 (3 : Int)) > (0 : Int))) = true → Ar (D := (List ((List UInt8) × (List UInt8)))) (fun J11 => (0 ≤ d3.2 ∧ d3.2 < ((List.length C4 : Nat) : Int)) ∧
 ((d3.2.toNat < List.length C4) ∧
 (Fn P zS6 Cn (x.1, ((i64.wrap ((i64.wrap (x.2.1 + (10 : Int))) + (i64.wrap ((20 : Int) * d3.2)))), (x.2.2, (4 : Int)))) (fun (d13 : (List UInt8)) (e14 : Unit) => ((((d3.1.length + List.length ([((List.getD C4 d3.2.toNat []), d13)] : List ((List UInt8) × (List UInt8)))) * 32 ≤ 140737488355328) ∧
 (J11 (d3.1 ++ ([((List.getD C4 d3.2.toNat []), d13)] : List ((List UInt8) × (List UInt8))))) ∧ True) ∧ True) ∧ True)) ∧ True) ∧ ((Fn P zS6 Cn (x.1, ((i64.wrap ((i64.wrap (x.2.1 + (10 : Int))) + (i64.wrap ((20 : Int) * d3.2)))), (x.2.2, (4 : Int)))) (fun (d15 : (List UInt8)) (e16 : Unit) => (d3.2.toNat < List.length C4) ∧
 ((((d3.1.length + List.length ([((List.getD C4 d3.2.toNat []), d15)] : List ((List UInt8) × (List UInt8)))) * 32 ≤ 140737488355328) ∧
 (J11 (d3.1 ++ ([((List.getD C4 d3.2.toNat []), d15)] : List ((List UInt8) × (List UInt8))))) ∧ True) ∧ True) ∧ True)) ∧ True)) (fun d12 => J9 d12)) ∧ ((decide ((Int.tmod d7 (3 : Int)) > (0 : Int))) = false → J9 d3.1))) (fun d10 => J5 d10))) (fun d6 => J4 (d6, (i64.wrap (d3.2 + (1 : Int)))))) ∧ ((decide (d3.2 < (4 : Int))) = false → J1 d3.1)))) (fun d2 => K d2 ())
theorem Ph {P : Pg} (h : Has P F6) {x : DP BV.ps} {K : DP BV.rs → DP (ptrs BV.ps) → Prop} (hw : Lj P x K) : Fn P zS7 BV x K :=
 CB (c := HZ) h rfl rfl (by kernel_rfl) (Eq.mpr (show Cu P F6 BV HZ x K = _ by kernel_rfl) hw)
def AaX : Bw :=
 (.seq (.region [o1 4 (.asg kF)]) (.seq (.seq (.region [im 6 0, o1 7 (.lenK 6), im 8 1, o1 9 (.lenK 8), o1 10 (.bin .neq 7 9)]) (.cond 10 (.seq (.region [o1 4 (.asg kF)]) .ret)
 .skip)) (.seq (.seq (.region [ia 5 (kI 0)]) (.frame (rg [4, 5] 11 15) [] false (.join [.sl 4 false .bool .leaf] (.block 0 (.loop [.sl 4 false .bool .leaf, .si 5] (.seq (.seq
 (.region [im 11 5, im 12 0, o1 13 (.lenK 12), o1 14 (.bin .lss 11 13)]) (.cond 14 .skip (.exit 0))) (.seq (.frame (rg [4] 17 9) [] false (.join [.sl 4 false .bool .leaf] (.block 1
 (.seq (.draw [(.first (im 17 0) (.first (im 18 5) (.first (o1 19 (.ixA 2 17 18)) (.first (o1 20 (.load true 2 19)) (.first (im 21 1) (.first (im 22 5) (.first (o1 23 (.ixA 2 21
 22)) (.first (o1 24 (.load true 2 23)) (.first (o1 25 (.eqA true [.str, .str] 20 24)) .done)))))))))]) (.cond 25 (.seq (.region [o1 4 (.asg kF)]) .ret) .skip))))) (.region [im 15
 5, o1 16 (.bin .add 15 (kI 1)), ia 5 16])))))))) (.seq (.region [o1 4 (.asg kT)]) .ret))))
def AaR : AFn := ⟨ V0, AaX.erase, [.tmp 4], 2⟩
def Aa8 (P : Pg) (x : ((List ((List UInt8) × (List UInt8))) × (List ((List UInt8) × (List UInt8))))) (K : Bool → Unit → Prop) : Prop :=
 ((((x.1.length : Int) != (x.2.length : Int)) = true → K false ()) ∧ (((x.1.length : Int) != (x.2.length : Int)) = false → Ar (D := Bool) (fun J1 => BU (D := (Bool × Int)) (false, (0 : Int)) (fun d3 J4 => (((decide (d3.2 < (x.1.length : Int))) = true → Ar (D := Bool) (fun J5 => (0 ≤ d3.2 ∧ d3.2 < (x.1.length : Int)) ∧
 (d3.2.toNat < x.1.length) ∧
 (0 ≤ d3.2 ∧ d3.2 < (x.2.length : Int)) ∧
 (d3.2.toNat < x.2.length) ∧
 (((!(((List.getD x.1 d3.2.toNat ([], [])).1 == (List.getD x.2 d3.2.toNat ([], [])).1) && (((List.getD x.1 d3.2.toNat ([], [])).2 == (List.getD x.2 d3.2.toNat ([], [])).2) && true))) = true → K false ()) ∧ ((!(((List.getD x.1 d3.2.toNat ([], [])).1 == (List.getD x.2 d3.2.toNat ([], [])).1) && (((List.getD x.1 d3.2.toNat ([], [])).2 == (List.getD x.2 d3.2.toNat ([], [])).2) && true))) = false → J5 d3.1))) (fun d6 => J4 (d6, (i64.wrap (d3.2 + (1 : Int)))))) ∧ ((decide (d3.2 < (x.1.length : Int))) = false → J1 d3.1)))) (fun d2 => K true ())))
theorem Abs {P : Pg} (h : Has P AaR) {x : DP AaH.ps} {K : DP AaH.rs → DP (ptrs AaH.ps) → Prop} (hw : Aa8 P x K) : Fn P V0 AaH x K :=
 CB (c := AaX) h rfl rfl (by kernel_rfl) (Eq.mpr (show Cu P AaR AaH AaX x K = _ by kernel_rfl) hw)
def AcN : Bw :=
 (.seq (.region [o1 4 (.asg kF)]) (.seq (.region [im 16 0, oS ⟨some 17, .call zS7 [16, (kI 0), (kI 2)], none⟩ BV, im 18 0, oS ⟨some 19, .call
 zS7 [18, (kI 200), (kI 2)], none⟩ BV, ia 5 17, ia 6 19]) (.seq (.region [im 21 5, im 22 6, oS ⟨some 23, .call "mergelens/tree.Diff" [21, 22],
 none⟩ EP, im 20 23, o1 24 (.ext 20 0), o1 25 (.ext 20 1), ia 7 24, ia 8 25]) (.seq (.region [o1 9 (.asg (.c (.slice none 0 0))), o1 10 (.asg (.c (.slice none 0 0)))])
 (.seq (.seq (.region [im 26 7, o1 27 (.lenK 26), o1 28 (.bin .sub 27 (kI 1)), ia 11 28]) (.frame (rg [9, 10, 11] 29 28) [] false (.join [.sl 9 false (.sl (.pair .str bI)) tO, .sl
 10 false (.sl (.pair .str bI)) tO] (.block 0 (.loop [.sl 9 false (.sl (.pair .str bI)) tO, .sl 10 false (.sl (.pair .str bI)) tO, .si 11] (.seq (.seq (.region [im 29 11, o1 30
 (.bin .geq 29 (kI 0))]) (.cond 30 .skip (.exit 0))) (.seq (.frame (rg [9, 10] 33 24) [] false (.join [.sl 9 false (.sl (.pair .str bI)) tO, .sl 10 false (.sl (.pair .str bI)) tO]
 (.block 1 (.seq (.region [im 33 11, im 34 1, o1 35 (.lenK 34), o1 36 (.bin .lss 33 35), im 37 36, gt 38 37 (.mv 1), gt 39 37 (.mv 11), gt 40 37 (.ixA 1 38 39), gt 41 37 (.load
 false 1 40), o1 42 (.pick 37 41 kF)]) (.frame (rg [9, 10] 43 14) [] false (.join [.sl 9 false (.sl (.pair .str bI)) tO, .sl 10 false (.sl (.pair .str bI)) tO] (.cond 42 (.region
 [im 43 9, im 44 7, im 45 11, o1 46 (.ixA 2 44 45), o1 47 (.load true 2 46), oT ⟨some 48, .buildSl 2 [(.string ⟨#[]⟩), (.int .i64 0)] 1 [(0, 47)], none⟩ (some ((.pair .str bI),
 .leaf)), oT ⟨some 49, .app 2 24 43 48, none⟩ (some ((.pair .str bI), .leaf)), ia 9 49]) (.region [im 50 10, im 51 7, im 52 11, o1 53 (.ixA 2 51 52), o1 54 (.load true 2 53), oT
 ⟨some 55, .buildSl 2 [(.string ⟨#[]⟩), (.int .i64 0)] 1 [(0, 54)], none⟩ (some ((.pair .str bI), .leaf)), oT ⟨some 56, .app 2 24 50 55, none⟩ (some ((.pair .str bI), .leaf)), ia 10
 56])))))))) (.region [im 31 11, o1 32 (.bin .sub 31 (kI 1)), ia 11 32])))))))) (.seq (.region [im 58 5, im 59 6, im 60 9, oS ⟨some 61, .call UL [58, 59, 60],
 none⟩ AaN, im 57 61, o1 62 (.ext 57 0), o1 63 (.ext 57 1), ia 12 62, ia 13 63]) (.seq (.region [im 65 12, im 66 6, im 67 10, oS ⟨some 68, .call UL [65,
 66, 67], none⟩ AaN, im 64 68, o1 69 (.ext 64 0), o1 70 (.ext 64 1), ia 14 69, ia 15 70]) (.seq (.region [im 71 8, o1 72 (.bin .eql 71 (kI 0)), im 73 72, gt 74 73 (.mv 13),
 gt 75 73 (.bin .eql 74 (kI 0)), o1 76 (.pick 73 75 kF), im 77 76, gt 78 77 (.mv 15), gt 79 77 (.bin .eql 78 (kI 0)), o1 80 (.pick 77 79 kF), im 81 80, gt 82 81 (.mv 14), gt 83 81
 (.mv 6), oS ⟨some 84, .call V0 [82, 83], some (81, true)⟩ AaH, o1 85 (.pick 81 84 kF), im 86 85, oS ⟨some 87, .call
 RB [], some (86, true)⟩ Bp, o1 88 (.pick 86 87 kF), ia 4 88]) .ret))))))))
def AcM : AFn := ⟨ UM, AcN.erase, [.tmp 4], 2⟩
def AcO (P : Pg) (x : ((List Int) × (List Bool))) (K : Bool → Unit → Prop) : Prop :=
 Fn P zS7 BV (x.1, ((0 : Int), (2 : Int))) (fun (d1 : (List ((List UInt8) × (List UInt8)))) (e2 : Unit) => Fn P zS7 BV (x.1, ((200 : Int), (2 : Int))) (fun (d3 : (List ((List UInt8) × (List UInt8)))) (e4 : Unit) => Fn P "mergelens/tree.Diff" EP (d1, d3) (fun (d5 : ((List ((List UInt8) × Int)) × Int)) (e6 : Unit) => Ar (D := ((List ((List UInt8) × Int)) × (List ((List UInt8) × Int)))) (fun J7 => BU (D := ((List ((List UInt8) × Int)) × ((List ((List UInt8) × Int)) × Int))) ([], ([], (i64.wrap ((d5.1.length : Int) - (1 : Int))))) (fun d9 J10 => (((decide (d9.2.2 ≥ (0 : Int))) = true → Ar (D := ((List ((List UInt8) × Int)) × (List ((List UInt8) × Int)))) (fun J11 => (((decide (d9.2.2 < (x.2.length : Int))) = true → 0 ≤ d9.2.2 ∧ d9.2.2 < (x.2.length : Int))) ∧
 (((decide (d9.2.2 < (x.2.length : Int))) = true → d9.2.2.toNat < x.2.length)) ∧
 Ar (D := ((List ((List UInt8) × Int)) × (List ((List UInt8) × Int)))) (fun J13 => (((cond (decide (d9.2.2 < (x.2.length : Int))) (List.getD x.2 d9.2.2.toNat false) false) = true → (0 ≤ d9.2.2 ∧ d9.2.2 < (d5.1.length : Int)) ∧
 (d9.2.2.toNat < d5.1.length) ∧
 ((d9.1.length + List.length ([(List.getD d5.1 d9.2.2.toNat ([], (0 : Int)))] : List ((List UInt8) × Int))) * 24 ≤ 140737488355328) ∧
 J13 ((d9.1 ++ ([(List.getD d5.1 d9.2.2.toNat ([], (0 : Int)))] : List ((List UInt8) × Int))), d9.2.1)) ∧ ((cond (decide (d9.2.2 < (x.2.length : Int))) (List.getD x.2 d9.2.2.toNat false) false) = false → (0 ≤ d9.2.2 ∧ d9.2.2 < (d5.1.length : Int)) ∧
 (d9.2.2.toNat < d5.1.length) ∧
 ((d9.2.1.length + List.length ([(List.getD d5.1 d9.2.2.toNat ([], (0 : Int)))] : List ((List UInt8) × Int))) * 24 ≤ 140737488355328) ∧
 J13 (d9.1, (d9.2.1 ++ ([(List.getD d5.1 d9.2.2.toNat ([], (0 : Int)))] : List ((List UInt8) × Int))))))) (fun d14 => J11 d14)) (fun d12 => J10 (d12.1, (d12.2, (i64.wrap (d9.2.2 - (1 : Int))))))) ∧ ((decide (d9.2.2 ≥ (0 : Int))) = false → J7 (d9.1, d9.2.1))))) (fun d8 => Fn P UL AaN (d1, (d3, d8.1)) (fun (d15 : ((List ((List UInt8) × (List UInt8))) × Int)) (e16 : Unit) => Fn P UL AaN (d15.1, (d3, d8.2)) (fun (d17 : ((List ((List UInt8) × (List UInt8))) × Int)) (e18 : Unit) => Ar (D := Bool) (fun J19 => (((cond (cond (d5.2 == (0 : Int)) (d15.2 == (0 : Int)) false) (d17.2 == (0 : Int)) false) = true → Fn P V0 AaH (d17.1, d3) (fun (d20 : Bool) _ => J19 d20)) ∧ (((cond (cond (d5.2 == (0 : Int)) (d15.2 == (0 : Int)) false) (d17.2 == (0 : Int)) false) = false → J19 false) ∧ True))) (fun d21 => Ar (D := Bool) (fun J22 => (((cond (cond (cond (d5.2 == (0 : Int)) (d15.2 == (0 : Int)) false) (d17.2 == (0 : Int)) false) d21 false) = true → Fn P RB Bp () (fun (d23 : Bool) _ => J22 d23)) ∧ (((cond (cond (cond (d5.2 == (0 : Int)) (d15.2 == (0 : Int)) false) (d17.2 == (0 : Int)) false) d21 false) = false → J22 false) ∧ True))) (fun d24 => K (cond (cond (cond (cond (d5.2 == (0 : Int)) (d15.2 == (0 : Int)) false) (d17.2 == (0 : Int)) false) d21 false) d24 false) ()))))))))
theorem AcP {P : Pg} (h : Has P AcM) {x : DP AcL.ps} {K : DP AcL.rs → DP (ptrs AcL.ps) → Prop} (hw : AcO P x K) : Fn P UM AcL x K :=
 CB (c := AcN) h rfl rfl (by kernel_rfl) (Eq.mpr (show Cu P AcM AcL AcN x K = _ by kernel_rfl) hw)
def H4 : Bw :=
 (.seq (.region [ia 4 (kI 0)]) (.seq (.seq (.region [im 6 0, oS ⟨some 7, .call zS0 [6], none⟩ A8, ia 5 7]) (.seq (.region [im 8 5, o1 9 (.bin .neq 8 (kI
 0))]) (.cond 9 (.seq (.region [im 10 5, ia 4 10]) .ret) .skip))) (.seq (.region [im 11 1, oS ⟨some 12, .call zS0 [11], none⟩ A8, ia 4 12]) .ret)))
def F8 : AFn := ⟨ "mergelens/tree.both", H4.erase, [.tmp 4], 2⟩
def Ll (P : Pg) (x : ((List ((List UInt8) × (List UInt8))) × (List ((List UInt8) × (List UInt8))))) (K : Int → Unit → Prop) : Prop :=
 Fn P zS0 A8 x.1 (fun (d1 : Int) (e2 : Unit) => (((d1 != (0 : Int)) = true → K d1 ()) ∧ ((d1 != (0 : Int)) = false → Fn P zS0 A8 x.2 (fun (d3 : Int) (e4 : Unit) => K d3 ()))))
theorem Pk {P : Pg} (h : Has P F8) {x : DP Dn.ps} {K : DP Dn.rs → DP (ptrs Dn.ps) → Prop} (hw : Ll P x K) : Fn P "mergelens/tree.both" Dn x K :=
 CB (c := H4) h rfl rfl (by kernel_rfl) (Eq.mpr (show Cu P F8 Dn H4 x K = _ by kernel_rfl) hw)
end Go.VS
