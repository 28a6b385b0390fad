/- Functions of the program: typed code, and what it says, lifted. -/
import Derived.Test.YtbpbcfiodckhjaaDoorKTxSig
import Derived.KernelRfl
set_option linter.unusedVariables false
set_option linter.unusedSimpArgs false
set_option maxRecDepth 8000
namespace Go.VS
open IntKind
def GW : Cd :=
 (.seq (.region [o1 4 (.asg (.c (.string ⟨#[]⟩))), o1 5 (.asg kF)]) (.seq (.seq (.region [im 8 0, o1 9 (.lenK 8), o1 10 (.mv (kI 0))]) (.frame (rg [4, 5, 7] 10 11) [1007] false
 (.join [.sl 4 false .str .leaf, .sl 5 false .bool .leaf] (.block 0 (.loop [.sl 4 false .str .leaf, .sl 5 false .bool .leaf, .si 10] (.seq (.region [o1 11 (.bin .lss 10 9)]) (.seq
 (.cond 11 .skip (.exit 0)) (.seq (.frame (rg [4, 5, 7] 12 8) [1007] false (.join [.sl 4 false .str .leaf, .sl 5 false .bool .leaf] (.block 1 (.seq (.region [o1 12 (.ixA 2 8 10), o1
 13 (.load true 2 12), o1 7 (.alloc [(.string ⟨#[]⟩), (.string ⟨#[]⟩)]), o0 ⟨none, .store 2 7 13, none⟩]) (.seq (.region [fa 14 0 7, ld 15 14, im 16 1, o1 17 (.bin .eql 15 16)])
 (.cond 17 (.seq (.region [fa 18 1 7, ld 19 18, ia 4 19, o1 5 (.asg kT)]) .ret) .skip)))))) (.region [o1 20 (.bin .add 10 (kI 1)), im 10 20]))))))))) (.seq (.region [o1 4 (.asg (.c
 (.string ⟨#[]⟩))), o1 5 (.asg kF)]) .ret)))
def Fk : AFn := ⟨ Q2, GW.erase, [.tmp 4, .tmp 5], 2⟩
def Jr (P : Pg) (x : ((List ((List UInt8) × (List UInt8))) × (List UInt8))) (K : ((List UInt8) × Bool) → Unit → Prop) : Prop :=
 AX (D := ((List UInt8) × Bool)) (fun J1 => EM (D := ((List UInt8) × (Bool × Int))) (([] : List UInt8), (false, (0 : Int))) (fun d3 J4 => (((decide (d3.2.2 < (x.1.length : Int))) = true → AX (D := ((List UInt8) × Bool)) (fun J5 => (0 ≤ d3.2.2 ∧ d3.2.2 < (x.1.length : Int)) ∧
 (d3.2.2.toNat < x.1.length) ∧
 ((((List.getD x.1 d3.2.2.toNat ([], [])).1 == x.2) = true → K ((List.getD x.1 d3.2.2.toNat ([], [])).2, true) ()) ∧ (((List.getD x.1 d3.2.2.toNat ([], [])).1 == x.2) = false → J5 (d3.1, d3.2.1)))) (fun d6 => J4 (d6.1, (d6.2, (i64.wrap (d3.2.2 + (1 : Int))))))) ∧ ((decide (d3.2.2 < (x.1.length : Int))) = false → J1 (d3.1, d3.2.1))))) (fun d2 => K (([] : List UInt8), false) ())
theorem MJ {P : Pg} (h : Has P Fk) {x : DP Cc.ps} {K : DP Cc.rs → DP (ptrs Cc.ps) → Prop} (hw : Jr P x K) : Fn P Q2 Cc x K :=
 Er (c := GW) h rfl rfl (by kernel_rfl) (Eq.mpr (show Ek P Fk Cc GW x K = _ by kernel_rfl) hw)
def E9 : Cd :=
 (.seq (.region [o1 1 (.box 0), o1 2 (.asg kF)]) (.seq (.region [fa 3 0 1, ld 4 3, oS ⟨some 5, .call zS0 [4], none⟩ AD, o1 6 (.bin .neq 5 (kI
 0)), ia 2 6]) .ret))
def Dw : AFn := ⟨ zS8, E9.erase, [.tmp 2], 1⟩
def Gu (P : Pg) (x : ((List UInt8) × (List UInt8))) (K : Bool → Unit → Prop) : Prop :=
 Fn P zS0 AD x.1 (fun (d1 : Int) (e2 : Unit) => K (d1 != (0 : Int)) ())
theorem JM {P : Pg} (h : Has P Dw) {x : DP BG.ps} {K : DP BG.rs → DP (ptrs BG.ps) → Prop} (hw : Gu P x K) : Fn P zS8 BG x K :=
 Er (c := E9) h rfl rfl (by kernel_rfl) (Eq.mpr (show Ek P Dw BG E9 x K = _ by kernel_rfl) hw)
def AU : Cd :=
 (.seq (.region [ia 4 (kI 0)]) (.seq (.seq (.region [im 6 0, o1 7 (.lenK 6), o1 8 (.mv (kI 0))]) (.frame (rg [4, 5] 8 11) [] false (.join [.si 4] (.block 0 (.loop [.si 4, .si 8]
 (.seq (.region [o1 9 (.bin .lss 8 7)]) (.seq (.cond 9 .skip (.exit 0)) (.seq (.frame (rg [4, 5] 10 8) [] false (.join [.si 4] (.block 1 (.seq (.region [im 10 8, ia 5 10]) (.seq
 (.region [im 11 1, im 12 0, im 13 5, o1 14 (.ixA 2 12 13), o1 15 (.load true 2 14), oS ⟨some 16, .callv 11 [15], none⟩ BG]) (.cond 16 (.seq (.region [im 17 5, ia 4 17])
 .ret) .skip)))))) (.region [o1 18 (.bin .add 8 (kI 1)), im 8 18]))))))))) (.seq (.region [ia 4 (kI (-1))]) .ret)))
def AE : AFn := ⟨ zS2, AU.erase, [.tmp 4], 2⟩
def Bc (P : Pg) (x : ((List ((List UInt8) × (List UInt8))) × Unit)) (K : Int → Unit → Prop) : Prop :=
 AX (D := Int) (fun J1 => EM (D := (Int × Int)) ((0 : Int), (0 : Int)) (fun d3 J4 => (((decide (d3.2 < (x.1.length : Int))) = true → AX (D := Int) (fun J5 => (0 ≤ d3.2 ∧ d3.2 < (x.1.length : Int)) ∧
 (d3.2.toNat < x.1.length) ∧
 Fn P zS8 BG (List.getD x.1 d3.2.toNat ([], [])) (fun (d7 : Bool) (e8 : Unit) => ((d7 = true → K d3.2 ()) ∧ (d7 = false → J5 d3.1)))) (fun d6 => J4 (d6, (i64.wrap (d3.2 + (1 : Int)))))) ∧ ((decide (d3.2 < (x.1.length : Int))) = false → J1 d3.1)))) (fun d2 => K (-1 : Int) ())
theorem B2 {P : Pg} (h : Has P AE) {x : DP Am.ps} {K : DP Am.rs → DP (ptrs Am.ps) → Prop} (hw : Bc P x K) : Fn P zS2 Am x K :=
 Er (c := AU) h rfl rfl (by kernel_rfl) (Eq.mpr (show Ek P AE Am AU x K = _ by kernel_rfl) hw)
def AP : Cd :=
 (.seq (.region [o1 4 (.asg kF)]) (.seq (.region [im 5 0, im 6 1, oS ⟨some 7, .call zS2 [5, 6], none⟩
 Am, o1 8 (.bin .geq 7 (kI 0)), ia 4 8]) .ret))
def AA : AFn := ⟨ zS3, AP.erase, [.tmp 4], 2⟩
def A8 (P : Pg) (x : ((List ((List UInt8) × (List UInt8))) × Unit)) (K : Bool → Unit → Prop) : Prop :=
 Fn P zS2 Am (x.1, ()) (fun (d1 : Int) (e2 : Unit) => K (decide (d1 ≥ (0 : Int))) ())
theorem BM {P : Pg} (h : Has P AA) {x : DP Ak.ps} {K : DP Ak.rs → DP (ptrs Ak.ps) → Prop} (hw : A8 P x K) : Fn P zS3 Ak x K :=
 Er (c := AP) h rfl rfl (by kernel_rfl) (Eq.mpr (show Ek P AA Ak AP x K = _ by kernel_rfl) hw)
def Gf : Cd :=
 (.seq (.region [o1 2 (.asg kF)]) (.seq (.region [im 3 0, oS ⟨some 4, .call "strings.HasSuffix" [3, (.c (.string ⟨#[10]⟩))], none⟩ BO, ia 2 4]) .ret))
def Ev : AFn := ⟨ Se, Gf.erase, [.tmp 2], 1⟩
def HU (P : Pg) (x : (List UInt8)) (K : Bool → Unit → Prop) : Prop :=
 Fn P "strings.HasSuffix" BO (x, ([10] : List UInt8)) (fun (d1 : Bool) (e2 : Unit) => K d1 ())
theorem Lw {P : Pg} (h : Has P Ev) {x : DP Cb.ps} {K : DP Cb.rs → DP (ptrs Cb.ps) → Prop} (hw : HU P x K) : Fn P Se Cb x K :=
 Er (c := Gf) h rfl rfl (by kernel_rfl) (Eq.mpr (show Ek P Ev Cb Gf x K = _ by kernel_rfl) hw)
def Ge : Cd :=
 (.seq (.region [ia 2 (kI 0)]) (.seq (.region [im 4 0, oS ⟨some 5, .call "strings.Count" [4, (.c (.string ⟨#[10]⟩))], none⟩ CE, ia 3 5]) (.seq (.seq (.region [im 6 0,
 o1 7 (.bin .neq 6 (.c (.string ⟨#[]⟩))), im 8 7, gt 9 8 (.mv 0), oS ⟨some 10, .call Se [9], some (8, true)⟩ Cb, gt 11 8 (.un .not 10), o1 12 (.pick 8
 11 kF)]) (.frame [3, 13, 14] [] false (.join [.si 3] (.cond 12 (.region [im 13 3, o1 14 (.bin .add 13 (kI 1)), ia 3 14]) .skip)))) (.seq (.seq (.region [im 15 0, o1 16 (.lenS 15),
 o1 17 (.bin .gtr 16 (kI 1048576)), im 18 17, gf 19 18 (.mv 3), gf 20 18 (.bin .gtr 19 (kI 4096)), o1 21 (.pick 18 kT 20)]) (.cond 21 (.seq (.region [ia 2 (kI 1)]) .ret) .skip))
 (.seq (.region [ia 2 (kI 0)]) .ret)))))
def Eu : AFn := ⟨ Sf, Ge.erase, [.tmp 2], 1⟩
def HT (P : Pg) (x : (List UInt8)) (K : Int → Unit → Prop) : Prop :=
 Fn P "strings.Count" CE (x, ([10] : List UInt8)) (fun (d1 : Int) (e2 : Unit) => AX (D := Bool) (fun J3 => (((!(x == ([] : List UInt8))) = true → Fn P Se Cb x (fun (d4 : Bool) _ => J3 d4)) ∧ (((!(x == ([] : List UInt8))) = false → J3 false) ∧ True))) (fun d5 => AX (D := Int) (fun J6 => (((cond (!(x == ([] : List UInt8))) (!d5) false) = true → J6 (i64.wrap (d1 + (1 : Int)))) ∧ ((cond (!(x == ([] : List UInt8))) (!d5) false) = false → J6 d1))) (fun d7 => (((cond (decide ((x.length : Int) > (1048576 : Int))) true (decide (d7 > (4096 : Int)))) = true → K (1 : Int) ()) ∧ ((cond (decide ((x.length : Int) > (1048576 : Int))) true (decide (d7 > (4096 : Int)))) = false → K (0 : Int) ())))))
theorem Lv {P : Pg} (h : Has P Eu) {x : DP Ca.ps} {K : DP Ca.rs → DP (ptrs Ca.ps) → Prop} (hw : HT P x K) : Fn P Sf Ca x K :=
 Er (c := Ge) h rfl rfl (by kernel_rfl) (Eq.mpr (show Ek P Eu Ca Ge x K = _ by kernel_rfl) hw)
def Fa : Cd :=
 (.seq (.region [o1 1 (.box 0), o1 2 (.asg kF)]) (.seq (.region [fa 3 1 1, ld 4 3, oS ⟨some 5, .call Sf [4], none⟩ Ca, o1 6 (.bin .neq 5 (kI 0)), ia 2
 6]) .ret))
def Dx : AFn := ⟨ zS9, Fa.erase, [.tmp 2], 1⟩
def Gv (P : Pg) (x : ((List UInt8) × (List UInt8))) (K : Bool → Unit → Prop) : Prop :=
 Fn P Sf Ca x.2 (fun (d1 : Int) (e2 : Unit) => K (d1 != (0 : Int)) ())
theorem JN {P : Pg} (h : Has P Dx) {x : DP BH.ps} {K : DP BH.rs → DP (ptrs BH.ps) → Prop} (hw : Gv P x K) : Fn P zS9 BH x K :=
 Er (c := Fa) h rfl rfl (by kernel_rfl) (Eq.mpr (show Ek P Dx BH Fa x K = _ by kernel_rfl) hw)
def AW : Cd :=
 (.seq (.region [ia 4 (kI 0)]) (.seq (.seq (.region [im 6 0, o1 7 (.lenK 6), o1 8 (.mv (kI 0))]) (.frame (rg [4, 5] 8 11) [] false (.join [.si 4] (.block 0 (.loop [.si 4, .si 8]
 (.seq (.region [o1 9 (.bin .lss 8 7)]) (.seq (.cond 9 .skip (.exit 0)) (.seq (.frame (rg [4, 5] 10 8) [] false (.join [.si 4] (.block 1 (.seq (.region [im 10 8, ia 5 10]) (.seq
 (.region [im 11 1, im 12 0, im 13 5, o1 14 (.ixA 2 12 13), o1 15 (.load true 2 14), oS ⟨some 16, .callv 11 [15], none⟩ BH]) (.cond 16 (.seq (.region [im 17 5, ia 4 17])
 .ret) .skip)))))) (.region [o1 18 (.bin .add 8 (kI 1)), im 8 18]))))))))) (.seq (.region [ia 4 (kI (-1))]) .ret)))
def AF : AFn := ⟨ zS2, AW.erase, [.tmp 4], 2⟩
def Bd (P : Pg) (x : ((List ((List UInt8) × (List UInt8))) × Unit)) (K : Int → Unit → Prop) : Prop :=
 AX (D := Int) (fun J1 => EM (D := (Int × Int)) ((0 : Int), (0 : Int)) (fun d3 J4 => (((decide (d3.2 < (x.1.length : Int))) = true → AX (D := Int) (fun J5 => (0 ≤ d3.2 ∧ d3.2 < (x.1.length : Int)) ∧
 (d3.2.toNat < x.1.length) ∧
 Fn P zS9 BH (List.getD x.1 d3.2.toNat ([], [])) (fun (d7 : Bool) (e8 : Unit) => ((d7 = true → K d3.2 ()) ∧ (d7 = false → J5 d3.1)))) (fun d6 => J4 (d6, (i64.wrap (d3.2 + (1 : Int)))))) ∧ ((decide (d3.2 < (x.1.length : Int))) = false → J1 d3.1)))) (fun d2 => K (-1 : Int) ())
theorem B3 {P : Pg} (h : Has P AF) {x : DP Ao.ps} {K : DP Ao.rs → DP (ptrs Ao.ps) → Prop} (hw : Bd P x K) : Fn P zS2 Ao x K :=
 Er (c := AW) h rfl rfl (by kernel_rfl) (Eq.mpr (show Ek P AF Ao AW x K = _ by kernel_rfl) hw)
def AQ : Cd :=
 (.seq (.region [o1 4 (.asg kF)]) (.seq (.region [im 5 0, im 6 1, oS ⟨some 7, .call zS2 [5, 6], none⟩
 Ao, o1 8 (.bin .geq 7 (kI 0)), ia 4 8]) .ret))
def AB : AFn := ⟨ zS3, AQ.erase, [.tmp 4], 2⟩
def A9 (P : Pg) (x : ((List ((List UInt8) × (List UInt8))) × Unit)) (K : Bool → Unit → Prop) : Prop :=
 Fn P zS2 Ao (x.1, ()) (fun (d1 : Int) (e2 : Unit) => K (decide (d1 ≥ (0 : Int))) ())
theorem BN {P : Pg} (h : Has P AB) {x : DP Al.ps} {K : DP Al.rs → DP (ptrs Al.ps) → Prop} (hw : A9 P x K) : Fn P zS3 Al x K :=
 Er (c := AQ) h rfl rfl (by kernel_rfl) (Eq.mpr (show Ek P AB Al AQ x K = _ by kernel_rfl) hw)
def Gg : Cd :=
 (.seq (.region [ia 2 (kI 0)]) (.seq (.frame (rg [] 2 15) [] false (.join [.si 2] (.block 0 (.seq (.region [im 4 0, o1 5 (.lenK 4), o1 6 (.bin .gtr 5 (kI 200)), ia 3 6]) (.cond 3
 (.seq (.region [ia 2 (kI 1)]) .ret) (.seq (.region [im 8 0, oS ⟨some 9, .call zS3 [8, (.f zS8)],
 none⟩ Ak, ia 7 9]) (.cond 7 (.seq (.region [ia 2 (kI 210)]) .ret) (.seq (.region [im 11 0, oS ⟨some 12, .call
 "mergelens/tree.ordered" [11], none⟩ Dz, o1 13 (.un .not 12), ia 10 13]) (.cond 10 (.seq (.region [ia 2 (kI 211)]) .ret) (.seq (.region [im 15 0, oS ⟨some 16, .call
 zS3 [15, (.f zS9)], none⟩ Al, ia 14 16]) (.cond
 14 (.seq (.region [ia 2 (kI 1)]) .ret) .skip))))))))))) (.seq (.region [ia 2 (kI 0)]) .ret)))
def Ew : AFn := ⟨ zS6, Gg.erase, [.tmp 2], 1⟩
def HV (P : Pg) (x : (List ((List UInt8) × (List UInt8)))) (K : Int → Unit → Prop) : Prop :=
 AX (D := Int) (fun J1 => (((decide ((x.length : Int) > (200 : Int))) = true → K (1 : Int) ()) ∧ ((decide ((x.length : Int) > (200 : Int))) = false → Fn P zS3 Ak (x, ()) (fun (d3 : Bool) (e4 : Unit) => ((d3 = true → K (210 : Int) ()) ∧ (d3 = false → Fn P "mergelens/tree.ordered" Dz x (fun (d5 : Bool) (e6 : Unit) => (((!d5) = true → K (211 : Int) ()) ∧ ((!d5) = false → Fn P zS3 Al (x, ()) (fun (d7 : Bool) (e8 : Unit) => ((d7 = true → K (1 : Int) ()) ∧ (d7 = false → J1 (0 : Int))))))))))))) (fun d2 => K (0 : Int) ())
theorem Lx {P : Pg} (h : Has P Ew) {x : DP Bq.ps} {K : DP Bq.rs → DP (ptrs Bq.ps) → Prop} (hw : HV P x K) : Fn P zS6 Bq x K :=
 Er (c := Gg) h rfl rfl (by kernel_rfl) (Eq.mpr (show Ek P Ew Bq Gg x K = _ by kernel_rfl) hw)
def FD : Cd :=
 (.seq (.region [o1 0 (.asg kF)]) (.seq (.region [o1 4 (.build [(.string ⟨#[]⟩), (.string ⟨#[]⟩)] [(0, 1, (.c (.string ⟨#[97]⟩)))]), o1 5 (.build [(.string ⟨#[]⟩), (.string ⟨#[]⟩)]
 [(0, 1, (.c (.string ⟨#[97, 45, 98]⟩)))]), o1 6 (.build [(.string ⟨#[]⟩), (.string ⟨#[]⟩)] [(0, 1, (.c (.string ⟨#[97, 47, 99]⟩)))]), oT ⟨some 7, .buildSl 2 [(.string ⟨#[]⟩),
 (.string ⟨#[]⟩)] 3 [(0, 4), (1, 5), (2, 6)], none⟩ (some ((.pair .str .str), .leaf)), ia 1 7]) (.seq (.region [o1 9 (.build [(.string ⟨#[]⟩), (.string ⟨#[]⟩)] [(0, 1, (.c (.string
 ⟨#[97]⟩))), (1, 1, (.c (.string ⟨#[120]⟩)))]), oT ⟨some 10, .buildSl 2 [(.string ⟨#[]⟩), (.string ⟨#[]⟩)] 1 [(0, 9)], none⟩ (some ((.pair .str .str), .leaf)), oS ⟨some 11, .call
 Q2 [10, (.c (.string ⟨#[97]⟩))], none⟩ Cc, im 8 11, o1 12 (.ext 8 0), o1 13 (.ext 8 1), ia 2 12, ia 3 13]) (.seq (.region [im 14 1, oS ⟨some 15, .call
 zS6 [14], none⟩ Bq, o1 16 (.bin .eql 15 (kI 211)), im 17 16, gt 18 17 (.mv 1), gt 19 17 (.slK 2 18 none (some (kI 2))), oS ⟨some 20, .call
 zS6 [19], some (17, true)⟩ Bq, gt 21 17 (.bin .eql 20 (kI 0)), o1 22 (.pick 17 21 kF), im 23 22, gt 24 23 (.mv 3), o1 25 (.pick 23 24 kF), im 26 25, gt
 27 26 (.mv 2), o0 ⟨some 28, .bin .eql 27 (.c (.string ⟨#[120]⟩)), some (26, true)⟩, o1 29 (.pick 26 28 kF), im 30 29, oS ⟨some 31, .call zS0 [(.c (.string
 ⟨#[97, 47, 47, 98]⟩))], some (30, true)⟩ AD, gt 32 30 (.bin .eql 31 (kI 210)), o1 33 (.pick 30 32 kF), im 34 33, oS ⟨some 35, .call zS0 [(.c
 (.string ⟨#[97, 47, 98]⟩))], some (34, true)⟩ AD, gt 36 34 (.bin .eql 35 (kI 0)), o1 37 (.pick 34 36 kF), ia 0 37]) .ret))))
def D6 : AFn := ⟨ zS4, FD.erase, [.tmp 0], 0⟩
def Hl (P : Pg) (x : Unit) (K : Bool → Unit → Prop) : Prop :=
 Fn P Q2 Cc (([(([97] : List UInt8), ([120] : List UInt8))] : List ((List UInt8) × (List UInt8))), ([97] : List UInt8)) (fun (d1 : ((List UInt8) × Bool)) (e2 : Unit) => Fn P zS6 Bq ([(([97] : List UInt8), ([] : List UInt8)), (([97, 45, 98] : List UInt8), ([] : List UInt8)), (([97, 47, 99] : List UInt8), ([] : List UInt8))] : List ((List UInt8) × (List UInt8))) (fun (d3 : Int) (e4 : Unit) => (((d3 == (211 : Int)) = true → 0 ≤ (2 : Int) ∧ (2 : Int) ≤ ((List.length ([(([97] : List UInt8), ([] : List UInt8)), (([97, 45, 98] : List UInt8), ([] : List UInt8)), (([97, 47, 99] : List UInt8), ([] : List UInt8))] : List ((List UInt8) × (List UInt8))) : Nat) : Int))) ∧
 AX (D := Int) (fun J5 => (((0 + (Int.toNat (2 : Int)) ≤ List.length ([(([97] : List UInt8), ([] : List UInt8)), (([97, 45, 98] : List UInt8), ([] : List UInt8)), (([97, 47, 99] : List UInt8), ([] : List UInt8))] : List ((List UInt8) × (List UInt8)))) ∧
 ((d3 == (211 : Int)) = true → Fn P zS6 Bq (List.take (Int.toNat (2 : Int)) (List.drop 0 ([(([97] : List UInt8), ([] : List UInt8)), (([97, 45, 98] : List UInt8), ([] : List UInt8)), (([97, 47, 99] : List UInt8), ([] : List UInt8))] : List ((List UInt8) × (List UInt8))))) (fun (d6 : Int) _ => J5 d6))) ∧ (((d3 == (211 : Int)) = false → J5 (0 : Int)) ∧ True))) (fun d7 => AX (D := Int) (fun J8 => (((cond (cond (cond (d3 == (211 : Int)) (d7 == (0 : Int)) false) d1.2 false) (d1.1 == ([120] : List UInt8)) false) = true → Fn P zS0 AD ([97, 47, 47, 98] : List UInt8) (fun (d9 : Int) _ => J8 d9)) ∧ (((cond (cond (cond (d3 == (211 : Int)) (d7 == (0 : Int)) false) d1.2 false) (d1.1 == ([120] : List UInt8)) false) = false → J8 (0 : Int)) ∧ True))) (fun d10 => AX (D := Int) (fun J11 => (((cond (cond (cond (cond (d3 == (211 : Int)) (d7 == (0 : Int)) false) d1.2 false) (d1.1 == ([120] : List UInt8)) false) (d10 == (210 : Int)) false) = true → Fn P zS0 AD ([97, 47, 98] : List UInt8) (fun (d12 : Int) _ => J11 d12)) ∧ (((cond (cond (cond (cond (d3 == (211 : Int)) (d7 == (0 : Int)) false) d1.2 false) (d1.1 == ([120] : List UInt8)) false) (d10 == (210 : Int)) false) = false → J11 (0 : Int)) ∧ True))) (fun d13 => K (cond (cond (cond (cond (cond (d3 == (211 : Int)) (d7 == (0 : Int)) false) d1.2 false) (d1.1 == ([120] : List UInt8)) false) (d10 == (210 : Int)) false) (d13 == (0 : Int)) false) ())))))
theorem Kp {P : Pg} (h : Has P D6) {x : DP A7.ps} {K : DP A7.rs → DP (ptrs A7.ps) → Prop} (hw : Hl P x K) : Fn P zS4 A7 x K :=
 Er (c := FD) h rfl rfl (by kernel_rfl) (Eq.mpr (show Ek P D6 A7 FD x K = _ by kernel_rfl) hw)
def Jm : Cd :=
 (.seq (.region [ia 4 (kI 0)]) (.seq (.region [im 5 0, o1 6 (.conv (.toInt .u64) 5), im 7 1, o1 8 (.conv (.toInt .u64) 7), o1 9 (.bin .rem 6 8), o1 10 (.conv (.toInt .i64) 9), ia 4
 10]) .ret))
def G1 : AFn := ⟨ zS5, Jm.erase, [.tmp 4], 2⟩
def LK (P : Pg) (x : (Int × Int)) (K : Int → Unit → Prop) : Prop :=
 ((u64.wrap x.2) ≠ 0) ∧
 K (i64.wrap (Int.tmod (u64.wrap x.1) (u64.wrap x.2))) ()
theorem Pb {P : Pg} (h : Has P G1) {x : DP B0.ps} {K : DP B0.rs → DP (ptrs B0.ps) → Prop} (hw : LK P x K) : Fn P zS5 B0 x K :=
 Er (c := Jm) h rfl rfl (by kernel_rfl) (Eq.mpr (show Ek P G1 B0 Jm x K = _ by kernel_rfl) hw)
def Ll : Cd :=
 (.seq (.region [ia 4 (kI 0)]) (.seq (.region [im 6 1, o1 7 (.bin .add 6 (kI 1)), o1 8 (.conv (.toInt .u64) 7), o1 9 (.bin .mul 8 (.c (.int .u64 11400714819323198485))), ia 5 9])
 (.seq (.seq (.region [im 10 0, o1 11 (.lenK 10), o1 12 (.bin .gtr 11 (kI 0))]) (.frame (rg [5] 13 10) [] false (.join [.sl 5 false (.int .u64) .leaf] (.cond 12 (.region [im 13 5,
 im 14 0, im 15 1, im 16 0, o1 17 (.lenK 16), o1 18 (.bin .rem 15 17), o1 19 (.ixA 1 14 18), ld 20 19, o1 21 (.conv (.toInt .u64) 20), o1 22 (.bin .xor 13 21), ia 5 22]) .skip))))
 (.seq (.region [im 23 5, im 24 5, o1 25 (.bin .shr 24 (.c (.int .u64 31))), o1 26 (.bin .xor 23 25), o1 27 (.bin .mul 26 (.c (.int .u64 13787848793156543929))), ia 5 27]) (.seq
 (.region [im 28 5, im 29 5, o1 30 (.bin .shr 29 (.c (.int .u64 29))), o1 31 (.bin .xor 28 30), o1 32 (.bin .shr 31 (.c (.int .u64 1))), o1 33 (.conv (.toInt .i64) 32), ia 4 33])
 .ret)))))
def HR : AFn := ⟨ zS7, Ll.erase, [.tmp 4], 2⟩
def Nl (P : Pg) (x : ((List Int) × Int)) (K : Int → Unit → Prop) : Prop :=
 AX (D := Int) (fun J1 => (((decide ((x.1.length : Int) > (0 : Int))) = true → ((x.1.length : Int) ≠ 0) ∧
 (0 ≤ (Int.tmod x.2 (x.1.length : Int)) ∧ (Int.tmod x.2 (x.1.length : Int)) < (x.1.length : Int)) ∧
 ((Int.toNat (Int.tmod x.2 (x.1.length : Int))) < x.1.length) ∧
 J1 (u64.wrap ((BitVec.toNat (BitVec.ofInt u64.bits (u64.wrap ((u64.wrap (i64.wrap (x.2 + (1 : Int)))) * (11400714819323198485 : Int))) ^^^ BitVec.ofInt u64.bits (u64.wrap (List.getD x.1 (Int.toNat (Int.tmod x.2 (x.1.length : Int))) (0 : Int)))) : Nat) : Int))) ∧ ((decide ((x.1.length : Int) > (0 : Int))) = false → J1 (u64.wrap ((u64.wrap (i64.wrap (x.2 + (1 : Int)))) * (11400714819323198485 : Int)))))) (fun d2 => (0 ≤ (31 : Int)) ∧
 (0 ≤ (29 : Int)) ∧
 (0 ≤ (1 : Int)) ∧
 K (i64.wrap (Int.fdiv (u64.wrap ((BitVec.toNat (BitVec.ofInt u64.bits (u64.wrap ((u64.wrap ((BitVec.toNat (BitVec.ofInt u64.bits d2 ^^^ BitVec.ofInt u64.bits (Int.fdiv d2 (2 ^ (min (Int.toNat (31 : Int)) u64.bits)))) : Nat) : Int)) * (13787848793156543929 : Int))) ^^^ BitVec.ofInt u64.bits (Int.fdiv (u64.wrap ((u64.wrap ((BitVec.toNat (BitVec.ofInt u64.bits d2 ^^^ BitVec.ofInt u64.bits (Int.fdiv d2 (2 ^ (min (Int.toNat (31 : Int)) u64.bits)))) : Nat) : Int)) * (13787848793156543929 : Int))) (2 ^ (min (Int.toNat (29 : Int)) u64.bits)))) : Nat) : Int)) (2 ^ (min (Int.toNat (1 : Int)) u64.bits)))) ())
theorem Qw {P : Pg} (h : Has P HR) {x : DP CV.ps} {K : DP CV.rs → DP (ptrs CV.ps) → Prop} (hw : Nl P x K) : Fn P zS7 CV x K :=
 Er (c := Ll) h rfl rfl (by kernel_rfl) (Eq.mpr (show Ek P HR CV Ll x K = _ by kernel_rfl) hw)
def Gc : Cd :=
 (.seq (.region [o1 4 (.asg (.c (.string ⟨#[]⟩)))]) (.seq (.region [o1 5 (.asg (.c (.string ⟨#[]⟩)))]) (.seq (.seq (.region [ia 6 (kI 0)]) (.frame (rg [] 5 22) [] false (.join [.sl
 5 false .str .leaf] (.block 0 (.loop [.sl 5 false .str .leaf, .si 6] (.seq (.seq (.region [im 7 6, im 8 0, im 9 1, oS ⟨some 10, .call zS7 [8, 9], none⟩
 CV, oS ⟨some 11, .call zS5 [10, (kI 6)], none⟩ B0, o1 12 (.bin .lss 7 11)]) (.cond 12 .skip (.exit 0))) (.seq (.frame (rg [5] 15 12) [] false
 (.join [.sl 5 false .str .leaf] (.block 1 (.region [im 15 5, oT ⟨some 16, .buildSl 1 [(.string ⟨#[]⟩)] 7 [(0, (.c (.string ⟨#[97]⟩))), (1, (.c (.string ⟨#[98]⟩))), (2, (.c (.string
 ⟨#[47]⟩))), (3, (.c (.string ⟨#[46]⟩))), (4, (.c (.string ⟨#[45]⟩))), (5, (.c (.string ⟨#[46, 46]⟩))), (6, (.c (.string ⟨#[97, 47, 98]⟩)))], none⟩ (some (.str, .leaf)), im 17 0, im
 18 1, o1 19 (.bin .add 18 (kI 1)), im 20 6, o1 21 (.bin .add 19 20), oS ⟨some 22, .call zS7 [17, 21], none⟩ CV, oS ⟨some 23, .call
 zS5 [22, (kI 7)], none⟩ B0, o1 24 (.ixA 1 16 23), ld 25 24, o1 26 (.bin .add 15 25), ia 5 26])))) (.region [im 13 6, o1 14 (.bin .add 13 (kI 1)), ia
 6 14])))))))) (.seq (.region [im 27 5, ia 4 27]) .ret))))
def Et : AFn := ⟨ Q3, Gc.erase, [.tmp 4], 2⟩
abbrev Eb : List (List UInt8) := ([([97] : List UInt8), ([98] : List UInt8), ([47] : List UInt8), ([46] : List UInt8), ([45] : List UInt8), ([46, 46] : List UInt8), ([97, 47, 98] : List UInt8)] : List (List UInt8))
def HS (P : Pg) (x : ((List Int) × Int)) (K : (List UInt8) → Unit → Prop) : Prop :=
 AX (D := (List UInt8)) (fun J1 => EM (D := ((List UInt8) × Int)) (([] : List UInt8), (0 : Int)) (fun d3 J4 => Fn P zS7 CV x (fun (d5 : Int) (e6 : Unit) => Fn P zS5 B0 (d5, (6 : Int)) (fun (d7 : Int) (e8 : Unit) => (((decide (d3.2 < d7)) = true → AX (D := (List UInt8)) (fun J9 => Fn P zS7 CV (x.1, (i64.wrap ((i64.wrap (x.2 + (1 : Int))) + d3.2))) (fun (d11 : Int) (e12 : Unit) => Fn P zS5 B0 (d11, (7 : Int)) (fun (d13 : Int) (e14 : Unit) => (0 ≤ d13 ∧ d13 < ((List.length Eb : Nat) : Int)) ∧
 (d13.toNat < List.length Eb) ∧
 (d3.1.length + List.length (List.getD Eb d13.toNat []) ≤ 9223372036854775807) ∧
 J9 (d3.1 ++ (List.getD Eb d13.toNat []))))) (fun d10 => J4 (d10, (i64.wrap (d3.2 + (1 : Int)))))) ∧ ((decide (d3.2 < d7)) = false → J1 d3.1)))))) (fun d2 => K d2 ())
theorem Lu {P : Pg} (h : Has P Et) {x : DP BV.ps} {K : DP BV.rs → DP (ptrs BV.ps) → Prop} (hw : HS P x K) : Fn P Q3 BV x K :=
 Er (c := Gc) h rfl rfl (by kernel_rfl) (Eq.mpr (show Ek P Et BV Gc x K = _ by kernel_rfl) hw)
def DR : Cd :=
 (.seq (.region [ia 2 (kI 0)]) (.seq (.seq (.region [im 5 0, o1 6 (.lenS 5), o1 7 (.bin .lss 6 (kI 1)), im 8 7, gf 9 8 (.mv 0), gf 10 8 (.lenS 9), gf 11 8 (.bin .gtr 10 (kI 200)),
 o1 12 (.pick 8 kT 11)]) (.cond 12 (.seq (.region [ia 2 (kI 210)]) .ret) .skip)) (.seq (.region [o1 3 (.asg (.c (.string ⟨#[]⟩)))]) (.seq (.seq (.region [ia 4 (kI 0)]) (.frame (rg
 [2, 3, 4] 13 43) [] false (.join [.si 2] (.block 0 (.loop [.si 2, .sl 3 false .str .leaf, .si 4] (.seq (.seq (.region [im 13 4, im 14 0, o1 15 (.lenS 14), o1 16 (.bin .leq 13 15)])
 (.cond 16 .skip (.exit 0))) (.seq (.frame (rg [2, 3] 19 37) [] false (.join [.si 2, .sl 3 false .str .leaf] (.block 1 (.seq (.seq (.region [im 19 4, im 20 0, o1 21 (.lenS 20), o1
 22 (.bin .lss 19 21), im 23 22, gt 24 23 (.mv 0), gt 25 23 (.mv 4), gt 26 23 (.ixS 24 25), gt 27 23 (.bin .eql 26 (.c (.int .u8 0))), o1 28 (.pick 23 27 kF)]) (.cond 28 (.seq
 (.region [ia 2 (kI 210)]) .ret) .skip)) (.seq (.seq (.region [im 29 4, im 30 0, o1 31 (.lenS 30), o1 32 (.bin .lss 29 31), im 33 32, gt 34 33 (.mv 0), gt 35 33 (.mv 4), gt 36 33
 (.ixS 34 35), gt 37 33 (.bin .neq 36 (.c (.int .u8 47))), o1 38 (.pick 33 37 kF)]) (.cond 38 (.seq (.region [im 39 3, im 40 0, im 41 4, im 42 4, o1 43 (.bin .add 42 (kI 1)), o1 44
 (.slS 40 (some 41) (some 43)), o1 45 (.bin .add 39 44), ia 3 45]) (.exit 1)) .skip)) (.seq (.seq (.region [im 46 3, o1 47 (.bin .eql 46 (.c (.string ⟨#[]⟩))), im 48 47, gf 49 48
 (.mv 3), o0 ⟨some 50, .bin .eql 49 (.c (.string ⟨#[46]⟩)), some (48, false)⟩, o1 51 (.pick 48 kT 50), im 52 51, gf 53 52 (.mv 3), o0 ⟨some 54, .bin .eql 53 (.c (.string ⟨#[46,
 46]⟩)), some (52, false)⟩, o1 55 (.pick 52 kT 54)]) (.cond 55 (.seq (.region [ia 2 (kI 210)]) .ret) .skip)) (.region [o1 3 (.asg (.c (.string ⟨#[]⟩)))]))))))) (.region [im 17 4, o1
 18 (.bin .add 17 (kI 1)), ia 4 18])))))))) (.seq (.region [ia 2 (kI 0)]) .ret)))))
def CS : AFn := ⟨ zS1, DR.erase, [.tmp 2], 1⟩
def Fo (P : Pg) (x : (List UInt8)) (K : Int → Unit → Prop) : Prop :=
 (((cond (decide ((x.length : Int) < (1 : Int))) true (decide ((x.length : Int) > (200 : Int)))) = true → K (210 : Int) ()) ∧ ((cond (decide ((x.length : Int) < (1 : Int))) true (decide ((x.length : Int) > (200 : Int)))) = false → AX (D := Int) (fun J1 => EM (D := (Int × ((List UInt8) × Int))) ((0 : Int), (([] : List UInt8), (0 : Int))) (fun d3 J4 => (((decide (d3.2.2 ≤ (x.length : Int))) = true → AX (D := (Int × (List UInt8))) (fun J5 => (((decide (d3.2.2 < (x.length : Int))) = true → 0 ≤ d3.2.2 ∧ d3.2.2 < (x.length : Int))) ∧
 (((cond (decide (d3.2.2 < (x.length : Int))) (((x.getD d3.2.2.toNat 0).toNat : Int) == (0 : Int)) false) = true → K (210 : Int) ()) ∧ ((cond (decide (d3.2.2 < (x.length : Int))) (((x.getD d3.2.2.toNat 0).toNat : Int) == (0 : Int)) false) = false → (((decide (d3.2.2 < (x.length : Int))) = true → 0 ≤ d3.2.2 ∧ d3.2.2 < (x.length : Int))) ∧
 (((cond (decide (d3.2.2 < (x.length : Int))) (((x.getD d3.2.2.toNat 0).toNat : Int) != (47 : Int)) false) = true → (0 ≤ d3.2.2 ∧ d3.2.2 ≤ (i64.wrap (d3.2.2 + (1 : Int))) ∧ (i64.wrap (d3.2.2 + (1 : Int))) ≤ (x.length : Int)) ∧
 (d3.2.1.length + List.length (List.drop d3.2.2.toNat (List.take (Int.toNat (i64.wrap (d3.2.2 + (1 : Int)))) x)) ≤ 9223372036854775807) ∧
 J5 (d3.1, (d3.2.1 ++ (List.drop d3.2.2.toNat (List.take (Int.toNat (i64.wrap (d3.2.2 + (1 : Int)))) x))))) ∧ ((cond (decide (d3.2.2 < (x.length : Int))) (((x.getD d3.2.2.toNat 0).toNat : Int) != (47 : Int)) false) = false → (((cond (cond (d3.2.1 == ([] : List UInt8)) true (d3.2.1 == ([46] : List UInt8))) true (d3.2.1 == ([46, 46] : List UInt8))) = true → K (210 : Int) ()) ∧ ((cond (cond (d3.2.1 == ([] : List UInt8)) true (d3.2.1 == ([46] : List UInt8))) true (d3.2.1 == ([46, 46] : List UInt8))) = false → J5 (d3.1, ([] : List UInt8))))))))) (fun d6 => J4 (d6.1, (d6.2, (i64.wrap (d3.2.2 + (1 : Int))))))) ∧ ((decide (d3.2.2 ≤ (x.length : Int))) = false → J1 d3.1)))) (fun d2 => K (0 : Int) ())))
theorem Hy {P : Pg} (h : Has P CS) {x : DP AG.ps} {K : DP AG.rs → DP (ptrs AG.ps) → Prop} (hw : Fo P x K) : Fn P zS1 AG x K :=
 Er (c := DR) h rfl rfl (by kernel_rfl) (Eq.mpr (show Ek P CS AG DR x K = _ by kernel_rfl) hw)
def DQ : Cd :=
 (.seq (.region [o1 6 (.asg kF)]) (.seq (.seq (.region [im 10 0, o1 11 (.lenS 10), o1 12 (.bin .gtr 11 (kI 300))]) (.cond 12 (.seq (.region [oS ⟨some 13, .call
 zS4 [], none⟩ A7, ia 6 13]) .ret) .skip)) (.seq (.region [im 14 2, oS ⟨some 15, .call zS5 [14, (kI 3)], none⟩
 B0, o1 16 (.bin .add (kI 199) 15), oT ⟨some 17, .mkSl 1 1 [(.int .u8 0)] 16 16, none⟩ (some ((.int .u8), .leaf)), ia 7 17]) (.seq (.seq (.region [ia 8 (kI 0)]) (.frame (rg
 [7, 8] 18 9) [] false (.join [.sl 7 false (.sl (.int .u8)) tO] (.block 0 (.loop [.sl 7 false (.sl (.int .u8)) tO, .si 8] (.seq (.seq (.region [im 18 8, im 19 7, o1 20 (.lenK 19),
 o1 21 (.bin .lss 18 20)]) (.cond 21 .skip (.exit 0))) (.seq (.frame [7, 24, 25, 26] [] false (.join [.sl 7 false (.sl (.int .u8)) tO] (.block 1 (.region [im 24 7, im 25 8, o1 26
 (.ixA 1 24 25), o0 ⟨none, .store 1 26 (.c (.int .u8 120)), none⟩])))) (.region [im 22 8, o1 23 (.bin .add 22 (kI 1)), ia 8 23])))))))) (.seq (.region [im 27 1, oS ⟨some 28, .call
 Q3 [27, (kI 0)], none⟩ BV, ia 9 28]) (.seq (.frame (rg [6] 29 24) [] false (.join [.sl 6 false .bool .leaf] (.draw [(.first (im 29 0) (.first
 (im 31 0) (.alt (oS ⟨some 30, .call zS0 [29], none⟩ AD) (.alt (oS ⟨some 32, .call zS1 [31], none⟩
 AG) (.first (o1 33 (.bin .eql 30 32)) (.first (im 34 33) (.first (gt 35 34 (.mv 9)) (.first (gt 37 34 (.mv 9)) (.alt (oS ⟨some 36, .call zS0
 [35], some (34, true)⟩ AD) (.alt (oS ⟨some 38, .call zS1 [37], some (34, true)⟩ AG) (.first (gt 39 34 (.bin .eql 36
 38)) (.first (o1 40 (.pick 34 39 kF)) (.first (im 41 40) (.first (gt 42 41 (.mv 7)) (.first (gt 43 41 (.conv .bytesToStr 42)) (.first (gt 45 41 (.mv 7)) (.alt (oS ⟨some 44, .call
 zS0 [43], some (41, true)⟩ AD) (.first (gt 46 41 (.conv .bytesToStr 45)) (.alt (oS ⟨some 47, .call zS1 [46],
 some (41, true)⟩ AG) (.first (gt 48 41 (.bin .eql 44 47)) (.first (o1 49 (.pick 41 48 kF)) (.first (im 50 49) (.alt (oS ⟨some 51, .call
 zS4 [], some (50, true)⟩ A7) (.first (o1 52 (.pick 50 51 kF)) (.alt (ia 6 52) .done .stop)) .stop)))) .stop)) (.alt (gt 46 41 (.conv
 .bytesToStr 45)) (.alt (oS ⟨some 44, .call zS0 [43], some (41, true)⟩ AD) (.alt (oS ⟨some 47, .call zS1 [46],
 some (41, true)⟩ AG) (.first (gt 48 41 (.bin .eql 44 47)) (.first (o1 49 (.pick 41 48 kF)) (.first (im 50 49) (.alt (oS ⟨some 51, .call
 zS4 [], some (50, true)⟩ A7) (.first (o1 52 (.pick 50 51 kF)) (.alt (ia 6 52) .done .stop)) .stop)))) .stop) .stop) .stop)))))))) .stop)
 .stop))))) .stop) .stop)))]))) .ret))))))
def CR : AFn := ⟨ Um, DQ.erase, [.tmp 6], 3⟩
def Fm (P : Pg) (x : ((List UInt8) × ((List Int) × Int))) (K : Bool → Unit → Prop) : Prop :=
 (((decide ((x.1.length : Int) > (300 : Int))) = true → Fn P zS4 A7 () (fun (d1 : Bool) (e2 : Unit) => K d1 ())) ∧ ((decide ((x.1.length : Int) > (300 : Int))) = false → Fn P zS5 B0 (x.2.2, (3 : Int)) (fun (d3 : Int) (e4 : Unit) => (0 ≤ (i64.wrap ((199 : Int) + d3)) ∧ (i64.wrap ((199 : Int) + d3)) ≤ (i64.wrap ((199 : Int) + d3)) ∧ ((1 : Nat) : Int) * (i64.wrap ((199 : Int) + d3)) ≤ 281474976710656) ∧
 AX (D := (List Int)) (fun J5 => EM (D := ((List Int) × Int)) ((List.replicate (Int.toNat (i64.wrap ((199 : Int) + d3))) (0 : Int)), (0 : Int)) (fun d7 J8 => (((decide (d7.2 < (d7.1.length : Int))) = true → AX (D := (List Int)) (fun J9 => (0 ≤ d7.2 ∧ d7.2 < (d7.1.length : Int)) ∧
 (d7.2.toNat < d7.1.length) ∧
 J9 (List.set d7.1 d7.2.toNat (120 : Int))) (fun d10 => J8 (d10, (i64.wrap (d7.2 + (1 : Int)))))) ∧ ((decide (d7.2 < (d7.1.length : Int))) = false → J5 d7.1)))) (fun d6 => Fn P Q3 BV (x.2.1, (0 : Int)) (fun (d11 : (List UInt8)) (e12 : Unit) => AX (D := Bool) (fun J13 => (Fn P zS0 AD x.1 (fun (d15 : Int) (e16 : Unit) => (Fn P zS1 AG x.1 (fun (d17 : Int) (e18 : Unit) => (AX (D := Int) (fun J19 => (((d15 == d17) = true → Fn P zS0 AD d11 (fun (d20 : Int) _ => J19 d20)) ∧ (((d15 == d17) = false → J19 (0 : Int)) ∧ True))) (fun d21 => (AX (D := Int) (fun J22 => (((d15 == d17) = true → Fn P zS1 AG d11 (fun (d23 : Int) _ => J22 d23)) ∧ (((d15 == d17) = false → J22 (0 : Int)) ∧ True))) (fun d24 => (AX (D := Int) (fun J25 => (((cond (d15 == d17) (d21 == d24) false) = true → Fn P zS0 AD (strOf d6) (fun (d26 : Int) _ => J25 d26)) ∧ (((cond (d15 == d17) (d21 == d24) false) = false → J25 (0 : Int)) ∧ True))) (fun d27 => (AX (D := Int) (fun J28 => (((cond (d15 == d17) (d21 == d24) false) = true → Fn P zS1 AG (strOf d6) (fun (d29 : Int) _ => J28 d29)) ∧ (((cond (d15 == d17) (d21 == d24) false) = false → J28 (0 : Int)) ∧ True))) (fun d30 => (AX (D := Bool) (fun J31 => (((cond (cond (d15 == d17) (d21 == d24) false) (d27 == d30) false) = true → Fn P zS4 A7 () (fun (d32 : Bool) _ => J31 d32)) ∧ (((cond (cond (d15 == d17) (d21 == d24) false) (d27 == d30) false) = false → J31 false) ∧ True))) (fun d33 => (J13 (cond (cond (cond (d15 == d17) (d21 == d24) false) (d27 == d30) false) d33 false)) ∧ True)) ∧ True)) ∧ True)) ∧ (((AX (D := Int) (fun J34 => (((cond (d15 == d17) (d21 == d24) false) = true → Fn P zS0 AD (strOf d6) (fun (d35 : Int) _ => J34 d35)) ∧ (((cond (d15 == d17) (d21 == d24) false) = false → J34 (0 : Int)) ∧ True))) (fun d36 => (AX (D := Int) (fun J37 => (((cond (d15 == d17) (d21 == d24) false) = true → Fn P zS1 AG (strOf d6) (fun (d38 : Int) _ => J37 d38)) ∧ (((cond (d15 == d17) (d21 == d24) false) = false → J37 (0 : Int)) ∧ True))) (fun d39 => (AX (D := Bool) (fun J40 => (((cond (cond (d15 == d17) (d21 == d24) false) (d36 == d39) false) = true → Fn P zS4 A7 () (fun (d41 : Bool) _ => J40 d41)) ∧ (((cond (cond (d15 == d17) (d21 == d24) false) (d36 == d39) false) = false → J40 false) ∧ True))) (fun d42 => (J13 (cond (cond (cond (d15 == d17) (d21 == d24) false) (d36 == d39) false) d42 false)) ∧ True)) ∧ True)) ∧ True)) ∧ True) ∧ True))) ∧ True)) ∧ True)) ∧ True)) ∧ True) (fun d14 => K d14 ()))))))
theorem Hx {P : Pg} (h : Has P CR) {x : DP A1.ps} {K : DP A1.rs → DP (ptrs A1.ps) → Prop} (hw : Fm P x K) : Fn P Um A1 x K :=
 Er (c := DQ) h rfl rfl (by kernel_rfl) (Eq.mpr (show Ek P CR A1 DQ x K = _ by kernel_rfl) hw)
end Go.VS
