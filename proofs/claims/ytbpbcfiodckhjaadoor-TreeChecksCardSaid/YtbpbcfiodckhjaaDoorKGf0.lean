/- Functions of the program: typed code, and what it says, lifted. -/
import Derived.Test.YtbpbcfiodckhjaaDoorKTxSig
import Derived.KernelRfl
set_option linter.unusedVariables false
set_option linter.unusedSimpArgs false
set_option maxRecDepth 8000
namespace Go.VS
open IntKind
def GW : Cd :=
 (.seq (.region [o1 4 (.asg (.c (.string ⟨#[]⟩))), o1 5 (.asg kF)]) (.seq (.seq (.region [im 8 0, o1 9 (.lenK 8), o1 10 (.mv (kI 0))]) (.frame (rg [4, 5, 7] 10 11) [1007] false
 (.join [.sl 4 false .str .leaf, .sl 5 false .bool .leaf] (.block 0 (.loop [.sl 4 false .str .leaf, .sl 5 false .bool .leaf, .si 10] (.seq (.region [o1 11 (.bin .lss 10 9)]) (.seq
 (.cond 11 .skip (.exit 0)) (.seq (.frame (rg [4, 5, 7] 12 8) [1007] false (.join [.sl 4 false .str .leaf, .sl 5 false .bool .leaf] (.block 1 (.seq (.region [o1 12 (.ixA 2 8 10), o1
 13 (.load true 2 12), o1 7 (.alloc [(.string ⟨#[]⟩), (.string ⟨#[]⟩)]), o0 ⟨none, .store 2 7 13, none⟩]) (.seq (.region [fa 14 0 7, ld 15 14, im 16 1, o1 17 (.bin .eql 15 16)])
 (.cond 17 (.seq (.region [fa 18 1 7, ld 19 18, ia 4 19, o1 5 (.asg kT)]) .ret) .skip)))))) (.region [o1 20 (.bin .add 10 (kI 1)), im 10 20]))))))))) (.seq (.region [o1 4 (.asg (.c
 (.string ⟨#[]⟩))), o1 5 (.asg kF)]) .ret)))
def Fk : AFn := ⟨ zS2, GW.erase, [.tmp 4, .tmp 5], 2⟩
def Jr (P : Pg) (x : ((List ((List UInt8) × (List UInt8))) × (List UInt8))) (K : ((List UInt8) × Bool) → Unit → Prop) : Prop :=
 AX (D := ((List UInt8) × Bool)) (fun J1 => EM (D := ((List UInt8) × (Bool × Int))) (([] : List UInt8), (false, (0 : Int))) (fun d3 J4 => (((decide (d3.2.2 < (x.1.length : Int))) = true → AX (D := ((List UInt8) × Bool)) (fun J5 => (0 ≤ d3.2.2 ∧ d3.2.2 < (x.1.length : Int)) ∧
 (d3.2.2.toNat < x.1.length) ∧
 ((((List.getD x.1 d3.2.2.toNat ([], [])).1 == x.2) = true → K ((List.getD x.1 d3.2.2.toNat ([], [])).2, true) ()) ∧ (((List.getD x.1 d3.2.2.toNat ([], [])).1 == x.2) = false → J5 (d3.1, d3.2.1)))) (fun d6 => J4 (d6.1, (d6.2, (i64.wrap (d3.2.2 + (1 : Int))))))) ∧ ((decide (d3.2.2 < (x.1.length : Int))) = false → J1 (d3.1, d3.2.1))))) (fun d2 => K (([] : List UInt8), false) ())
theorem MJ {P : Pg} (h : Has P Fk) {x : DP Cc.ps} {K : DP Cc.rs → DP (ptrs Cc.ps) → Prop} (hw : Jr P x K) : Fn P zS2 Cc x K :=
 Er (c := GW) h rfl rfl (by kernel_rfl) (Eq.mpr (show Ek P Fk Cc GW x K = _ by kernel_rfl) hw)
def E9 : Cd :=
 (.seq (.region [o1 1 (.box 0), o1 2 (.asg kF)]) (.seq (.region [fa 3 0 1, ld 4 3, oS ⟨some 5, .call zS6 [4], none⟩ AD, o1 6 (.bin .neq 5 (kI
 0)), ia 2 6]) .ret))
def Dw : AFn := ⟨ Q3, E9.erase, [.tmp 2], 1⟩
def Gu (P : Pg) (x : ((List UInt8) × (List UInt8))) (K : Bool → Unit → Prop) : Prop :=
 Fn P zS6 AD x.1 (fun (d1 : Int) (e2 : Unit) => K (d1 != (0 : Int)) ())
theorem JM {P : Pg} (h : Has P Dw) {x : DP BG.ps} {K : DP BG.rs → DP (ptrs BG.ps) → Prop} (hw : Gu P x K) : Fn P Q3 BG x K :=
 Er (c := E9) h rfl rfl (by kernel_rfl) (Eq.mpr (show Ek P Dw BG E9 x K = _ by kernel_rfl) hw)
def AU : Cd :=
 (.seq (.region [ia 4 (kI 0)]) (.seq (.seq (.region [im 6 0, o1 7 (.lenK 6), o1 8 (.mv (kI 0))]) (.frame (rg [4, 5] 8 11) [] false (.join [.si 4] (.block 0 (.loop [.si 4, .si 8]
 (.seq (.region [o1 9 (.bin .lss 8 7)]) (.seq (.cond 9 .skip (.exit 0)) (.seq (.frame (rg [4, 5] 10 8) [] false (.join [.si 4] (.block 1 (.seq (.region [im 10 8, ia 5 10]) (.seq
 (.region [im 11 1, im 12 0, im 13 5, o1 14 (.ixA 2 12 13), o1 15 (.load true 2 14), oS ⟨some 16, .callv 11 [15], none⟩ BG]) (.cond 16 (.seq (.region [im 17 5, ia 4 17])
 .ret) .skip)))))) (.region [o1 18 (.bin .add 8 (kI 1)), im 8 18]))))))))) (.seq (.region [ia 4 (kI (-1))]) .ret)))
def AE : AFn := ⟨ zS3, AU.erase, [.tmp 4], 2⟩
def Bc (P : Pg) (x : ((List ((List UInt8) × (List UInt8))) × Unit)) (K : Int → Unit → Prop) : Prop :=
 AX (D := Int) (fun J1 => EM (D := (Int × Int)) ((0 : Int), (0 : Int)) (fun d3 J4 => (((decide (d3.2 < (x.1.length : Int))) = true → AX (D := Int) (fun J5 => (0 ≤ d3.2 ∧ d3.2 < (x.1.length : Int)) ∧
 (d3.2.toNat < x.1.length) ∧
 Fn P Q3 BG (List.getD x.1 d3.2.toNat ([], [])) (fun (d7 : Bool) (e8 : Unit) => ((d7 = true → K d3.2 ()) ∧ (d7 = false → J5 d3.1)))) (fun d6 => J4 (d6, (i64.wrap (d3.2 + (1 : Int)))))) ∧ ((decide (d3.2 < (x.1.length : Int))) = false → J1 d3.1)))) (fun d2 => K (-1 : Int) ())
theorem B2 {P : Pg} (h : Has P AE) {x : DP Am.ps} {K : DP Am.rs → DP (ptrs Am.ps) → Prop} (hw : Bc P x K) : Fn P zS3 Am x K :=
 Er (c := AU) h rfl rfl (by kernel_rfl) (Eq.mpr (show Ek P AE Am AU x K = _ by kernel_rfl) hw)
def AP : Cd :=
 (.seq (.region [o1 4 (.asg kF)]) (.seq (.region [im 5 0, im 6 1, oS ⟨some 7, .call zS3 [5, 6], none⟩
 Am, o1 8 (.bin .geq 7 (kI 0)), ia 4 8]) .ret))
def AA : AFn := ⟨ zS4, AP.erase, [.tmp 4], 2⟩
def A8 (P : Pg) (x : ((List ((List UInt8) × (List UInt8))) × Unit)) (K : Bool → Unit → Prop) : Prop :=
 Fn P zS3 Am (x.1, ()) (fun (d1 : Int) (e2 : Unit) => K (decide (d1 ≥ (0 : Int))) ())
theorem BM {P : Pg} (h : Has P AA) {x : DP Ak.ps} {K : DP Ak.rs → DP (ptrs Ak.ps) → Prop} (hw : A8 P x K) : Fn P zS4 Ak x K :=
 Er (c := AP) h rfl rfl (by kernel_rfl) (Eq.mpr (show Ek P AA Ak AP x K = _ by kernel_rfl) hw)
def Gf : Cd :=
 (.seq (.region [o1 2 (.asg kF)]) (.seq (.region [im 3 0, oS ⟨some 4, .call "strings.HasSuffix" [3, (.c (.string ⟨#[10]⟩))], none⟩ BO, ia 2 4]) .ret))
def Ev : AFn := ⟨ Um, Gf.erase, [.tmp 2], 1⟩
def HU (P : Pg) (x : (List UInt8)) (K : Bool → Unit → Prop) : Prop :=
 Fn P "strings.HasSuffix" BO (x, ([10] : List UInt8)) (fun (d1 : Bool) (e2 : Unit) => K d1 ())
theorem Lw {P : Pg} (h : Has P Ev) {x : DP Cb.ps} {K : DP Cb.rs → DP (ptrs Cb.ps) → Prop} (hw : HU P x K) : Fn P Um Cb x K :=
 Er (c := Gf) h rfl rfl (by kernel_rfl) (Eq.mpr (show Ek P Ev Cb Gf x K = _ by kernel_rfl) hw)
def Ge : Cd :=
 (.seq (.region [ia 2 (kI 0)]) (.seq (.region [im 4 0, oS ⟨some 5, .call "strings.Count" [4, (.c (.string ⟨#[10]⟩))], none⟩ CE, ia 3 5]) (.seq (.seq (.region [im 6 0,
 o1 7 (.bin .neq 6 (.c (.string ⟨#[]⟩))), im 8 7, gt 9 8 (.mv 0), oS ⟨some 10, .call Um [9], some (8, true)⟩ Cb, gt 11 8 (.un .not 10), o1 12 (.pick 8
 11 kF)]) (.frame [3, 13, 14] [] false (.join [.si 3] (.cond 12 (.region [im 13 3, o1 14 (.bin .add 13 (kI 1)), ia 3 14]) .skip)))) (.seq (.seq (.region [im 15 0, o1 16 (.lenS 15),
 o1 17 (.bin .gtr 16 (kI 1048576)), im 18 17, gf 19 18 (.mv 3), gf 20 18 (.bin .gtr 19 (kI 4096)), o1 21 (.pick 18 kT 20)]) (.cond 21 (.seq (.region [ia 2 (kI 1)]) .ret) .skip))
 (.seq (.region [ia 2 (kI 0)]) .ret)))))
def Eu : AFn := ⟨ Wt, Ge.erase, [.tmp 2], 1⟩
def HT (P : Pg) (x : (List UInt8)) (K : Int → Unit → Prop) : Prop :=
 Fn P "strings.Count" CE (x, ([10] : List UInt8)) (fun (d1 : Int) (e2 : Unit) => AX (D := Bool) (fun J3 => (((!(x == ([] : List UInt8))) = true → Fn P Um Cb x (fun (d4 : Bool) _ => J3 d4)) ∧ (((!(x == ([] : List UInt8))) = false → J3 false) ∧ True))) (fun d5 => AX (D := Int) (fun J6 => (((cond (!(x == ([] : List UInt8))) (!d5) false) = true → J6 (i64.wrap (d1 + (1 : Int)))) ∧ ((cond (!(x == ([] : List UInt8))) (!d5) false) = false → J6 d1))) (fun d7 => (((cond (decide ((x.length : Int) > (1048576 : Int))) true (decide (d7 > (4096 : Int)))) = true → K (1 : Int) ()) ∧ ((cond (decide ((x.length : Int) > (1048576 : Int))) true (decide (d7 > (4096 : Int)))) = false → K (0 : Int) ())))))
theorem Lv {P : Pg} (h : Has P Eu) {x : DP Ca.ps} {K : DP Ca.rs → DP (ptrs Ca.ps) → Prop} (hw : HT P x K) : Fn P Wt Ca x K :=
 Er (c := Ge) h rfl rfl (by kernel_rfl) (Eq.mpr (show Ek P Eu Ca Ge x K = _ by kernel_rfl) hw)
def Fa : Cd :=
 (.seq (.region [o1 1 (.box 0), o1 2 (.asg kF)]) (.seq (.region [fa 3 1 1, ld 4 3, oS ⟨some 5, .call Wt [4], none⟩ Ca, o1 6 (.bin .neq 5 (kI 0)), ia 2
 6]) .ret))
def Dx : AFn := ⟨ Se, Fa.erase, [.tmp 2], 1⟩
def Gv (P : Pg) (x : ((List UInt8) × (List UInt8))) (K : Bool → Unit → Prop) : Prop :=
 Fn P Wt Ca x.2 (fun (d1 : Int) (e2 : Unit) => K (d1 != (0 : Int)) ())
theorem JN {P : Pg} (h : Has P Dx) {x : DP BH.ps} {K : DP BH.rs → DP (ptrs BH.ps) → Prop} (hw : Gv P x K) : Fn P Se BH x K :=
 Er (c := Fa) h rfl rfl (by kernel_rfl) (Eq.mpr (show Ek P Dx BH Fa x K = _ by kernel_rfl) hw)
def AW : Cd :=
 (.seq (.region [ia 4 (kI 0)]) (.seq (.seq (.region [im 6 0, o1 7 (.lenK 6), o1 8 (.mv (kI 0))]) (.frame (rg [4, 5] 8 11) [] false (.join [.si 4] (.block 0 (.loop [.si 4, .si 8]
 (.seq (.region [o1 9 (.bin .lss 8 7)]) (.seq (.cond 9 .skip (.exit 0)) (.seq (.frame (rg [4, 5] 10 8) [] false (.join [.si 4] (.block 1 (.seq (.region [im 10 8, ia 5 10]) (.seq
 (.region [im 11 1, im 12 0, im 13 5, o1 14 (.ixA 2 12 13), o1 15 (.load true 2 14), oS ⟨some 16, .callv 11 [15], none⟩ BH]) (.cond 16 (.seq (.region [im 17 5, ia 4 17])
 .ret) .skip)))))) (.region [o1 18 (.bin .add 8 (kI 1)), im 8 18]))))))))) (.seq (.region [ia 4 (kI (-1))]) .ret)))
def AF : AFn := ⟨ zS3, AW.erase, [.tmp 4], 2⟩
def Bd (P : Pg) (x : ((List ((List UInt8) × (List UInt8))) × Unit)) (K : Int → Unit → Prop) : Prop :=
 AX (D := Int) (fun J1 => EM (D := (Int × Int)) ((0 : Int), (0 : Int)) (fun d3 J4 => (((decide (d3.2 < (x.1.length : Int))) = true → AX (D := Int) (fun J5 => (0 ≤ d3.2 ∧ d3.2 < (x.1.length : Int)) ∧
 (d3.2.toNat < x.1.length) ∧
 Fn P Se BH (List.getD x.1 d3.2.toNat ([], [])) (fun (d7 : Bool) (e8 : Unit) => ((d7 = true → K d3.2 ()) ∧ (d7 = false → J5 d3.1)))) (fun d6 => J4 (d6, (i64.wrap (d3.2 + (1 : Int)))))) ∧ ((decide (d3.2 < (x.1.length : Int))) = false → J1 d3.1)))) (fun d2 => K (-1 : Int) ())
theorem B3 {P : Pg} (h : Has P AF) {x : DP Ao.ps} {K : DP Ao.rs → DP (ptrs Ao.ps) → Prop} (hw : Bd P x K) : Fn P zS3 Ao x K :=
 Er (c := AW) h rfl rfl (by kernel_rfl) (Eq.mpr (show Ek P AF Ao AW x K = _ by kernel_rfl) hw)
def AQ : Cd :=
 (.seq (.region [o1 4 (.asg kF)]) (.seq (.region [im 5 0, im 6 1, oS ⟨some 7, .call zS3 [5, 6], none⟩
 Ao, o1 8 (.bin .geq 7 (kI 0)), ia 4 8]) .ret))
def AB : AFn := ⟨ zS4, AQ.erase, [.tmp 4], 2⟩
def A9 (P : Pg) (x : ((List ((List UInt8) × (List UInt8))) × Unit)) (K : Bool → Unit → Prop) : Prop :=
 Fn P zS3 Ao (x.1, ()) (fun (d1 : Int) (e2 : Unit) => K (decide (d1 ≥ (0 : Int))) ())
theorem BN {P : Pg} (h : Has P AB) {x : DP Al.ps} {K : DP Al.rs → DP (ptrs Al.ps) → Prop} (hw : A9 P x K) : Fn P zS4 Al x K :=
 Er (c := AQ) h rfl rfl (by kernel_rfl) (Eq.mpr (show Ek P AB Al AQ x K = _ by kernel_rfl) hw)
def Gg : Cd :=
 (.seq (.region [ia 2 (kI 0)]) (.seq (.frame (rg [] 2 15) [] false (.join [.si 2] (.block 0 (.seq (.region [im 4 0, o1 5 (.lenK 4), o1 6 (.bin .gtr 5 (kI 200)), ia 3 6]) (.cond 3
 (.seq (.region [ia 2 (kI 1)]) .ret) (.seq (.region [im 8 0, oS ⟨some 9, .call zS4 [8, (.f Q3)],
 none⟩ Ak, ia 7 9]) (.cond 7 (.seq (.region [ia 2 (kI 210)]) .ret) (.seq (.region [im 11 0, oS ⟨some 12, .call
 "mergelens/tree.ordered" [11], none⟩ Dz, o1 13 (.un .not 12), ia 10 13]) (.cond 10 (.seq (.region [ia 2 (kI 211)]) .ret) (.seq (.region [im 15 0, oS ⟨some 16, .call
 zS4 [15, (.f Se)], none⟩ Al, ia 14 16]) (.cond
 14 (.seq (.region [ia 2 (kI 1)]) .ret) .skip))))))))))) (.seq (.region [ia 2 (kI 0)]) .ret)))
def Ew : AFn := ⟨ zS0, Gg.erase, [.tmp 2], 1⟩
def HV (P : Pg) (x : (List ((List UInt8) × (List UInt8)))) (K : Int → Unit → Prop) : Prop :=
 AX (D := Int) (fun J1 => (((decide ((x.length : Int) > (200 : Int))) = true → K (1 : Int) ()) ∧ ((decide ((x.length : Int) > (200 : Int))) = false → Fn P zS4 Ak (x, ()) (fun (d3 : Bool) (e4 : Unit) => ((d3 = true → K (210 : Int) ()) ∧ (d3 = false → Fn P "mergelens/tree.ordered" Dz x (fun (d5 : Bool) (e6 : Unit) => (((!d5) = true → K (211 : Int) ()) ∧ ((!d5) = false → Fn P zS4 Al (x, ()) (fun (d7 : Bool) (e8 : Unit) => ((d7 = true → K (1 : Int) ()) ∧ (d7 = false → J1 (0 : Int))))))))))))) (fun d2 => K (0 : Int) ())
theorem Lx {P : Pg} (h : Has P Ew) {x : DP Bq.ps} {K : DP Bq.rs → DP (ptrs Bq.ps) → Prop} (hw : HV P x K) : Fn P zS0 Bq x K :=
 Er (c := Gg) h rfl rfl (by kernel_rfl) (Eq.mpr (show Ek P Ew Bq Gg x K = _ by kernel_rfl) hw)
def FD : Cd :=
 (.seq (.region [o1 0 (.asg kF)]) (.seq (.region [o1 4 (.build [(.string ⟨#[]⟩), (.string ⟨#[]⟩)] [(0, 1, (.c (.string ⟨#[97]⟩)))]), o1 5 (.build [(.string ⟨#[]⟩), (.string ⟨#[]⟩)]
 [(0, 1, (.c (.string ⟨#[97, 45, 98]⟩)))]), o1 6 (.build [(.string ⟨#[]⟩), (.string ⟨#[]⟩)] [(0, 1, (.c (.string ⟨#[97, 47, 99]⟩)))]), oT ⟨some 7, .buildSl 2 [(.string ⟨#[]⟩),
 (.string ⟨#[]⟩)] 3 [(0, 4), (1, 5), (2, 6)], none⟩ (some ((.pair .str .str), .leaf)), ia 1 7]) (.seq (.region [o1 9 (.build [(.string ⟨#[]⟩), (.string ⟨#[]⟩)] [(0, 1, (.c (.string
 ⟨#[97]⟩))), (1, 1, (.c (.string ⟨#[120]⟩)))]), oT ⟨some 10, .buildSl 2 [(.string ⟨#[]⟩), (.string ⟨#[]⟩)] 1 [(0, 9)], none⟩ (some ((.pair .str .str), .leaf)), oS ⟨some 11, .call
 zS2 [10, (.c (.string ⟨#[97]⟩))], none⟩ Cc, im 8 11, o1 12 (.ext 8 0), o1 13 (.ext 8 1), ia 2 12, ia 3 13]) (.seq (.region [im 14 1, oS ⟨some 15, .call
 zS0 [14], none⟩ Bq, o1 16 (.bin .eql 15 (kI 211)), im 17 16, gt 18 17 (.mv 1), gt 19 17 (.slK 2 18 none (some (kI 2))), oS ⟨some 20, .call
 zS0 [19], some (17, true)⟩ Bq, gt 21 17 (.bin .eql 20 (kI 0)), o1 22 (.pick 17 21 kF), im 23 22, gt 24 23 (.mv 3), o1 25 (.pick 23 24 kF), im 26 25, gt
 27 26 (.mv 2), o0 ⟨some 28, .bin .eql 27 (.c (.string ⟨#[120]⟩)), some (26, true)⟩, o1 29 (.pick 26 28 kF), im 30 29, oS ⟨some 31, .call zS6 [(.c (.string
 ⟨#[97, 47, 47, 98]⟩))], some (30, true)⟩ AD, gt 32 30 (.bin .eql 31 (kI 210)), o1 33 (.pick 30 32 kF), im 34 33, oS ⟨some 35, .call zS6 [(.c
 (.string ⟨#[97, 47, 98]⟩))], some (34, true)⟩ AD, gt 36 34 (.bin .eql 35 (kI 0)), o1 37 (.pick 34 36 kF), ia 0 37]) .ret))))
def D6 : AFn := ⟨ zS7, FD.erase, [.tmp 0], 0⟩
def Hl (P : Pg) (x : Unit) (K : Bool → Unit → Prop) : Prop :=
 Fn P zS2 Cc (([(([97] : List UInt8), ([120] : List UInt8))] : List ((List UInt8) × (List UInt8))), ([97] : List UInt8)) (fun (d1 : ((List UInt8) × Bool)) (e2 : Unit) => Fn P zS0 Bq ([(([97] : List UInt8), ([] : List UInt8)), (([97, 45, 98] : List UInt8), ([] : List UInt8)), (([97, 47, 99] : List UInt8), ([] : List UInt8))] : List ((List UInt8) × (List UInt8))) (fun (d3 : Int) (e4 : Unit) => (((d3 == (211 : Int)) = true → 0 ≤ (2 : Int) ∧ (2 : Int) ≤ ((List.length ([(([97] : List UInt8), ([] : List UInt8)), (([97, 45, 98] : List UInt8), ([] : List UInt8)), (([97, 47, 99] : List UInt8), ([] : List UInt8))] : List ((List UInt8) × (List UInt8))) : Nat) : Int))) ∧
 AX (D := Int) (fun J5 => (((0 + (Int.toNat (2 : Int)) ≤ List.length ([(([97] : List UInt8), ([] : List UInt8)), (([97, 45, 98] : List UInt8), ([] : List UInt8)), (([97, 47, 99] : List UInt8), ([] : List UInt8))] : List ((List UInt8) × (List UInt8)))) ∧
 ((d3 == (211 : Int)) = true → Fn P zS0 Bq (List.take (Int.toNat (2 : Int)) (List.drop 0 ([(([97] : List UInt8), ([] : List UInt8)), (([97, 45, 98] : List UInt8), ([] : List UInt8)), (([97, 47, 99] : List UInt8), ([] : List UInt8))] : List ((List UInt8) × (List UInt8))))) (fun (d6 : Int) _ => J5 d6))) ∧ (((d3 == (211 : Int)) = false → J5 (0 : Int)) ∧ True))) (fun d7 => AX (D := Int) (fun J8 => (((cond (cond (cond (d3 == (211 : Int)) (d7 == (0 : Int)) false) d1.2 false) (d1.1 == ([120] : List UInt8)) false) = true → Fn P zS6 AD ([97, 47, 47, 98] : List UInt8) (fun (d9 : Int) _ => J8 d9)) ∧ (((cond (cond (cond (d3 == (211 : Int)) (d7 == (0 : Int)) false) d1.2 false) (d1.1 == ([120] : List UInt8)) false) = false → J8 (0 : Int)) ∧ True))) (fun d10 => AX (D := Int) (fun J11 => (((cond (cond (cond (cond (d3 == (211 : Int)) (d7 == (0 : Int)) false) d1.2 false) (d1.1 == ([120] : List UInt8)) false) (d10 == (210 : Int)) false) = true → Fn P zS6 AD ([97, 47, 98] : List UInt8) (fun (d12 : Int) _ => J11 d12)) ∧ (((cond (cond (cond (cond (d3 == (211 : Int)) (d7 == (0 : Int)) false) d1.2 false) (d1.1 == ([120] : List UInt8)) false) (d10 == (210 : Int)) false) = false → J11 (0 : Int)) ∧ True))) (fun d13 => K (cond (cond (cond (cond (cond (d3 == (211 : Int)) (d7 == (0 : Int)) false) d1.2 false) (d1.1 == ([120] : List UInt8)) false) (d10 == (210 : Int)) false) (d13 == (0 : Int)) false) ())))))
theorem Kp {P : Pg} (h : Has P D6) {x : DP A7.ps} {K : DP A7.rs → DP (ptrs A7.ps) → Prop} (hw : Hl P x K) : Fn P zS7 A7 x K :=
 Er (c := FD) h rfl rfl (by kernel_rfl) (Eq.mpr (show Ek P D6 A7 FD x K = _ by kernel_rfl) hw)
def Jm : Cd :=
 (.seq (.region [ia 4 (kI 0)]) (.seq (.region [im 5 0, o1 6 (.conv (.toInt .u64) 5), im 7 1, o1 8 (.conv (.toInt .u64) 7), o1 9 (.bin .rem 6 8), o1 10 (.conv (.toInt .i64) 9), ia 4
 10]) .ret))
def G1 : AFn := ⟨ zS1, Jm.erase, [.tmp 4], 2⟩
def LK (P : Pg) (x : (Int × Int)) (K : Int → Unit → Prop) : Prop :=
 ((u64.wrap x.2) ≠ 0) ∧
 K (i64.wrap (Int.tmod (u64.wrap x.1) (u64.wrap x.2))) ()
theorem Pb {P : Pg} (h : Has P G1) {x : DP B0.ps} {K : DP B0.rs → DP (ptrs B0.ps) → Prop} (hw : LK P x K) : Fn P zS1 B0 x K :=
 Er (c := Jm) h rfl rfl (by kernel_rfl) (Eq.mpr (show Ek P G1 B0 Jm x K = _ by kernel_rfl) hw)
def Ll : Cd :=
 (.seq (.region [ia 4 (kI 0)]) (.seq (.region [im 6 1, o1 7 (.bin .add 6 (kI 1)), o1 8 (.conv (.toInt .u64) 7), o1 9 (.bin .mul 8 (.c (.int .u64 11400714819323198485))), ia 5 9])
 (.seq (.seq (.region [im 10 0, o1 11 (.lenK 10), o1 12 (.bin .gtr 11 (kI 0))]) (.frame (rg [5] 13 10) [] false (.join [.sl 5 false (.int .u64) .leaf] (.cond 12 (.region [im 13 5,
 im 14 0, im 15 1, im 16 0, o1 17 (.lenK 16), o1 18 (.bin .rem 15 17), o1 19 (.ixA 1 14 18), ld 20 19, o1 21 (.conv (.toInt .u64) 20), o1 22 (.bin .xor 13 21), ia 5 22]) .skip))))
 (.seq (.region [im 23 5, im 24 5, o1 25 (.bin .shr 24 (.c (.int .u64 31))), o1 26 (.bin .xor 23 25), o1 27 (.bin .mul 26 (.c (.int .u64 13787848793156543929))), ia 5 27]) (.seq
 (.region [im 28 5, im 29 5, o1 30 (.bin .shr 29 (.c (.int .u64 29))), o1 31 (.bin .xor 28 30), o1 32 (.bin .shr 31 (.c (.int .u64 1))), o1 33 (.conv (.toInt .i64) 32), ia 4 33])
 .ret)))))
def HR : AFn := ⟨ zS8, Ll.erase, [.tmp 4], 2⟩
def Nl (P : Pg) (x : ((List Int) × Int)) (K : Int → Unit → Prop) : Prop :=
 AX (D := Int) (fun J1 => (((decide ((x.1.length : Int) > (0 : Int))) = true → ((x.1.length : Int) ≠ 0) ∧
 (0 ≤ (Int.tmod x.2 (x.1.length : Int)) ∧ (Int.tmod x.2 (x.1.length : Int)) < (x.1.length : Int)) ∧
 ((Int.toNat (Int.tmod x.2 (x.1.length : Int))) < x.1.length) ∧
 J1 (u64.wrap ((BitVec.toNat (BitVec.ofInt u64.bits (u64.wrap ((u64.wrap (i64.wrap (x.2 + (1 : Int)))) * (11400714819323198485 : Int))) ^^^ BitVec.ofInt u64.bits (u64.wrap (List.getD x.1 (Int.toNat (Int.tmod x.2 (x.1.length : Int))) (0 : Int)))) : Nat) : Int))) ∧ ((decide ((x.1.length : Int) > (0 : Int))) = false → J1 (u64.wrap ((u64.wrap (i64.wrap (x.2 + (1 : Int)))) * (11400714819323198485 : Int)))))) (fun d2 => (0 ≤ (31 : Int)) ∧
 (0 ≤ (29 : Int)) ∧
 (0 ≤ (1 : Int)) ∧
 K (i64.wrap (Int.fdiv (u64.wrap ((BitVec.toNat (BitVec.ofInt u64.bits (u64.wrap ((u64.wrap ((BitVec.toNat (BitVec.ofInt u64.bits d2 ^^^ BitVec.ofInt u64.bits (Int.fdiv d2 (2 ^ (min (Int.toNat (31 : Int)) u64.bits)))) : Nat) : Int)) * (13787848793156543929 : Int))) ^^^ BitVec.ofInt u64.bits (Int.fdiv (u64.wrap ((u64.wrap ((BitVec.toNat (BitVec.ofInt u64.bits d2 ^^^ BitVec.ofInt u64.bits (Int.fdiv d2 (2 ^ (min (Int.toNat (31 : Int)) u64.bits)))) : Nat) : Int)) * (13787848793156543929 : Int))) (2 ^ (min (Int.toNat (29 : Int)) u64.bits)))) : Nat) : Int)) (2 ^ (min (Int.toNat (1 : Int)) u64.bits)))) ())
theorem Qw {P : Pg} (h : Has P HR) {x : DP CV.ps} {K : DP CV.rs → DP (ptrs CV.ps) → Prop} (hw : Nl P x K) : Fn P zS8 CV x K :=
 Er (c := Ll) h rfl rfl (by kernel_rfl) (Eq.mpr (show Ek P HR CV Ll x K = _ by kernel_rfl) hw)
def Gc : Cd :=
 (.seq (.region [o1 4 (.asg (.c (.string ⟨#[]⟩)))]) (.seq (.region [o1 5 (.asg (.c (.string ⟨#[]⟩)))]) (.seq (.seq (.region [ia 6 (kI 0)]) (.frame (rg [] 5 22) [] false (.join [.sl
 5 false .str .leaf] (.block 0 (.loop [.sl 5 false .str .leaf, .si 6] (.seq (.seq (.region [im 7 6, im 8 0, im 9 1, oS ⟨some 10, .call zS8 [8, 9], none⟩
 CV, oS ⟨some 11, .call zS1 [10, (kI 6)], none⟩ B0, o1 12 (.bin .lss 7 11)]) (.cond 12 .skip (.exit 0))) (.seq (.frame (rg [5] 15 12) [] false
 (.join [.sl 5 false .str .leaf] (.block 1 (.region [im 15 5, oT ⟨some 16, .buildSl 1 [(.string ⟨#[]⟩)] 7 [(0, (.c (.string ⟨#[97]⟩))), (1, (.c (.string ⟨#[98]⟩))), (2, (.c (.string
 ⟨#[47]⟩))), (3, (.c (.string ⟨#[46]⟩))), (4, (.c (.string ⟨#[45]⟩))), (5, (.c (.string ⟨#[46, 46]⟩))), (6, (.c (.string ⟨#[97, 47, 98]⟩)))], none⟩ (some (.str, .leaf)), im 17 0, im
 18 1, o1 19 (.bin .add 18 (kI 1)), im 20 6, o1 21 (.bin .add 19 20), oS ⟨some 22, .call zS8 [17, 21], none⟩ CV, oS ⟨some 23, .call
 zS1 [22, (kI 7)], none⟩ B0, o1 24 (.ixA 1 16 23), ld 25 24, o1 26 (.bin .add 15 25), ia 5 26])))) (.region [im 13 6, o1 14 (.bin .add 13 (kI 1)), ia
 6 14])))))))) (.seq (.region [im 27 5, ia 4 27]) .ret))))
def Et : AFn := ⟨ zS5, Gc.erase, [.tmp 4], 2⟩
abbrev Eb : List (List UInt8) := ([([97] : List UInt8), ([98] : List UInt8), ([47] : List UInt8), ([46] : List UInt8), ([45] : List UInt8), ([46, 46] : List UInt8), ([97, 47, 98] : List UInt8)] : List (List UInt8))
def HS (P : Pg) (x : ((List Int) × Int)) (K : (List UInt8) → Unit → Prop) : Prop :=
 AX (D := (List UInt8)) (fun J1 => EM (D := ((List UInt8) × Int)) (([] : List UInt8), (0 : Int)) (fun d3 J4 => Fn P zS8 CV x (fun (d5 : Int) (e6 : Unit) => Fn P zS1 B0 (d5, (6 : Int)) (fun (d7 : Int) (e8 : Unit) => (((decide (d3.2 < d7)) = true → AX (D := (List UInt8)) (fun J9 => Fn P zS8 CV (x.1, (i64.wrap ((i64.wrap (x.2 + (1 : Int))) + d3.2))) (fun (d11 : Int) (e12 : Unit) => Fn P zS1 B0 (d11, (7 : Int)) (fun (d13 : Int) (e14 : Unit) => (0 ≤ d13 ∧ d13 < ((List.length Eb : Nat) : Int)) ∧
 (d13.toNat < List.length Eb) ∧
 (d3.1.length + List.length (List.getD Eb d13.toNat []) ≤ 9223372036854775807) ∧
 J9 (d3.1 ++ (List.getD Eb d13.toNat []))))) (fun d10 => J4 (d10, (i64.wrap (d3.2 + (1 : Int)))))) ∧ ((decide (d3.2 < d7)) = false → J1 d3.1)))))) (fun d2 => K d2 ())
theorem Lu {P : Pg} (h : Has P Et) {x : DP BV.ps} {K : DP BV.rs → DP (ptrs BV.ps) → Prop} (hw : HS P x K) : Fn P zS5 BV x K :=
 Er (c := Gc) h rfl rfl (by kernel_rfl) (Eq.mpr (show Ek P Et BV Gc x K = _ by kernel_rfl) hw)
def Vq : Cd :=
 (.seq (.region [o1 2 (.asg kF)]) (.seq (.seq (.region [im 4 0, o1 5 (.lenK 4), o1 6 (.bin .gtr 5 (kI 8))]) (.cond 6 (.seq (.region [o1 2 (.asg kF)]) .ret) .skip)) (.seq (.seq
 (.region [ia 3 (kI 0)]) (.frame (rg [2, 3] 7 22) [] false (.join [.sl 2 false .bool .leaf] (.block 0 (.loop [.sl 2 false .bool .leaf, .si 3] (.seq (.seq (.region [im 7 3, im 8 0,
 o1 9 (.lenK 8), o1 10 (.bin .lss 7 9)]) (.cond 10 .skip (.exit 0))) (.seq (.frame (rg [2] 13 16) [] false (.join [.sl 2 false .bool .leaf] (.block 1 (.seq (.region [im 13 0, im 14
 3, o1 15 (.ixA 2 13 14), fa 16 0 15, ld 17 16, o1 18 (.lenS 17), o1 19 (.bin .gtr 18 (kI 250)), im 20 19, gf 21 20 (.mv 0), gf 22 20 (.mv 3), gf 23 20 (.ixA 2 21 22), gf 24 20
 (.fAddr 1 23), gf 25 20 (.load false 1 24), gf 26 20 (.lenS 25), gf 27 20 (.bin .gtr 26 (kI 60)), o1 28 (.pick 20 kT 27)]) (.cond 28 (.seq (.region [o1 2 (.asg kF)]) .ret)
 .skip))))) (.region [im 11 3, o1 12 (.bin .add 11 (kI 1)), ia 3 12])))))))) (.seq (.region [o1 2 (.asg kT)]) .ret))))
def Vh : AFn := ⟨ Wu, Vq.erase, [.tmp 2], 1⟩
def VA (P : Pg) (x : (List ((List UInt8) × (List UInt8)))) (K : Bool → Unit → Prop) : Prop :=
 (((decide ((x.length : Int) > (8 : Int))) = true → K false ()) ∧ ((decide ((x.length : Int) > (8 : Int))) = false → AX (D := Bool) (fun J1 => EM (D := (Bool × Int)) (false, (0 : Int)) (fun d3 J4 => (((decide (d3.2 < (x.length : Int))) = true → AX (D := Bool) (fun J5 => (0 ≤ d3.2 ∧ d3.2 < (x.length : Int)) ∧
 (d3.2.toNat < x.length) ∧
 (((decide (((List.length (List.getD x d3.2.toNat ([], [])).1 : Nat) : Int) > (250 : Int))) = false → 0 ≤ d3.2 ∧ d3.2 < (x.length : Int))) ∧
 (((decide (((List.length (List.getD x d3.2.toNat ([], [])).1 : Nat) : Int) > (250 : Int))) = false → d3.2.toNat < x.length)) ∧
 (((cond (decide (((List.length (List.getD x d3.2.toNat ([], [])).1 : Nat) : Int) > (250 : Int))) true (decide (((List.length (List.getD x d3.2.toNat ([], [])).2 : Nat) : Int) > (60 : Int)))) = true → K false ()) ∧ ((cond (decide (((List.length (List.getD x d3.2.toNat ([], [])).1 : Nat) : Int) > (250 : Int))) true (decide (((List.length (List.getD x d3.2.toNat ([], [])).2 : Nat) : Int) > (60 : Int)))) = false → J5 d3.1))) (fun d6 => J4 (d6, (i64.wrap (d3.2 + (1 : Int)))))) ∧ ((decide (d3.2 < (x.length : Int))) = false → J1 d3.1)))) (fun d2 => K true ())))
theorem VO {P : Pg} (h : Has P Vh) {x : DP U9.ps} {K : DP U9.rs → DP (ptrs U9.ps) → Prop} (hw : VA P x K) : Fn P Wu U9 x K :=
 Er (c := Vq) h rfl rfl (by kernel_rfl) (Eq.mpr (show Ek P Vh U9 Vq x K = _ by kernel_rfl) hw)
def VI : Cd :=
 (.seq (.region [o1 2 (.asg (.c (.string ⟨#[]⟩)))]) (.seq (.region [oT ⟨some 3, .buildSl 1 [(.string ⟨#[]⟩)] 10 [(0, (.c (.string ⟨#[97]⟩))), (1, (.c (.string ⟨#[98]⟩))), (2, (.c
 (.string ⟨#[99]⟩))), (3, (.c (.string ⟨#[97, 98]⟩))), (4, (.c (.string ⟨#[98, 97]⟩))), (5, (.c (.string ⟨#[]⟩))), (6, (.c (.string ⟨#[97, 97]⟩))), (7, (.c (.string ⟨#[98, 32,
 97]⟩))), (8, (.c (.string ⟨#[120, 43, 121]⟩))), (9, (.c (.string ⟨#[92]⟩)))], none⟩ (some (.str, .leaf)), im 4 0, oS ⟨some 5, .call zS1 [4, (kI 10)], none⟩
 B0, o1 6 (.ixA 1 3 5), ld 7 6, ia 2 7]) .ret))
def Vv : AFn := ⟨ Wv, VI.erase, [.tmp 2], 1⟩
abbrev Vy : List (List UInt8) := ([([97] : List UInt8), ([98] : List UInt8), ([99] : List UInt8), ([97, 98] : List UInt8), ([98, 97] : List UInt8), ([] : List UInt8), ([97, 97] : List UInt8), ([98, 32, 97] : List UInt8), ([120, 43, 121] : List UInt8), ([92] : List UInt8)] : List (List UInt8))
def VM (P : Pg) (x : Int) (K : (List UInt8) → Unit → Prop) : Prop :=
 Fn P zS1 B0 (x, (10 : Int)) (fun (d1 : Int) (e2 : Unit) => (0 ≤ d1 ∧ d1 < ((List.length Vy : Nat) : Int)) ∧
 (d1.toNat < List.length Vy) ∧
 K (List.getD Vy d1.toNat []) ())
theorem Wd {P : Pg} (h : Has P Vv) {x : DP Ve.ps} {K : DP Ve.rs → DP (ptrs Ve.ps) → Prop} (hw : VM P x K) : Fn P Wv Ve x K :=
 Er (c := VI) h rfl rfl (by kernel_rfl) (Eq.mpr (show Ek P Vv Ve VI x K = _ by kernel_rfl) hw)
def Vw : Cd :=
 (.seq (.region [o1 4 (.asg (.c (.string ⟨#[]⟩))), o1 5 (.asg kF)]) (.seq (.seq (.region [ia 6 (kI 0)]) (.frame (rg [] 4 21) [] false (.join [.sl 4 false .str .leaf, .sl 5 false
 .bool .leaf] (.block 0 (.loop [.sl 4 false .str .leaf, .sl 5 false .bool .leaf, .si 6] (.seq (.seq (.region [im 7 6, im 8 0, o1 9 (.lenK 8), o1 10 (.bin .lss 7 9)]) (.cond 10 .skip
 (.exit 0))) (.seq (.frame (rg [4, 5] 13 12) [] false (.join [.sl 4 false .str .leaf, .sl 5 false .bool .leaf] (.block 1 (.seq (.region [im 13 0, im 14 6, o1 15 (.ixA 2 13 14), fa
 16 0 15, ld 17 16, im 18 1, o1 19 (.bin .eql 17 18)]) (.cond 19 (.seq (.region [im 20 0, im 21 6, o1 22 (.ixA 2 20 21), fa 23 1 22, ld 24 23, ia 4 24, o1 5 (.asg kT)]) .ret)
 .skip))))) (.region [im 11 6, o1 12 (.bin .add 11 (kI 1)), ia 6 12])))))))) (.seq (.region [o1 4 (.asg (.c (.string ⟨#[]⟩))), o1 5 (.asg kF)]) .ret)))
def Vn : AFn := ⟨ zS9, Vw.erase, [.tmp 4, .tmp 5], 2⟩
def VJ (P : Pg) (x : ((List ((List UInt8) × (List UInt8))) × (List UInt8))) (K : ((List UInt8) × Bool) → Unit → Prop) : Prop :=
 AX (D := ((List UInt8) × Bool)) (fun J1 => EM (D := ((List UInt8) × (Bool × Int))) (([] : List UInt8), (false, (0 : Int))) (fun d3 J4 => (((decide (d3.2.2 < (x.1.length : Int))) = true → AX (D := ((List UInt8) × Bool)) (fun J5 => (0 ≤ d3.2.2 ∧ d3.2.2 < (x.1.length : Int)) ∧
 (d3.2.2.toNat < x.1.length) ∧
 ((((List.getD x.1 d3.2.2.toNat ([], [])).1 == x.2) = true → (0 ≤ d3.2.2 ∧ d3.2.2 < (x.1.length : Int)) ∧
 (d3.2.2.toNat < x.1.length) ∧
 K ((List.getD x.1 d3.2.2.toNat ([], [])).2, true) ()) ∧ (((List.getD x.1 d3.2.2.toNat ([], [])).1 == x.2) = false → J5 (d3.1, d3.2.1)))) (fun d6 => J4 (d6.1, (d6.2, (i64.wrap (d3.2.2 + (1 : Int))))))) ∧ ((decide (d3.2.2 < (x.1.length : Int))) = false → J1 (d3.1, d3.2.1))))) (fun d2 => K (([] : List UInt8), false) ())
theorem VW {P : Pg} (h : Has P Vn) {x : DP U8.ps} {K : DP U8.rs → DP (ptrs U8.ps) → Prop} (hw : VJ P x K) : Fn P zS9 U8 x K :=
 Er (c := Vw) h rfl rfl (by kernel_rfl) (Eq.mpr (show Ek P Vn U8 Vw x K = _ by kernel_rfl) hw)
def DR : Cd :=
 (.seq (.region [ia 2 (kI 0)]) (.seq (.seq (.region [im 5 0, o1 6 (.lenS 5), o1 7 (.bin .lss 6 (kI 1)), im 8 7, gf 9 8 (.mv 0), gf 10 8 (.lenS 9), gf 11 8 (.bin .gtr 10 (kI 200)),
 o1 12 (.pick 8 kT 11)]) (.cond 12 (.seq (.region [ia 2 (kI 210)]) .ret) .skip)) (.seq (.region [o1 3 (.asg (.c (.string ⟨#[]⟩)))]) (.seq (.seq (.region [ia 4 (kI 0)]) (.frame (rg
 [2, 3, 4] 13 43) [] false (.join [.si 2] (.block 0 (.loop [.si 2, .sl 3 false .str .leaf, .si 4] (.seq (.seq (.region [im 13 4, im 14 0, o1 15 (.lenS 14), o1 16 (.bin .leq 13 15)])
 (.cond 16 .skip (.exit 0))) (.seq (.frame (rg [2, 3] 19 37) [] false (.join [.si 2, .sl 3 false .str .leaf] (.block 1 (.seq (.seq (.region [im 19 4, im 20 0, o1 21 (.lenS 20), o1
 22 (.bin .lss 19 21), im 23 22, gt 24 23 (.mv 0), gt 25 23 (.mv 4), gt 26 23 (.ixS 24 25), gt 27 23 (.bin .eql 26 (.c (.int .u8 0))), o1 28 (.pick 23 27 kF)]) (.cond 28 (.seq
 (.region [ia 2 (kI 210)]) .ret) .skip)) (.seq (.seq (.region [im 29 4, im 30 0, o1 31 (.lenS 30), o1 32 (.bin .lss 29 31), im 33 32, gt 34 33 (.mv 0), gt 35 33 (.mv 4), gt 36 33
 (.ixS 34 35), gt 37 33 (.bin .neq 36 (.c (.int .u8 47))), o1 38 (.pick 33 37 kF)]) (.cond 38 (.seq (.region [im 39 3, im 40 0, im 41 4, im 42 4, o1 43 (.bin .add 42 (kI 1)), o1 44
 (.slS 40 (some 41) (some 43)), o1 45 (.bin .add 39 44), ia 3 45]) (.exit 1)) .skip)) (.seq (.seq (.region [im 46 3, o1 47 (.bin .eql 46 (.c (.string ⟨#[]⟩))), im 48 47, gf 49 48
 (.mv 3), o0 ⟨some 50, .bin .eql 49 (.c (.string ⟨#[46]⟩)), some (48, false)⟩, o1 51 (.pick 48 kT 50), im 52 51, gf 53 52 (.mv 3), o0 ⟨some 54, .bin .eql 53 (.c (.string ⟨#[46,
 46]⟩)), some (52, false)⟩, o1 55 (.pick 52 kT 54)]) (.cond 55 (.seq (.region [ia 2 (kI 210)]) .ret) .skip)) (.region [o1 3 (.asg (.c (.string ⟨#[]⟩)))]))))))) (.region [im 17 4, o1
 18 (.bin .add 17 (kI 1)), ia 4 18])))))))) (.seq (.region [ia 2 (kI 0)]) .ret)))))
def CS : AFn := ⟨ Sf, DR.erase, [.tmp 2], 1⟩
def Fo (P : Pg) (x : (List UInt8)) (K : Int → Unit → Prop) : Prop :=
 (((cond (decide ((x.length : Int) < (1 : Int))) true (decide ((x.length : Int) > (200 : Int)))) = true → K (210 : Int) ()) ∧ ((cond (decide ((x.length : Int) < (1 : Int))) true (decide ((x.length : Int) > (200 : Int)))) = false → AX (D := Int) (fun J1 => EM (D := (Int × ((List UInt8) × Int))) ((0 : Int), (([] : List UInt8), (0 : Int))) (fun d3 J4 => (((decide (d3.2.2 ≤ (x.length : Int))) = true → AX (D := (Int × (List UInt8))) (fun J5 => (((decide (d3.2.2 < (x.length : Int))) = true → 0 ≤ d3.2.2 ∧ d3.2.2 < (x.length : Int))) ∧
 (((cond (decide (d3.2.2 < (x.length : Int))) (((x.getD d3.2.2.toNat 0).toNat : Int) == (0 : Int)) false) = true → K (210 : Int) ()) ∧ ((cond (decide (d3.2.2 < (x.length : Int))) (((x.getD d3.2.2.toNat 0).toNat : Int) == (0 : Int)) false) = false → (((decide (d3.2.2 < (x.length : Int))) = true → 0 ≤ d3.2.2 ∧ d3.2.2 < (x.length : Int))) ∧
 (((cond (decide (d3.2.2 < (x.length : Int))) (((x.getD d3.2.2.toNat 0).toNat : Int) != (47 : Int)) false) = true → (0 ≤ d3.2.2 ∧ d3.2.2 ≤ (i64.wrap (d3.2.2 + (1 : Int))) ∧ (i64.wrap (d3.2.2 + (1 : Int))) ≤ (x.length : Int)) ∧
 (d3.2.1.length + List.length (List.drop d3.2.2.toNat (List.take (Int.toNat (i64.wrap (d3.2.2 + (1 : Int)))) x)) ≤ 9223372036854775807) ∧
 J5 (d3.1, (d3.2.1 ++ (List.drop d3.2.2.toNat (List.take (Int.toNat (i64.wrap (d3.2.2 + (1 : Int)))) x))))) ∧ ((cond (decide (d3.2.2 < (x.length : Int))) (((x.getD d3.2.2.toNat 0).toNat : Int) != (47 : Int)) false) = false → (((cond (cond (d3.2.1 == ([] : List UInt8)) true (d3.2.1 == ([46] : List UInt8))) true (d3.2.1 == ([46, 46] : List UInt8))) = true → K (210 : Int) ()) ∧ ((cond (cond (d3.2.1 == ([] : List UInt8)) true (d3.2.1 == ([46] : List UInt8))) true (d3.2.1 == ([46, 46] : List UInt8))) = false → J5 (d3.1, ([] : List UInt8))))))))) (fun d6 => J4 (d6.1, (d6.2, (i64.wrap (d3.2.2 + (1 : Int))))))) ∧ ((decide (d3.2.2 ≤ (x.length : Int))) = false → J1 d3.1)))) (fun d2 => K (0 : Int) ())))
theorem Hy {P : Pg} (h : Has P CS) {x : DP AG.ps} {K : DP AG.rs → DP (ptrs AG.ps) → Prop} (hw : Fo P x K) : Fn P Sf AG x K :=
 Er (c := DR) h rfl rfl (by kernel_rfl) (Eq.mpr (show Ek P CS AG DR x K = _ by kernel_rfl) hw)
def Vt : Cd :=
 (.seq (.region [o1 4 (.asg kF)]) (.seq (.region [im 5 1, o1 6 (.lenS 5), im 7 0, o1 8 (.lenS 7), o1 9 (.bin .gtr 6 8), im 10 9, gt 11 10 (.mv 1), gt 12 10 (.mv 0), gt 13 10 (.lenS
 12), gt 14 10 (.slS 11 none (some 13)), gt 15 10 (.mv 0), gt 16 10 (.bin .eql 14 15), o1 17 (.pick 10 16 kF), im 18 17, gt 19 18 (.mv 1), gt 20 18 (.mv 0), gt 21 18 (.lenS 20), gt
 22 18 (.ixS 19 21), gt 23 18 (.bin .eql 22 (.c (.int .u8 47))), o1 24 (.pick 18 23 kF), ia 4 24]) .ret))
def Vk : AFn := ⟨ Ww, Vt.erase, [.tmp 4], 2⟩
def VD (P : Pg) (x : ((List UInt8) × (List UInt8))) (K : Bool → Unit → Prop) : Prop :=
 (((decide ((x.2.length : Int) > (x.1.length : Int))) = true → 0 ≤ (x.1.length : Int) ∧ (x.1.length : Int) ≤ (x.2.length : Int))) ∧
 (((cond (decide ((x.2.length : Int) > (x.1.length : Int))) ((List.take (Int.toNat (x.1.length : Int)) x.2) == x.1) false) = true → 0 ≤ (x.1.length : Int) ∧ (x.1.length : Int) < (x.2.length : Int))) ∧
 K (cond (cond (decide ((x.2.length : Int) > (x.1.length : Int))) ((List.take (Int.toNat (x.1.length : Int)) x.2) == x.1) false) (((UInt8.toNat (List.getD x.2 (Int.toNat (x.1.length : Int)) 0) : Nat) : Int) == (47 : Int)) false) ()
theorem VR {P : Pg} (h : Has P Vk) {x : DP Vc.ps} {K : DP Vc.rs → DP (ptrs Vc.ps) → Prop} (hw : VD P x K) : Fn P Ww Vc x K :=
 Er (c := Vt) h rfl rfl (by kernel_rfl) (Eq.mpr (show Ek P Vk Vc Vt x K = _ by kernel_rfl) hw)
def Vs : Cd :=
 (.seq (.region [o1 2 (.asg (.c (.slice none 0 0)))]) (.seq (.region [o1 3 (.asg (.c (.slice none 0 0)))]) (.seq (.region [ia 4 (kI 0)]) (.seq (.seq (.region [ia 5 (kI 0)]) (.frame
 (rg [] 3 30) [] false (.join [.sl 3 false (.sl .str) tO] (.block 0 (.loop [.sl 3 false (.sl .str) tO, .si 4, .si 5] (.seq (.seq (.region [im 6 5, im 7 0, o1 8 (.lenS 7), o1 9 (.bin
 .lss 6 8)]) (.cond 9 .skip (.exit 0))) (.seq (.frame (rg [3, 4] 12 21) [] false (.join [.sl 3 false (.sl .str) tO, .si 4] (.block 1 (.seq (.region [im 12 0, im 13 5, o1 14 (.ixS 12
 13), o1 15 (.bin .eql 14 (.c (.int .u8 10))), im 16 15, gf 17 16 (.mv 5), gf 18 16 (.bin .add 17 (kI 1)), gf 19 16 (.mv 0), gf 20 16 (.lenS 19), gf 21 16 (.bin .eql 18 20), o1 22
 (.pick 16 kT 21)]) (.frame (rg [3, 4] 23 10) [] false (.join [.sl 3 false (.sl .str) tO, .si 4] (.cond 22 (.seq (.region [im 23 3, im 24 0, im 25 4, im 26 5, o1 27 (.bin .add 26
 (kI 1)), o1 28 (.slS 24 (some 25) (some 27)), oT ⟨some 29, .buildSl 1 [(.string ⟨#[]⟩)] 1 [(0, 28)], none⟩ (some (.str, .leaf)), oT ⟨some 30, .app 1 16 23 29, none⟩ (some (.str,
 .leaf)), ia 3 30]) (.region [im 31 5, o1 32 (.bin .add 31 (kI 1)), ia 4 32])) .skip))))))) (.region [im 10 5, o1 11 (.bin .add 10 (kI 1)), ia 5 11])))))))) (.seq (.region [im 33 3,
 ia 2 33]) .ret)))))
def Vj : AFn := ⟨ Wx, Vs.erase, [.tmp 2], 1⟩
def VC (P : Pg) (x : (List UInt8)) (K : (List (List UInt8)) → Unit → Prop) : Prop :=
 AX (D := (List (List UInt8))) (fun J1 => EM (D := ((List (List UInt8)) × (Int × Int))) ([], ((0 : Int), (0 : Int))) (fun d3 J4 => (((decide (d3.2.2 < (x.length : Int))) = true → AX (D := ((List (List UInt8)) × Int)) (fun J5 => (0 ≤ d3.2.2 ∧ d3.2.2 < (x.length : Int)) ∧
 AX (D := ((List (List UInt8)) × Int)) (fun J7 => (((cond (((x.getD d3.2.2.toNat 0).toNat : Int) == (10 : Int)) true ((i64.wrap (d3.2.2 + (1 : Int))) == (x.length : Int))) = true → (0 ≤ d3.2.1 ∧ d3.2.1 ≤ (i64.wrap (d3.2.2 + (1 : Int))) ∧ (i64.wrap (d3.2.2 + (1 : Int))) ≤ (x.length : Int)) ∧
 ((d3.1.length + List.length ([(List.drop d3.2.1.toNat (List.take (Int.toNat (i64.wrap (d3.2.2 + (1 : Int)))) x))] : List (List UInt8))) * 16 ≤ 140737488355328) ∧
 J7 ((d3.1 ++ ([(List.drop d3.2.1.toNat (List.take (Int.toNat (i64.wrap (d3.2.2 + (1 : Int)))) x))] : List (List UInt8))), (i64.wrap (d3.2.2 + (1 : Int))))) ∧ ((cond (((x.getD d3.2.2.toNat 0).toNat : Int) == (10 : Int)) true ((i64.wrap (d3.2.2 + (1 : Int))) == (x.length : Int))) = false → J7 (d3.1, d3.2.1)))) (fun d8 => J5 d8)) (fun d6 => J4 (d6.1, (d6.2, (i64.wrap (d3.2.2 + (1 : Int))))))) ∧ ((decide (d3.2.2 < (x.length : Int))) = false → J1 d3.1)))) (fun d2 => K d2 ())
theorem VQ {P : Pg} (h : Has P Vj) {x : DP Vb.ps} {K : DP Vb.rs → DP (ptrs Vb.ps) → Prop} (hw : VC P x K) : Fn P Wx Vb x K :=
 Er (c := Vs) h rfl rfl (by kernel_rfl) (Eq.mpr (show Ek P Vj Vb Vs x K = _ by kernel_rfl) hw)
def Vr : Cd :=
 (.seq (.region [ia 2 (kI 0)]) (.seq (.seq (.region [im 3 0, o1 4 (.lenS 3), o1 5 (.bin .gtr 4 (kI 1048576)), im 6 5, ⟨⟨some 7, .mv 0, some (6, false)⟩, none, ⟨[], []⟩, false, some
 6, true, false⟩, ⟨⟨some 8, .call Wx [7], some (6, false)⟩, none, Vb, false, none, true, false⟩, ⟨⟨some 9, .lenK 8, some (6, false)⟩, none,
 ⟨[], []⟩, false, none, true, false⟩, ⟨⟨some 10, .bin .gtr 9 (kI 4096), some (6, false)⟩, none, ⟨[], []⟩, false, none, true, true⟩, o1 11 (.pick 6 kT 10)]) (.cond 11 (.seq (.region
 [ia 2 (kI 1)]) .ret) .skip)) (.seq (.region [ia 2 (kI 0)]) .ret)))
def Vi : AFn := ⟨ Wy, Vr.erase, [.tmp 2], 1⟩
def VB (P : Pg) (x : (List UInt8)) (K : Int → Unit → Prop) : Prop :=
 (((decide ((x.length : Int) > (1048576 : Int))) = true → (((cond true true false) = true → K (1 : Int) ()) ∧ ((cond true true false) = false → K (0 : Int) ()))) ∧ ((decide ((x.length : Int) > (1048576 : Int))) = false → Fn P Wx Vb x (fun (d1 : (List (List UInt8))) (e2 : Unit) => (((cond false true (decide ((d1.length : Int) > (4096 : Int)))) = true → K (1 : Int) ()) ∧ ((cond false true (decide ((d1.length : Int) > (4096 : Int)))) = false → K (0 : Int) ())))))
theorem VP {P : Pg} (h : Has P Vi) {x : DP Va.ps} {K : DP Va.rs → DP (ptrs Va.ps) → Prop} (hw : VB P x K) : Fn P Wy Va x K :=
 Er (c := Vr) h rfl rfl (by kernel_rfl) (Eq.mpr (show Ek P Vi Va Vr x K = _ by kernel_rfl) hw)
def Vu : Cd :=
 (.seq (.region [ia 2 (kI 0)]) (.seq (.seq (.region [im 7 0, o1 8 (.lenK 7), o1 9 (.bin .gtr 8 (kI 200))]) (.cond 9 (.seq (.region [ia 2 (kI 1)]) .ret) .skip)) (.seq (.seq (.region
 [ia 3 (kI 0)]) (.frame (rg [2, 3] 10 13) [] false (.join [.si 2] (.block 0 (.loop [.si 2, .si 3] (.seq (.seq (.region [im 10 3, im 11 0, o1 12 (.lenK 11), o1 13 (.bin .lss 10 12)])
 (.cond 13 .skip (.exit 0))) (.seq (.frame (rg [2] 16 7) [] false (.join [.si 2] (.block 1 (.seq (.region [im 16 0, im 17 3, o1 18 (.ixA 2 16 17), fa 19 0 18, ld 20 19, oS ⟨some 21,
 .call Sf [20], none⟩ AG, o1 22 (.bin .neq 21 (kI 0))]) (.cond 22 (.seq (.region [ia 2 (kI 210)]) .ret) .skip))))) (.region [im 14
 3, o1 15 (.bin .add 14 (kI 1)), ia 3 15])))))))) (.seq (.seq (.region [ia 4 (kI 0)]) (.frame (rg [2, 4, 5] 23 35) [] false (.join [.si 2] (.block 2 (.loop [.si 2, .si 4] (.seq
 (.seq (.region [im 23 4, im 24 0, o1 25 (.lenK 24), o1 26 (.bin .lss 23 25)]) (.cond 26 .skip (.exit 2))) (.seq (.frame (rg [2, 5] 29 29) [] false (.join [.si 2] (.block 3 (.seq
 (.region [ia 5 (kI 0)]) (.frame (rg [2, 5] 29 29) [] false (.join [.si 2] (.block 4 (.loop [.si 2, .si 5] (.seq (.seq (.region [im 29 5, im 30 4, o1 31 (.bin .lss 29 30)]) (.cond
 31 .skip (.exit 4))) (.seq (.frame (rg [2] 34 24) [] false (.join [.si 2] (.block 5 (.seq (.frame (rg [] 34 24) [] false (.join [.sl 57 false .bool .leaf] (.draw [(.first (im 34 0)
 (.first (im 35 5) (.first (o1 36 (.ixA 2 34 35)) (.first (fa 37 0 36) (.first (ld 38 37) (.first (im 39 0) (.first (im 40 4) (.first (o1 41 (.ixA 2 39 40)) (.first (fa 42 0 41)
 (.first (ld 43 42) (.first (o1 44 (.bin .geq 38 43)) (.first (im 45 44) (.first (gf 46 45 (.mv 0)) (.first (gf 47 45 (.mv 5)) (.first (gf 48 45 (.ixA 2 46 47)) (.first (gf 49 45
 (.fAddr 0 48)) (.first (gf 50 45 (.load false 1 49)) (.first (gf 51 45 (.mv 0)) (.first (gf 52 45 (.mv 4)) (.first (gf 53 45 (.ixA 2 51 52)) (.first (gf 54 45 (.fAddr 0 53))
 (.first (gf 55 45 (.load false 1 54)) (.alt (oS ⟨some 56, .call Ww [50, 55], some (45, false)⟩ Vc) (.first (o1 57 (.pick 45 kT 56)) .done)
 .stop)))))))))))))))))))))))]))) (.cond 57 (.seq (.region [ia 2 (kI 211)]) .ret) .skip))))) (.region [im 32 5, o1 33 (.bin .add 32 (kI 1)), ia 5 33]))))))))))) (.region [im 27 4,
 o1 28 (.bin .add 27 (kI 1)), ia 4 28])))))))) (.seq (.seq (.region [ia 6 (kI 0)]) (.frame (rg [2, 6] 58 13) [] false (.join [.si 2] (.block 6 (.loop [.si 2, .si 6] (.seq (.seq
 (.region [im 58 6, im 59 0, o1 60 (.lenK 59), o1 61 (.bin .lss 58 60)]) (.cond 61 .skip (.exit 6))) (.seq (.frame (rg [2] 64 7) [] false (.join [.si 2] (.block 7 (.seq (.region [im
 64 0, im 65 6, o1 66 (.ixA 2 64 65), fa 67 1 66, ld 68 67, oS ⟨some 69, .call Wy [68], none⟩ Va, o1 70 (.bin .neq 69 (kI 0))]) (.cond 70
 (.seq (.region [ia 2 (kI 1)]) .ret) .skip))))) (.region [im 62 6, o1 63 (.bin .add 62 (kI 1)), ia 6 63])))))))) (.seq (.region [ia 2 (kI 0)]) .ret))))))
def Vl : AFn := ⟨ Q2, Vu.erase, [.tmp 2], 1⟩
def VE (P : Pg) (x : (List ((List UInt8) × (List UInt8)))) (K : Int → Unit → Prop) : Prop :=
 (((decide ((x.length : Int) > (200 : Int))) = true → K (1 : Int) ()) ∧ ((decide ((x.length : Int) > (200 : Int))) = false → AX (D := Int) (fun J1 => EM (D := (Int × Int)) ((0 : Int), (0 : Int)) (fun d3 J4 => (((decide (d3.2 < (x.length : Int))) = true → AX (D := Int) (fun J5 => (0 ≤ d3.2 ∧ d3.2 < (x.length : Int)) ∧
 (d3.2.toNat < x.length) ∧
 Fn P Sf AG (List.getD x d3.2.toNat ([], [])).1 (fun (d7 : Int) (e8 : Unit) => (((d7 != (0 : Int)) = true → K (210 : Int) ()) ∧ ((d7 != (0 : Int)) = false → J5 d3.1)))) (fun d6 => J4 (d6, (i64.wrap (d3.2 + (1 : Int)))))) ∧ ((decide (d3.2 < (x.length : Int))) = false → J1 d3.1)))) (fun d2 => AX (D := Int) (fun J9 => EM (D := (Int × Int)) (d2, (0 : Int)) (fun d11 J12 => (((decide (d11.2 < (x.length : Int))) = true → AX (D := Int) (fun J13 => AX (D := Int) (fun J15 => EM (D := (Int × Int)) (d11.1, (0 : Int)) (fun d17 J18 => (((decide (d17.2 < d11.2)) = true → AX (D := Int) (fun J19 => AX (D := Bool) (fun J21 => (0 ≤ d17.2 ∧ d17.2 < (x.length : Int)) ∧
 (d17.2.toNat < x.length) ∧
 (0 ≤ d11.2 ∧ d11.2 < (x.length : Int)) ∧
 (d11.2.toNat < x.length) ∧
 (((!(Op.bytesLess (List.getD x d17.2.toNat ([], [])).1 (List.getD x d11.2.toNat ([], [])).1)) = false → 0 ≤ d17.2 ∧ d17.2 < (x.length : Int))) ∧
 (((!(Op.bytesLess (List.getD x d17.2.toNat ([], [])).1 (List.getD x d11.2.toNat ([], [])).1)) = false → d17.2.toNat < x.length)) ∧
 (((!(Op.bytesLess (List.getD x d17.2.toNat ([], [])).1 (List.getD x d11.2.toNat ([], [])).1)) = false → 0 ≤ d11.2 ∧ d11.2 < (x.length : Int))) ∧
 (((!(Op.bytesLess (List.getD x d17.2.toNat ([], [])).1 (List.getD x d11.2.toNat ([], [])).1)) = false → d11.2.toNat < x.length)) ∧
 (AX (D := Bool) (fun J23 => (((!(Op.bytesLess (List.getD x d17.2.toNat ([], [])).1 (List.getD x d11.2.toNat ([], [])).1)) = false → Fn P Ww Vc ((List.getD x d17.2.toNat ([], [])).1, (List.getD x d11.2.toNat ([], [])).1) (fun (d24 : Bool) _ => J23 d24)) ∧ (((!(Op.bytesLess (List.getD x d17.2.toNat ([], [])).1 (List.getD x d11.2.toNat ([], [])).1)) = true → J23 false) ∧ True))) (fun d25 => J21 (cond (!(Op.bytesLess (List.getD x d17.2.toNat ([], [])).1 (List.getD x d11.2.toNat ([], [])).1)) true d25))) ∧ True) (fun d22 => ((d22 = true → K (211 : Int) ()) ∧ (d22 = false → J19 d17.1)))) (fun d20 => J18 (d20, (i64.wrap (d17.2 + (1 : Int)))))) ∧ ((decide (d17.2 < d11.2)) = false → J15 d17.1)))) (fun d16 => J13 d16)) (fun d14 => J12 (d14, (i64.wrap (d11.2 + (1 : Int)))))) ∧ ((decide (d11.2 < (x.length : Int))) = false → J9 d11.1)))) (fun d10 => AX (D := Int) (fun J26 => EM (D := (Int × Int)) (d10, (0 : Int)) (fun d28 J29 => (((decide (d28.2 < (x.length : Int))) = true → AX (D := Int) (fun J30 => (0 ≤ d28.2 ∧ d28.2 < (x.length : Int)) ∧
 (d28.2.toNat < x.length) ∧
 Fn P Wy Va (List.getD x d28.2.toNat ([], [])).2 (fun (d32 : Int) (e33 : Unit) => (((d32 != (0 : Int)) = true → K (1 : Int) ()) ∧ ((d32 != (0 : Int)) = false → J30 d28.1)))) (fun d31 => J29 (d31, (i64.wrap (d28.2 + (1 : Int)))))) ∧ ((decide (d28.2 < (x.length : Int))) = false → J26 d28.1)))) (fun d27 => K (0 : Int) ())))))
theorem VT {P : Pg} (h : Has P Vl) {x : DP U7.ps} {K : DP U7.rs → DP (ptrs U7.ps) → Prop} (hw : VE P x K) : Fn P Q2 U7 x K :=
 Er (c := Vu) h rfl rfl (by kernel_rfl) (Eq.mpr (show Ek P Vl U7 Vu x K = _ by kernel_rfl) hw)
def Vg : Cd :=
 (.seq (.region [o1 8 (.asg kF)]) (.seq (.seq (.region [im 19 0, oS ⟨some 20, .call Wu [19], none⟩ U9, o1 21 (.un .not 20)]) (.cond 21 (.seq
 (.region [oS ⟨some 22, .call zS7 [], none⟩ A7, ia 8 22]) .ret) .skip)) (.seq (.region [o1 9 (.asg (.c (.slice none 0 0)))]) (.seq (.seq
 (.region [ia 10 (kI 0)]) (.frame (rg [9, 10] 23 16) [] false (.join [.sl 9 false (.sl (.pair .str .str)) tO] (.block 0 (.loop [.sl 9 false (.sl (.pair .str .str)) tO, .si 10] (.seq
 (.seq (.region [im 23 10, im 24 3, oS ⟨some 25, .call zS1 [24, (kI 5)], none⟩ B0, o1 26 (.bin .lss 23 25)]) (.cond 26 .skip (.exit 0))) (.seq
 (.frame (rg [9] 29 10) [] false (.join [.sl 9 false (.sl (.pair .str .str)) tO] (.block 1 (.region [im 29 9, im 30 2, im 31 10, o1 32 (.bin .mul (kI 10) 31), oS ⟨some 33, .call
 zS5 [30, 32], none⟩ BV, im 34 10, oS ⟨some 35, .call Wv [34], none⟩ Ve, o1 36 (.build [(.string ⟨#[]⟩),
 (.string ⟨#[]⟩)] [(0, 1, 33), (1, 1, 35)]), oT ⟨some 37, .buildSl 2 [(.string ⟨#[]⟩), (.string ⟨#[]⟩)] 1 [(0, 36)], none⟩ (some ((.pair .str .str), .leaf)), oT ⟨some 38, .app 2 32
 29 37, none⟩ (some ((.pair .str .str), .leaf)), ia 9 38])))) (.region [im 27 10, o1 28 (.bin .add 27 (kI 1)), ia 10 28])))))))) (.seq (.region [im 40 0, im 41 1, oS ⟨some 42, .call
 zS2 [40, 41], none⟩ Cc, im 39 42, o1 43 (.ext 39 0), o1 44 (.ext 39 1), ia 11 43, ia 12 44]) (.seq (.region [im 46 0, im 47 1, oS ⟨some 48, .call
 zS9 [46, 47], none⟩ U8, im 45 48, o1 49 (.ext 45 0), o1 50 (.ext 45 1), ia 13 49, ia 14 50]) (.seq (.region [im 52 9, im 53 2, oS ⟨some 54,
 .call zS5 [53, (kI 0)], none⟩ BV, oS ⟨some 55, .call zS2 [52, 54], none⟩ Cc, im 51 55, o1 56 (.ext 51 0), o1 57
 (.ext 51 1), ia 15 56, ia 16 57]) (.seq (.region [im 59 9, im 60 2, oS ⟨some 61, .call zS5 [60, (kI 0)], none⟩ BV, oS ⟨some 62, .call
 zS9 [59, 61], none⟩ U8, im 58 62, o1 63 (.ext 58 0), o1 64 (.ext 58 1), ia 17 63, ia 18 64]) (.seq (.region [im 65 0, oS ⟨some 66, .call
 zS0 [65], none⟩ Bq, im 67 0, oS ⟨some 68, .call Q2 [67], none⟩ U7, o1 69 (.bin .eql 66 68), im 70 69, gt 71 70
 (.mv 9), oS ⟨some 72, .call zS0 [71], some (70, true)⟩ Bq, gt 73 70 (.mv 9), oS ⟨some 74, .call Q2 [73], some (70, true)⟩
 U7, gt 75 70 (.bin .eql 72 74), o1 76 (.pick 70 75 kF), im 77 76, gt 78 77 (.mv 11), gt 79 77 (.mv 13), gt 80 77 (.bin .eql 78 79), o1 81 (.pick 77 80 kF), im 82 81, gt
 83 82 (.mv 12), gt 84 82 (.mv 14), gt 85 82 (.eqB false 83 84), o1 86 (.pick 82 85 kF), im 87 86, gt 88 87 (.mv 15), gt 89 87 (.mv 17), gt 90 87 (.bin .eql 88 89), o1 91 (.pick 87
 90 kF), im 92 91, gt 93 92 (.mv 16), gt 94 92 (.mv 18), gt 95 92 (.eqB false 93 94), o1 96 (.pick 92 95 kF), im 97 96, oS ⟨some 98, .call zS7 [], some
 (97, true)⟩ A7, o1 99 (.pick 97 98 kF), ia 8 99]) .ret)))))))))
def Vd : AFn := ⟨ WC, Vg.erase, [.tmp 8], 4⟩
def Vo (P : Pg) (x : ((List ((List UInt8) × (List UInt8))) × ((List UInt8) × ((List Int) × Int)))) (K : Bool → Unit → Prop) : Prop :=
 Fn P Wu U9 x.1 (fun (d1 : Bool) (e2 : Unit) => (((!d1) = true → Fn P zS7 A7 () (fun (d3 : Bool) (e4 : Unit) => K d3 ())) ∧ ((!d1) = false → AX (D := (List ((List UInt8) × (List UInt8)))) (fun J5 => EM (D := ((List ((List UInt8) × (List UInt8))) × Int)) ([], (0 : Int)) (fun d7 J8 => Fn P zS1 B0 (x.2.2.2, (5 : Int)) (fun (d9 : Int) (e10 : Unit) => (((decide (d7.2 < d9)) = true → AX (D := (List ((List UInt8) × (List UInt8)))) (fun J11 => Fn P zS5 BV (x.2.2.1, (i64.wrap ((10 : Int) * d7.2))) (fun (d13 : (List UInt8)) (e14 : Unit) => Fn P Wv Ve d7.2 (fun (d15 : (List UInt8)) (e16 : Unit) => ((d7.1.length + List.length ([(d13, d15)] : List ((List UInt8) × (List UInt8)))) * 32 ≤ 140737488355328) ∧
 J11 (d7.1 ++ ([(d13, d15)] : List ((List UInt8) × (List UInt8))))))) (fun d12 => J8 (d12, (i64.wrap (d7.2 + (1 : Int)))))) ∧ ((decide (d7.2 < d9)) = false → J5 d7.1))))) (fun d6 => Fn P zS2 Cc (x.1, x.2.1) (fun (d17 : ((List UInt8) × Bool)) (e18 : Unit) => Fn P zS9 U8 (x.1, x.2.1) (fun (d19 : ((List UInt8) × Bool)) (e20 : Unit) => Fn P zS5 BV (x.2.2.1, (0 : Int)) (fun (d21 : (List UInt8)) (e22 : Unit) => Fn P zS2 Cc (d6, d21) (fun (d23 : ((List UInt8) × Bool)) (e24 : Unit) => Fn P zS5 BV (x.2.2.1, (0 : Int)) (fun (d25 : (List UInt8)) (e26 : Unit) => Fn P zS9 U8 (d6, d25) (fun (d27 : ((List UInt8) × Bool)) (e28 : Unit) => Fn P zS0 Bq x.1 (fun (d29 : Int) (e30 : Unit) => Fn P Q2 U7 x.1 (fun (d31 : Int) (e32 : Unit) => AX (D := Int) (fun J33 => (((d29 == d31) = true → Fn P zS0 Bq d6 (fun (d34 : Int) _ => J33 d34)) ∧ (((d29 == d31) = false → J33 (0 : Int)) ∧ True))) (fun d35 => AX (D := Int) (fun J36 => (((d29 == d31) = true → Fn P Q2 U7 d6 (fun (d37 : Int) _ => J36 d37)) ∧ (((d29 == d31) = false → J36 (0 : Int)) ∧ True))) (fun d38 => AX (D := Bool) (fun J39 => (((cond (cond (cond (cond (cond (d29 == d31) (d35 == d38) false) (d17.1 == d19.1) false) (d17.2 == d19.2) false) (d23.1 == d27.1) false) (d23.2 == d27.2) false) = true → Fn P zS7 A7 () (fun (d40 : Bool) _ => J39 d40)) ∧ (((cond (cond (cond (cond (cond (d29 == d31) (d35 == d38) false) (d17.1 == d19.1) false) (d17.2 == d19.2) false) (d23.1 == d27.1) false) (d23.2 == d27.2) false) = false → J39 false) ∧ True))) (fun d41 => K (cond (cond (cond (cond (cond (cond (d29 == d31) (d35 == d38) false) (d17.1 == d19.1) false) (d17.2 == d19.2) false) (d23.1 == d27.1) false) (d23.2 == d27.2) false) d41 false) ())))))))))))))))
theorem Vz {P : Pg} (h : Has P Vd) {x : DP U6.ps} {K : DP U6.rs → DP (ptrs U6.ps) → Prop} (hw : Vo P x K) : Fn P WC U6 x K :=
 Er (c := Vg) h rfl rfl (by kernel_rfl) (Eq.mpr (show Ek P Vd U6 Vg x K = _ by kernel_rfl) hw)
end Go.VS
