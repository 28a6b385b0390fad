/- Functions of the program: typed code, and what it says, lifted. -/
import Derived.Test.YtdnomijflodcgaaGreatDoorKTxSig
import Derived.KernelRfl
set_option linter.unusedVariables false
set_option linter.unusedSimpArgs false
set_option maxRecDepth 8000
open List renaming getD → Qa0, length → Qa1
open Int renaming tmod → Qa2, toNat → Qa3
open BitVec renaming ofInt → Qa4, toNat → Qa5
namespace Go.VS
open IntKind
def OL : Bn :=
 (.seq (.region [ia 4 (kI 0)]) (.seq (.region [im 5 0, o1 6 (.conv (.toInt .u64) 5), im 7 1, o1 8 (.conv (.toInt .u64) 7), o1 9 (.bin .rem 6 8), o1 10 (.conv (.toInt .i64) 9), ia 4
 10]) .ret))
def Lb : AFn := ⟨ zS1, OL.erase, [.tmp 4], 2⟩
def Sn (P : Pg) (x : (Int × Int)) (K : Int → Unit → Prop) : Prop :=
 ((u64.wrap x.2) ≠ 0) ∧
 K (i64.wrap (Qa2 (u64.wrap x.1) (u64.wrap x.2))) ()
theorem XD {P : Pg} (h : Has P Lb) {x : DP Bt.ps} {K : DP Bt.rs → DP (ptrs Bt.ps) → Prop} (hw : Sn P x K) : Fn P zS1 Bt x K :=
 BI (c := OL) h rfl rfl (by kernel_rfl) (Eq.mpr (show BE P Lb Bt OL x K = _ by kernel_rfl) hw)
def Rp : Bn :=
 (.seq (.region [ia 4 (kI 0)]) (.seq (.region [im 6 1, o1 7 (.bin .add 6 (kI 1)), o1 8 (.conv (.toInt .u64) 7), o1 9 (.bin .mul 8 (.c (.int .u64 11400714819323198485))), ia 5 9])
 (.seq (.seq (.region [im 10 0, o1 11 (.lenK 10), o1 12 (.bin .gtr 11 (kI 0))]) (.frame (rg [5] 13 10) [] false (.join [.sl 5 false (.int .u64) .leaf] (.cond 12 (.region [im 13 5,
 im 14 0, im 15 1, im 16 0, o1 17 (.lenK 16), o1 18 (.bin .rem 15 17), o1 19 (.ixA 1 14 18), ld 20 19, o1 21 (.conv (.toInt .u64) 20), o1 22 (.bin .xor 13 21), ia 5 22]) .skip))))
 (.seq (.region [im 23 5, im 24 5, o1 25 (.bin .shr 24 (.c (.int .u64 31))), o1 26 (.bin .xor 23 25), o1 27 (.bin .mul 26 (.c (.int .u64 13787848793156543929))), ia 5 27]) (.seq
 (.region [im 28 5, im 29 5, o1 30 (.bin .shr 29 (.c (.int .u64 29))), o1 31 (.bin .xor 28 30), o1 32 (.bin .shr 31 (.c (.int .u64 1))), o1 33 (.conv (.toInt .i64) 32), ia 4 33])
 .ret)))))
def ML : AFn := ⟨ zS0, Rp.erase, [.tmp 4], 2⟩
def UN (P : Pg) (x : ((List Int) × Int)) (K : Int → Unit → Prop) : Prop :=
 Ad (D := Int) (fun J1 => (((decide ((x.1.length : Int) > (0 : Int))) = true → ((x.1.length : Int) ≠ 0) ∧
 (0 ≤ (Qa2 x.2 (x.1.length : Int)) ∧ (Qa2 x.2 (x.1.length : Int)) < (x.1.length : Int)) ∧
 ((Qa3 (Qa2 x.2 (x.1.length : Int))) < x.1.length) ∧
 J1 (u64.wrap ((Qa5 (Qa4 u64.bits (u64.wrap ((u64.wrap (i64.wrap (x.2 + (1 : Int)))) * (11400714819323198485 : Int))) ^^^ Qa4 u64.bits (u64.wrap (Qa0 x.1 (Qa3 (Qa2 x.2 (x.1.length : Int))) (0 : Int)))) : Nat) : Int))) ∧ ((decide ((x.1.length : Int) > (0 : Int))) = false → J1 (u64.wrap ((u64.wrap (i64.wrap (x.2 + (1 : Int)))) * (11400714819323198485 : Int)))))) (fun d2 => (0 ≤ (31 : Int)) ∧
 (0 ≤ (29 : Int)) ∧
 (0 ≤ (1 : Int)) ∧
 K (i64.wrap (Int.fdiv (u64.wrap ((Qa5 (Qa4 u64.bits (u64.wrap ((u64.wrap ((Qa5 (Qa4 u64.bits d2 ^^^ Qa4 u64.bits (Int.fdiv d2 (2 ^ (min (Qa3 (31 : Int)) u64.bits)))) : Nat) : Int)) * (13787848793156543929 : Int))) ^^^ Qa4 u64.bits (Int.fdiv (u64.wrap ((u64.wrap ((Qa5 (Qa4 u64.bits d2 ^^^ Qa4 u64.bits (Int.fdiv d2 (2 ^ (min (Qa3 (31 : Int)) u64.bits)))) : Nat) : Int)) * (13787848793156543929 : Int))) (2 ^ (min (Qa3 (29 : Int)) u64.bits)))) : Nat) : Int)) (2 ^ (min (Qa3 (1 : Int)) u64.bits)))) ())
theorem ZK {P : Pg} (h : Has P ML) {x : DP Ba.ps} {K : DP Ba.rs → DP (ptrs Ba.ps) → Prop} (hw : UN P x K) : Fn P zS0 Ba x K :=
 BI (c := Rp) h rfl rfl (by kernel_rfl) (Eq.mpr (show BE P ML Ba Rp x K = _ by kernel_rfl) hw)
def Mx : Bn :=
 (.seq (.region [o1 2 (.asg (.c (.string ⟨#[]⟩)))]) (.seq (.region [oT ⟨some 3, .buildSl 1 [(.string ⟨#[]⟩)] 10 [(0, (.c (.string ⟨#[97]⟩))), (1, (.c (.string ⟨#[98]⟩))), (2, (.c
 (.string ⟨#[99]⟩))), (3, (.c (.string ⟨#[97, 98]⟩))), (4, (.c (.string ⟨#[98, 97]⟩))), (5, (.c (.string ⟨#[]⟩))), (6, (.c (.string ⟨#[97, 97]⟩))), (7, (.c (.string ⟨#[98, 32,
 97]⟩))), (8, (.c (.string ⟨#[120, 43, 121]⟩))), (9, (.c (.string ⟨#[92]⟩)))], none⟩ (some (.str, .leaf)), im 4 0, oS ⟨some 5, .call zS1 [4, (kI 10)], none⟩
 Bt, o1 6 (.ixA 1 3 5), ld 7 6, ia 2 7]) .ret))
def Je : AFn := ⟨ Yw, Mx.erase, [.tmp 2], 1⟩
abbrev KO : List (List UInt8) := ([([97] : List UInt8), ([98] : List UInt8), ([99] : List UInt8), ([97, 98] : List UInt8), ([98, 97] : List UInt8), ([] : List UInt8), ([97, 97] : List UInt8), ([98, 32, 97] : List UInt8), ([120, 43, 121] : List UInt8), ([92] : List UInt8)] : List (List UInt8))
def PX (P : Pg) (x : Int) (K : (List UInt8) → Unit → Prop) : Prop :=
 Fn P zS1 Bt (x, (10 : Int)) (fun (d1 : Int) _ => (0 ≤ d1 ∧ d1 < ((Qa1 KO : Nat) : Int)) ∧
 (d1.toNat < Qa1 KO) ∧
 K (Qa0 KO d1.toNat []) ())
theorem Vm {P : Pg} (h : Has P Je) {x : DP DJ.ps} {K : DP DJ.rs → DP (ptrs DJ.ps) → Prop} (hw : PX P x K) : Fn P Yw DJ x K :=
 BI (c := Mx) h rfl rfl (by kernel_rfl) (Eq.mpr (show BE P Je DJ Mx x K = _ by kernel_rfl) hw)
def Mv : Bn :=
 (.seq (.region [o1 8 (.asg (.c (.string ⟨#[]⟩)))]) (.seq (.region [im 11 0, im 12 1, oS ⟨some 13, .call zS0 [11, 12], none⟩ Ba, im 14 2, o1 15 (.bin
 .add 14 (kI 1)), oS ⟨some 16, .call zS1 [13, 15], none⟩ Bt, ia 2 16]) (.seq (.region [o1 9 (.asg (.c (.string ⟨#[]⟩)))]) (.seq (.seq (.region [ia 10
 (kI 0)]) (.frame (rg [9, 10] 17 17) [] false (.join [.sl 9 false .str .leaf] (.block 0 (.loop [.sl 9 false .str .leaf, .si 10] (.seq (.seq (.region [im 17 10, im 18 2, o1 19 (.bin
 .lss 17 18)]) (.cond 19 .skip (.exit 0))) (.seq (.frame (rg [9] 22 12) [] false (.join [.sl 9 false .str .leaf] (.block 1 (.region [im 22 9, im 23 0, im 24 1, o1 25 (.bin .add 24
 (kI 1)), im 26 10, o1 27 (.bin .add 25 26), oS ⟨some 28, .call zS0 [23, 27], none⟩ Ba, im 29 3, oS ⟨some 30, .call zS1 [28,
 29], none⟩ Bt, oS ⟨some 31, .call Yw [30], none⟩ DJ, o1 32 (.bin .add 22 31), o1 33 (.bin .add 32 (.c (.string ⟨#[10]⟩))), ia 9 33]))))
 (.region [im 20 10, o1 21 (.bin .add 20 (kI 1)), ia 10 21])))))))) (.seq (.seq (.region [im 34 0, im 35 1, o1 36 (.bin .add 35 (kI 90)), oS ⟨some 37, .call
 zS0 [34, 36], none⟩ Ba, o1 38 (.bin .rem 37 (kI 4)), o1 39 (.bin .eql 38 (kI 0)), im 40 39, gt 41 40 (.mv 9), gt 42 40 (.lenS 41), gt 43 40 (.bin .gtr
 42 (kI 1)), o1 44 (.pick 40 43 kF), im 45 44, gt 46 45 (.mv 9), gt 47 45 (.mv 9), gt 48 45 (.lenS 47), gt 49 45 (.bin .sub 48 (kI 2)), gt 50 45 (.ixS 46 49), gt 51 45 (.bin .neq 50
 (.c (.int .u8 10))), o1 52 (.pick 45 51 kF)]) (.frame (rg [9] 53 5) [] false (.join [.sl 9 false .str .leaf] (.cond 52 (.region [im 53 9, im 54 9, o1 55 (.lenS 54), o1 56 (.bin
 .sub 55 (kI 1)), o1 57 (.slS 53 none (some 56)), ia 9 57]) .skip)))) (.seq (.region [im 58 9, ia 8 58]) .ret))))))
def Jc : AFn := ⟨ zS9, Mv.erase, [.tmp 8], 4⟩
def PV (P : Pg) (x : ((List Int) × (Int × (Int × Int)))) (K : (List UInt8) → Unit → Prop) : Prop :=
 Fn P zS0 Ba (x.1, x.2.1) (fun (d1 : Int) _ => Fn P zS1 Bt (d1, (i64.wrap (x.2.2.1 + (1 : Int)))) (fun (d3 : Int) _ => Ad (D := (List UInt8)) (fun J5 => AF (D := ((List UInt8) × Int)) (([] : List UInt8), (0 : Int)) (fun d7 J8 => (((decide (d7.2 < d3)) = true → Ad (D := (List UInt8)) (fun J9 => Fn P zS0 Ba (x.1, (i64.wrap ((i64.wrap (x.2.1 + (1 : Int))) + d7.2))) (fun (d11 : Int) _ => Fn P zS1 Bt (d11, x.2.2.2) (fun (d13 : Int) _ => Fn P Yw DJ d13 (fun (d15 : (List UInt8)) _ => (d7.1.length + d15.length ≤ 9223372036854775807) ∧
 (Qa1 (d7.1 ++ d15) + Qa1 ([10] : List UInt8) ≤ 9223372036854775807) ∧
 J9 ((d7.1 ++ d15) ++ ([10] : List UInt8)))))) (fun d10 => J8 (d10, (i64.wrap (d7.2 + (1 : Int)))))) ∧ ((decide (d7.2 < d3)) = false → J5 d7.1)))) (fun d6 => Fn P zS0 Ba (x.1, (i64.wrap (x.2.1 + (90 : Int)))) (fun (d17 : Int) _ => ((4 : Int) ≠ 0) ∧
 (((cond ((Qa2 d17 (4 : Int)) == (0 : Int)) (decide ((d6.length : Int) > (1 : Int))) false) = true → 0 ≤ (i64.wrap ((d6.length : Int) - (2 : Int))) ∧ (i64.wrap ((d6.length : Int) - (2 : Int))) < (d6.length : Int))) ∧
 Ad (D := (List UInt8)) (fun J19 => (((cond (cond ((Qa2 d17 (4 : Int)) == (0 : Int)) (decide ((d6.length : Int) > (1 : Int))) false) (((UInt8.toNat (Qa0 d6 (Qa3 (i64.wrap ((d6.length : Int) - (2 : Int)))) 0) : Nat) : Int) != (10 : Int)) false) = true → (0 ≤ (i64.wrap ((d6.length : Int) - (1 : Int))) ∧ (i64.wrap ((d6.length : Int) - (1 : Int))) ≤ (d6.length : Int)) ∧
 J19 (List.take (Qa3 (i64.wrap ((d6.length : Int) - (1 : Int)))) d6)) ∧ ((cond (cond ((Qa2 d17 (4 : Int)) == (0 : Int)) (decide ((d6.length : Int) > (1 : Int))) false) (((UInt8.toNat (Qa0 d6 (Qa3 (i64.wrap ((d6.length : Int) - (2 : Int)))) 0) : Nat) : Int) != (10 : Int)) false) = false → J19 d6))) (fun d20 => K d20 ())))))
theorem Vk {P : Pg} (h : Has P Jc) {x : DP Dk.ps} {K : DP Dk.rs → DP (ptrs Dk.ps) → Prop} (hw : PV P x K) : Fn P zS9 Dk x K :=
 BI (c := Mv) h rfl rfl (by kernel_rfl) (Eq.mpr (show BE P Jc Dk Mv x K = _ by kernel_rfl) hw)
def K4 : Bn :=
 (.seq (.region [o1 6 (.asg (.c (.slice none 0 0)))]) (.seq (.region [oT ⟨some 10, .buildSl 1 [(.string ⟨#[]⟩)] 4 [(0, (.c (.string ⟨#[97]⟩))), (1, (.c (.string ⟨#[98, 47, 120]⟩))),
 (2, (.c (.string ⟨#[98, 47, 121]⟩))), (3, (.c (.string ⟨#[99, 32, 100]⟩)))], none⟩ (some (.str, .leaf)), ia 7 10]) (.seq (.region [o1 8 (.asg (.c (.slice none 0 0)))]) (.seq (.seq
 (.region [ia 9 (kI 0)]) (.frame (rg [8, 9] 11 27) [] false (.join [.sl 8 false (.sl (.pair .str .str)) tO] (.block 0 (.loop [.sl 8 false (.sl (.pair .str .str)) tO, .si 9] (.seq
 (.seq (.region [im 11 9, o1 12 (.bin .lss 11 (kI 4))]) (.cond 12 .skip (.exit 0))) (.seq (.frame (rg [8] 15 23) [] false (.join [.sl 8 false (.sl (.pair .str .str)) tO] (.block 1
 (.seq (.region [im 15 0, im 16 1, im 17 9, o1 18 (.bin .add 16 17), oS ⟨some 19, .call zS0 [15, 18], none⟩ Ba, o1 20 (.bin .rem 19 (kI 3)), o1 21
 (.bin .gtr 20 (kI 0))]) (.frame (rg [8] 22 16) [] false (.join [.sl 8 false (.sl (.pair .str .str)) tO] (.cond 21 (.frame (rg [8] 22 16) [] false (.join [.sl 8 false (.sl (.pair
 .str .str)) tO] (.draw [(.first (im 22 8) (.first (im 23 7) (.first (im 24 9) (.first (o1 25 (.ixA 1 23 24)) (.first (im 27 0) (.first (im 28 1) (.first (o1 29 (.bin .add 28 (kI
 10))) (.first (im 30 9) (.first (o1 31 (.bin .mul (kI 20) 30)) (.first (o1 32 (.bin .add 29 31)) (.first (im 33 2) (.alt (ld 26 25) (.alt (oS ⟨some 34, .call
 zS9 [27, 32, 33, (kI 4)], none⟩ Dk) (.first (o1 35 (.build [(.string ⟨#[]⟩), (.string ⟨#[]⟩)] [(0, 1, 26), (1, 1, 34)])) (.alt (oT ⟨some 36,
 .buildSl 2 [(.string ⟨#[]⟩), (.string ⟨#[]⟩)] 1 [(0, 35)], none⟩ (some ((.pair .str .str), .leaf))) (.alt (oT ⟨some 37, .app 2 32 22 36, none⟩ (some ((.pair .str .str), .leaf)))
 (.alt (ia 8 37) .done .stop) .stop) .stop)) .stop) (.alt (oS ⟨some 34, .call zS9 [27, 32, 33, (kI 4)], none⟩ Dk) (.first (ld 26 25) (.first (o1 35
 (.build [(.string ⟨#[]⟩), (.string ⟨#[]⟩)] [(0, 1, 26), (1, 1, 34)])) (.alt (oT ⟨some 36, .buildSl 2 [(.string ⟨#[]⟩), (.string ⟨#[]⟩)] 1 [(0, 35)], none⟩ (some ((.pair .str .str),
 .leaf))) (.alt (oT ⟨some 37, .app 2 32 22 36, none⟩ (some ((.pair .str .str), .leaf))) (.alt (ia 8 37) .done .stop) .stop) .stop))) .stop)))))))))))))]))) .skip))))))) (.region [im
 13 9, o1 14 (.bin .add 13 (kI 1)), ia 9 14])))))))) (.seq (.region [im 38 8, ia 6 38]) .ret)))))
def HX : AFn := ⟨ WY, K4.erase, [.tmp 6], 3⟩
abbrev D9 : List (List UInt8) := ([([97] : List UInt8), ([98, 47, 120] : List UInt8), ([98, 47, 121] : List UInt8), ([99, 32, 100] : List UInt8)] : List (List UInt8))
def OR (P : Pg) (x : ((List Int) × (Int × Int))) (K : (List ((List UInt8) × (List UInt8))) → Unit → Prop) : Prop :=
 Ad (D := (List ((List UInt8) × (List UInt8)))) (fun J1 => AF (D := ((List ((List UInt8) × (List UInt8))) × Int)) ([], (0 : Int)) (fun d3 J4 => (((decide (d3.2 < (4 : Int))) = true → Ad (D := (List ((List UInt8) × (List UInt8)))) (fun J5 => Fn P zS0 Ba (x.1, (i64.wrap (x.2.1 + d3.2))) (fun (d7 : Int) _ => ((3 : Int) ≠ 0) ∧
 Ad (D := (List ((List UInt8) × (List UInt8)))) (fun J9 => (((decide ((Qa2 d7 (3 : Int)) > (0 : Int))) = true → Ad (D := (List ((List UInt8) × (List UInt8)))) (fun J11 => (0 ≤ d3.2 ∧ d3.2 < ((Qa1 D9 : Nat) : Int)) ∧
 ((d3.2.toNat < Qa1 D9) ∧
 (Fn P zS9 Dk (x.1, ((i64.wrap ((i64.wrap (x.2.1 + (10 : Int))) + (i64.wrap ((20 : Int) * d3.2)))), (x.2.2, (4 : Int)))) (fun (d13 : (List UInt8)) _ => ((((d3.1.length + Qa1 ([((Qa0 D9 d3.2.toNat []), d13)] : List ((List UInt8) × (List UInt8)))) * 32 ≤ 140737488355328) ∧
 (J11 (d3.1 ++ ([((Qa0 D9 d3.2.toNat []), d13)] : List ((List UInt8) × (List UInt8))))) ∧ True) ∧ True) ∧ True)) ∧ True) ∧ ((Fn P zS9 Dk (x.1, ((i64.wrap ((i64.wrap (x.2.1 + (10 : Int))) + (i64.wrap ((20 : Int) * d3.2)))), (x.2.2, (4 : Int)))) (fun (d15 : (List UInt8)) _ => (d3.2.toNat < Qa1 D9) ∧
 ((((d3.1.length + Qa1 ([((Qa0 D9 d3.2.toNat []), d15)] : List ((List UInt8) × (List UInt8)))) * 32 ≤ 140737488355328) ∧
 (J11 (d3.1 ++ ([((Qa0 D9 d3.2.toNat []), d15)] : List ((List UInt8) × (List UInt8))))) ∧ True) ∧ True) ∧ True)) ∧ True)) (fun d12 => J9 d12)) ∧ ((decide ((Qa2 d7 (3 : Int)) > (0 : Int))) = false → J9 d3.1))) (fun d10 => J5 d10))) (fun d6 => J4 (d6, (i64.wrap (d3.2 + (1 : Int)))))) ∧ ((decide (d3.2 < (4 : Int))) = false → J1 d3.1)))) (fun d2 => K d2 ())
theorem TQ {P : Pg} (h : Has P HX) {x : DP CJ.ps} {K : DP CJ.rs → DP (ptrs CJ.ps) → Prop} (hw : OR P x K) : Fn P WY CJ x K :=
 BI (c := K4) h rfl rfl (by kernel_rfl) (Eq.mpr (show BE P HX CJ K4 x K = _ by kernel_rfl) hw)
def IB : Bn :=
 (.seq (.region [o1 2 (.asg (.c (.slice none 0 0)))]) (.seq (.region [o1 3 (.asg (.c (.slice none 0 0)))]) (.seq (.region [ia 4 (kI 0)]) (.seq (.seq (.region [ia 5 (kI 0)]) (.frame
 (rg [] 3 30) [] false (.join [.sl 3 false (.sl .str) tO] (.block 0 (.loop [.sl 3 false (.sl .str) tO, .si 4, .si 5] (.seq (.seq (.region [im 6 5, im 7 0, o1 8 (.lenS 7), o1 9 (.bin
 .lss 6 8)]) (.cond 9 .skip (.exit 0))) (.seq (.frame (rg [3, 4] 12 21) [] false (.join [.sl 3 false (.sl .str) tO, .si 4] (.block 1 (.seq (.region [im 12 0, im 13 5, o1 14 (.ixS 12
 13), o1 15 (.bin .eql 14 (.c (.int .u8 10))), im 16 15, gf 17 16 (.mv 5), gf 18 16 (.bin .add 17 (kI 1)), gf 19 16 (.mv 0), gf 20 16 (.lenS 19), gf 21 16 (.bin .eql 18 20), o1 22
 (.pick 16 kT 21)]) (.frame (rg [3, 4] 23 10) [] false (.join [.sl 3 false (.sl .str) tO, .si 4] (.cond 22 (.seq (.region [im 23 3, im 24 0, im 25 4, im 26 5, o1 27 (.bin .add 26
 (kI 1)), o1 28 (.slS 24 (some 25) (some 27)), oT ⟨some 29, .buildSl 1 [(.string ⟨#[]⟩)] 1 [(0, 28)], none⟩ (some (.str, .leaf)), oT ⟨some 30, .app 1 16 23 29, none⟩ (some (.str,
 .leaf)), ia 3 30]) (.region [im 31 5, o1 32 (.bin .add 31 (kI 1)), ia 4 32])) .skip))))))) (.region [im 10 5, o1 11 (.bin .add 10 (kI 1)), ia 5 11])))))))) (.seq (.region [im 33 3,
 ia 2 33]) .ret)))))
def Gk : AFn := ⟨ Yx, IB.erase, [.tmp 2], 1⟩
def LL (P : Pg) (x : (List UInt8)) (K : (List (List UInt8)) → Unit → Prop) : Prop :=
 Ad (D := (List (List UInt8))) (fun J1 => AF (D := ((List (List UInt8)) × (Int × Int))) ([], ((0 : Int), (0 : Int))) (fun d3 J4 => (((decide (d3.2.2 < (x.length : Int))) = true → Ad (D := ((List (List UInt8)) × Int)) (fun J5 => (0 ≤ d3.2.2 ∧ d3.2.2 < (x.length : Int)) ∧
 Ad (D := ((List (List UInt8)) × Int)) (fun J7 => (((cond (((x.getD d3.2.2.toNat 0).toNat : Int) == (10 : Int)) true ((i64.wrap (d3.2.2 + (1 : Int))) == (x.length : Int))) = true → (0 ≤ d3.2.1 ∧ d3.2.1 ≤ (i64.wrap (d3.2.2 + (1 : Int))) ∧ (i64.wrap (d3.2.2 + (1 : Int))) ≤ (x.length : Int)) ∧
 ((d3.1.length + Qa1 ([(List.drop d3.2.1.toNat (List.take (Qa3 (i64.wrap (d3.2.2 + (1 : Int)))) x))] : List (List UInt8))) * 16 ≤ 140737488355328) ∧
 J7 ((d3.1 ++ ([(List.drop d3.2.1.toNat (List.take (Qa3 (i64.wrap (d3.2.2 + (1 : Int)))) x))] : List (List UInt8))), (i64.wrap (d3.2.2 + (1 : Int))))) ∧ ((cond (((x.getD d3.2.2.toNat 0).toNat : Int) == (10 : Int)) true ((i64.wrap (d3.2.2 + (1 : Int))) == (x.length : Int))) = false → J7 (d3.1, d3.2.1)))) (fun d8 => J5 d8)) (fun d6 => J4 (d6.1, (d6.2, (i64.wrap (d3.2.2 + (1 : Int))))))) ∧ ((decide (d3.2.2 < (x.length : Int))) = false → J1 d3.1)))) (fun d2 => K d2 ())
theorem Qo {P : Pg} (h : Has P Gk) {x : DP Cm.ps} {K : DP Cm.rs → DP (ptrs Cm.ps) → Prop} (hw : LL P x K) : Fn P Yx Cm x K :=
 BI (c := IB) h rfl rfl (by kernel_rfl) (Eq.mpr (show BE P Gk Cm IB x K = _ by kernel_rfl) hw)
def My : Bn :=
 (.seq (.region [o1 6 (.asg (.c (.string ⟨#[]⟩)))]) (.seq (.region [im 10 0, oS ⟨some 11, .call Yx [10], none⟩ Cm, ia 7 11]) (.seq (.region
 [o1 8 (.asg (.c (.string ⟨#[]⟩)))]) (.seq (.seq (.region [ia 9 (kI 0)]) (.frame (rg [8, 9] 12 32) [] false (.join [.sl 8 false .str .leaf] (.block 0 (.loop [.sl 8 false .str .leaf,
 .si 9] (.seq (.seq (.region [im 12 9, im 13 7, o1 14 (.lenK 13), o1 15 (.bin .lss 12 14)]) (.cond 15 .skip (.exit 0))) (.seq (.frame (rg [8] 18 26) [] false (.join [.sl 8 false
 .str .leaf] (.block 1 (.seq (.seq (.region [im 18 1, im 19 2, im 20 9, o1 21 (.bin .add 19 20), oS ⟨some 22, .call zS0 [18, 21], none⟩ Ba, o1 23 (.bin
 .rem 22 (kI 6))]) (.frame (rg [8] 24 14) [] false (.join [.sl 8 false .str .leaf] (.block 2 (.seq (.region [o1 25 (.bin .eql 23 (kI 0)), ia 24 25]) (.cond 24 (.exit 1) (.seq
 (.region [o1 27 (.bin .eql 23 (kI 1)), ia 26 27]) (.frame (rg [8] 28 10) [] false (.join [.sl 8 false .str .leaf] (.cond 26 (.region [im 28 8, im 29 1, im 30 2, o1 31 (.bin .add 30
 (kI 40)), im 32 9, o1 33 (.bin .add 31 32), oS ⟨some 34, .call zS0 [29, 33], none⟩ Ba, oS ⟨some 35, .call Yw [34], none⟩
 DJ, o1 36 (.bin .add 28 35), o1 37 (.bin .add 36 (.c (.string ⟨#[10]⟩))), ia 8 37]) .skip)))))))))) (.region [im 38 8, im 39 7, im 40 9, o1 41 (.ixA 1 39 40), ld 42 41, o1
 43 (.bin .add 38 42), ia 8 43]))))) (.region [im 16 9, o1 17 (.bin .add 16 (kI 1)), ia 9 17])))))))) (.seq (.region [im 44 8, ia 6 44]) .ret)))))
def Jf : AFn := ⟨ Aci, My.erase, [.tmp 6], 3⟩
def PY (P : Pg) (x : ((List UInt8) × ((List Int) × Int))) (K : (List UInt8) → Unit → Prop) : Prop :=
 Fn P Yx Cm x.1 (fun (d1 : (List (List UInt8))) _ => Ad (D := (List UInt8)) (fun J3 => AF (D := ((List UInt8) × Int)) (([] : List UInt8), (0 : Int)) (fun d5 J6 => (((decide (d5.2 < (d1.length : Int))) = true → Ad (D := (List UInt8)) (fun J7 => Fn P zS0 Ba (x.2.1, (i64.wrap (x.2.2 + d5.2))) (fun (d9 : Int) _ => ((6 : Int) ≠ 0) ∧
 Ad (D := (List UInt8)) (fun J11 => ((((Qa2 d9 (6 : Int)) == (0 : Int)) = true → J7 d5.1) ∧ (((Qa2 d9 (6 : Int)) == (0 : Int)) = false → Ad (D := (List UInt8)) (fun J13 => ((((Qa2 d9 (6 : Int)) == (1 : Int)) = true → Fn P zS0 Ba (x.2.1, (i64.wrap ((i64.wrap (x.2.2 + (40 : Int))) + d5.2))) (fun (d15 : Int) _ => Fn P Yw DJ d15 (fun (d17 : (List UInt8)) _ => (d5.1.length + d17.length ≤ 9223372036854775807) ∧
 (Qa1 (d5.1 ++ d17) + Qa1 ([10] : List UInt8) ≤ 9223372036854775807) ∧
 J13 ((d5.1 ++ d17) ++ ([10] : List UInt8))))) ∧ (((Qa2 d9 (6 : Int)) == (1 : Int)) = false → J13 d5.1))) (fun d14 => J11 d14)))) (fun d12 => (0 ≤ d5.2 ∧ d5.2 < (d1.length : Int)) ∧
 (d5.2.toNat < d1.length) ∧
 (d12.length + Qa1 (Qa0 d1 d5.2.toNat []) ≤ 9223372036854775807) ∧
 J7 (d12 ++ (Qa0 d1 d5.2.toNat []))))) (fun d8 => J6 (d8, (i64.wrap (d5.2 + (1 : Int)))))) ∧ ((decide (d5.2 < (d1.length : Int))) = false → J3 d5.1)))) (fun d4 => K d4 ()))
theorem Vn {P : Pg} (h : Has P Jf) {x : DP Ex.ps} {K : DP Ex.rs → DP (ptrs Ex.ps) → Prop} (hw : PY P x K) : Fn P Aci Ex x K :=
 BI (c := My) h rfl rfl (by kernel_rfl) (Eq.mpr (show BE P Jf Ex My x K = _ by kernel_rfl) hw)
def JF : Bn :=
 (.seq (.region [o1 8 (.asg (.c (.slice none 0 0)))]) (.seq (.region [o1 9 (.asg (.c (.slice none 0 0)))]) (.seq (.region [im 13 1, im 14 2, o1 15 (.bin .add 14 (kI 3)), oS ⟨some
 16, .call zS0 [13, 15], none⟩ Ba, oS ⟨some 17, .call zS1 [16, (kI 4)], none⟩ Bt, ia 10 17]) (.seq (.seq (.region [ia
 11 (kI 0)]) (.frame (rg [9, 11, 12] 18 30) [1012] false (.join [.sl 9 false (.sl (.pair .str .str)) tO] (.block 0 (.loop [.sl 9 false (.sl (.pair .str .str)) tO, .si 11] (.seq
 (.seq (.region [im 18 11, im 19 0, o1 20 (.lenK 19), o1 21 (.bin .lss 18 20)]) (.cond 21 .skip (.exit 0))) (.seq (.frame (rg [9, 12] 24 24) [1012] false (.join [.sl 9 false (.sl
 (.pair .str .str)) tO] (.block 1 (.seq (.region [im 24 0, im 25 11, o1 26 (.ixA 2 24 25), o1 27 (.load true 2 26), o1 12 (.alloc [(.string ⟨#[]⟩), (.string ⟨#[]⟩)]), o0 ⟨none,
 .store 2 12 27, none⟩]) (.seq (.seq (.region [im 28 11, im 29 10, o1 30 (.bin .eql 28 29)]) (.frame (rg [] 31 13) [1012] false (.join [.bx 1012 (.pair .str .str) .leaf] (.cond 30
 (.seq (.region [fa 31 1 12, ld 32 31, im 33 1, im 34 2, o1 35 (.bin .add 34 (kI 7)), oS ⟨some 36, .call Aci [32, 33, 35], none⟩ Ex, fa 37 1 12, o0
 ⟨none, .store 1 37 36, none⟩]) (.seq (.region [im 38 1, im 39 2, o1 40 (.bin .add 39 (kI 5)), oS ⟨some 41, .call zS0 [38, 40], none⟩ Ba, o1 42 (.bin
 .rem 41 (kI 5)), o1 43 (.bin .eql 42 (kI 0))]) (.cond 43 (.exit 1) .skip))) .skip)))) (.region [im 44 9, o1 45 (.load true 2 12), oT ⟨some 46, .buildSl 2 [(.string ⟨#[]⟩), (.string
 ⟨#[]⟩)] 1 [(0, 45)], none⟩ (some ((.pair .str .str), .leaf)), oT ⟨some 47, .app 2 32 44 46, none⟩ (some ((.pair .str .str), .leaf)), ia 9 47])))))) (.region [im 22 11, o1 23 (.bin
 .add 22 (kI 1)), ia 11 23])))))))) (.seq (.seq (.region [im 48 9, o1 49 (.lenK 48), o1 50 (.bin .eql 49 (kI 0))]) (.cond 50 (.seq (.region [im 51 1, im 52 2, im 53 3, oS ⟨some 54,
 .call WY [51, 52, 53], none⟩ CJ, ia 8 54]) .ret) .skip)) (.seq (.region [im 55 9, ia 8 55]) .ret))))))
def GS : AFn := ⟨ Acj, JF.erase, [.tmp 8], 4⟩
def MQ (P : Pg) (x : ((List ((List UInt8) × (List UInt8))) × ((List Int) × (Int × Int)))) (K : (List ((List UInt8) × (List UInt8))) → Unit → Prop) : Prop :=
 Fn P zS0 Ba (x.2.1, (i64.wrap (x.2.2.1 + (3 : Int)))) (fun (d1 : Int) _ => Fn P zS1 Bt (d1, (4 : Int)) (fun (d3 : Int) _ => Ad (D := (List ((List UInt8) × (List UInt8)))) (fun J5 => AF (D := ((List ((List UInt8) × (List UInt8))) × Int)) ([], (0 : Int)) (fun d7 J8 => (((decide (d7.2 < (x.1.length : Int))) = true → Ad (D := (List ((List UInt8) × (List UInt8)))) (fun J9 => (0 ≤ d7.2 ∧ d7.2 < (x.1.length : Int)) ∧
 (d7.2.toNat < x.1.length) ∧
 Ad (D := ((List UInt8) × (List UInt8))) (fun J11 => (((d7.2 == d3) = true → Fn P Aci Ex ((Qa0 x.1 d7.2.toNat ([], [])).2, (x.2.1, (i64.wrap (x.2.2.1 + (7 : Int))))) (fun (d13 : (List UInt8)) _ => Fn P zS0 Ba (x.2.1, (i64.wrap (x.2.2.1 + (5 : Int)))) (fun (d15 : Int) _ => ((5 : Int) ≠ 0) ∧
 ((((Qa2 d15 (5 : Int)) == (0 : Int)) = true → J9 d7.1) ∧ (((Qa2 d15 (5 : Int)) == (0 : Int)) = false → J11 ((Qa0 x.1 d7.2.toNat ([], [])).1, d13)))))) ∧ ((d7.2 == d3) = false → J11 (Qa0 x.1 d7.2.toNat ([], []))))) (fun d12 => ((d7.1.length + Qa1 ([d12] : List ((List UInt8) × (List UInt8)))) * 32 ≤ 140737488355328) ∧
 J9 (d7.1 ++ ([d12] : List ((List UInt8) × (List UInt8)))))) (fun d10 => J8 (d10, (i64.wrap (d7.2 + (1 : Int)))))) ∧ ((decide (d7.2 < (x.1.length : Int))) = false → J5 d7.1)))) (fun d6 => ((((d6.length : Int) == (0 : Int)) = true → Fn P WY CJ x.2 (fun (d17 : (List ((List UInt8) × (List UInt8)))) _ => K d17 ())) ∧ (((d6.length : Int) == (0 : Int)) = false → K d6 ())))))
theorem RE {P : Pg} (h : Has P GS) {x : DP DA.ps} {K : DP DA.rs → DP (ptrs DA.ps) → Prop} (hw : MQ P x K) : Fn P Acj DA x K :=
 BI (c := JF) h rfl rfl (by kernel_rfl) (Eq.mpr (show BE P GS DA JF x K = _ by kernel_rfl) hw)
def JE : Bn :=
 (.seq (.region [⟨⟨some 4, .asg (.c (.slice none 0 0)), none⟩, none, ⟨[], []⟩, true, none, false, false⟩]) (.seq (.seq (.region [im 10 1, oS ⟨some 11, .call
 zS0 [10, (kI 3)], none⟩ Ba, o1 12 (.bin .rem 11 (kI 2)), o1 13 (.bin .eql 12 (kI 0))]) (.cond 13 (.seq (.region [im 14 0, ⟨⟨some 4, .asg 14, none⟩,
 none, ⟨[], []⟩, true, none, false, false⟩]) .ret) .skip)) (.seq (.region [im 15 0, o1 16 (.lenK 15), ia 5 16]) (.seq (.region [im 17 5, oT ⟨some 18, .mkSl 3 56 [(.slice none 0 0),
 (.int .i64 0), (.slice none 0 0)] 17 17, none⟩ (some (AJ, (.pair tO (.pair .leaf tM)))), ia 6 18]) (.seq (.seq (.region [ia 7 (kI 0)]) (.frame (rg [6, 7, 8, 9] 19 43) [1008]
 true (.join [.sl 6 false (.sl AJ) (.node .own (.pair tO (.pair .leaf tM)))] (.block 0 (.loop [.sl 6 false (.sl AJ) (.node .own (.pair tO (.pair .leaf tM))), .si 7] (.seq
 (.seq (.region [im 19 7, im 20 5, o1 21 (.bin .lss 19 20)]) (.cond 21 .skip (.exit 0))) (.seq (.frame (rg [6, 8, 9] 24 38) [1008] true (.join [.sl 6 false (.sl AJ) (.node .own
 (.pair tO (.pair .leaf tM)))] (.block 1 (.seq (.region [im 24 0, im 25 7, o1 26 (.ixA 3 24 25), o1 27 (.load true 3 26), o1 8 (.alloc [(.slice none 0 0), (.int .i64 0), (.slice
 none 0 0)]), o0 ⟨none, .store 3 8 27, none⟩]) (.seq (.region [fa 28 0 8, o0 ⟨none, .store 1 28 (.c (.slice none 0 0)), none⟩]) (.seq (.seq (.region [ia 9 (kI 0)]) (.frame (rg [9]
 29 26) [1008] true (.join [.bx 1008 AJ (.pair tO (.pair .leaf tM))] (.block 2 (.loop [.si 9, .bx 1008 AJ (.pair tO (.pair .leaf tM))] (.seq (.seq (.region [im 29 9, im 30
 0, im 31 7, o1 32 (.ixA 3 30 31), fa 33 0 32, ld 34 33, o1 35 (.lenK 34), o1 36 (.bin .lss 29 35)]) (.cond 36 .skip (.exit 2))) (.seq (.frame (rg [] 39 16) [1008] true (.join [.bx
 1008 AJ (.pair tO (.pair .leaf tM))] (.block 3 (.frame (rg [] 39 16) [1008] true (.join [.bx 1008 AJ (.pair tO (.pair .leaf tM))] (.draw [(.first (fa 39 0 8) (.first (im
 41 5) (.first (o1 42 (.bin .sub 41 (kI 1))) (.first (im 43 0) (.first (im 44 7) (.first (o1 45 (.ixA 3 43 44)) (.first (fa 46 0 45) (.first (ld 47 46) (.first (im 48 9) (.first (o1
 49 (.ixA 1 47 48)) (.first (ld 50 49) (.first (o1 51 (.bin .sub 42 50)) (.alt (ld 40 39) (.alt (oT ⟨some 52, .buildSl 1 [(.int .i64 0)] 1 [(0, 51)], none⟩ (some (bI, .leaf))) (.alt
 (oT ⟨some 53, .app 1 8 40 52, none⟩ (some (bI, .leaf))) (.first (fa 54 0 8) (.alt (o0 ⟨none, .store 1 54 53, none⟩) .done .stop)) .stop) .stop) (.alt (oT ⟨some 52, .buildSl 1
 [(.int .i64 0)] 1 [(0, 51)], none⟩ (some (bI, .leaf))) (.first (ld 40 39) (.alt (oT ⟨some 53, .app 1 8 40 52, none⟩ (some (bI, .leaf))) (.first (fa 54 0 8) (.alt (o0 ⟨none, .store
 1 54 53, none⟩) .done .stop)) .stop)) .stop))))))))))))))])))))) (.region [im 37 9, o1 38 (.bin .add 37 (kI 1)), ia 9 38])))))))) (.region [im 55 6, im 56 5, o1 57 (.bin .sub 56
 (kI 1)), im 58 7, o1 59 (.bin .sub 57 58), o1 60 (.load true 3 8), o1 61 (.ixA 3 55 59), o0 ⟨none, .store 3 61 60, none⟩]))))))) (.region [im 22 7, o1 23 (.bin .add 22 (kI 1)), ia
 7 23])))))))) (.seq (.region [im 62 6, ⟨⟨some 4, .asg 62, none⟩, none, ⟨[], []⟩, true, none, false, false⟩]) .ret))))))
def GR : AFn := ⟨ Ack, JE.erase, [.tmp 4], 2⟩
def MP (P : Pg) (x : ((List Commit) × (List Int))) (K : (List Commit) → Unit → Prop) : Prop :=
 Fn P zS0 Ba (x.2, (3 : Int)) (fun (d1 : Int) _ => ((2 : Int) ≠ 0) ∧
 ((((Qa2 d1 (2 : Int)) == (0 : Int)) = true → K x.1 ()) ∧ (((Qa2 d1 (2 : Int)) == (0 : Int)) = false → (0 ≤ (x.1.length : Int) ∧ (x.1.length : Int) ≤ (x.1.length : Int) ∧ ((56 : Nat) : Int) * (x.1.length : Int) ≤ 281474976710656) ∧
 Ad (D := (List Commit)) (fun J3 => AF (D := ((List Commit) × Int)) ((List.replicate (Qa3 (x.1.length : Int)) ([], ((0 : Int), []))), (0 : Int)) (fun d5 J6 => (((decide (d5.2 < (x.1.length : Int))) = true → Ad (D := (List Commit)) (fun J7 => (0 ≤ d5.2 ∧ d5.2 < (x.1.length : Int)) ∧
 (d5.2.toNat < x.1.length) ∧
 Ad (D := Commit) (fun J9 => AF (D := (Int × Commit)) ((0 : Int), ([], (Qa0 x.1 d5.2.toNat Aj).2)) (fun d11 J12 => (0 ≤ d5.2 ∧ d5.2 < (x.1.length : Int)) ∧
 (d5.2.toNat < x.1.length) ∧
 (((decide (d11.1 < ((Qa1 (Qa0 x.1 d5.2.toNat Aj).1 : Nat) : Int))) = true → Ad (D := Commit) (fun J13 => Ad (D := Commit) (fun J15 => (0 ≤ d5.2 ∧ d5.2 < (x.1.length : Int)) ∧
 (d5.2.toNat < x.1.length) ∧
 (0 ≤ d11.1 ∧ d11.1 < ((Qa1 (Qa0 x.1 d5.2.toNat Aj).1 : Nat) : Int)) ∧
 (d11.1.toNat < Qa1 (Qa0 x.1 d5.2.toNat Aj).1) ∧
 (((((d11.2.1.length + Qa1 ([(i64.wrap ((i64.wrap ((x.1.length : Int) - (1 : Int))) - (Qa0 (Qa0 x.1 d5.2.toNat Aj).1 d11.1.toNat (0 : Int))))] : List Int)) * 8 ≤ 140737488355328) ∧
 (J15 ((d11.2.1 ++ ([(i64.wrap ((i64.wrap ((x.1.length : Int) - (1 : Int))) - (Qa0 (Qa0 x.1 d5.2.toNat Aj).1 d11.1.toNat (0 : Int))))] : List Int)), d11.2.2)) ∧ True) ∧ True) ∧ True) ∧ (((((d11.2.1.length + Qa1 ([(i64.wrap ((i64.wrap ((x.1.length : Int) - (1 : Int))) - (Qa0 (Qa0 x.1 d5.2.toNat Aj).1 d11.1.toNat (0 : Int))))] : List Int)) * 8 ≤ 140737488355328) ∧
 (J15 ((d11.2.1 ++ ([(i64.wrap ((i64.wrap ((x.1.length : Int) - (1 : Int))) - (Qa0 (Qa0 x.1 d5.2.toNat Aj).1 d11.1.toNat (0 : Int))))] : List Int)), d11.2.2)) ∧ True) ∧ True) ∧ True)) (fun d16 => J13 d16)) (fun d14 => J12 ((i64.wrap (d11.1 + (1 : Int))), d14))) ∧ ((decide (d11.1 < ((Qa1 (Qa0 x.1 d5.2.toNat Aj).1 : Nat) : Int))) = false → J9 d11.2)))) (fun d10 => (0 ≤ (i64.wrap ((i64.wrap ((x.1.length : Int) - (1 : Int))) - d5.2)) ∧ (i64.wrap ((i64.wrap ((x.1.length : Int) - (1 : Int))) - d5.2)) < (d5.1.length : Int)) ∧
 ((Qa3 (i64.wrap ((i64.wrap ((x.1.length : Int) - (1 : Int))) - d5.2))) < d5.1.length) ∧
 J7 (List.set d5.1 (Qa3 (i64.wrap ((i64.wrap ((x.1.length : Int) - (1 : Int))) - d5.2))) d10))) (fun d8 => J6 (d8, (i64.wrap (d5.2 + (1 : Int)))))) ∧ ((decide (d5.2 < (x.1.length : Int))) = false → J3 d5.1)))) (fun d4 => K d4 ()))))
theorem RD {P : Pg} (h : Has P GR) {x : DP Dz.ps} {K : DP Dz.rs → DP (ptrs Dz.ps) → Prop} (hw : MP P x K) : Fn P Ack Dz x K :=
 BI (c := JE) h rfl rfl (by kernel_rfl) (Eq.mpr (show BE P GR Dz JE x K = _ by kernel_rfl) hw)
def K5 : Bn :=
 (.seq (.region [o1 6 (.asg (.c (.slice none 0 0)))]) (.seq (.region [im 11 0, oS ⟨some 12, .call zS0 [11, (kI 0)], none⟩ Ba, im 13 1, o1 14 (.bin .add
 13 (kI 1)), oS ⟨some 15, .call zS1 [12, 14], none⟩ Bt, ia 1 15]) (.seq (.region [oT ⟨some 16, .buildSl 3 [(.slice none 0 0), (.int .i64 0), (.slice
 none 0 0)] 0 [], none⟩ (some (AJ, (.pair tM (.pair .leaf tM)))), ia 7 16]) (.seq (.seq (.region [ia 8 (kI 0)]) (.frame (rg [7, 8, 9, 10] 17 95) [1009] true (.join [.sl 7 false
 (.sl AJ) (.node .own (.pair tM (.pair .leaf tM)))] (.block 0 (.loop [.sl 7 false (.sl AJ) (.node .own (.pair tM (.pair .leaf tM))), .si 8] (.seq (.seq (.region [im 17 8,
 im 18 1, o1 19 (.bin .lss 17 18)]) (.cond 19 .skip (.exit 0))) (.seq (.frame (rg [7, 9, 10] 22 90) [1009] true (.join [.sl 7 false (.sl AJ) (.node .own (.pair tM (.pair .leaf
 tM)))] (.block 1 (.seq (.region [im 22 0, im 23 8, o1 24 (.bin .add (kI 1000) 23), oS ⟨some 25, .call zS0 [22, 24], none⟩ Ba, oS ⟨some 26, .call
 zS1 [25, (kI 5)], none⟩ Bt, o1 27 (.build [(.slice none 0 0), (.int .i64 0), (.slice none 0 0)] [(1, 1, 26)]), o1 9 (.alloc [(.slice none 0 0),
 (.int .i64 0), (.slice none 0 0)]), o0 ⟨none, .store 3 9 27, none⟩]) (.seq (.seq (.region [ia 10 (kI 0)]) (.frame (rg [10] 28 26) [1009] true (.join [.bx 1009 AJ (.pair tO
 (.pair .leaf tO))] (.block 2 (.loop [.si 10, .bx 1009 AJ (.pair tO (.pair .leaf tO))] (.seq (.seq (.region [im 28 10, im 29 8, o1 30 (.bin .lss 28 29)]) (.cond 30 .skip (.exit
 2))) (.seq (.frame (rg [] 33 21) [1009] true (.join [.bx 1009 AJ (.pair tO (.pair .leaf tO))] (.block 3 (.seq (.region [im 33 0, im 34 8, o1 35 (.bin .mul (kI 40) 34), o1 36
 (.bin .add (kI 1100) 35), im 37 10, o1 38 (.bin .add 36 37), oS ⟨some 39, .call zS0 [33, 38], none⟩ Ba, o1 40 (.bin .rem 39 (kI 3)), o1 41 (.bin .eql
 40 (kI 0)), im 42 41, gt 43 42 (.fAddr 0 9), gt 44 42 (.load false 1 43), gt 45 42 (.lenK 44), gt 46 42 (.bin .lss 45 (kI 3)), o1 47 (.pick 42 46 kF)]) (.frame (rg [] 48 6) [1009]
 true (.join [.bx 1009 AJ (.pair tO (.pair .leaf tO))] (.cond 47 (.region [fa 48 0 9, ld 49 48, im 50 10, oT ⟨some 51, .buildSl 1 [(.int .i64 0)] 1 [(0, 50)], none⟩ (some (bI,
 .leaf)), oT ⟨some 52, .app 1 8 49 51, none⟩ (some (bI, .leaf)), fa 53 0 9, o0 ⟨none, .store 1 53 52, none⟩]) .skip))))))) (.region [im 31 10, o1 32 (.bin .add 31 (kI 1)), ia 10
 32])))))))) (.seq (.seq (.region [fa 54 0 9, ld 55 54, o1 56 (.lenK 55), o1 57 (.bin .eql 56 (kI 0)), im 58 57, gt 59 58 (.mv 8), gt 60 58 (.bin .gtr 59 (kI 0)), o1 61 (.pick 58 60
 kF), im 62 61, gt 63 62 (.mv 0), gt 64 62 (.mv 8), gt 65 62 (.bin .add (kI 1500) 64), oS ⟨some 66, .call zS0 [63, 65], some (62, true)⟩ Ba, gt 67 62
 (.bin .rem 66 (kI 4)), gt 68 62 (.bin .gtr 67 (kI 0)), o1 69 (.pick 62 68 kF)]) (.frame (rg [] 70 4) [1009] true (.join [.bx 1009 AJ (.pair tO (.pair .leaf tO))] (.cond 69
 (.region [im 70 8, o1 71 (.bin .sub 70 (kI 1)), oT ⟨some 72, .buildSl 1 [(.int .i64 0)] 1 [(0, 71)], none⟩ (some (bI, .leaf)), fa 73 0 9, o0 ⟨none, .store 1 73 72, none⟩])
 .skip)))) (.seq (.region [im 74 0, im 75 8, o1 76 (.bin .mul (kI 200) 75), o1 77 (.bin .add (kI 2000) 76), im 78 2, oS ⟨some 79, .call WY [74, 77, 78],
 none⟩ CJ, fa 80 2 9, o0 ⟨none, .store 1 80 79, none⟩]) (.seq (.seq (.region [fa 81 0 9, ld 82 81, o1 83 (.lenK 82), o1 84 (.bin .gtr 83 (kI 0)), im 85 84, gt 86 85 (.mv
 0), gt 87 85 (.mv 8), gt 88 85 (.bin .add (kI 1600) 87), oS ⟨some 89, .call zS0 [86, 88], some (85, true)⟩ Ba, gt 90 85 (.bin .rem 89 (kI 4)), gt 91
 85 (.bin .gtr 90 (kI 0)), o1 92 (.pick 85 91 kF)]) (.frame (rg [] 93 15) [1009] true (.join [.bx 1009 AJ (.pair tO (.pair .leaf tO))] (.cond 92 (.region [im 93 7, fa 94 0 9,
 ld 95 94, o1 96 (.ixA 1 95 (kI 0)), ld 97 96, o1 98 (.ixA 3 93 97), fa 99 2 98, ld 100 99, im 101 0, im 102 8, o1 103 (.bin .mul (kI 200) 102), o1 104 (.bin .add (kI 2000) 103), im
 105 2, oS ⟨some 106, .call Acj [100, 101, 104, 105], none⟩ DA, fa 107 2 9, o0 ⟨none, .store 1 107 106, none⟩]) .skip)))) (.region [im 108 7,
 o1 109 (.load true 3 9), ⟨⟨some 110, .buildSl 3 [(.slice none 0 0), (.int .i64 0), (.slice none 0 0)] 1 [(0, 109)], none⟩, some (AJ, (.pair tO (.pair .leaf tO))), ⟨[], []⟩,
 true, none, false, false⟩, oT ⟨some 111, .app 3 56 108 110, none⟩ (some (AJ, (.pair tM (.pair .leaf tM)))), ia 7 111]))))))))) (.region [im 20 8, o1 21 (.bin .add 20 (kI 1)),
 ia 8 21])))))))) (.seq (.frz [7] (.region [im 112 7, im 113 0, oS ⟨some 114, .call Ack [112, 113], none⟩ Dz, ia 6 114])) .ret)))))
def HY : AFn := ⟨ Acl, K5.erase, [.tmp 6], 3⟩
def OS (P : Pg) (x : ((List Int) × (Int × Int))) (K : (List Commit) → Unit → Prop) : Prop :=
 Fn P zS0 Ba (x.1, (0 : Int)) (fun (d1 : Int) _ => Fn P zS1 Bt (d1, (i64.wrap (x.2.1 + (1 : Int)))) (fun (d3 : Int) _ => Ad (D := (List Commit)) (fun J5 => AF (D := ((List Commit) × Int)) (([] : List Commit), (0 : Int)) (fun d7 J8 => (((decide (d7.2 < d3)) = true → Ad (D := (List Commit)) (fun J9 => Fn P zS0 Ba (x.1, (i64.wrap ((1000 : Int) + d7.2))) (fun (d11 : Int) _ => Fn P zS1 Bt (d11, (5 : Int)) (fun (d13 : Int) _ => Ad (D := Commit) (fun J15 => AF (D := (Int × Commit)) ((0 : Int), ([], (d13, []))) (fun d17 J18 => (((decide (d17.1 < d7.2)) = true → Ad (D := Commit) (fun J19 => Fn P zS0 Ba (x.1, (i64.wrap ((i64.wrap ((1100 : Int) + (i64.wrap ((40 : Int) * d7.2)))) + d17.1))) (fun (d21 : Int) _ => ((3 : Int) ≠ 0) ∧
 Ad (D := Commit) (fun J23 => (((cond ((Qa2 d21 (3 : Int)) == (0 : Int)) (decide ((d17.2.1.length : Int) < (3 : Int))) false) = true → ((d17.2.1.length + Qa1 ([d17.1] : List Int)) * 8 ≤ 140737488355328) ∧
 J23 ((d17.2.1 ++ ([d17.1] : List Int)), d17.2.2)) ∧ ((cond ((Qa2 d21 (3 : Int)) == (0 : Int)) (decide ((d17.2.1.length : Int) < (3 : Int))) false) = false → J23 d17.2))) (fun d24 => J19 d24))) (fun d20 => J18 ((i64.wrap (d17.1 + (1 : Int))), d20))) ∧ ((decide (d17.1 < d7.2)) = false → J15 d17.2)))) (fun d16 => Ad (D := Int) (fun J25 => (((cond ((d16.1.length : Int) == (0 : Int)) (decide (d7.2 > (0 : Int))) false) = true → Fn P zS0 Ba (x.1, (i64.wrap ((1500 : Int) + d7.2))) (fun (d26 : Int) _ => J25 d26)) ∧ (((cond ((d16.1.length : Int) == (0 : Int)) (decide (d7.2 > (0 : Int))) false) = false → J25 (0 : Int)) ∧ True))) (fun d27 => (((cond ((d16.1.length : Int) == (0 : Int)) (decide (d7.2 > (0 : Int))) false) = true → (4 : Int) ≠ 0)) ∧
 Ad (D := Commit) (fun J28 => (((cond (cond ((d16.1.length : Int) == (0 : Int)) (decide (d7.2 > (0 : Int))) false) (decide ((Qa2 d27 (4 : Int)) > (0 : Int))) false) = true → J28 (([(i64.wrap (d7.2 - (1 : Int)))] : List Int), d16.2)) ∧ ((cond (cond ((d16.1.length : Int) == (0 : Int)) (decide (d7.2 > (0 : Int))) false) (decide ((Qa2 d27 (4 : Int)) > (0 : Int))) false) = false → J28 d16))) (fun d29 => Fn P WY CJ (x.1, ((i64.wrap ((2000 : Int) + (i64.wrap ((200 : Int) * d7.2)))), x.2.2)) (fun (d30 : (List ((List UInt8) × (List UInt8)))) _ => Ad (D := Int) (fun J32 => (((decide ((d29.1.length : Int) > (0 : Int))) = true → Fn P zS0 Ba (x.1, (i64.wrap ((1600 : Int) + d7.2))) (fun (d33 : Int) _ => J32 d33)) ∧ (((decide ((d29.1.length : Int) > (0 : Int))) = false → J32 (0 : Int)) ∧ True))) (fun d34 => (((decide ((d29.1.length : Int) > (0 : Int))) = true → (4 : Int) ≠ 0)) ∧
 Ad (D := Commit) (fun J35 => (((cond (decide ((d29.1.length : Int) > (0 : Int))) (decide ((Qa2 d34 (4 : Int)) > (0 : Int))) false) = true → (0 ≤ (0 : Int) ∧ (0 : Int) < (d29.1.length : Int)) ∧
 ((Qa3 (0 : Int)) < d29.1.length) ∧
 (0 ≤ (Qa0 d29.1 (Qa3 (0 : Int)) (0 : Int)) ∧ (Qa0 d29.1 (Qa3 (0 : Int)) (0 : Int)) < (d7.1.length : Int)) ∧
 ((Qa3 (Qa0 d29.1 (Qa3 (0 : Int)) (0 : Int))) < d7.1.length) ∧
 Fn P Acj DA ((Qa0 d7.1 (Qa3 (Qa0 d29.1 (Qa3 (0 : Int)) (0 : Int))) Aj).2.2, (x.1, ((i64.wrap ((2000 : Int) + (i64.wrap ((200 : Int) * d7.2)))), x.2.2))) (fun (d37 : (List ((List UInt8) × (List UInt8)))) _ => J35 (d29.1, (d29.2.1, d37)))) ∧ ((cond (decide ((d29.1.length : Int) > (0 : Int))) (decide ((Qa2 d34 (4 : Int)) > (0 : Int))) false) = false → J35 (d29.1, (d29.2.1, d30))))) (fun d36 => ((d7.1.length + Qa1 ([d36] : List Commit)) * 56 ≤ 140737488355328) ∧
 J9 (d7.1 ++ ([d36] : List Commit))))))))))) (fun d10 => J8 (d10, (i64.wrap (d7.2 + (1 : Int)))))) ∧ ((decide (d7.2 < d3)) = false → J5 d7.1)))) (fun d6 => Fn P Ack Dz (d6, x.1) (fun (d39 : (List Commit)) _ => K d39 ()))))
theorem TR {P : Pg} (h : Has P HY) {x : DP DX.ps} {K : DP DX.rs → DP (ptrs DX.ps) → Prop} (hw : OS P x K) : Fn P Acl DX x K :=
 BI (c := K5) h rfl rfl (by kernel_rfl) (Eq.mpr (show BE P HY DX K5 x K = _ by kernel_rfl) hw)
def Mw : Bn :=
 (.seq (.region [o1 4 (.asg kF)]) (.seq (.seq (.region [im 6 0, o1 7 (.lenK 6), im 8 1, o1 9 (.lenK 8), o1 10 (.bin .neq 7 9)]) (.cond 10 (.seq (.region [o1 4 (.asg kF)]) .ret)
 .skip)) (.seq (.seq (.region [ia 5 (kI 0)]) (.frame (rg [4, 5] 11 15) [] false (.join [.sl 4 false .bool .leaf] (.block 0 (.loop [.sl 4 false .bool .leaf, .si 5] (.seq (.seq
 (.region [im 11 5, im 12 0, o1 13 (.lenK 12), o1 14 (.bin .lss 11 13)]) (.cond 14 .skip (.exit 0))) (.seq (.frame (rg [4] 17 9) [] false (.join [.sl 4 false .bool .leaf] (.block 1
 (.seq (.draw [(.first (im 17 0) (.first (im 18 5) (.first (o1 19 (.ixA 1 17 18)) (.first (ld 20 19) (.first (im 21 1) (.first (im 22 5) (.first (o1 23 (.ixA 1 21 22)) (.first (ld
 24 23) (.first (o1 25 (.bin .neq 20 24)) .done)))))))))]) (.cond 25 (.seq (.region [o1 4 (.asg kF)]) .ret) .skip))))) (.region [im 15 5, o1 16 (.bin .add 15 (kI 1)), ia 5
 16])))))))) (.seq (.region [o1 4 (.asg kT)]) .ret))))
def Jd : AFn := ⟨ zS3, Mw.erase, [.tmp 4], 2⟩
def PW (P : Pg) (x : ((List Int) × (List Int))) (K : Bool → Unit → Prop) : Prop :=
 ((((x.1.length : Int) != (x.2.length : Int)) = true → K false ()) ∧ (((x.1.length : Int) != (x.2.length : Int)) = false → Ad (D := Bool) (fun J1 => AF (D := (Bool × Int)) (false, (0 : Int)) (fun d3 J4 => (((decide (d3.2 < (x.1.length : Int))) = true → Ad (D := Bool) (fun J5 => (0 ≤ d3.2 ∧ d3.2 < (x.1.length : Int)) ∧
 (d3.2.toNat < x.1.length) ∧
 (0 ≤ d3.2 ∧ d3.2 < (x.2.length : Int)) ∧
 (d3.2.toNat < x.2.length) ∧
 ((((Qa0 x.1 d3.2.toNat (0 : Int)) != (Qa0 x.2 d3.2.toNat (0 : Int))) = true → K false ()) ∧ (((Qa0 x.1 d3.2.toNat (0 : Int)) != (Qa0 x.2 d3.2.toNat (0 : Int))) = false → J5 d3.1))) (fun d6 => J4 (d6, (i64.wrap (d3.2 + (1 : Int)))))) ∧ ((decide (d3.2 < (x.1.length : Int))) = false → J1 d3.1)))) (fun d2 => K true ())))
theorem Vl {P : Pg} (h : Has P Jd) {x : DP BU.ps} {K : DP BU.rs → DP (ptrs BU.ps) → Prop} (hw : PW P x K) : Fn P zS3 BU x K :=
 BI (c := Mw) h rfl rfl (by kernel_rfl) (Eq.mpr (show BE P Jd BU Mw x K = _ by kernel_rfl) hw)
def Iz : Bn :=
 (.seq (.region [o1 0 (.asg kF)]) (.seq (.region [o1 6 (.build [(.slice none 0 0), (.int .i64 0), (.slice none 0 0)] []), ⟨⟨some 7, .buildSl 1 [(.int .i64 0)] 1 [(0, (kI 0))],
 none⟩, some (bI, .leaf), ⟨[], []⟩, true, none, false, false⟩, o1 8 (.build [(.slice none 0 0), (.int .i64 0), (.slice none 0 0)] [(0, 1, 7), (1, 1, (kI 5))]), ⟨⟨some 9, .buildSl 1
 [(.int .i64 0)] 1 [(0, (kI 0))], none⟩, some (bI, .leaf), ⟨[], []⟩, true, none, false, false⟩, o1 10 (.build [(.slice none 0 0), (.int .i64 0), (.slice none 0 0)] [(0, 1, 9), (1,
 1, (kI 7))]), oT ⟨some 11, .buildSl 3 [(.slice none 0 0), (.int .i64 0), (.slice none 0 0)] 3 [(0, 6), (1, 8), (2, 10)], none⟩ (some (AJ, (.pair tM (.pair .leaf tM)))), ia 1
 11]) (.seq (.region [im 13 1, oS ⟨some 14, .call Acm [13, (kI 1), (kI 2)], none⟩ Dh, im 12 14, o1 15 (.ext 12 0), o1 16 (.ext 12 1), ia 2 15,
 ia 3 16]) (.seq (.region [im 18 1, oT ⟨some 19, .buildSl 1 [(.int .i64 0)] 3 [(0, (kI 0)), (1, (kI 1)), (2, (kI 2))], none⟩ (some (bI, .leaf)), oS ⟨some 20, .call
 Acn [18, 19], none⟩ B8, im 17 20, o1 21 (.ext 17 0), o1 22 (.ext 17 1), ia 4 21, ia 5 22]) (.seq (.region [im 23 3, o1 24 (.bin
 .eql 23 (kI 0)), im 25 24, gt 26 25 (.mv 5), gt 27 25 (.bin .eql 26 (kI 0)), o1 28 (.pick 25 27 kF), im 29 28, ⟨⟨some 30, .mv 2, some (29, true)⟩, none, ⟨[], []⟩, false, some 29,
 true, false⟩, ⟨⟨some 31, .buildSl 1 [(.int .i64 0)] 1 [(0, (kI 0))], some (29, true)⟩, some (bI, .leaf), ⟨[], []⟩, false, none, true, false⟩, ⟨⟨some 32, .call
 zS3 [30, 31], some (29, true)⟩, none, BU, false, none, true, true⟩, o1 33 (.pick 29 32 kF), im 34 33, ⟨⟨some 35, .mv 4, some (34, true)⟩, none,
 ⟨[], []⟩, false, some 34, true, false⟩, ⟨⟨some 36, .buildSl 1 [(.int .i64 0)] 2 [(0, (kI 1)), (1, (kI 2))], some (34, true)⟩, some (bI, .leaf), ⟨[], []⟩, false, none, true, false⟩,
 ⟨⟨some 37, .call zS3 [35, 36], some (34, true)⟩, none, BU, false, none, true, true⟩, o1 38 (.pick 34 37 kF), ia 0 38]) .ret)))))
def Gi : AFn := ⟨ WZ, Iz.erase, [.tmp 0], 0⟩
def LJ (P : Pg) (x : Unit) (K : Bool → Unit → Prop) : Prop :=
 Fn P Acm Dh (([([], ((0 : Int), [])), (([(0 : Int)] : List Int), ((5 : Int), [])), (([(0 : Int)] : List Int), ((7 : Int), []))] : List Commit), ((1 : Int), (2 : Int))) (fun (d1 : ((List Int) × Int)) _ => Fn P Acn B8 (([([], ((0 : Int), [])), (([(0 : Int)] : List Int), ((5 : Int), [])), (([(0 : Int)] : List Int), ((7 : Int), []))] : List Commit), ([(0 : Int), (1 : Int), (2 : Int)] : List Int)) (fun (d3 : ((List Int) × Int)) _ => (((cond (d1.2 == (0 : Int)) (d3.2 == (0 : Int)) false) = true → Fn P zS3 BU (d1.1, ([(0 : Int)] : List Int)) (fun (d5 : Bool) _ => (((cond true d5 false) = true → Fn P zS3 BU (d3.1, ([(1 : Int), (2 : Int)] : List Int)) (fun (d7 : Bool) _ => K (cond true d7 false) ())) ∧ ((cond true d5 false) = false → K (cond false false false) ())))) ∧ ((cond (d1.2 == (0 : Int)) (d3.2 == (0 : Int)) false) = false → (((cond false false false) = true → Fn P zS3 BU (d3.1, ([(1 : Int), (2 : Int)] : List Int)) (fun (d9 : Bool) _ => K (cond true d9 false) ())) ∧ ((cond false false false) = false → K (cond false false false) ()))))))
theorem Qm {P : Pg} (h : Has P Gi) {x : DP Cd.ps} {K : DP Cd.rs → DP (ptrs Cd.ps) → Prop} (hw : LJ P x K) : Fn P WZ Cd x K :=
 BI (c := Iz) h rfl rfl (by kernel_rfl) (Eq.mpr (show BE P Gi Cd Iz x K = _ by kernel_rfl) hw)
def HK : Bn :=
 (.seq (.region [o1 1 (.box 0), o1 2 (.asg kF)]) (.seq (.region [fa 3 0 1, ld 4 3, oS ⟨some 5, .call AdW [4], none⟩ DR, o1 6 (.bin .neq 5 (kI
 0)), ia 2 6]) .ret))
def Fp : AFn := ⟨ Acg, HK.erase, [.tmp 2], 1⟩
def Kd (P : Pg) (x : ((List UInt8) × (List UInt8))) (K : Bool → Unit → Prop) : Prop :=
 Fn P AdW DR x.1 (fun (d1 : Int) _ => K (d1 != (0 : Int)) ())
theorem Pj {P : Pg} (h : Has P Fp) {x : DP CL.ps} {K : DP CL.rs → DP (ptrs CL.ps) → Prop} (hw : Kd P x K) : Fn P Acg CL x K :=
 BI (c := HK) h rfl rfl (by kernel_rfl) (Eq.mpr (show BE P Fp CL HK x K = _ by kernel_rfl) hw)
def Bp : Bn :=
 (.seq (.region [ia 4 (kI 0)]) (.seq (.seq (.region [im 6 0, o1 7 (.lenK 6), o1 8 (.mv (kI 0))]) (.frame (rg [4, 5] 8 11) [] false (.join [.si 4] (.block 0 (.loop [.si 4, .si 8]
 (.seq (.region [o1 9 (.bin .lss 8 7)]) (.seq (.cond 9 .skip (.exit 0)) (.seq (.frame (rg [4, 5] 10 8) [] false (.join [.si 4] (.block 1 (.seq (.region [im 10 8, ia 5 10]) (.seq
 (.region [im 11 1, im 12 0, im 13 5, o1 14 (.ixA 2 12 13), o1 15 (.load true 2 14), oS ⟨some 16, .callv 11 [15], none⟩ CL]) (.cond 16 (.seq (.region [im 17 5, ia 4 17])
 .ret) .skip)))))) (.region [o1 18 (.bin .add 8 (kI 1)), im 8 18]))))))))) (.seq (.region [ia 4 (kI (-1))]) .ret)))
def AY : AFn := ⟨ zS5, Bp.erase, [.tmp 4], 2⟩
def B0 (P : Pg) (x : ((List ((List UInt8) × (List UInt8))) × Unit)) (K : Int → Unit → Prop) : Prop :=
 Ad (D := Int) (fun J1 => AF (D := (Int × Int)) ((0 : Int), (0 : Int)) (fun d3 J4 => (((decide (d3.2 < (x.1.length : Int))) = true → Ad (D := Int) (fun J5 => (0 ≤ d3.2 ∧ d3.2 < (x.1.length : Int)) ∧
 (d3.2.toNat < x.1.length) ∧
 Fn P Acg CL (Qa0 x.1 d3.2.toNat ([], [])) (fun (d7 : Bool) _ => ((d7 = true → K d3.2 ()) ∧ (d7 = false → J5 d3.1)))) (fun d6 => J4 (d6, (i64.wrap (d3.2 + (1 : Int)))))) ∧ ((decide (d3.2 < (x.1.length : Int))) = false → J1 d3.1)))) (fun d2 => K (-1 : Int) ())
theorem Di {P : Pg} (h : Has P AY) {x : DP Aw.ps} {K : DP Aw.rs → DP (ptrs Aw.ps) → Prop} (hw : B0 P x K) : Fn P zS5 Aw x K :=
 BI (c := Bp) h rfl rfl (by kernel_rfl) (Eq.mpr (show BE P AY Aw Bp x K = _ by kernel_rfl) hw)
def Bk : Bn :=
 (.seq (.region [o1 4 (.asg kF)]) (.seq (.region [im 5 0, im 6 1, oS ⟨some 7, .call zS5 [5, 6], none⟩
 Aw, o1 8 (.bin .geq 7 (kI 0)), ia 4 8]) .ret))
def AR : AFn := ⟨ zS6, Bk.erase, [.tmp 4], 2⟩
def BO (P : Pg) (x : ((List ((List UInt8) × (List UInt8))) × Unit)) (K : Bool → Unit → Prop) : Prop :=
 Fn P zS5 Aw (x.1, ()) (fun (d1 : Int) _ => K (decide (d1 ≥ (0 : Int))) ())
theorem CY {P : Pg} (h : Has P AR) {x : DP Ar.ps} {K : DP Ar.rs → DP (ptrs Ar.ps) → Prop} (hw : BO P x K) : Fn P zS6 Ar x K :=
 BI (c := Bk) h rfl rfl (by kernel_rfl) (Eq.mpr (show BE P AR Ar Bk x K = _ by kernel_rfl) hw)
def JJ : Bn :=
 (.seq (.region [o1 2 (.asg kF)]) (.seq (.region [im 3 0, oS ⟨some 4, .call "strings.HasSuffix" [3, (.c (.string ⟨#[10]⟩))], none⟩ C4, ia 2 4]) .ret))
def GY : AFn := ⟨ Aco, JJ.erase, [.tmp 2], 1⟩
def MU (P : Pg) (x : (List UInt8)) (K : Bool → Unit → Prop) : Prop :=
 Fn P "strings.HasSuffix" C4 (x, ([10] : List UInt8)) (fun (d1 : Bool) _ => K d1 ())
theorem RJ {P : Pg} (h : Has P GY) {x : DP DD.ps} {K : DP DD.rs → DP (ptrs DD.ps) → Prop} (hw : MU P x K) : Fn P Aco DD x K :=
 BI (c := JJ) h rfl rfl (by kernel_rfl) (Eq.mpr (show BE P GY DD JJ x K = _ by kernel_rfl) hw)
end Go.VS
