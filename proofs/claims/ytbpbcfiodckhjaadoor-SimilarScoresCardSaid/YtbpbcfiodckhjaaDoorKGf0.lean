/- Functions of the program: typed code, and what it says, lifted. -/
import Derived.Test.YtbpbcfiodckhjaaDoorKTxSig
import Derived.KernelRfl
set_option linter.unusedVariables false
set_option linter.unusedSimpArgs false
set_option maxRecDepth 8000
namespace Go.VS
open IntKind
def W8 : Cd :=
 (.seq (.region [o1 0 (.asg kF)]) (.seq (.region [oS ⟨some 6, .call zS2 [(.c (.string ⟨#[97, 10, 98, 10]⟩)), (.c (.string ⟨#[98, 10, 97, 10]⟩))], none⟩
 WI, im 5 6, o1 7 (.ext 5 0), o1 8 (.ext 5 1), ia 1 7, ia 2 8]) (.seq (.region [oS ⟨some 10, .call zS2 [(.c (.string ⟨#[120]⟩)), (.c (.string
 ⟨#[120]⟩))], none⟩ WI, im 9 10, o1 11 (.ext 9 0), o1 12 (.ext 9 1), ia 3 11, ia 4 12]) (.seq (.region [im 13 2, o1 14 (.bin .eql 13 (kI 0)), im 15 14, gt 16 15 (.mv
 4), gt 17 15 (.bin .eql 16 (kI 0)), o1 18 (.pick 15 17 kF), im 19 18, gt 20 19 (.mv 1), gt 21 19 (.bin .eql 20 (kI 99)), o1 22 (.pick 19 21 kF), im 23 22, gt 24 23 (.mv 3), gt 25
 23 (.bin .eql 24 (kI 100)), o1 26 (.pick 23 25 kF), ia 0 26]) .ret))))
def WW : AFn := ⟨ zS5, W8.erase, [.tmp 0], 0⟩
def Xo (P : Pg) (x : Unit) (K : Bool → Unit → Prop) : Prop :=
 Fn P zS2 WI (([97, 10, 98, 10] : List UInt8), ([98, 10, 97, 10] : List UInt8)) (fun (d1 : (Int × Int)) (e2 : Unit) => Fn P zS2 WI (([120] : List UInt8), ([120] : List UInt8)) (fun (d3 : (Int × Int)) (e4 : Unit) => K (cond (cond (cond (d1.2 == (0 : Int)) (d3.2 == (0 : Int)) false) (d1.1 == (99 : Int)) false) (d3.1 == (100 : Int)) false) ()))
theorem XJ {P : Pg} (h : Has P WW) {x : DP WJ.ps} {K : DP WJ.rs → DP (ptrs WJ.ps) → Prop} (hw : Xo P x K) : Fn P zS5 WJ x K :=
 Er (c := W8) h rfl rfl (by kernel_rfl) (Eq.mpr (show Ek P WW WJ W8 x K = _ by kernel_rfl) hw)
def Jm : Cd :=
 (.seq (.region [ia 4 (kI 0)]) (.seq (.region [im 5 0, o1 6 (.conv (.toInt .u64) 5), im 7 1, o1 8 (.conv (.toInt .u64) 7), o1 9 (.bin .rem 6 8), o1 10 (.conv (.toInt .i64) 9), ia 4
 10]) .ret))
def G1 : AFn := ⟨ zS3, Jm.erase, [.tmp 4], 2⟩
def LK (P : Pg) (x : (Int × Int)) (K : Int → Unit → Prop) : Prop :=
 ((u64.wrap x.2) ≠ 0) ∧
 K (i64.wrap (Int.tmod (u64.wrap x.1) (u64.wrap x.2))) ()
theorem Pb {P : Pg} (h : Has P G1) {x : DP B0.ps} {K : DP B0.rs → DP (ptrs B0.ps) → Prop} (hw : LK P x K) : Fn P zS3 B0 x K :=
 Er (c := Jm) h rfl rfl (by kernel_rfl) (Eq.mpr (show Ek P G1 B0 Jm x K = _ by kernel_rfl) hw)
def VI : Cd :=
 (.seq (.region [o1 2 (.asg (.c (.string ⟨#[]⟩)))]) (.seq (.region [oT ⟨some 3, .buildSl 1 [(.string ⟨#[]⟩)] 10 [(0, (.c (.string ⟨#[97]⟩))), (1, (.c (.string ⟨#[98]⟩))), (2, (.c
 (.string ⟨#[99]⟩))), (3, (.c (.string ⟨#[97, 98]⟩))), (4, (.c (.string ⟨#[98, 97]⟩))), (5, (.c (.string ⟨#[]⟩))), (6, (.c (.string ⟨#[97, 97]⟩))), (7, (.c (.string ⟨#[98, 32,
 97]⟩))), (8, (.c (.string ⟨#[120, 43, 121]⟩))), (9, (.c (.string ⟨#[92]⟩)))], none⟩ (some (.str, .leaf)), im 4 0, oS ⟨some 5, .call zS3 [4, (kI 10)], none⟩
 B0, o1 6 (.ixA 1 3 5), ld 7 6, ia 2 7]) .ret))
def Vv : AFn := ⟨ zS7, VI.erase, [.tmp 2], 1⟩
abbrev Vy : List (List UInt8) := ([([97] : List UInt8), ([98] : List UInt8), ([99] : List UInt8), ([97, 98] : List UInt8), ([98, 97] : List UInt8), ([] : List UInt8), ([97, 97] : List UInt8), ([98, 32, 97] : List UInt8), ([120, 43, 121] : List UInt8), ([92] : List UInt8)] : List (List UInt8))
def VM (P : Pg) (x : Int) (K : (List UInt8) → Unit → Prop) : Prop :=
 Fn P zS3 B0 (x, (10 : Int)) (fun (d1 : Int) (e2 : Unit) => (0 ≤ d1 ∧ d1 < ((List.length Vy : Nat) : Int)) ∧
 (d1.toNat < List.length Vy) ∧
 K (List.getD Vy d1.toNat []) ())
theorem Wd {P : Pg} (h : Has P Vv) {x : DP Ve.ps} {K : DP Ve.rs → DP (ptrs Ve.ps) → Prop} (hw : VM P x K) : Fn P zS7 Ve x K :=
 Er (c := VI) h rfl rfl (by kernel_rfl) (Eq.mpr (show Ek P Vv Ve VI x K = _ by kernel_rfl) hw)
def Ll : Cd :=
 (.seq (.region [ia 4 (kI 0)]) (.seq (.region [im 6 1, o1 7 (.bin .add 6 (kI 1)), o1 8 (.conv (.toInt .u64) 7), o1 9 (.bin .mul 8 (.c (.int .u64 11400714819323198485))), ia 5 9])
 (.seq (.seq (.region [im 10 0, o1 11 (.lenK 10), o1 12 (.bin .gtr 11 (kI 0))]) (.frame (rg [5] 13 10) [] false (.join [.sl 5 false (.int .u64) .leaf] (.cond 12 (.region [im 13 5,
 im 14 0, im 15 1, im 16 0, o1 17 (.lenK 16), o1 18 (.bin .rem 15 17), o1 19 (.ixA 1 14 18), ld 20 19, o1 21 (.conv (.toInt .u64) 20), o1 22 (.bin .xor 13 21), ia 5 22]) .skip))))
 (.seq (.region [im 23 5, im 24 5, o1 25 (.bin .shr 24 (.c (.int .u64 31))), o1 26 (.bin .xor 23 25), o1 27 (.bin .mul 26 (.c (.int .u64 13787848793156543929))), ia 5 27]) (.seq
 (.region [im 28 5, im 29 5, o1 30 (.bin .shr 29 (.c (.int .u64 29))), o1 31 (.bin .xor 28 30), o1 32 (.bin .shr 31 (.c (.int .u64 1))), o1 33 (.conv (.toInt .i64) 32), ia 4 33])
 .ret)))))
def HR : AFn := ⟨ zS1, Ll.erase, [.tmp 4], 2⟩
def Nl (P : Pg) (x : ((List Int) × Int)) (K : Int → Unit → Prop) : Prop :=
 AX (D := Int) (fun J1 => (((decide ((x.1.length : Int) > (0 : Int))) = true → ((x.1.length : Int) ≠ 0) ∧
 (0 ≤ (Int.tmod x.2 (x.1.length : Int)) ∧ (Int.tmod x.2 (x.1.length : Int)) < (x.1.length : Int)) ∧
 ((Int.toNat (Int.tmod x.2 (x.1.length : Int))) < x.1.length) ∧
 J1 (u64.wrap ((BitVec.toNat (BitVec.ofInt u64.bits (u64.wrap ((u64.wrap (i64.wrap (x.2 + (1 : Int)))) * (11400714819323198485 : Int))) ^^^ BitVec.ofInt u64.bits (u64.wrap (List.getD x.1 (Int.toNat (Int.tmod x.2 (x.1.length : Int))) (0 : Int)))) : Nat) : Int))) ∧ ((decide ((x.1.length : Int) > (0 : Int))) = false → J1 (u64.wrap ((u64.wrap (i64.wrap (x.2 + (1 : Int)))) * (11400714819323198485 : Int)))))) (fun d2 => (0 ≤ (31 : Int)) ∧
 (0 ≤ (29 : Int)) ∧
 (0 ≤ (1 : Int)) ∧
 K (i64.wrap (Int.fdiv (u64.wrap ((BitVec.toNat (BitVec.ofInt u64.bits (u64.wrap ((u64.wrap ((BitVec.toNat (BitVec.ofInt u64.bits d2 ^^^ BitVec.ofInt u64.bits (Int.fdiv d2 (2 ^ (min (Int.toNat (31 : Int)) u64.bits)))) : Nat) : Int)) * (13787848793156543929 : Int))) ^^^ BitVec.ofInt u64.bits (Int.fdiv (u64.wrap ((u64.wrap ((BitVec.toNat (BitVec.ofInt u64.bits d2 ^^^ BitVec.ofInt u64.bits (Int.fdiv d2 (2 ^ (min (Int.toNat (31 : Int)) u64.bits)))) : Nat) : Int)) * (13787848793156543929 : Int))) (2 ^ (min (Int.toNat (29 : Int)) u64.bits)))) : Nat) : Int)) (2 ^ (min (Int.toNat (1 : Int)) u64.bits)))) ())
theorem Qw {P : Pg} (h : Has P HR) {x : DP CV.ps} {K : DP CV.rs → DP (ptrs CV.ps) → Prop} (hw : Nl P x K) : Fn P zS1 CV x K :=
 Er (c := Ll) h rfl rfl (by kernel_rfl) (Eq.mpr (show Ek P HR CV Ll x K = _ by kernel_rfl) hw)
def Xs : Cd :=
 (.seq (.region [o1 8 (.asg (.c (.string ⟨#[]⟩)))]) (.seq (.region [im 11 0, im 12 1, oS ⟨some 13, .call zS1 [11, 12], none⟩ CV, im 14 2, o1 15 (.bin
 .add 14 (kI 1)), oS ⟨some 16, .call zS3 [13, 15], none⟩ B0, ia 2 16]) (.seq (.region [o1 9 (.asg (.c (.string ⟨#[]⟩)))]) (.seq (.seq (.region [ia 10
 (kI 0)]) (.frame (rg [9, 10] 17 17) [] false (.join [.sl 9 false .str .leaf] (.block 0 (.loop [.sl 9 false .str .leaf, .si 10] (.seq (.seq (.region [im 17 10, im 18 2, o1 19 (.bin
 .lss 17 18)]) (.cond 19 .skip (.exit 0))) (.seq (.frame (rg [9] 22 12) [] false (.join [.sl 9 false .str .leaf] (.block 1 (.region [im 22 9, im 23 0, im 24 1, o1 25 (.bin .add 24
 (kI 1)), im 26 10, o1 27 (.bin .add 25 26), oS ⟨some 28, .call zS1 [23, 27], none⟩ CV, im 29 3, oS ⟨some 30, .call zS3 [28,
 29], none⟩ B0, oS ⟨some 31, .call zS7 [30], none⟩ Ve, o1 32 (.bin .add 22 31), o1 33 (.bin .add 32 (.c (.string ⟨#[10]⟩))), ia 9 33]))))
 (.region [im 20 10, o1 21 (.bin .add 20 (kI 1)), ia 10 21])))))))) (.seq (.seq (.region [im 34 0, im 35 1, o1 36 (.bin .add 35 (kI 90)), oS ⟨some 37, .call
 zS1 [34, 36], none⟩ CV, o1 38 (.bin .rem 37 (kI 4)), o1 39 (.bin .eql 38 (kI 0)), im 40 39, gt 41 40 (.mv 9), gt 42 40 (.lenS 41), gt 43 40 (.bin .gtr
 42 (kI 1)), o1 44 (.pick 40 43 kF), im 45 44, gt 46 45 (.mv 9), gt 47 45 (.mv 9), gt 48 45 (.lenS 47), gt 49 45 (.bin .sub 48 (kI 2)), gt 50 45 (.ixS 46 49), gt 51 45 (.bin .neq 50
 (.c (.int .u8 10))), o1 52 (.pick 45 51 kF)]) (.frame (rg [9] 53 5) [] false (.join [.sl 9 false .str .leaf] (.cond 52 (.region [im 53 9, im 54 9, o1 55 (.lenS 54), o1 56 (.bin
 .sub 55 (kI 1)), o1 57 (.slS 53 none (some 56)), ia 9 57]) .skip)))) (.seq (.region [im 58 9, ia 8 58]) .ret))))))
def Xe : AFn := ⟨ zS9, Xs.erase, [.tmp 8], 4⟩
def XG (P : Pg) (x : ((List Int) × (Int × (Int × Int)))) (K : (List UInt8) → Unit → Prop) : Prop :=
 Fn P zS1 CV (x.1, x.2.1) (fun (d1 : Int) (e2 : Unit) => Fn P zS3 B0 (d1, (i64.wrap (x.2.2.1 + (1 : Int)))) (fun (d3 : Int) (e4 : Unit) => AX (D := (List UInt8)) (fun J5 => EM (D := ((List UInt8) × Int)) (([] : List UInt8), (0 : Int)) (fun d7 J8 => (((decide (d7.2 < d3)) = true → AX (D := (List UInt8)) (fun J9 => Fn P zS1 CV (x.1, (i64.wrap ((i64.wrap (x.2.1 + (1 : Int))) + d7.2))) (fun (d11 : Int) (e12 : Unit) => Fn P zS3 B0 (d11, x.2.2.2) (fun (d13 : Int) (e14 : Unit) => Fn P zS7 Ve d13 (fun (d15 : (List UInt8)) (e16 : Unit) => (d7.1.length + d15.length ≤ 9223372036854775807) ∧
 (List.length (d7.1 ++ d15) + List.length ([10] : List UInt8) ≤ 9223372036854775807) ∧
 J9 ((d7.1 ++ d15) ++ ([10] : List UInt8)))))) (fun d10 => J8 (d10, (i64.wrap (d7.2 + (1 : Int)))))) ∧ ((decide (d7.2 < d3)) = false → J5 d7.1)))) (fun d6 => Fn P zS1 CV (x.1, (i64.wrap (x.2.1 + (90 : Int)))) (fun (d17 : Int) (e18 : Unit) => ((4 : Int) ≠ 0) ∧
 (((cond ((Int.tmod d17 (4 : Int)) == (0 : Int)) (decide ((d6.length : Int) > (1 : Int))) false) = true → 0 ≤ (i64.wrap ((d6.length : Int) - (2 : Int))) ∧ (i64.wrap ((d6.length : Int) - (2 : Int))) < (d6.length : Int))) ∧
 AX (D := (List UInt8)) (fun J19 => (((cond (cond ((Int.tmod d17 (4 : Int)) == (0 : Int)) (decide ((d6.length : Int) > (1 : Int))) false) (((UInt8.toNat (List.getD d6 (Int.toNat (i64.wrap ((d6.length : Int) - (2 : Int)))) 0) : Nat) : Int) != (10 : Int)) false) = true → (0 ≤ (i64.wrap ((d6.length : Int) - (1 : Int))) ∧ (i64.wrap ((d6.length : Int) - (1 : Int))) ≤ (d6.length : Int)) ∧
 J19 (List.take (Int.toNat (i64.wrap ((d6.length : Int) - (1 : Int)))) d6)) ∧ ((cond (cond ((Int.tmod d17 (4 : Int)) == (0 : Int)) (decide ((d6.length : Int) > (1 : Int))) false) (((UInt8.toNat (List.getD d6 (Int.toNat (i64.wrap ((d6.length : Int) - (2 : Int)))) 0) : Nat) : Int) != (10 : Int)) false) = false → J19 d6))) (fun d20 => K d20 ())))))
theorem X3 {P : Pg} (h : Has P Xe) {x : DP WQ.ps} {K : DP WQ.rs → DP (ptrs WQ.ps) → Prop} (hw : XG P x K) : Fn P zS9 WQ x K :=
 Er (c := Xs) h rfl rfl (by kernel_rfl) (Eq.mpr (show Ek P Xe WQ Xs x K = _ by kernel_rfl) hw)
def Vs : Cd :=
 (.seq (.region [o1 2 (.asg (.c (.slice none 0 0)))]) (.seq (.region [o1 3 (.asg (.c (.slice none 0 0)))]) (.seq (.region [ia 4 (kI 0)]) (.seq (.seq (.region [ia 5 (kI 0)]) (.frame
 (rg [] 3 30) [] false (.join [.sl 3 false (.sl .str) tO] (.block 0 (.loop [.sl 3 false (.sl .str) tO, .si 4, .si 5] (.seq (.seq (.region [im 6 5, im 7 0, o1 8 (.lenS 7), o1 9 (.bin
 .lss 6 8)]) (.cond 9 .skip (.exit 0))) (.seq (.frame (rg [3, 4] 12 21) [] false (.join [.sl 3 false (.sl .str) tO, .si 4] (.block 1 (.seq (.region [im 12 0, im 13 5, o1 14 (.ixS 12
 13), o1 15 (.bin .eql 14 (.c (.int .u8 10))), im 16 15, gf 17 16 (.mv 5), gf 18 16 (.bin .add 17 (kI 1)), gf 19 16 (.mv 0), gf 20 16 (.lenS 19), gf 21 16 (.bin .eql 18 20), o1 22
 (.pick 16 kT 21)]) (.frame (rg [3, 4] 23 10) [] false (.join [.sl 3 false (.sl .str) tO, .si 4] (.cond 22 (.seq (.region [im 23 3, im 24 0, im 25 4, im 26 5, o1 27 (.bin .add 26
 (kI 1)), o1 28 (.slS 24 (some 25) (some 27)), oT ⟨some 29, .buildSl 1 [(.string ⟨#[]⟩)] 1 [(0, 28)], none⟩ (some (.str, .leaf)), oT ⟨some 30, .app 1 16 23 29, none⟩ (some (.str,
 .leaf)), ia 3 30]) (.region [im 31 5, o1 32 (.bin .add 31 (kI 1)), ia 4 32])) .skip))))))) (.region [im 10 5, o1 11 (.bin .add 10 (kI 1)), ia 5 11])))))))) (.seq (.region [im 33 3,
 ia 2 33]) .ret)))))
def Vj : AFn := ⟨ zS4, Vs.erase, [.tmp 2], 1⟩
def VC (P : Pg) (x : (List UInt8)) (K : (List (List UInt8)) → Unit → Prop) : Prop :=
 AX (D := (List (List UInt8))) (fun J1 => EM (D := ((List (List UInt8)) × (Int × Int))) ([], ((0 : Int), (0 : Int))) (fun d3 J4 => (((decide (d3.2.2 < (x.length : Int))) = true → AX (D := ((List (List UInt8)) × Int)) (fun J5 => (0 ≤ d3.2.2 ∧ d3.2.2 < (x.length : Int)) ∧
 AX (D := ((List (List UInt8)) × Int)) (fun J7 => (((cond (((x.getD d3.2.2.toNat 0).toNat : Int) == (10 : Int)) true ((i64.wrap (d3.2.2 + (1 : Int))) == (x.length : Int))) = true → (0 ≤ d3.2.1 ∧ d3.2.1 ≤ (i64.wrap (d3.2.2 + (1 : Int))) ∧ (i64.wrap (d3.2.2 + (1 : Int))) ≤ (x.length : Int)) ∧
 ((d3.1.length + List.length ([(List.drop d3.2.1.toNat (List.take (Int.toNat (i64.wrap (d3.2.2 + (1 : Int)))) x))] : List (List UInt8))) * 16 ≤ 140737488355328) ∧
 J7 ((d3.1 ++ ([(List.drop d3.2.1.toNat (List.take (Int.toNat (i64.wrap (d3.2.2 + (1 : Int)))) x))] : List (List UInt8))), (i64.wrap (d3.2.2 + (1 : Int))))) ∧ ((cond (((x.getD d3.2.2.toNat 0).toNat : Int) == (10 : Int)) true ((i64.wrap (d3.2.2 + (1 : Int))) == (x.length : Int))) = false → J7 (d3.1, d3.2.1)))) (fun d8 => J5 d8)) (fun d6 => J4 (d6.1, (d6.2, (i64.wrap (d3.2.2 + (1 : Int))))))) ∧ ((decide (d3.2.2 < (x.length : Int))) = false → J1 d3.1)))) (fun d2 => K d2 ())
theorem VQ {P : Pg} (h : Has P Vj) {x : DP Vb.ps} {K : DP Vb.rs → DP (ptrs Vb.ps) → Prop} (hw : VC P x K) : Fn P zS4 Vb x K :=
 Er (c := Vs) h rfl rfl (by kernel_rfl) (Eq.mpr (show Ek P Vj Vb Vs x K = _ by kernel_rfl) hw)
def Xt : Cd :=
 (.seq (.region [o1 6 (.asg (.c (.string ⟨#[]⟩)))]) (.seq (.region [im 10 0, oS ⟨some 11, .call zS4 [10], none⟩ Vb, ia 7 11]) (.seq (.region
 [o1 8 (.asg (.c (.string ⟨#[]⟩)))]) (.seq (.seq (.region [ia 9 (kI 0)]) (.frame (rg [8, 9] 12 32) [] false (.join [.sl 8 false .str .leaf] (.block 0 (.loop [.sl 8 false .str .leaf,
 .si 9] (.seq (.seq (.region [im 12 9, im 13 7, o1 14 (.lenK 13), o1 15 (.bin .lss 12 14)]) (.cond 15 .skip (.exit 0))) (.seq (.frame (rg [8] 18 26) [] false (.join [.sl 8 false
 .str .leaf] (.block 1 (.seq (.seq (.region [im 18 1, im 19 2, im 20 9, o1 21 (.bin .add 19 20), oS ⟨some 22, .call zS1 [18, 21], none⟩ CV, o1 23 (.bin
 .rem 22 (kI 6))]) (.frame (rg [8] 24 14) [] false (.join [.sl 8 false .str .leaf] (.block 2 (.seq (.region [o1 25 (.bin .eql 23 (kI 0)), ia 24 25]) (.cond 24 (.exit 1) (.seq
 (.region [o1 27 (.bin .eql 23 (kI 1)), ia 26 27]) (.frame (rg [8] 28 10) [] false (.join [.sl 8 false .str .leaf] (.cond 26 (.region [im 28 8, im 29 1, im 30 2, o1 31 (.bin .add 30
 (kI 40)), im 32 9, o1 33 (.bin .add 31 32), oS ⟨some 34, .call zS1 [29, 33], none⟩ CV, oS ⟨some 35, .call zS7 [34], none⟩
 Ve, o1 36 (.bin .add 28 35), o1 37 (.bin .add 36 (.c (.string ⟨#[10]⟩))), ia 8 37]) .skip)))))))))) (.region [im 38 8, im 39 7, im 40 9, o1 41 (.ixA 1 39 40), ld 42 41, o1
 43 (.bin .add 38 42), ia 8 43]))))) (.region [im 16 9, o1 17 (.bin .add 16 (kI 1)), ia 9 17])))))))) (.seq (.region [im 44 8, ia 6 44]) .ret)))))
def Xf : AFn := ⟨ Q2, Xt.erase, [.tmp 6], 3⟩
def XH (P : Pg) (x : ((List UInt8) × ((List Int) × Int))) (K : (List UInt8) → Unit → Prop) : Prop :=
 Fn P zS4 Vb x.1 (fun (d1 : (List (List UInt8))) (e2 : Unit) => AX (D := (List UInt8)) (fun J3 => EM (D := ((List UInt8) × Int)) (([] : List UInt8), (0 : Int)) (fun d5 J6 => (((decide (d5.2 < (d1.length : Int))) = true → AX (D := (List UInt8)) (fun J7 => Fn P zS1 CV (x.2.1, (i64.wrap (x.2.2 + d5.2))) (fun (d9 : Int) (e10 : Unit) => ((6 : Int) ≠ 0) ∧
 AX (D := (List UInt8)) (fun J11 => ((((Int.tmod d9 (6 : Int)) == (0 : Int)) = true → J7 d5.1) ∧ (((Int.tmod d9 (6 : Int)) == (0 : Int)) = false → AX (D := (List UInt8)) (fun J13 => ((((Int.tmod d9 (6 : Int)) == (1 : Int)) = true → Fn P zS1 CV (x.2.1, (i64.wrap ((i64.wrap (x.2.2 + (40 : Int))) + d5.2))) (fun (d15 : Int) (e16 : Unit) => Fn P zS7 Ve d15 (fun (d17 : (List UInt8)) (e18 : Unit) => (d5.1.length + d17.length ≤ 9223372036854775807) ∧
 (List.length (d5.1 ++ d17) + List.length ([10] : List UInt8) ≤ 9223372036854775807) ∧
 J13 ((d5.1 ++ d17) ++ ([10] : List UInt8))))) ∧ (((Int.tmod d9 (6 : Int)) == (1 : Int)) = false → J13 d5.1))) (fun d14 => J11 d14)))) (fun d12 => (0 ≤ d5.2 ∧ d5.2 < (d1.length : Int)) ∧
 (d5.2.toNat < d1.length) ∧
 (d12.length + List.length (List.getD d1 d5.2.toNat []) ≤ 9223372036854775807) ∧
 J7 (d12 ++ (List.getD d1 d5.2.toNat []))))) (fun d8 => J6 (d8, (i64.wrap (d5.2 + (1 : Int)))))) ∧ ((decide (d5.2 < (d1.length : Int))) = false → J3 d5.1)))) (fun d4 => K d4 ()))
theorem X4 {P : Pg} (h : Has P Xf) {x : DP WR.ps} {K : DP WR.rs → DP (ptrs WR.ps) → Prop} (hw : XH P x K) : Fn P Q2 WR x K :=
 Er (c := Xt) h rfl rfl (by kernel_rfl) (Eq.mpr (show Ek P Xf WR Xt x K = _ by kernel_rfl) hw)
def Vr : Cd :=
 (.seq (.region [ia 2 (kI 0)]) (.seq (.seq (.region [im 3 0, o1 4 (.lenS 3), o1 5 (.bin .gtr 4 (kI 1048576)), im 6 5, ⟨⟨some 7, .mv 0, some (6, false)⟩, none, ⟨[], []⟩, false, some
 6, true, false⟩, ⟨⟨some 8, .call zS4 [7], some (6, false)⟩, none, Vb, false, none, true, false⟩, ⟨⟨some 9, .lenK 8, some (6, false)⟩, none,
 ⟨[], []⟩, false, none, true, false⟩, ⟨⟨some 10, .bin .gtr 9 (kI 4096), some (6, false)⟩, none, ⟨[], []⟩, false, none, true, true⟩, o1 11 (.pick 6 kT 10)]) (.cond 11 (.seq (.region
 [ia 2 (kI 1)]) .ret) .skip)) (.seq (.region [ia 2 (kI 0)]) .ret)))
def Vi : AFn := ⟨ Q3, Vr.erase, [.tmp 2], 1⟩
def VB (P : Pg) (x : (List UInt8)) (K : Int → Unit → Prop) : Prop :=
 (((decide ((x.length : Int) > (1048576 : Int))) = true → (((cond true true false) = true → K (1 : Int) ()) ∧ ((cond true true false) = false → K (0 : Int) ()))) ∧ ((decide ((x.length : Int) > (1048576 : Int))) = false → Fn P zS4 Vb x (fun (d1 : (List (List UInt8))) (e2 : Unit) => (((cond false true (decide ((d1.length : Int) > (4096 : Int)))) = true → K (1 : Int) ()) ∧ ((cond false true (decide ((d1.length : Int) > (4096 : Int)))) = false → K (0 : Int) ())))))
theorem VP {P : Pg} (h : Has P Vi) {x : DP Va.ps} {K : DP Va.rs → DP (ptrs Va.ps) → Prop} (hw : VB P x K) : Fn P Q3 Va x K :=
 Er (c := Vr) h rfl rfl (by kernel_rfl) (Eq.mpr (show Ek P Vi Va Vr x K = _ by kernel_rfl) hw)
def W9 : Cd :=
 (.seq (.region [o1 2 (.asg (.c (.slice none 0 0))), ia 3 (kI 0)]) (.seq (.seq (.region [im 4 0, oS ⟨some 5, .call Q3 [4], none⟩ Va, o1 6
 (.bin .neq 5 (kI 0))]) (.cond 6 (.seq (.region [o1 2 (.asg (.c (.slice none 0 0))), ia 3 (kI 1)]) .ret) .skip)) (.seq (.region [im 7 0, oS ⟨some 8, .call
 zS4 [7], none⟩ Vb, ia 2 8, ia 3 (kI 0)]) .ret)))
def WX : AFn := ⟨ zS8, W9.erase, [.tmp 2, .tmp 3], 1⟩
def Xp (P : Pg) (x : (List UInt8)) (K : ((List (List UInt8)) × Int) → Unit → Prop) : Prop :=
 Fn P Q3 Va x (fun (d1 : Int) (e2 : Unit) => (((d1 != (0 : Int)) = true → K ([], (1 : Int)) ()) ∧ ((d1 != (0 : Int)) = false → Fn P zS4 Vb x (fun (d3 : (List (List UInt8))) (e4 : Unit) => K (d3, (0 : Int)) ()))))
theorem XK {P : Pg} (h : Has P WX) {x : DP WL.ps} {K : DP WL.rs → DP (ptrs WL.ps) → Prop} (hw : Xp P x K) : Fn P zS8 WL x K :=
 Er (c := W9) h rfl rfl (by kernel_rfl) (Eq.mpr (show Ek P WX WL W9 x K = _ by kernel_rfl) hw)
def Xi : Cd :=
 (.seq (.region [ia 4 (kI 0)]) (.seq (.region [ia 5 (kI 0)]) (.seq (.seq (.region [ia 6 (kI 0)]) (.frame (rg [] 5 16) [] false (.join [.si 5] (.block 0 (.loop [.si 5, .si 6] (.seq
 (.seq (.region [im 7 6, im 8 0, o1 9 (.lenK 8), o1 10 (.bin .lss 7 9)]) (.cond 10 .skip (.exit 0))) (.seq (.frame (rg [5] 13 8) [] false (.join [.si 5] (.block 1 (.seq (.region [im
 13 0, im 14 6, o1 15 (.ixA 1 13 14), ld 16 15, im 17 1, o1 18 (.bin .eql 16 17)]) (.frame [5, 19, 20] [] false (.join [.si 5] (.cond 18 (.region [im 19 5, o1 20 (.bin .add 19 (kI
 1)), ia 5 20]) .skip))))))) (.region [im 11 6, o1 12 (.bin .add 11 (kI 1)), ia 6 12])))))))) (.seq (.region [im 21 5, ia 4 21]) .ret))))
def WZ : AFn := ⟨ zS0, Xi.erase, [.tmp 4], 2⟩
def Xw (P : Pg) (x : ((List (List UInt8)) × (List UInt8))) (K : Int → Unit → Prop) : Prop :=
 AX (D := Int) (fun J1 => EM (D := (Int × Int)) ((0 : Int), (0 : Int)) (fun d3 J4 => (((decide (d3.2 < (x.1.length : Int))) = true → AX (D := Int) (fun J5 => (0 ≤ d3.2 ∧ d3.2 < (x.1.length : Int)) ∧
 (d3.2.toNat < x.1.length) ∧
 AX (D := Int) (fun J7 => ((((List.getD x.1 d3.2.toNat []) == x.2) = true → J7 (i64.wrap (d3.1 + (1 : Int)))) ∧ (((List.getD x.1 d3.2.toNat []) == x.2) = false → J7 d3.1))) (fun d8 => J5 d8)) (fun d6 => J4 (d6, (i64.wrap (d3.2 + (1 : Int)))))) ∧ ((decide (d3.2 < (x.1.length : Int))) = false → J1 d3.1)))) (fun d2 => K d2 ())
theorem XN {P : Pg} (h : Has P WZ) {x : DP WG.ps} {K : DP WG.rs → DP (ptrs WG.ps) → Prop} (hw : Xw P x K) : Fn P zS0 WG x K :=
 Er (c := Xi) h rfl rfl (by kernel_rfl) (Eq.mpr (show Ek P WZ WG Xi x K = _ by kernel_rfl) hw)
def Xa : Cd :=
 (.seq (.region [ia 4 (kI 0), ia 5 (kI 0)]) (.seq (.region [im 12 0, oS ⟨some 13, .call zS8 [12], none⟩ WL, im 11 13, o1 14 (.ext 11 0), o1
 15 (.ext 11 1), ia 6 14, ia 7 15]) (.seq (.seq (.region [im 16 7, o1 17 (.bin .neq 16 (kI 0))]) (.cond 17 (.seq (.region [im 18 7, ia 4 (kI 0), ia 5 18]) .ret) .skip)) (.seq
 (.region [im 20 1, oS ⟨some 21, .call zS8 [20], none⟩ WL, im 19 21, o1 22 (.ext 19 0), o1 23 (.ext 19 1), ia 8 22, ia 7 23]) (.seq (.seq
 (.region [im 24 7, o1 25 (.bin .neq 24 (kI 0))]) (.cond 25 (.seq (.region [im 26 7, ia 4 (kI 0), ia 5 26]) .ret) .skip)) (.seq (.seq (.region [im 27 0, im 28 1, o1 29 (.bin .eql 27
 28)]) (.cond 29 (.seq (.region [ia 4 (kI 100), ia 5 (kI 0)]) .ret) .skip)) (.seq (.region [ia 9 (kI 0)]) (.seq (.seq (.region [ia 10 (kI 0)]) (.frame (rg [9, 10] 30 36) [] false
 (.join [.si 9] (.block 0 (.loop [.si 9, .si 10] (.seq (.seq (.region [im 30 10, im 31 6, o1 32 (.lenK 31), o1 33 (.bin .lss 30 32)]) (.cond 33 .skip (.exit 0))) (.seq (.frame (rg
 [9] 36 30) [] false (.join [.si 9] (.block 1 (.seq (.frame (rg [] 36 9) [] false (.join [.sl 44 false .bool .leaf] (.draw [(.first (im 36 6) (.first (im 37 10) (.first (o1 38 (.slK
 1 36 none (some 37))) (.first (im 39 6) (.first (im 40 10) (.first (o1 41 (.ixA 1 39 40)) (.first (ld 42 41) (.alt (oS ⟨some 43, .call zS0 [38, 42],
 none⟩ WG) (.first (o1 44 (.bin .eql 43 (kI 0))) .done) .stop))))))))]))) (.frame (rg [9] 45 21) [] false (.join [.si 9] (.cond 44 (.frame (rg [9] 45 21) [] false (.join
 [.si 9] (.draw [(.first (im 45 9) (.first (im 46 6) (.first (im 47 6) (.first (im 48 10) (.first (o1 49 (.ixA 1 47 48)) (.first (ld 50 49) (.first (im 52 8) (.first (im 53 6)
 (.first (im 54 10) (.first (o1 55 (.ixA 1 53 54)) (.first (im 59 6) (.first (im 60 10) (.first (o1 61 (.ixA 1 59 60)) (.alt (oS ⟨some 51, .call zS0 [46,
 50], none⟩ WG) (.first (ld 56 55) (.alt (oS ⟨some 57, .call zS0 [52, 56], none⟩ WG) (.first (o1 58 (.mm false 51 57)) (.first (ld 62
 61) (.first (o1 63 (.lenS 62)) (.first (o1 64 (.bin .mul 58 63)) (.first (o1 65 (.bin .add 45 64)) (.alt (ia 9 65) .done .stop)))))) (.alt (ld 62 61) (.first (o1 63 (.lenS 62))
 (.alt (oS ⟨some 57, .call zS0 [52, 56], none⟩ WG) (.first (o1 58 (.mm false 51 57)) (.first (o1 64 (.bin .mul 58 63)) (.first (o1 65 (.bin
 .add 45 64)) (.alt (ia 9 65) .done .stop)))) .stop)) .stop))) (.alt (ld 56 55) (.alt (oS ⟨some 51, .call zS0 [46, 50], none⟩ WG) (.alt (oS
 ⟨some 57, .call zS0 [52, 56], none⟩ WG) (.first (o1 58 (.mm false 51 57)) (.first (ld 62 61) (.first (o1 63 (.lenS 62)) (.first (o1 64 (.bin
 .mul 58 63)) (.first (o1 65 (.bin .add 45 64)) (.alt (ia 9 65) .done .stop)))))) (.alt (ld 62 61) (.first (o1 63 (.lenS 62)) (.alt (oS ⟨some 57, .call
 zS0 [52, 56], none⟩ WG) (.first (o1 58 (.mm false 51 57)) (.first (o1 64 (.bin .mul 58 63)) (.first (o1 65 (.bin .add 45 64)) (.alt (ia 9 65)
 .done .stop)))) .stop)) .stop)) (.alt (ld 62 61) (.first (o1 63 (.lenS 62)) (.alt (oS ⟨some 51, .call zS0 [46, 50], none⟩ WG) (.alt (oS ⟨some
 57, .call zS0 [52, 56], none⟩ WG) (.first (o1 58 (.mm false 51 57)) (.first (o1 64 (.bin .mul 58 63)) (.first (o1 65 (.bin .add 45 64)) (.alt
 (ia 9 65) .done .stop)))) .stop) .stop)) .stop)) (.alt (ld 62 61) (.first (o1 63 (.lenS 62)) (.alt (oS ⟨some 51, .call zS0 [46, 50], none⟩ WG)
 (.first (ld 56 55) (.alt (oS ⟨some 57, .call zS0 [52, 56], none⟩ WG) (.first (o1 58 (.mm false 51 57)) (.first (o1 64 (.bin .mul 58 63))
 (.first (o1 65 (.bin .add 45 64)) (.alt (ia 9 65) .done .stop)))) .stop)) (.alt (ld 56 55) (.alt (oS ⟨some 51, .call zS0 [46, 50], none⟩ WG)
 (.alt (oS ⟨some 57, .call zS0 [52, 56], none⟩ WG) (.first (o1 58 (.mm false 51 57)) (.first (o1 64 (.bin .mul 58 63)) (.first (o1 65 (.bin
 .add 45 64)) (.alt (ia 9 65) .done .stop)))) .stop) .stop) .stop))) .stop))))))))))))))))]))) .skip))))))) (.region [im 34 10, o1 35 (.bin .add 34 (kI 1)), ia 10 35])))))))) (.seq
 (.region [im 66 9, o1 67 (.bin .mul (kI 100) 66), im 68 0, o1 69 (.lenS 68), im 70 1, o1 71 (.lenS 70), o1 72 (.mm true 69 71), o1 73 (.bin .quo 67 72), o1 74 (.mm false 73 (kI
 99)), ia 4 74, ia 5 (kI 0)]) .ret)))))))))
def WY : AFn := ⟨ zS6, Xa.erase, [.tmp 4, .tmp 5], 2⟩
def Xq (P : Pg) (x : ((List UInt8) × (List UInt8))) (K : (Int × Int) → Unit → Prop) : Prop :=
 Fn P zS8 WL x.1 (fun (d1 : ((List (List UInt8)) × Int)) (e2 : Unit) => (((d1.2 != (0 : Int)) = true → K ((0 : Int), d1.2) ()) ∧ ((d1.2 != (0 : Int)) = false → Fn P zS8 WL x.2 (fun (d3 : ((List (List UInt8)) × Int)) (e4 : Unit) => (((d3.2 != (0 : Int)) = true → K ((0 : Int), d3.2) ()) ∧ ((d3.2 != (0 : Int)) = false → (((x.1 == x.2) = true → K ((100 : Int), (0 : Int)) ()) ∧ ((x.1 == x.2) = false → AX (D := Int) (fun J5 => EM (D := (Int × Int)) ((0 : Int), (0 : Int)) (fun d7 J8 => (((decide (d7.2 < (d1.1.length : Int))) = true → AX (D := Int) (fun J9 => AX (D := Bool) (fun J11 => (0 ≤ d7.2 ∧ d7.2 ≤ (d1.1.length : Int)) ∧
 (0 ≤ d7.2 ∧ d7.2 < (d1.1.length : Int)) ∧
 (d7.2.toNat < d1.1.length) ∧
 ((0 + d7.2.toNat ≤ d1.1.length) ∧
 Fn P zS0 WG ((List.take d7.2.toNat (List.drop 0 d1.1)), (List.getD d1.1 d7.2.toNat [])) (fun (d13 : Int) (e14 : Unit) => J11 (d13 == (0 : Int)))) ∧ True) (fun d12 => AX (D := Int) (fun J15 => ((d12 = true → AX (D := Int) (fun J17 => (0 ≤ d7.2 ∧ d7.2 < (d1.1.length : Int)) ∧
 (d7.2.toNat < d1.1.length) ∧
 (0 ≤ d7.2 ∧ d7.2 < (d1.1.length : Int)) ∧
 (0 ≤ d7.2 ∧ d7.2 < (d1.1.length : Int)) ∧
 (Fn P zS0 WG (d1.1, (List.getD d1.1 d7.2.toNat [])) (fun (d19 : Int) (e20 : Unit) => (d7.2.toNat < d1.1.length) ∧
 (Fn P zS0 WG (d3.1, (List.getD d1.1 d7.2.toNat [])) (fun (d21 : Int) (e22 : Unit) => (d7.2.toNat < d1.1.length) ∧
 (J17 (i64.wrap (d7.1 + (i64.wrap ((if d21 < d19 then d21 else d19) * ((List.length (List.getD d1.1 d7.2.toNat []) : Nat) : Int)))))) ∧ True)) ∧ (((d7.2.toNat < d1.1.length) ∧
 (Fn P zS0 WG (d3.1, (List.getD d1.1 d7.2.toNat [])) (fun (d23 : Int) (e24 : Unit) => (J17 (i64.wrap (d7.1 + (i64.wrap ((if d23 < d19 then d23 else d19) * ((List.length (List.getD d1.1 d7.2.toNat []) : Nat) : Int)))))) ∧ True)) ∧ True) ∧ True))) ∧ (((d7.2.toNat < d1.1.length) ∧
 (Fn P zS0 WG (d1.1, (List.getD d1.1 d7.2.toNat [])) (fun (d25 : Int) (e26 : Unit) => (Fn P zS0 WG (d3.1, (List.getD d1.1 d7.2.toNat [])) (fun (d27 : Int) (e28 : Unit) => (d7.2.toNat < d1.1.length) ∧
 (J17 (i64.wrap (d7.1 + (i64.wrap ((if d27 < d25 then d27 else d25) * ((List.length (List.getD d1.1 d7.2.toNat []) : Nat) : Int)))))) ∧ True)) ∧ (((d7.2.toNat < d1.1.length) ∧
 (Fn P zS0 WG (d3.1, (List.getD d1.1 d7.2.toNat [])) (fun (d29 : Int) (e30 : Unit) => (J17 (i64.wrap (d7.1 + (i64.wrap ((if d29 < d25 then d29 else d25) * ((List.length (List.getD d1.1 d7.2.toNat []) : Nat) : Int)))))) ∧ True)) ∧ True) ∧ True))) ∧ (((d7.2.toNat < d1.1.length) ∧
 (Fn P zS0 WG (d1.1, (List.getD d1.1 d7.2.toNat [])) (fun (d31 : Int) (e32 : Unit) => (Fn P zS0 WG (d3.1, (List.getD d1.1 d7.2.toNat [])) (fun (d33 : Int) (e34 : Unit) => (J17 (i64.wrap (d7.1 + (i64.wrap ((if d33 < d31 then d33 else d31) * ((List.length (List.getD d1.1 d7.2.toNat []) : Nat) : Int)))))) ∧ True)) ∧ True)) ∧ True) ∧ True)) ∧ (((d7.2.toNat < d1.1.length) ∧
 (Fn P zS0 WG (d1.1, (List.getD d1.1 d7.2.toNat [])) (fun (d35 : Int) (e36 : Unit) => (d7.2.toNat < d1.1.length) ∧
 (Fn P zS0 WG (d3.1, (List.getD d1.1 d7.2.toNat [])) (fun (d37 : Int) (e38 : Unit) => (J17 (i64.wrap (d7.1 + (i64.wrap ((if d37 < d35 then d37 else d35) * ((List.length (List.getD d1.1 d7.2.toNat []) : Nat) : Int)))))) ∧ True)) ∧ True)) ∧ (((d7.2.toNat < d1.1.length) ∧
 (Fn P zS0 WG (d1.1, (List.getD d1.1 d7.2.toNat [])) (fun (d39 : Int) (e40 : Unit) => (Fn P zS0 WG (d3.1, (List.getD d1.1 d7.2.toNat [])) (fun (d41 : Int) (e42 : Unit) => (J17 (i64.wrap (d7.1 + (i64.wrap ((if d41 < d39 then d41 else d39) * ((List.length (List.getD d1.1 d7.2.toNat []) : Nat) : Int)))))) ∧ True)) ∧ True)) ∧ True) ∧ True)) ∧ True))) (fun d18 => J15 d18)) ∧ (d12 = false → J15 d7.1))) (fun d16 => J9 d16))) (fun d10 => J8 (d10, (i64.wrap (d7.2 + (1 : Int)))))) ∧ ((decide (d7.2 < (d1.1.length : Int))) = false → J5 d7.1)))) (fun d6 => ((if (x.2.length : Int) > (x.1.length : Int) then (x.2.length : Int) else (x.1.length : Int)) ≠ 0) ∧
 K ((if (99 : Int) < (i64.wrap (Int.tdiv (i64.wrap ((100 : Int) * d6)) (if (x.2.length : Int) > (x.1.length : Int) then (x.2.length : Int) else (x.1.length : Int)))) then (99 : Int) else (i64.wrap (Int.tdiv (i64.wrap ((100 : Int) * d6)) (if (x.2.length : Int) > (x.1.length : Int) then (x.2.length : Int) else (x.1.length : Int))))), (0 : Int)) ())))))))))
theorem XL {P : Pg} (h : Has P WY) {x : DP WK.ps} {K : DP WK.rs → DP (ptrs WK.ps) → Prop} (hw : Xq P x K) : Fn P zS6 WK x K :=
 Er (c := Xa) h rfl rfl (by kernel_rfl) (Eq.mpr (show Ek P WY WK Xa x K = _ by kernel_rfl) hw)
def WO : Cd :=
 (.seq (.region [o1 6 (.asg kF)]) (.seq (.seq (.region [im 17 1, o1 18 (.lenS 17), o1 19 (.bin .gtr 18 (kI 60)), im 20 19, gf 21 20 (.mv 2), gf 22 20 (.lenS 21), gf 23 20 (.bin .gtr
 22 (kI 60)), o1 24 (.pick 20 kT 23)]) (.cond 24 (.seq (.region [oS ⟨some 25, .call zS5 [], none⟩ WJ, ia 6 25]) .ret) .skip)) (.seq (.region
 [im 26 0, oS ⟨some 27, .call zS9 [26, (kI 0), (kI 7), (kI 4)], none⟩ WQ, ia 7 27]) (.seq (.region [im 28 7, im 29 0, oS ⟨some 30, .call
 Q2 [28, 29, (kI 100)], none⟩ WR, ia 8 30]) (.seq (.region [im 32 7, im 33 8, oS ⟨some 34, .call zS2 [32, 33], none⟩
 WI, im 31 34, o1 35 (.ext 31 0), o1 36 (.ext 31 1), ia 9 35, ia 10 36]) (.seq (.region [im 38 7, im 39 8, oS ⟨some 40, .call zS6 [38, 39],
 none⟩ WK, im 37 40, o1 41 (.ext 37 0), o1 42 (.ext 37 1), ia 11 41, ia 12 42]) (.seq (.region [im 44 1, im 45 2, oS ⟨some 46, .call zS2 [44, 45],
 none⟩ WI, im 43 46, o1 47 (.ext 43 0), o1 48 (.ext 43 1), ia 13 47, ia 14 48]) (.seq (.region [im 50 1, im 51 2, oS ⟨some 52, .call zS6
 [50, 51], none⟩ WK, im 49 52, o1 53 (.ext 49 0), o1 54 (.ext 49 1), ia 15 53, ia 16 54]) (.seq (.region [im 55 9, im 56 11, o1 57 (.bin .eql 55 56), im 58 57, gt 59 58
 (.mv 10), gt 60 58 (.mv 12), gt 61 58 (.bin .eql 59 60), o1 62 (.pick 58 61 kF), im 63 62, gt 64 63 (.mv 13), gt 65 63 (.mv 15), gt 66 63 (.bin .eql 64 65), o1 67 (.pick 63 66 kF),
 im 68 67, gt 69 68 (.mv 14), gt 70 68 (.mv 16), gt 71 68 (.bin .eql 69 70), o1 72 (.pick 68 71 kF), im 73 72, oS ⟨some 74, .call zS5 [], some (73,
 true)⟩ WJ, o1 75 (.pick 73 74 kF), ia 6 75]) .ret)))))))))
def WM : AFn := ⟨ Wt, WO.erase, [.tmp 6], 3⟩
def WV (P : Pg) (x : ((List Int) × ((List UInt8) × (List UInt8)))) (K : Bool → Unit → Prop) : Prop :=
 (((cond (decide ((x.2.1.length : Int) > (60 : Int))) true (decide ((x.2.2.length : Int) > (60 : Int)))) = true → Fn P zS5 WJ () (fun (d1 : Bool) (e2 : Unit) => K d1 ())) ∧ ((cond (decide ((x.2.1.length : Int) > (60 : Int))) true (decide ((x.2.2.length : Int) > (60 : Int)))) = false → Fn P zS9 WQ (x.1, ((0 : Int), ((7 : Int), (4 : Int)))) (fun (d3 : (List UInt8)) (e4 : Unit) => Fn P Q2 WR (d3, (x.1, (100 : Int))) (fun (d5 : (List UInt8)) (e6 : Unit) => Fn P zS2 WI (d3, d5) (fun (d7 : (Int × Int)) (e8 : Unit) => Fn P zS6 WK (d3, d5) (fun (d9 : (Int × Int)) (e10 : Unit) => Fn P zS2 WI x.2 (fun (d11 : (Int × Int)) (e12 : Unit) => Fn P zS6 WK x.2 (fun (d13 : (Int × Int)) (e14 : Unit) => AX (D := Bool) (fun J15 => (((cond (cond (cond (d7.1 == d9.1) (d7.2 == d9.2) false) (d11.1 == d13.1) false) (d11.2 == d13.2) false) = true → Fn P zS5 WJ () (fun (d16 : Bool) _ => J15 d16)) ∧ (((cond (cond (cond (d7.1 == d9.1) (d7.2 == d9.2) false) (d11.1 == d13.1) false) (d11.2 == d13.2) false) = false → J15 false) ∧ True))) (fun d17 => K (cond (cond (cond (cond (d7.1 == d9.1) (d7.2 == d9.2) false) (d11.1 == d13.1) false) (d11.2 == d13.2) false) d17 false) ())))))))))
theorem Xh {P : Pg} (h : Has P WM) {x : DP WH.ps} {K : DP WH.rs → DP (ptrs WH.ps) → Prop} (hw : WV P x K) : Fn P Wt WH x K :=
 Er (c := WO) h rfl rfl (by kernel_rfl) (Eq.mpr (show Ek P WM WH WO x K = _ by kernel_rfl) hw)
def Gf : Cd :=
 (.seq (.region [o1 2 (.asg kF)]) (.seq (.region [im 3 0, oS ⟨some 4, .call "strings.HasSuffix" [3, (.c (.string ⟨#[10]⟩))], none⟩ BO, ia 2 4]) .ret))
def Ev : AFn := ⟨ Se, Gf.erase, [.tmp 2], 1⟩
def HU (P : Pg) (x : (List UInt8)) (K : Bool → Unit → Prop) : Prop :=
 Fn P "strings.HasSuffix" BO (x, ([10] : List UInt8)) (fun (d1 : Bool) (e2 : Unit) => K d1 ())
theorem Lw {P : Pg} (h : Has P Ev) {x : DP Cb.ps} {K : DP Cb.rs → DP (ptrs Cb.ps) → Prop} (hw : HU P x K) : Fn P Se Cb x K :=
 Er (c := Gf) h rfl rfl (by kernel_rfl) (Eq.mpr (show Ek P Ev Cb Gf x K = _ by kernel_rfl) hw)
def Ge : Cd :=
 (.seq (.region [ia 2 (kI 0)]) (.seq (.region [im 4 0, oS ⟨some 5, .call "strings.Count" [4, (.c (.string ⟨#[10]⟩))], none⟩ CE, ia 3 5]) (.seq (.seq (.region [im 6 0,
 o1 7 (.bin .neq 6 (.c (.string ⟨#[]⟩))), im 8 7, gt 9 8 (.mv 0), oS ⟨some 10, .call Se [9], some (8, true)⟩ Cb, gt 11 8 (.un .not 10), o1 12 (.pick 8
 11 kF)]) (.frame [3, 13, 14] [] false (.join [.si 3] (.cond 12 (.region [im 13 3, o1 14 (.bin .add 13 (kI 1)), ia 3 14]) .skip)))) (.seq (.seq (.region [im 15 0, o1 16 (.lenS 15),
 o1 17 (.bin .gtr 16 (kI 1048576)), im 18 17, gf 19 18 (.mv 3), gf 20 18 (.bin .gtr 19 (kI 4096)), o1 21 (.pick 18 kT 20)]) (.cond 21 (.seq (.region [ia 2 (kI 1)]) .ret) .skip))
 (.seq (.region [ia 2 (kI 0)]) .ret)))))
def Eu : AFn := ⟨ Sf, Ge.erase, [.tmp 2], 1⟩
def HT (P : Pg) (x : (List UInt8)) (K : Int → Unit → Prop) : Prop :=
 Fn P "strings.Count" CE (x, ([10] : List UInt8)) (fun (d1 : Int) (e2 : Unit) => AX (D := Bool) (fun J3 => (((!(x == ([] : List UInt8))) = true → Fn P Se Cb x (fun (d4 : Bool) _ => J3 d4)) ∧ (((!(x == ([] : List UInt8))) = false → J3 false) ∧ True))) (fun d5 => AX (D := Int) (fun J6 => (((cond (!(x == ([] : List UInt8))) (!d5) false) = true → J6 (i64.wrap (d1 + (1 : Int)))) ∧ ((cond (!(x == ([] : List UInt8))) (!d5) false) = false → J6 d1))) (fun d7 => (((cond (decide ((x.length : Int) > (1048576 : Int))) true (decide (d7 > (4096 : Int)))) = true → K (1 : Int) ()) ∧ ((cond (decide ((x.length : Int) > (1048576 : Int))) true (decide (d7 > (4096 : Int)))) = false → K (0 : Int) ())))))
theorem Lv {P : Pg} (h : Has P Eu) {x : DP Ca.ps} {K : DP Ca.rs → DP (ptrs Ca.ps) → Prop} (hw : HT P x K) : Fn P Sf Ca x K :=
 Er (c := Ge) h rfl rfl (by kernel_rfl) (Eq.mpr (show Ek P Eu Ca Ge x K = _ by kernel_rfl) hw)
def Xj : Cd :=
 (.seq (.region [o1 2 (.asg (.c (.slice none 0 0))), ia 3 (kI 0)]) (.seq (.seq (.region [im 6 0, oS ⟨some 7, .call Sf [6], none⟩ Ca, ia 4 7]) (.seq
 (.region [im 8 4, o1 9 (.bin .neq 8 (kI 0))]) (.cond 9 (.seq (.region [im 10 4, o1 2 (.asg (.c (.slice none 0 0))), ia 3 10]) .ret) .skip))) (.seq (.region [im 11 0, oS ⟨some 12,
 .call "strings.SplitAfter" [11, (.c (.string ⟨#[10]⟩))], none⟩ Ef, ia 5 12]) (.seq (.seq (.region [im 13 5, im 14 5, o1 15 (.lenK 14), o1 16 (.bin .sub 15 (kI
 1)), o1 17 (.ixA 1 13 16), ld 18 17, o1 19 (.bin .eql 18 (.c (.string ⟨#[]⟩)))]) (.frame (rg [5] 20 5) [] false (.join [.sl 5 false (.sl .str) tO] (.cond 19 (.region [im 20 5, im
 21 5, o1 22 (.lenK 21), o1 23 (.bin .sub 22 (kI 1)), o1 24 (.slK 1 20 none (some 23)), ia 5 24]) .skip)))) (.seq (.region [im 25 5, ia 2 25, ia 3 (kI 0)]) .ret)))))
def W0 : AFn := ⟨ Um, Xj.erase, [.tmp 2, .tmp 3], 1⟩
def Xx (P : Pg) (x : (List UInt8)) (K : ((List (List UInt8)) × Int) → Unit → Prop) : Prop :=
 Fn P Sf Ca x (fun (d1 : Int) (e2 : Unit) => (((d1 != (0 : Int)) = true → K ([], d1) ()) ∧ ((d1 != (0 : Int)) = false → Fn P "strings.SplitAfter" Ef (x, ([10] : List UInt8)) (fun (d3 : (List (List UInt8))) (e4 : Unit) => (0 ≤ (i64.wrap ((d3.length : Int) - (1 : Int))) ∧ (i64.wrap ((d3.length : Int) - (1 : Int))) < (d3.length : Int)) ∧
 ((Int.toNat (i64.wrap ((d3.length : Int) - (1 : Int)))) < d3.length) ∧
 AX (D := (List (List UInt8))) (fun J5 => ((((List.getD d3 (Int.toNat (i64.wrap ((d3.length : Int) - (1 : Int)))) []) == ([] : List UInt8)) = true → (0 ≤ (i64.wrap ((d3.length : Int) - (1 : Int))) ∧ (i64.wrap ((d3.length : Int) - (1 : Int))) ≤ (d3.length : Int)) ∧
 (0 + (Int.toNat (i64.wrap ((d3.length : Int) - (1 : Int)))) ≤ d3.length) ∧
 J5 (List.take (Int.toNat (i64.wrap ((d3.length : Int) - (1 : Int)))) (List.drop 0 d3))) ∧ (((List.getD d3 (Int.toNat (i64.wrap ((d3.length : Int) - (1 : Int)))) []) == ([] : List UInt8)) = false → J5 d3))) (fun d6 => K (d6, (0 : Int)) ())))))
theorem XO {P : Pg} (h : Has P W0) {x : DP WN.ps} {K : DP WN.rs → DP (ptrs WN.ps) → Prop} (hw : Xx P x K) : Fn P Um WN x K :=
 Er (c := Xj) h rfl rfl (by kernel_rfl) (Eq.mpr (show Ek P W0 WN Xj x K = _ by kernel_rfl) hw)
end Go.VS
