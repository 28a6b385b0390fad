/- Functions of the program: typed code, and what it says, lifted. -/
import Derived.Test.YtbpbcfiodckhjaaDoorKTxSig
import Derived.KernelRfl
set_option linter.unusedVariables false
set_option linter.unusedSimpArgs false
set_option maxRecDepth 8000
namespace Go.VS
open IntKind
def W8 : Cd :=
 (.seq (.region [o1 0 (.asg kF)]) (.seq (.region [oS ⟨some 6, .call zS1 [(.c (.string ⟨#[97, 10, 98, 10]⟩)), (.c (.string ⟨#[98, 10, 97, 10]⟩))], none⟩
 WI, im 5 6, o1 7 (.ext 5 0), o1 8 (.ext 5 1), ia 1 7, ia 2 8]) (.seq (.region [oS ⟨some 10, .call zS1 [(.c (.string ⟨#[120]⟩)), (.c (.string
 ⟨#[120]⟩))], none⟩ WI, im 9 10, o1 11 (.ext 9 0), o1 12 (.ext 9 1), ia 3 11, ia 4 12]) (.seq (.region [im 13 2, o1 14 (.bin .eql 13 (kI 0)), im 15 14, gt 16 15 (.mv
 4), gt 17 15 (.bin .eql 16 (kI 0)), o1 18 (.pick 15 17 kF), im 19 18, gt 20 19 (.mv 1), gt 21 19 (.bin .eql 20 (kI 99)), o1 22 (.pick 19 21 kF), im 23 22, gt 24 23 (.mv 3), gt 25
 23 (.bin .eql 24 (kI 100)), o1 26 (.pick 23 25 kF), ia 0 26]) .ret))))
def WW : AFn := ⟨ zS3, W8.erase, [.tmp 0], 0⟩
def Xo (P : Pg) (x : Unit) (K : Bool → Unit → Prop) : Prop :=
 Fn P zS1 WI (([97, 10, 98, 10] : List UInt8), ([98, 10, 97, 10] : List UInt8)) (fun (d1 : (Int × Int)) (e2 : Unit) => Fn P zS1 WI (([120] : List UInt8), ([120] : List UInt8)) (fun (d3 : (Int × Int)) (e4 : Unit) => K (cond (cond (cond (d1.2 == (0 : Int)) (d3.2 == (0 : Int)) false) (d1.1 == (99 : Int)) false) (d3.1 == (100 : Int)) false) ()))
theorem XJ {P : Pg} (h : Has P WW) {x : DP WJ.ps} {K : DP WJ.rs → DP (ptrs WJ.ps) → Prop} (hw : Xo P x K) : Fn P zS3 WJ x K :=
 Er (c := W8) h rfl rfl (by kernel_rfl) (Eq.mpr (show Ek P WW WJ W8 x K = _ by kernel_rfl) hw)
def Jm : Cd :=
 (.seq (.region [ia 4 (kI 0)]) (.seq (.region [im 5 0, o1 6 (.conv (.toInt .u64) 5), im 7 1, o1 8 (.conv (.toInt .u64) 7), o1 9 (.bin .rem 6 8), o1 10 (.conv (.toInt .i64) 9), ia 4
 10]) .ret))
def G1 : AFn := ⟨ zS2, Jm.erase, [.tmp 4], 2⟩
def LK (P : Pg) (x : (Int × Int)) (K : Int → Unit → Prop) : Prop :=
 ((u64.wrap x.2) ≠ 0) ∧
 K (i64.wrap (Int.tmod (u64.wrap x.1) (u64.wrap x.2))) ()
theorem Pb {P : Pg} (h : Has P G1) {x : DP B0.ps} {K : DP B0.rs → DP (ptrs B0.ps) → Prop} (hw : LK P x K) : Fn P zS2 B0 x K :=
 Er (c := Jm) h rfl rfl (by kernel_rfl) (Eq.mpr (show Ek P G1 B0 Jm x K = _ by kernel_rfl) hw)
def VI : Cd :=
 (.seq (.region [o1 2 (.asg (.c (.string ⟨#[]⟩)))]) (.seq (.region [oT ⟨some 3, .buildSl 1 [(.string ⟨#[]⟩)] 10 [(0, (.c (.string ⟨#[97]⟩))), (1, (.c (.string ⟨#[98]⟩))), (2, (.c
 (.string ⟨#[99]⟩))), (3, (.c (.string ⟨#[97, 98]⟩))), (4, (.c (.string ⟨#[98, 97]⟩))), (5, (.c (.string ⟨#[]⟩))), (6, (.c (.string ⟨#[97, 97]⟩))), (7, (.c (.string ⟨#[98, 32,
 97]⟩))), (8, (.c (.string ⟨#[120, 43, 121]⟩))), (9, (.c (.string ⟨#[92]⟩)))], none⟩ (some (.str, .leaf)), im 4 0, oS ⟨some 5, .call zS2 [4, (kI 10)], none⟩
 B0, o1 6 (.ixA 1 3 5), ld 7 6, ia 2 7]) .ret))
def Vv : AFn := ⟨ zS4, VI.erase, [.tmp 2], 1⟩
abbrev Vy : List (List UInt8) := ([([97] : List UInt8), ([98] : List UInt8), ([99] : List UInt8), ([97, 98] : List UInt8), ([98, 97] : List UInt8), ([] : List UInt8), ([97, 97] : List UInt8), ([98, 32, 97] : List UInt8), ([120, 43, 121] : List UInt8), ([92] : List UInt8)] : List (List UInt8))
def VM (P : Pg) (x : Int) (K : (List UInt8) → Unit → Prop) : Prop :=
 Fn P zS2 B0 (x, (10 : Int)) (fun (d1 : Int) (e2 : Unit) => (0 ≤ d1 ∧ d1 < ((List.length Vy : Nat) : Int)) ∧
 (d1.toNat < List.length Vy) ∧
 K (List.getD Vy d1.toNat []) ())
theorem Wd {P : Pg} (h : Has P Vv) {x : DP Ve.ps} {K : DP Ve.rs → DP (ptrs Ve.ps) → Prop} (hw : VM P x K) : Fn P zS4 Ve x K :=
 Er (c := VI) h rfl rfl (by kernel_rfl) (Eq.mpr (show Ek P Vv Ve VI x K = _ by kernel_rfl) hw)
def Ll : Cd :=
 (.seq (.region [ia 4 (kI 0)]) (.seq (.region [im 6 1, o1 7 (.bin .add 6 (kI 1)), o1 8 (.conv (.toInt .u64) 7), o1 9 (.bin .mul 8 (.c (.int .u64 11400714819323198485))), ia 5 9])
 (.seq (.seq (.region [im 10 0, o1 11 (.lenK 10), o1 12 (.bin .gtr 11 (kI 0))]) (.frame (rg [5] 13 10) [] false (.join [.sl 5 false (.int .u64) .leaf] (.cond 12 (.region [im 13 5,
 im 14 0, im 15 1, im 16 0, o1 17 (.lenK 16), o1 18 (.bin .rem 15 17), o1 19 (.ixA 1 14 18), ld 20 19, o1 21 (.conv (.toInt .u64) 20), o1 22 (.bin .xor 13 21), ia 5 22]) .skip))))
 (.seq (.region [im 23 5, im 24 5, o1 25 (.bin .shr 24 (.c (.int .u64 31))), o1 26 (.bin .xor 23 25), o1 27 (.bin .mul 26 (.c (.int .u64 13787848793156543929))), ia 5 27]) (.seq
 (.region [im 28 5, im 29 5, o1 30 (.bin .shr 29 (.c (.int .u64 29))), o1 31 (.bin .xor 28 30), o1 32 (.bin .shr 31 (.c (.int .u64 1))), o1 33 (.conv (.toInt .i64) 32), ia 4 33])
 .ret)))))
def HR : AFn := ⟨ zS0, Ll.erase, [.tmp 4], 2⟩
def Nl (P : Pg) (x : ((List Int) × Int)) (K : Int → Unit → Prop) : Prop :=
 AX (D := Int) (fun J1 => (((decide ((x.1.length : Int) > (0 : Int))) = true → ((x.1.length : Int) ≠ 0) ∧
 (0 ≤ (Int.tmod x.2 (x.1.length : Int)) ∧ (Int.tmod x.2 (x.1.length : Int)) < (x.1.length : Int)) ∧
 ((Int.toNat (Int.tmod x.2 (x.1.length : Int))) < x.1.length) ∧
 J1 (u64.wrap ((BitVec.toNat (BitVec.ofInt u64.bits (u64.wrap ((u64.wrap (i64.wrap (x.2 + (1 : Int)))) * (11400714819323198485 : Int))) ^^^ BitVec.ofInt u64.bits (u64.wrap (List.getD x.1 (Int.toNat (Int.tmod x.2 (x.1.length : Int))) (0 : Int)))) : Nat) : Int))) ∧ ((decide ((x.1.length : Int) > (0 : Int))) = false → J1 (u64.wrap ((u64.wrap (i64.wrap (x.2 + (1 : Int)))) * (11400714819323198485 : Int)))))) (fun d2 => (0 ≤ (31 : Int)) ∧
 (0 ≤ (29 : Int)) ∧
 (0 ≤ (1 : Int)) ∧
 K (i64.wrap (Int.fdiv (u64.wrap ((BitVec.toNat (BitVec.ofInt u64.bits (u64.wrap ((u64.wrap ((BitVec.toNat (BitVec.ofInt u64.bits d2 ^^^ BitVec.ofInt u64.bits (Int.fdiv d2 (2 ^ (min (Int.toNat (31 : Int)) u64.bits)))) : Nat) : Int)) * (13787848793156543929 : Int))) ^^^ BitVec.ofInt u64.bits (Int.fdiv (u64.wrap ((u64.wrap ((BitVec.toNat (BitVec.ofInt u64.bits d2 ^^^ BitVec.ofInt u64.bits (Int.fdiv d2 (2 ^ (min (Int.toNat (31 : Int)) u64.bits)))) : Nat) : Int)) * (13787848793156543929 : Int))) (2 ^ (min (Int.toNat (29 : Int)) u64.bits)))) : Nat) : Int)) (2 ^ (min (Int.toNat (1 : Int)) u64.bits)))) ())
theorem Qw {P : Pg} (h : Has P HR) {x : DP CV.ps} {K : DP CV.rs → DP (ptrs CV.ps) → Prop} (hw : Nl P x K) : Fn P zS0 CV x K :=
 Er (c := Ll) h rfl rfl (by kernel_rfl) (Eq.mpr (show Ek P HR CV Ll x K = _ by kernel_rfl) hw)
def Xs : Cd :=
 (.seq (.region [o1 8 (.asg (.c (.string ⟨#[]⟩)))]) (.seq (.region [im 11 0, im 12 1, oS ⟨some 13, .call zS0 [11, 12], none⟩ CV, im 14 2, o1 15 (.bin
 .add 14 (kI 1)), oS ⟨some 16, .call zS2 [13, 15], none⟩ B0, ia 2 16]) (.seq (.region [o1 9 (.asg (.c (.string ⟨#[]⟩)))]) (.seq (.seq (.region [ia 10
 (kI 0)]) (.frame (rg [9, 10] 17 17) [] false (.join [.sl 9 false .str .leaf] (.block 0 (.loop [.sl 9 false .str .leaf, .si 10] (.seq (.seq (.region [im 17 10, im 18 2, o1 19 (.bin
 .lss 17 18)]) (.cond 19 .skip (.exit 0))) (.seq (.frame (rg [9] 22 12) [] false (.join [.sl 9 false .str .leaf] (.block 1 (.region [im 22 9, im 23 0, im 24 1, o1 25 (.bin .add 24
 (kI 1)), im 26 10, o1 27 (.bin .add 25 26), oS ⟨some 28, .call zS0 [23, 27], none⟩ CV, im 29 3, oS ⟨some 30, .call zS2 [28,
 29], none⟩ B0, oS ⟨some 31, .call zS4 [30], none⟩ Ve, o1 32 (.bin .add 22 31), o1 33 (.bin .add 32 (.c (.string ⟨#[10]⟩))), ia 9 33]))))
 (.region [im 20 10, o1 21 (.bin .add 20 (kI 1)), ia 10 21])))))))) (.seq (.seq (.region [im 34 0, im 35 1, o1 36 (.bin .add 35 (kI 90)), oS ⟨some 37, .call
 zS0 [34, 36], none⟩ CV, o1 38 (.bin .rem 37 (kI 4)), o1 39 (.bin .eql 38 (kI 0)), im 40 39, gt 41 40 (.mv 9), gt 42 40 (.lenS 41), gt 43 40 (.bin .gtr
 42 (kI 1)), o1 44 (.pick 40 43 kF), im 45 44, gt 46 45 (.mv 9), gt 47 45 (.mv 9), gt 48 45 (.lenS 47), gt 49 45 (.bin .sub 48 (kI 2)), gt 50 45 (.ixS 46 49), gt 51 45 (.bin .neq 50
 (.c (.int .u8 10))), o1 52 (.pick 45 51 kF)]) (.frame (rg [9] 53 5) [] false (.join [.sl 9 false .str .leaf] (.cond 52 (.region [im 53 9, im 54 9, o1 55 (.lenS 54), o1 56 (.bin
 .sub 55 (kI 1)), o1 57 (.slS 53 none (some 56)), ia 9 57]) .skip)))) (.seq (.region [im 58 9, ia 8 58]) .ret))))))
def Xe : AFn := ⟨ zS5, Xs.erase, [.tmp 8], 4⟩
def XG (P : Pg) (x : ((List Int) × (Int × (Int × Int)))) (K : (List UInt8) → Unit → Prop) : Prop :=
 Fn P zS0 CV (x.1, x.2.1) (fun (d1 : Int) (e2 : Unit) => Fn P zS2 B0 (d1, (i64.wrap (x.2.2.1 + (1 : Int)))) (fun (d3 : Int) (e4 : Unit) => AX (D := (List UInt8)) (fun J5 => EM (D := ((List UInt8) × Int)) (([] : List UInt8), (0 : Int)) (fun d7 J8 => (((decide (d7.2 < d3)) = true → AX (D := (List UInt8)) (fun J9 => Fn P zS0 CV (x.1, (i64.wrap ((i64.wrap (x.2.1 + (1 : Int))) + d7.2))) (fun (d11 : Int) (e12 : Unit) => Fn P zS2 B0 (d11, x.2.2.2) (fun (d13 : Int) (e14 : Unit) => Fn P zS4 Ve d13 (fun (d15 : (List UInt8)) (e16 : Unit) => (d7.1.length + d15.length ≤ 9223372036854775807) ∧
 (List.length (d7.1 ++ d15) + List.length ([10] : List UInt8) ≤ 9223372036854775807) ∧
 J9 ((d7.1 ++ d15) ++ ([10] : List UInt8)))))) (fun d10 => J8 (d10, (i64.wrap (d7.2 + (1 : Int)))))) ∧ ((decide (d7.2 < d3)) = false → J5 d7.1)))) (fun d6 => Fn P zS0 CV (x.1, (i64.wrap (x.2.1 + (90 : Int)))) (fun (d17 : Int) (e18 : Unit) => ((4 : Int) ≠ 0) ∧
 (((cond ((Int.tmod d17 (4 : Int)) == (0 : Int)) (decide ((d6.length : Int) > (1 : Int))) false) = true → 0 ≤ (i64.wrap ((d6.length : Int) - (2 : Int))) ∧ (i64.wrap ((d6.length : Int) - (2 : Int))) < (d6.length : Int))) ∧
 AX (D := (List UInt8)) (fun J19 => (((cond (cond ((Int.tmod d17 (4 : Int)) == (0 : Int)) (decide ((d6.length : Int) > (1 : Int))) false) (((UInt8.toNat (List.getD d6 (Int.toNat (i64.wrap ((d6.length : Int) - (2 : Int)))) 0) : Nat) : Int) != (10 : Int)) false) = true → (0 ≤ (i64.wrap ((d6.length : Int) - (1 : Int))) ∧ (i64.wrap ((d6.length : Int) - (1 : Int))) ≤ (d6.length : Int)) ∧
 J19 (List.take (Int.toNat (i64.wrap ((d6.length : Int) - (1 : Int)))) d6)) ∧ ((cond (cond ((Int.tmod d17 (4 : Int)) == (0 : Int)) (decide ((d6.length : Int) > (1 : Int))) false) (((UInt8.toNat (List.getD d6 (Int.toNat (i64.wrap ((d6.length : Int) - (2 : Int)))) 0) : Nat) : Int) != (10 : Int)) false) = false → J19 d6))) (fun d20 => K d20 ())))))
theorem X3 {P : Pg} (h : Has P Xe) {x : DP WQ.ps} {K : DP WQ.rs → DP (ptrs WQ.ps) → Prop} (hw : XG P x K) : Fn P zS5 WQ x K :=
 Er (c := Xs) h rfl rfl (by kernel_rfl) (Eq.mpr (show Ek P Xe WQ Xs x K = _ by kernel_rfl) hw)
def Vs : Cd :=
 (.seq (.region [o1 2 (.asg (.c (.slice none 0 0)))]) (.seq (.region [o1 3 (.asg (.c (.slice none 0 0)))]) (.seq (.region [ia 4 (kI 0)]) (.seq (.seq (.region [ia 5 (kI 0)]) (.frame
 (rg [] 3 30) [] false (.join [.sl 3 false (.sl .str) tO] (.block 0 (.loop [.sl 3 false (.sl .str) tO, .si 4, .si 5] (.seq (.seq (.region [im 6 5, im 7 0, o1 8 (.lenS 7), o1 9 (.bin
 .lss 6 8)]) (.cond 9 .skip (.exit 0))) (.seq (.frame (rg [3, 4] 12 21) [] false (.join [.sl 3 false (.sl .str) tO, .si 4] (.block 1 (.seq (.region [im 12 0, im 13 5, o1 14 (.ixS 12
 13), o1 15 (.bin .eql 14 (.c (.int .u8 10))), im 16 15, gf 17 16 (.mv 5), gf 18 16 (.bin .add 17 (kI 1)), gf 19 16 (.mv 0), gf 20 16 (.lenS 19), gf 21 16 (.bin .eql 18 20), o1 22
 (.pick 16 kT 21)]) (.frame (rg [3, 4] 23 10) [] false (.join [.sl 3 false (.sl .str) tO, .si 4] (.cond 22 (.seq (.region [im 23 3, im 24 0, im 25 4, im 26 5, o1 27 (.bin .add 26
 (kI 1)), o1 28 (.slS 24 (some 25) (some 27)), oT ⟨some 29, .buildSl 1 [(.string ⟨#[]⟩)] 1 [(0, 28)], none⟩ (some (.str, .leaf)), oT ⟨some 30, .app 1 16 23 29, none⟩ (some (.str,
 .leaf)), ia 3 30]) (.region [im 31 5, o1 32 (.bin .add 31 (kI 1)), ia 4 32])) .skip))))))) (.region [im 10 5, o1 11 (.bin .add 10 (kI 1)), ia 5 11])))))))) (.seq (.region [im 33 3,
 ia 2 33]) .ret)))))
def Vj : AFn := ⟨ zS6, Vs.erase, [.tmp 2], 1⟩
def VC (P : Pg) (x : (List UInt8)) (K : (List (List UInt8)) → Unit → Prop) : Prop :=
 AX (D := (List (List UInt8))) (fun J1 => EM (D := ((List (List UInt8)) × (Int × Int))) ([], ((0 : Int), (0 : Int))) (fun d3 J4 => (((decide (d3.2.2 < (x.length : Int))) = true → AX (D := ((List (List UInt8)) × Int)) (fun J5 => (0 ≤ d3.2.2 ∧ d3.2.2 < (x.length : Int)) ∧
 AX (D := ((List (List UInt8)) × Int)) (fun J7 => (((cond (((x.getD d3.2.2.toNat 0).toNat : Int) == (10 : Int)) true ((i64.wrap (d3.2.2 + (1 : Int))) == (x.length : Int))) = true → (0 ≤ d3.2.1 ∧ d3.2.1 ≤ (i64.wrap (d3.2.2 + (1 : Int))) ∧ (i64.wrap (d3.2.2 + (1 : Int))) ≤ (x.length : Int)) ∧
 ((d3.1.length + List.length ([(List.drop d3.2.1.toNat (List.take (Int.toNat (i64.wrap (d3.2.2 + (1 : Int)))) x))] : List (List UInt8))) * 16 ≤ 140737488355328) ∧
 J7 ((d3.1 ++ ([(List.drop d3.2.1.toNat (List.take (Int.toNat (i64.wrap (d3.2.2 + (1 : Int)))) x))] : List (List UInt8))), (i64.wrap (d3.2.2 + (1 : Int))))) ∧ ((cond (((x.getD d3.2.2.toNat 0).toNat : Int) == (10 : Int)) true ((i64.wrap (d3.2.2 + (1 : Int))) == (x.length : Int))) = false → J7 (d3.1, d3.2.1)))) (fun d8 => J5 d8)) (fun d6 => J4 (d6.1, (d6.2, (i64.wrap (d3.2.2 + (1 : Int))))))) ∧ ((decide (d3.2.2 < (x.length : Int))) = false → J1 d3.1)))) (fun d2 => K d2 ())
theorem VQ {P : Pg} (h : Has P Vj) {x : DP Vb.ps} {K : DP Vb.rs → DP (ptrs Vb.ps) → Prop} (hw : VC P x K) : Fn P zS6 Vb x K :=
 Er (c := Vs) h rfl rfl (by kernel_rfl) (Eq.mpr (show Ek P Vj Vb Vs x K = _ by kernel_rfl) hw)
def Xt : Cd :=
 (.seq (.region [o1 6 (.asg (.c (.string ⟨#[]⟩)))]) (.seq (.region [im 10 0, oS ⟨some 11, .call zS6 [10], none⟩ Vb, ia 7 11]) (.seq (.region
 [o1 8 (.asg (.c (.string ⟨#[]⟩)))]) (.seq (.seq (.region [ia 9 (kI 0)]) (.frame (rg [8, 9] 12 32) [] false (.join [.sl 8 false .str .leaf] (.block 0 (.loop [.sl 8 false .str .leaf,
 .si 9] (.seq (.seq (.region [im 12 9, im 13 7, o1 14 (.lenK 13), o1 15 (.bin .lss 12 14)]) (.cond 15 .skip (.exit 0))) (.seq (.frame (rg [8] 18 26) [] false (.join [.sl 8 false
 .str .leaf] (.block 1 (.seq (.seq (.region [im 18 1, im 19 2, im 20 9, o1 21 (.bin .add 19 20), oS ⟨some 22, .call zS0 [18, 21], none⟩ CV, o1 23 (.bin
 .rem 22 (kI 6))]) (.frame (rg [8] 24 14) [] false (.join [.sl 8 false .str .leaf] (.block 2 (.seq (.region [o1 25 (.bin .eql 23 (kI 0)), ia 24 25]) (.cond 24 (.exit 1) (.seq
 (.region [o1 27 (.bin .eql 23 (kI 1)), ia 26 27]) (.frame (rg [8] 28 10) [] false (.join [.sl 8 false .str .leaf] (.cond 26 (.region [im 28 8, im 29 1, im 30 2, o1 31 (.bin .add 30
 (kI 40)), im 32 9, o1 33 (.bin .add 31 32), oS ⟨some 34, .call zS0 [29, 33], none⟩ CV, oS ⟨some 35, .call zS4 [34], none⟩
 Ve, o1 36 (.bin .add 28 35), o1 37 (.bin .add 36 (.c (.string ⟨#[10]⟩))), ia 8 37]) .skip)))))))))) (.region [im 38 8, im 39 7, im 40 9, o1 41 (.ixA 1 39 40), ld 42 41, o1
 43 (.bin .add 38 42), ia 8 43]))))) (.region [im 16 9, o1 17 (.bin .add 16 (kI 1)), ia 9 17])))))))) (.seq (.region [im 44 8, ia 6 44]) .ret)))))
def Xf : AFn := ⟨ zS7, Xt.erase, [.tmp 6], 3⟩
def XH (P : Pg) (x : ((List UInt8) × ((List Int) × Int))) (K : (List UInt8) → Unit → Prop) : Prop :=
 Fn P zS6 Vb x.1 (fun (d1 : (List (List UInt8))) (e2 : Unit) => AX (D := (List UInt8)) (fun J3 => EM (D := ((List UInt8) × Int)) (([] : List UInt8), (0 : Int)) (fun d5 J6 => (((decide (d5.2 < (d1.length : Int))) = true → AX (D := (List UInt8)) (fun J7 => Fn P zS0 CV (x.2.1, (i64.wrap (x.2.2 + d5.2))) (fun (d9 : Int) (e10 : Unit) => ((6 : Int) ≠ 0) ∧
 AX (D := (List UInt8)) (fun J11 => ((((Int.tmod d9 (6 : Int)) == (0 : Int)) = true → J7 d5.1) ∧ (((Int.tmod d9 (6 : Int)) == (0 : Int)) = false → AX (D := (List UInt8)) (fun J13 => ((((Int.tmod d9 (6 : Int)) == (1 : Int)) = true → Fn P zS0 CV (x.2.1, (i64.wrap ((i64.wrap (x.2.2 + (40 : Int))) + d5.2))) (fun (d15 : Int) (e16 : Unit) => Fn P zS4 Ve d15 (fun (d17 : (List UInt8)) (e18 : Unit) => (d5.1.length + d17.length ≤ 9223372036854775807) ∧
 (List.length (d5.1 ++ d17) + List.length ([10] : List UInt8) ≤ 9223372036854775807) ∧
 J13 ((d5.1 ++ d17) ++ ([10] : List UInt8))))) ∧ (((Int.tmod d9 (6 : Int)) == (1 : Int)) = false → J13 d5.1))) (fun d14 => J11 d14)))) (fun d12 => (0 ≤ d5.2 ∧ d5.2 < (d1.length : Int)) ∧
 (d5.2.toNat < d1.length) ∧
 (d12.length + List.length (List.getD d1 d5.2.toNat []) ≤ 9223372036854775807) ∧
 J7 (d12 ++ (List.getD d1 d5.2.toNat []))))) (fun d8 => J6 (d8, (i64.wrap (d5.2 + (1 : Int)))))) ∧ ((decide (d5.2 < (d1.length : Int))) = false → J3 d5.1)))) (fun d4 => K d4 ()))
theorem X4 {P : Pg} (h : Has P Xf) {x : DP WR.ps} {K : DP WR.rs → DP (ptrs WR.ps) → Prop} (hw : XH P x K) : Fn P zS7 WR x K :=
 Er (c := Xt) h rfl rfl (by kernel_rfl) (Eq.mpr (show Ek P Xf WR Xt x K = _ by kernel_rfl) hw)
def YE : Cd :=
 (.seq (.region [o1 4 (.asg kF)]) (.seq (.seq (.region [im 13 1, o1 14 (.lenS 13), o1 15 (.bin .gtr 14 (kI 60))]) (.cond 15 (.seq (.region [oS ⟨some 16, .call
 zS3 [], none⟩ WJ, ia 4 16]) .ret) .skip)) (.seq (.region [im 17 0, oS ⟨some 18, .call zS5 [17, (kI 0), (kI 7), (kI
 4)], none⟩ WQ, ia 5 18]) (.seq (.region [im 19 5, im 20 5, im 21 0, oS ⟨some 22, .call zS7 [20, 21, (kI 100)], none⟩ WR, im 23 1, oT ⟨some
 24, .buildSl 1 [(.string ⟨#[]⟩)] 4 [(0, 19), (1, 22), (2, 23), (3, (.c (.string ⟨#[]⟩)))], none⟩ (some (.str, .leaf)), ia 6 24]) (.seq (.seq (.region [ia 7 (kI 0)]) (.frame (rg [4,
 7, 8, 9, 10, 11, 12] 25 65) [] false (.join [.sl 4 false .bool .leaf] (.block 0 (.loop [.sl 4 false .bool .leaf, .si 7] (.seq (.seq (.region [im 25 7, o1 26 (.bin .lss 25 (kI 4))])
 (.cond 26 .skip (.exit 0))) (.seq (.frame (rg [4, 8, 9, 10, 11, 12] 29 61) [] false (.join [.sl 4 false .bool .leaf] (.block 1 (.seq (.region [ia 8 (kI 0)]) (.frame (rg [4, 8, 9,
 10, 11, 12] 29 61) [] false (.join [.sl 4 false .bool .leaf] (.block 2 (.loop [.sl 4 false .bool .leaf, .si 8] (.seq (.seq (.region [im 29 8, o1 30 (.bin .lss 29 (kI 4))]) (.cond
 30 .skip (.exit 2))) (.seq (.frame (rg [4, 9, 10, 11, 12] 33 57) [] false (.join [.sl 4 false .bool .leaf] (.block 3 (.seq (.frame (rg [9, 10] 33 12) [] false (.join [.si 9, .si
 10] (.draw [(.first (im 34 6) (.first (im 35 7) (.first (o1 36 (.ixA 1 34 35)) (.first (ld 37 36) (.first (im 38 6) (.first (im 39 8) (.first (o1 40 (.ixA 1 38 39)) (.first (ld 41
 40) (.alt (oS ⟨some 42, .call zS1 [37, 41], none⟩ WI) (.first (im 33 42) (.alt (o1 43 (.ext 33 0)) (.alt (o1 44 (.ext 33 1)) (.alt (ia 9 43)
 (.alt (ia 10 44) .done .stop) .stop) (.alt (ia 9 43) (.alt (o1 44 (.ext 33 1)) (.alt (ia 10 44) .done .stop) .stop) .stop)) (.alt (o1 44 (.ext 33 1)) (.alt (o1 43 (.ext 33 0))
 (.alt (ia 9 43) (.alt (ia 10 44) .done .stop) .stop) .stop) .stop))) .stop)))))))))]))) (.seq (.frame (rg [11, 12] 45 12) [] false (.join [.si 11, .si 12] (.draw [(.first (im 46 6)
 (.first (im 47 8) (.first (o1 48 (.ixA 1 46 47)) (.first (ld 49 48) (.first (im 50 6) (.first (im 51 7) (.first (o1 52 (.ixA 1 50 51)) (.first (ld 53 52) (.alt (oS ⟨some 54, .call
 zS1 [49, 53], none⟩ WI) (.first (im 45 54) (.alt (o1 55 (.ext 45 0)) (.alt (o1 56 (.ext 45 1)) (.alt (ia 11 55) (.alt (ia 12 56) .done .stop)
 .stop) (.alt (ia 11 55) (.alt (o1 56 (.ext 45 1)) (.alt (ia 12 56) .done .stop) .stop) .stop)) (.alt (o1 56 (.ext 45 1)) (.alt (o1 55 (.ext 45 0)) (.alt (ia 11 55) (.alt (ia 12 56)
 .done .stop) .stop) .stop) .stop))) .stop)))))))))]))) (.seq (.draw [(.first (im 57 10) (.first (o1 58 (.bin .neq 57 (kI 0))) (.first (im 59 58) (.first (gf 60 59 (.mv 12)) (.first
 (gf 61 59 (.bin .neq 60 (kI 0))) (.first (o1 62 (.pick 59 kT 61)) (.first (im 63 62) (.first (gf 64 63 (.mv 9)) (.first (gf 65 63 (.mv 11)) (.first (gf 66 63 (.bin .neq 64 65))
 (.first (o1 67 (.pick 63 kT 66)) (.first (im 68 67) (.first (gf 69 68 (.mv 9)) (.first (gf 70 68 (.bin .lss 69 (kI 0))) (.first (o1 71 (.pick 68 kT 70)) (.first (im 72 71) (.first
 (gf 73 72 (.mv 9)) (.first (gf 74 72 (.bin .gtr 73 (kI 100))) (.first (o1 75 (.pick 72 kT 74)) (.first (im 76 75) (.first (gf 77 76 (.mv 9)) (.first (gf 78 76 (.bin .eql 77 (kI
 100))) (.first (gf 79 76 (.mv 6)) (.first (gf 80 76 (.mv 7)) (.first (gf 81 76 (.ixA 1 79 80)) (.first (gf 82 76 (.load false 1 81)) (.first (gf 83 76 (.mv 6)) (.first (gf 84 76
 (.mv 8)) (.first (gf 85 76 (.ixA 1 83 84)) (.first (gf 86 76 (.load false 1 85)) (.first (gf 87 76 (.bin .eql 82 86)) (.first (gf 88 76 (.eqB true 78 87)) (.first (o1 89 (.pick 76
 kT 88)) .done)))))))))))))))))))))))))))))))))]) (.cond 89 (.seq (.region [o1 4 (.asg kF)]) .ret) .skip))))))) (.region [im 31 8, o1 32 (.bin .add 31 (kI 1)), ia 8 32])))))))))))
 (.region [im 27 7, o1 28 (.bin .add 27 (kI 1)), ia 7 28])))))))) (.seq (.region [oS ⟨some 90, .call zS3 [], none⟩ WJ, ia 4 90]) .ret))))))
def YD : AFn := ⟨ Q3, YE.erase, [.tmp 4], 2⟩
def YF (P : Pg) (x : ((List Int) × (List UInt8))) (K : Bool → Unit → Prop) : Prop :=
 (((decide ((x.2.length : Int) > (60 : Int))) = true → Fn P zS3 WJ () (fun (d1 : Bool) (e2 : Unit) => K d1 ())) ∧ ((decide ((x.2.length : Int) > (60 : Int))) = false → Fn P zS5 WQ (x.1, ((0 : Int), ((7 : Int), (4 : Int)))) (fun (d3 : (List UInt8)) (e4 : Unit) => Fn P zS7 WR (d3, (x.1, (100 : Int))) (fun (d5 : (List UInt8)) (e6 : Unit) => AX (D := Bool) (fun J7 => EM (D := (Bool × Int)) (false, (0 : Int)) (fun d9 J10 => (((decide (d9.2 < (4 : Int))) = true → AX (D := Bool) (fun J11 => AX (D := Bool) (fun J13 => EM (D := (Bool × Int)) (d9.1, (0 : Int)) (fun d15 J16 => (((decide (d15.2 < (4 : Int))) = true → AX (D := Bool) (fun J17 => AX (D := (Int × Int)) (fun J19 => (0 ≤ d9.2 ∧ d9.2 < ((List.length ([d3, d5, x.2, ([] : List UInt8)] : List (List UInt8)) : Nat) : Int)) ∧
 (d9.2.toNat < List.length ([d3, d5, x.2, ([] : List UInt8)] : List (List UInt8))) ∧
 (0 ≤ d15.2 ∧ d15.2 < ((List.length ([d3, d5, x.2, ([] : List UInt8)] : List (List UInt8)) : Nat) : Int)) ∧
 (d15.2.toNat < List.length ([d3, d5, x.2, ([] : List UInt8)] : List (List UInt8))) ∧
 (Fn P zS1 WI ((List.getD ([d3, d5, x.2, ([] : List UInt8)] : List (List UInt8)) d9.2.toNat []), (List.getD ([d3, d5, x.2, ([] : List UInt8)] : List (List UInt8)) d15.2.toNat [])) (fun (d21 : (Int × Int)) (e22 : Unit) => ((((J19 d21) ∧ True) ∧ True) ∧ ((((J19 d21) ∧ True) ∧ True) ∧ True)) ∧ (((((J19 d21) ∧ True) ∧ True) ∧ True) ∧ True))) ∧ True) (fun d20 => AX (D := (Int × Int)) (fun J23 => (0 ≤ d15.2 ∧ d15.2 < ((List.length ([d3, d5, x.2, ([] : List UInt8)] : List (List UInt8)) : Nat) : Int)) ∧
 (d15.2.toNat < List.length ([d3, d5, x.2, ([] : List UInt8)] : List (List UInt8))) ∧
 (0 ≤ d9.2 ∧ d9.2 < ((List.length ([d3, d5, x.2, ([] : List UInt8)] : List (List UInt8)) : Nat) : Int)) ∧
 (d9.2.toNat < List.length ([d3, d5, x.2, ([] : List UInt8)] : List (List UInt8))) ∧
 (Fn P zS1 WI ((List.getD ([d3, d5, x.2, ([] : List UInt8)] : List (List UInt8)) d15.2.toNat []), (List.getD ([d3, d5, x.2, ([] : List UInt8)] : List (List UInt8)) d9.2.toNat [])) (fun (d25 : (Int × Int)) (e26 : Unit) => ((((J23 d25) ∧ True) ∧ True) ∧ ((((J23 d25) ∧ True) ∧ True) ∧ True)) ∧ (((((J23 d25) ∧ True) ∧ True) ∧ True) ∧ True))) ∧ True) (fun d24 => (((cond (cond (cond (cond (d20.2 != (0 : Int)) true (d24.2 != (0 : Int))) true (d20.1 != d24.1)) true (decide (d20.1 < (0 : Int)))) true (decide (d20.1 > (100 : Int)))) = false → 0 ≤ d9.2 ∧ d9.2 < ((List.length ([d3, d5, x.2, ([] : List UInt8)] : List (List UInt8)) : Nat) : Int))) ∧
 (((cond (cond (cond (cond (d20.2 != (0 : Int)) true (d24.2 != (0 : Int))) true (d20.1 != d24.1)) true (decide (d20.1 < (0 : Int)))) true (decide (d20.1 > (100 : Int)))) = false → d9.2.toNat < List.length ([d3, d5, x.2, ([] : List UInt8)] : List (List UInt8)))) ∧
 (((cond (cond (cond (cond (d20.2 != (0 : Int)) true (d24.2 != (0 : Int))) true (d20.1 != d24.1)) true (decide (d20.1 < (0 : Int)))) true (decide (d20.1 > (100 : Int)))) = false → 0 ≤ d15.2 ∧ d15.2 < ((List.length ([d3, d5, x.2, ([] : List UInt8)] : List (List UInt8)) : Nat) : Int))) ∧
 (((cond (cond (cond (cond (d20.2 != (0 : Int)) true (d24.2 != (0 : Int))) true (d20.1 != d24.1)) true (decide (d20.1 < (0 : Int)))) true (decide (d20.1 > (100 : Int)))) = false → d15.2.toNat < List.length ([d3, d5, x.2, ([] : List UInt8)] : List (List UInt8)))) ∧
 (((cond (cond (cond (cond (cond (d20.2 != (0 : Int)) true (d24.2 != (0 : Int))) true (d20.1 != d24.1)) true (decide (d20.1 < (0 : Int)))) true (decide (d20.1 > (100 : Int)))) true (!((d20.1 == (100 : Int)) == ((List.getD ([d3, d5, x.2, ([] : List UInt8)] : List (List UInt8)) d9.2.toNat []) == (List.getD ([d3, d5, x.2, ([] : List UInt8)] : List (List UInt8)) d15.2.toNat []))))) = true → K false ()) ∧ ((cond (cond (cond (cond (cond (d20.2 != (0 : Int)) true (d24.2 != (0 : Int))) true (d20.1 != d24.1)) true (decide (d20.1 < (0 : Int)))) true (decide (d20.1 > (100 : Int)))) true (!((d20.1 == (100 : Int)) == ((List.getD ([d3, d5, x.2, ([] : List UInt8)] : List (List UInt8)) d9.2.toNat []) == (List.getD ([d3, d5, x.2, ([] : List UInt8)] : List (List UInt8)) d15.2.toNat []))))) = false → J17 d15.1))))) (fun d18 => J16 (d18, (i64.wrap (d15.2 + (1 : Int)))))) ∧ ((decide (d15.2 < (4 : Int))) = false → J13 d15.1)))) (fun d14 => J11 d14)) (fun d12 => J10 (d12, (i64.wrap (d9.2 + (1 : Int)))))) ∧ ((decide (d9.2 < (4 : Int))) = false → J7 d9.1)))) (fun d8 => Fn P zS3 WJ () (fun (d27 : Bool) (e28 : Unit) => K d27 ()))))))
theorem YG {P : Pg} (h : Has P YD) {x : DP YC.ps} {K : DP YC.rs → DP (ptrs YC.ps) → Prop} (hw : YF P x K) : Fn P Q3 YC x K :=
 Er (c := YE) h rfl rfl (by kernel_rfl) (Eq.mpr (show Ek P YD YC YE x K = _ by kernel_rfl) hw)
def Gf : Cd :=
 (.seq (.region [o1 2 (.asg kF)]) (.seq (.region [im 3 0, oS ⟨some 4, .call "strings.HasSuffix" [3, (.c (.string ⟨#[10]⟩))], none⟩ BO, ia 2 4]) .ret))
def Ev : AFn := ⟨ zS8, Gf.erase, [.tmp 2], 1⟩
def HU (P : Pg) (x : (List UInt8)) (K : Bool → Unit → Prop) : Prop :=
 Fn P "strings.HasSuffix" BO (x, ([10] : List UInt8)) (fun (d1 : Bool) (e2 : Unit) => K d1 ())
theorem Lw {P : Pg} (h : Has P Ev) {x : DP Cb.ps} {K : DP Cb.rs → DP (ptrs Cb.ps) → Prop} (hw : HU P x K) : Fn P zS8 Cb x K :=
 Er (c := Gf) h rfl rfl (by kernel_rfl) (Eq.mpr (show Ek P Ev Cb Gf x K = _ by kernel_rfl) hw)
def Ge : Cd :=
 (.seq (.region [ia 2 (kI 0)]) (.seq (.region [im 4 0, oS ⟨some 5, .call "strings.Count" [4, (.c (.string ⟨#[10]⟩))], none⟩ CE, ia 3 5]) (.seq (.seq (.region [im 6 0,
 o1 7 (.bin .neq 6 (.c (.string ⟨#[]⟩))), im 8 7, gt 9 8 (.mv 0), oS ⟨some 10, .call zS8 [9], some (8, true)⟩ Cb, gt 11 8 (.un .not 10), o1 12 (.pick 8
 11 kF)]) (.frame [3, 13, 14] [] false (.join [.si 3] (.cond 12 (.region [im 13 3, o1 14 (.bin .add 13 (kI 1)), ia 3 14]) .skip)))) (.seq (.seq (.region [im 15 0, o1 16 (.lenS 15),
 o1 17 (.bin .gtr 16 (kI 1048576)), im 18 17, gf 19 18 (.mv 3), gf 20 18 (.bin .gtr 19 (kI 4096)), o1 21 (.pick 18 kT 20)]) (.cond 21 (.seq (.region [ia 2 (kI 1)]) .ret) .skip))
 (.seq (.region [ia 2 (kI 0)]) .ret)))))
def Eu : AFn := ⟨ zS9, Ge.erase, [.tmp 2], 1⟩
def HT (P : Pg) (x : (List UInt8)) (K : Int → Unit → Prop) : Prop :=
 Fn P "strings.Count" CE (x, ([10] : List UInt8)) (fun (d1 : Int) (e2 : Unit) => AX (D := Bool) (fun J3 => (((!(x == ([] : List UInt8))) = true → Fn P zS8 Cb x (fun (d4 : Bool) _ => J3 d4)) ∧ (((!(x == ([] : List UInt8))) = false → J3 false) ∧ True))) (fun d5 => AX (D := Int) (fun J6 => (((cond (!(x == ([] : List UInt8))) (!d5) false) = true → J6 (i64.wrap (d1 + (1 : Int)))) ∧ ((cond (!(x == ([] : List UInt8))) (!d5) false) = false → J6 d1))) (fun d7 => (((cond (decide ((x.length : Int) > (1048576 : Int))) true (decide (d7 > (4096 : Int)))) = true → K (1 : Int) ()) ∧ ((cond (decide ((x.length : Int) > (1048576 : Int))) true (decide (d7 > (4096 : Int)))) = false → K (0 : Int) ())))))
theorem Lv {P : Pg} (h : Has P Eu) {x : DP Ca.ps} {K : DP Ca.rs → DP (ptrs Ca.ps) → Prop} (hw : HT P x K) : Fn P zS9 Ca x K :=
 Er (c := Ge) h rfl rfl (by kernel_rfl) (Eq.mpr (show Ek P Eu Ca Ge x K = _ by kernel_rfl) hw)
def Xj : Cd :=
 (.seq (.region [o1 2 (.asg (.c (.slice none 0 0))), ia 3 (kI 0)]) (.seq (.seq (.region [im 6 0, oS ⟨some 7, .call zS9 [6], none⟩ Ca, ia 4 7]) (.seq
 (.region [im 8 4, o1 9 (.bin .neq 8 (kI 0))]) (.cond 9 (.seq (.region [im 10 4, o1 2 (.asg (.c (.slice none 0 0))), ia 3 10]) .ret) .skip))) (.seq (.region [im 11 0, oS ⟨some 12,
 .call "strings.SplitAfter" [11, (.c (.string ⟨#[10]⟩))], none⟩ Ef, ia 5 12]) (.seq (.seq (.region [im 13 5, im 14 5, o1 15 (.lenK 14), o1 16 (.bin .sub 15 (kI
 1)), o1 17 (.ixA 1 13 16), ld 18 17, o1 19 (.bin .eql 18 (.c (.string ⟨#[]⟩)))]) (.frame (rg [5] 20 5) [] false (.join [.sl 5 false (.sl .str) tO] (.cond 19 (.region [im 20 5, im
 21 5, o1 22 (.lenK 21), o1 23 (.bin .sub 22 (kI 1)), o1 24 (.slK 1 20 none (some 23)), ia 5 24]) .skip)))) (.seq (.region [im 25 5, ia 2 25, ia 3 (kI 0)]) .ret)))))
def W0 : AFn := ⟨ Q2, Xj.erase, [.tmp 2, .tmp 3], 1⟩
def Xx (P : Pg) (x : (List UInt8)) (K : ((List (List UInt8)) × Int) → Unit → Prop) : Prop :=
 Fn P zS9 Ca x (fun (d1 : Int) (e2 : Unit) => (((d1 != (0 : Int)) = true → K ([], d1) ()) ∧ ((d1 != (0 : Int)) = false → Fn P "strings.SplitAfter" Ef (x, ([10] : List UInt8)) (fun (d3 : (List (List UInt8))) (e4 : Unit) => (0 ≤ (i64.wrap ((d3.length : Int) - (1 : Int))) ∧ (i64.wrap ((d3.length : Int) - (1 : Int))) < (d3.length : Int)) ∧
 ((Int.toNat (i64.wrap ((d3.length : Int) - (1 : Int)))) < d3.length) ∧
 AX (D := (List (List UInt8))) (fun J5 => ((((List.getD d3 (Int.toNat (i64.wrap ((d3.length : Int) - (1 : Int)))) []) == ([] : List UInt8)) = true → (0 ≤ (i64.wrap ((d3.length : Int) - (1 : Int))) ∧ (i64.wrap ((d3.length : Int) - (1 : Int))) ≤ (d3.length : Int)) ∧
 (0 + (Int.toNat (i64.wrap ((d3.length : Int) - (1 : Int)))) ≤ d3.length) ∧
 J5 (List.take (Int.toNat (i64.wrap ((d3.length : Int) - (1 : Int)))) (List.drop 0 d3))) ∧ (((List.getD d3 (Int.toNat (i64.wrap ((d3.length : Int) - (1 : Int)))) []) == ([] : List UInt8)) = false → J5 d3))) (fun d6 => K (d6, (0 : Int)) ())))))
theorem XO {P : Pg} (h : Has P W0) {x : DP WN.ps} {K : DP WN.rs → DP (ptrs WN.ps) → Prop} (hw : Xx P x K) : Fn P Q2 WN x K :=
 Er (c := Xj) h rfl rfl (by kernel_rfl) (Eq.mpr (show Ek P W0 WN Xj x K = _ by kernel_rfl) hw)
end Go.VS
