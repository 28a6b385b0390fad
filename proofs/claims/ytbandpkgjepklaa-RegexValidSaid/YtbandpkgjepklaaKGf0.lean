/- Functions of the program: typed code, and what it says, lifted. -/
import Derived.Test.YtbandpkgjepklaaKTxSig
import Derived.KernelRfl
set_option linter.unusedVariables false
set_option linter.unusedSimpArgs false
set_option maxRecDepth 8000
namespace Go.VS
open IntKind
def Oa : Be :=
 (.seq (.region [ia 4 (kI 0)]) (.seq (.region [im 5 0, o1 6 (.conv (.toInt .u64) 5), im 7 1, o1 8 (.conv (.toInt .u64) 7), o1 9 (.bin .rem 6 8), o1 10 (.conv (.toInt .i64) 9), ia 4
 10]) .ret))
def K8 : AFn := ⟨ zS3, Oa.erase, [.tmp 4], 2⟩
def QZ (P : Pg) (x : (Int × Int)) (K : Int → Unit → Prop) : Prop :=
 ((u64.wrap x.2) ≠ 0) ∧
 K (i64.wrap (Int.tmod (u64.wrap x.1) (u64.wrap x.2))) ()
theorem UP {P : Pg} (h : Has P K8) {x : DP BF.ps} {K : DP BF.rs → DP (ptrs BF.ps) → Prop} (hw : QZ P x K) : Fn P zS3 BF x K :=
 BI (c := Oa) h rfl rfl (by kernel_rfl) (Eq.mpr (show BC P K8 BF Oa x K = _ by kernel_rfl) hw)
def Qt : Be :=
 (.seq (.region [ia 4 (kI 0)]) (.seq (.region [im 6 1, o1 7 (.bin .add 6 (kI 1)), o1 8 (.conv (.toInt .u64) 7), o1 9 (.bin .mul 8 (.c (.int .u64 11400714819323198485))), ia 5 9])
 (.seq (.seq (.region [im 10 0, o1 11 (.lenK 10), o1 12 (.bin .gtr 11 (kI 0))]) (.frame (rg [5] 13 10) [] false (.join [.sl 5 false (.int .u64) .leaf] (.cond 12 (.region [im 13 5,
 im 14 0, im 15 1, im 16 0, o1 17 (.lenK 16), o1 18 (.bin .rem 15 17), o1 19 (.ixA 1 14 18), ld 20 19, o1 21 (.conv (.toInt .u64) 20), o1 22 (.bin .xor 13 21), ia 5 22]) .skip))))
 (.seq (.region [im 23 5, im 24 5, o1 25 (.bin .shr 24 (.c (.int .u64 31))), o1 26 (.bin .xor 23 25), o1 27 (.bin .mul 26 (.c (.int .u64 13787848793156543929))), ia 5 27]) (.seq
 (.region [im 28 5, im 29 5, o1 30 (.bin .shr 29 (.c (.int .u64 29))), o1 31 (.bin .xor 28 30), o1 32 (.bin .shr 31 (.c (.int .u64 1))), o1 33 (.conv (.toInt .i64) 32), ia 4 33])
 .ret)))))
def MA : AFn := ⟨ zS2, Qt.erase, [.tmp 4], 2⟩
def Sz (P : Pg) (x : ((List Int) × Int)) (K : Int → Unit → Prop) : Prop :=
 Ag (D := Int) (fun J1 => (((decide ((x.1.length : Int) > (0 : Int))) = true → ((x.1.length : Int) ≠ 0) ∧
 (0 ≤ (Int.tmod x.2 (x.1.length : Int)) ∧ (Int.tmod x.2 (x.1.length : Int)) < (x.1.length : Int)) ∧
 ((Int.toNat (Int.tmod x.2 (x.1.length : Int))) < x.1.length) ∧
 J1 (u64.wrap ((BitVec.toNat (BitVec.ofInt u64.bits (u64.wrap ((u64.wrap (i64.wrap (x.2 + (1 : Int)))) * (11400714819323198485 : Int))) ^^^ BitVec.ofInt u64.bits (u64.wrap (List.getD x.1 (Int.toNat (Int.tmod x.2 (x.1.length : Int))) (0 : Int)))) : Nat) : Int))) ∧ ((decide ((x.1.length : Int) > (0 : Int))) = false → J1 (u64.wrap ((u64.wrap (i64.wrap (x.2 + (1 : Int)))) * (11400714819323198485 : Int)))))) (fun d2 => (0 ≤ (31 : Int)) ∧
 (0 ≤ (29 : Int)) ∧
 (0 ≤ (1 : Int)) ∧
 K (i64.wrap (Int.fdiv (u64.wrap ((BitVec.toNat (BitVec.ofInt u64.bits (u64.wrap ((u64.wrap ((BitVec.toNat (BitVec.ofInt u64.bits d2 ^^^ BitVec.ofInt u64.bits (Int.fdiv d2 (2 ^ (min (Int.toNat (31 : Int)) u64.bits)))) : Nat) : Int)) * (13787848793156543929 : Int))) ^^^ BitVec.ofInt u64.bits (Int.fdiv (u64.wrap ((u64.wrap ((BitVec.toNat (BitVec.ofInt u64.bits d2 ^^^ BitVec.ofInt u64.bits (Int.fdiv d2 (2 ^ (min (Int.toNat (31 : Int)) u64.bits)))) : Nat) : Int)) * (13787848793156543929 : Int))) (2 ^ (min (Int.toNat (29 : Int)) u64.bits)))) : Nat) : Int)) (2 ^ (min (Int.toNat (1 : Int)) u64.bits)))) ())
theorem WI {P : Pg} (h : Has P MA) {x : DP Ce.ps} {K : DP Ce.rs → DP (ptrs Ce.ps) → Prop} (hw : Sz P x K) : Fn P zS2 Ce x K :=
 BI (c := Qt) h rfl rfl (by kernel_rfl) (Eq.mpr (show BC P MA Ce Qt x K = _ by kernel_rfl) hw)
def IC : Be :=
 (.seq (.region [o1 4 (.asg (.c (.string ⟨#[]⟩)))]) (.seq (.region [oT ⟨some 9, .buildSl 1 [(.string ⟨#[]⟩)] 14 [(0, (.c (.string ⟨#[97]⟩))), (1, (.c (.string ⟨#[98]⟩))), (2, (.c
 (.string ⟨#[46]⟩))), (3, (.c (.string ⟨#[91, 97, 98, 93]⟩))), (4, (.c (.string ⟨#[91, 94, 97, 93]⟩))), (5, (.c (.string ⟨#[40, 97, 124, 98, 41]⟩))), (6, (.c (.string ⟨#[40, 97, 98,
 41]⟩))), (7, (.c (.string ⟨#[91, 91, 58, 97, 108, 112, 104, 97, 58, 93, 120, 93]⟩))), (8, (.c (.string ⟨#[92, 43]⟩))), (9, (.c (.string ⟨#[40, 41]⟩))), (10, (.c (.string ⟨#[40, 98,
 124, 41]⟩))), (11, (.c (.string ⟨#[91, 97, 45, 99, 93]⟩))), (12, (.c (.string ⟨#[93]⟩))), (13, (.c (.string ⟨#[120]⟩)))], none⟩ (some (.str, .leaf)), ia 5 9]) (.seq (.region [oT
 ⟨some 10, .buildSl 1 [(.string ⟨#[]⟩)] 10 [(0, (.c (.string ⟨#[]⟩))), (1, (.c (.string ⟨#[]⟩))), (2, (.c (.string ⟨#[]⟩))), (3, (.c (.string ⟨#[42]⟩))), (4, (.c (.string
 ⟨#[43]⟩))), (5, (.c (.string ⟨#[63]⟩))), (6, (.c (.string ⟨#[123, 50, 125]⟩))), (7, (.c (.string ⟨#[123, 49, 44, 50, 125]⟩))), (8, (.c (.string ⟨#[123, 48, 44, 49, 125]⟩))), (9,
 (.c (.string ⟨#[123, 50, 44, 125]⟩)))], none⟩ (some (.str, .leaf)), ia 6 10]) (.seq (.region [o1 7 (.asg (.c (.string ⟨#[]⟩)))]) (.seq (.seq (.region [im 11 0, oS ⟨some 12, .call
 zS2 [11, (kI 1)], none⟩ Ce, o1 13 (.bin .rem 12 (kI 5)), o1 14 (.bin .eql 13 (kI 0))]) (.frame [7] [] false (.join [.sl 7 false .str .leaf] (.cond 14
 (.region [o1 7 (.asg (.c (.string ⟨#[94]⟩)))]) .skip)))) (.seq (.seq (.region [ia 8 (kI 0)]) (.frame (rg [7, 8] 15 33) [] false (.join [.sl 7 false .str .leaf] (.block 0 (.loop
 [.sl 7 false .str .leaf, .si 8] (.seq (.seq (.region [im 15 8, im 16 1, oS ⟨some 17, .call zS3 [16, (kI 8)], none⟩ BF, o1 18 (.bin .lss 15 17)])
 (.cond 18 .skip (.exit 0))) (.seq (.frame (rg [7] 21 27) [] false (.join [.sl 7 false .str .leaf] (.block 1 (.seq (.frame (rg [7] 21 19) [] false (.join [.sl 7 false .str .leaf]
 (.draw [(.first (im 21 7) (.first (im 22 5) (.first (im 23 0) (.first (im 24 8) (.first (o1 25 (.bin .add (kI 10) 24)) (.first (im 31 6) (.first (im 32 0) (.first (im 33 8) (.first
 (o1 34 (.bin .add (kI 30) 33)) (.alt (oS ⟨some 26, .call zS2 [23, 25], none⟩ Ce) (.alt (oS ⟨some 27, .call zS3 [26, (kI 14)],
 none⟩ BF) (.first (o1 28 (.ixA 1 22 27)) (.alt (ld 29 28) (.first (o1 30 (.bin .add 21 29)) (.alt (oS ⟨some 35, .call zS2 [32, 34], none⟩ Ce)
 (.alt (oS ⟨some 36, .call zS3 [35, (kI 10)], none⟩ BF) (.first (o1 37 (.ixA 1 31 36)) (.first (ld 38 37) (.first (o1 39 (.bin .add 30 38)) (.alt (ia
 7 39) .done .stop)))) .stop) .stop)) (.alt (oS ⟨some 35, .call zS2 [32, 34], none⟩ Ce) (.alt (ld 29 28) (.first (o1 30 (.bin .add 21 29)) (.alt (oS
 ⟨some 36, .call zS3 [35, (kI 10)], none⟩ BF) (.first (o1 37 (.ixA 1 31 36)) (.first (ld 38 37) (.first (o1 39 (.bin .add 30 38)) (.alt (ia 7 39)
 .done .stop)))) .stop)) (.alt (oS ⟨some 36, .call zS3 [35, (kI 10)], none⟩ BF) (.first (ld 29 28) (.first (o1 30 (.bin .add 21 29)) (.first (o1 37
 (.ixA 1 31 36)) (.first (ld 38 37) (.first (o1 39 (.bin .add 30 38)) (.alt (ia 7 39) .done .stop)))))) .stop)) .stop))) .stop) .stop))))))))))]))) (.seq (.region [im 40 0, im 41 8,
 o1 42 (.bin .add (kI 50) 41), oS ⟨some 43, .call zS2 [40, 42], none⟩ Ce, o1 44 (.bin .rem 43 (kI 6)), o1 45 (.bin .eql 44 (kI 0))]) (.frame [7, 46,
 47] [] false (.join [.sl 7 false .str .leaf] (.cond 45 (.region [im 46 7, o1 47 (.bin .add 46 (.c (.string ⟨#[124]⟩))), ia 7 47]) .skip)))))))) (.region [im 19 8, o1 20 (.bin .add
 19 (kI 1)), ia 8 20])))))))) (.seq (.seq (.region [im 48 0, oS ⟨some 49, .call zS2 [48, (kI 2)], none⟩ Ce, o1 50 (.bin .rem 49 (kI 5)), o1 51 (.bin
 .eql 50 (kI 0))]) (.frame [7, 52, 53] [] false (.join [.sl 7 false .str .leaf] (.cond 51 (.region [im 52 7, o1 53 (.bin .add 52 (.c (.string ⟨#[36]⟩))), ia 7 53]) .skip)))) (.seq
 (.region [im 54 7, ia 4 54]) .ret))))))))
def Gh : AFn := ⟨ XF, IC.erase, [.tmp 4], 2⟩
abbrev Bo : List (List UInt8) := ([([97] : List UInt8), ([98] : List UInt8), ([46] : List UInt8), ([91, 97, 98, 93] : List UInt8), ([91, 94, 97, 93] : List UInt8), ([40, 97, 124, 98, 41] : List UInt8), ([40, 97, 98, 41] : List UInt8), ([91, 91, 58, 97, 108, 112, 104, 97, 58, 93, 120, 93] : List UInt8), ([92, 43] : List UInt8), ([40, 41] : List UInt8), ([40, 98, 124, 41] : List UInt8), ([91, 97, 45, 99, 93] : List UInt8), ([93] : List UInt8), ([120] : List UInt8)] : List (List UInt8))
abbrev BE : List (List UInt8) := ([([] : List UInt8), ([] : List UInt8), ([] : List UInt8), ([42] : List UInt8), ([43] : List UInt8), ([63] : List UInt8), ([123, 50, 125] : List UInt8), ([123, 49, 44, 50, 125] : List UInt8), ([123, 48, 44, 49, 125] : List UInt8), ([123, 50, 44, 125] : List UInt8)] : List (List UInt8))
def LO (P : Pg) (x : ((List Int) × Int)) (K : (List UInt8) → Unit → Prop) : Prop :=
 Fn P zS2 Ce (x.1, (1 : Int)) (fun (d1 : Int) (e2 : Unit) => ((5 : Int) ≠ 0) ∧
 Ag (D := (List UInt8)) (fun J3 => ((((Int.tmod d1 (5 : Int)) == (0 : Int)) = true → J3 ([94] : List UInt8)) ∧ (((Int.tmod d1 (5 : Int)) == (0 : Int)) = false → J3 ([] : List UInt8)))) (fun d4 => Ag (D := (List UInt8)) (fun J5 => B0 (D := ((List UInt8) × Int)) (d4, (0 : Int)) (fun d7 J8 => Fn P zS3 BF (x.2, (8 : Int)) (fun (d9 : Int) (e10 : Unit) => (((decide (d7.2 < d9)) = true → Ag (D := (List UInt8)) (fun J11 => Ag (D := (List UInt8)) (fun J13 => (Fn P zS2 Ce (x.1, (i64.wrap ((10 : Int) + d7.2))) (fun (d15 : Int) (e16 : Unit) => (Fn P zS3 BF (d15, (14 : Int)) (fun (d17 : Int) (e18 : Unit) => (0 ≤ d17 ∧ d17 < ((List.length Bo : Nat) : Int)) ∧
 ((d17.toNat < List.length Bo) ∧
 (d7.1.length + List.length (List.getD Bo d17.toNat []) ≤ 9223372036854775807) ∧
 (Fn P zS2 Ce (x.1, (i64.wrap ((30 : Int) + d7.2))) (fun (d19 : Int) (e20 : Unit) => (Fn P zS3 BF (d19, (10 : Int)) (fun (d21 : Int) (e22 : Unit) => (0 ≤ d21 ∧ d21 < ((List.length BE : Nat) : Int)) ∧
 (d21.toNat < List.length BE) ∧
 (List.length (d7.1 ++ (List.getD Bo d17.toNat [])) + List.length (List.getD BE d21.toNat []) ≤ 9223372036854775807) ∧
 (J13 ((d7.1 ++ (List.getD Bo d17.toNat [])) ++ (List.getD BE d21.toNat []))) ∧ True)) ∧ True)) ∧ True) ∧ ((Fn P zS2 Ce (x.1, (i64.wrap ((30 : Int) + d7.2))) (fun (d23 : Int) (e24 : Unit) => ((d17.toNat < List.length Bo) ∧
 (d7.1.length + List.length (List.getD Bo d17.toNat []) ≤ 9223372036854775807) ∧
 (Fn P zS3 BF (d23, (10 : Int)) (fun (d25 : Int) (e26 : Unit) => (0 ≤ d25 ∧ d25 < ((List.length BE : Nat) : Int)) ∧
 (d25.toNat < List.length BE) ∧
 (List.length (d7.1 ++ (List.getD Bo d17.toNat [])) + List.length (List.getD BE d25.toNat []) ≤ 9223372036854775807) ∧
 (J13 ((d7.1 ++ (List.getD Bo d17.toNat [])) ++ (List.getD BE d25.toNat []))) ∧ True)) ∧ True) ∧ ((Fn P zS3 BF (d23, (10 : Int)) (fun (d27 : Int) (e28 : Unit) => (d17.toNat < List.length Bo) ∧
 (d7.1.length + List.length (List.getD Bo d17.toNat []) ≤ 9223372036854775807) ∧
 (0 ≤ d27 ∧ d27 < ((List.length BE : Nat) : Int)) ∧
 (d27.toNat < List.length BE) ∧
 (List.length (d7.1 ++ (List.getD Bo d17.toNat [])) + List.length (List.getD BE d27.toNat []) ≤ 9223372036854775807) ∧
 (J13 ((d7.1 ++ (List.getD Bo d17.toNat [])) ++ (List.getD BE d27.toNat []))) ∧ True)) ∧ True))) ∧ True))) ∧ True)) ∧ True) (fun d14 => Fn P zS2 Ce (x.1, (i64.wrap ((50 : Int) + d7.2))) (fun (d29 : Int) (e30 : Unit) => ((6 : Int) ≠ 0) ∧
 Ag (D := (List UInt8)) (fun J31 => ((((Int.tmod d29 (6 : Int)) == (0 : Int)) = true → (d14.length + List.length ([124] : List UInt8) ≤ 9223372036854775807) ∧
 J31 (d14 ++ ([124] : List UInt8))) ∧ (((Int.tmod d29 (6 : Int)) == (0 : Int)) = false → J31 d14))) (fun d32 => J11 d32)))) (fun d12 => J8 (d12, (i64.wrap (d7.2 + (1 : Int)))))) ∧ ((decide (d7.2 < d9)) = false → J5 d7.1))))) (fun d6 => Fn P zS2 Ce (x.1, (2 : Int)) (fun (d33 : Int) (e34 : Unit) => ((5 : Int) ≠ 0) ∧
 Ag (D := (List UInt8)) (fun J35 => ((((Int.tmod d33 (5 : Int)) == (0 : Int)) = true → (d6.length + List.length ([36] : List UInt8) ≤ 9223372036854775807) ∧
 J35 (d6 ++ ([36] : List UInt8))) ∧ (((Int.tmod d33 (5 : Int)) == (0 : Int)) = false → J35 d6))) (fun d36 => K d36 ())))))
theorem Pw {P : Pg} (h : Has P Gh) {x : DP CJ.ps} {K : DP CJ.rs → DP (ptrs CJ.ps) → Prop} (hw : LO P x K) : Fn P XF CJ x K :=
 BI (c := IC) h rfl rfl (by kernel_rfl) (Eq.mpr (show BC P Gh CJ IC x K = _ by kernel_rfl) hw)
def Mu : Be :=
 (.seq (.region [o1 4 (.asg kF)]) (.seq (.seq (.region [im 6 0, o1 7 (.lenK 6), im 8 1, o1 9 (.lenK 8), o1 10 (.bin .neq 7 9)]) (.cond 10 (.seq (.region [o1 4 (.asg kF)]) .ret)
 .skip)) (.seq (.seq (.region [ia 5 (kI 0)]) (.frame (rg [4, 5] 11 15) [] false (.join [.sl 4 false .bool .leaf] (.block 0 (.loop [.sl 4 false .bool .leaf, .si 5] (.seq (.seq
 (.region [im 11 5, im 12 0, o1 13 (.lenK 12), o1 14 (.bin .lss 11 13)]) (.cond 14 .skip (.exit 0))) (.seq (.frame (rg [4] 17 9) [] false (.join [.sl 4 false .bool .leaf] (.block 1
 (.seq (.draw [(.first (im 17 0) (.first (im 18 5) (.first (o1 19 (.ixA 1 17 18)) (.first (ld 20 19) (.first (im 21 1) (.first (im 22 5) (.first (o1 23 (.ixA 1 21 22)) (.first (ld
 24 23) (.first (o1 25 (.bin .neq 20 24)) .done)))))))))]) (.cond 25 (.seq (.region [o1 4 (.asg kF)]) .ret) .skip))))) (.region [im 15 5, o1 16 (.bin .add 15 (kI 1)), ia 5
 16])))))))) (.seq (.region [o1 4 (.asg kT)]) .ret))))
def Je : AFn := ⟨ Uq, Mu.erase, [.tmp 4], 2⟩
def Pc (P : Pg) (x : ((List Int) × (List Int))) (K : Bool → Unit → Prop) : Prop :=
 ((((x.1.length : Int) != (x.2.length : Int)) = true → K false ()) ∧ (((x.1.length : Int) != (x.2.length : Int)) = false → Ag (D := Bool) (fun J1 => B0 (D := (Bool × Int)) (false, (0 : Int)) (fun d3 J4 => (((decide (d3.2 < (x.1.length : Int))) = true → Ag (D := Bool) (fun J5 => (0 ≤ d3.2 ∧ d3.2 < (x.1.length : Int)) ∧
 (d3.2.toNat < x.1.length) ∧
 (0 ≤ d3.2 ∧ d3.2 < (x.2.length : Int)) ∧
 (d3.2.toNat < x.2.length) ∧
 ((((List.getD x.1 d3.2.toNat (0 : Int)) != (List.getD x.2 d3.2.toNat (0 : Int))) = true → K false ()) ∧ (((List.getD x.1 d3.2.toNat (0 : Int)) != (List.getD x.2 d3.2.toNat (0 : Int))) = false → J5 d3.1))) (fun d6 => J4 (d6, (i64.wrap (d3.2 + (1 : Int)))))) ∧ ((decide (d3.2 < (x.1.length : Int))) = false → J1 d3.1)))) (fun d2 => K true ())))
theorem SZ {P : Pg} (h : Has P Je) {x : DP Df.ps} {K : DP Df.rs → DP (ptrs Df.ps) → Prop} (hw : Pc P x K) : Fn P Uq Df x K :=
 BI (c := Mu) h rfl rfl (by kernel_rfl) (Eq.mpr (show BC P Je Df Mu x K = _ by kernel_rfl) hw)
def K2 : Be :=
 (.seq (.region [o1 4 (.asg kF)]) (.seq (.seq (.region [im 6 0, o1 7 (.lenK 6), im 8 1, o1 9 (.lenK 8), o1 10 (.bin .neq 7 9)]) (.cond 10 (.seq (.region [o1 4 (.asg kF)]) .ret)
 .skip)) (.seq (.seq (.region [ia 5 (kI 0)]) (.frame (rg [4, 5] 11 70) [] false (.join [.sl 4 false .bool .leaf] (.block 0 (.loop [.sl 4 false .bool .leaf, .si 5] (.seq (.seq
 (.region [im 11 5, im 12 0, o1 13 (.lenK 12), o1 14 (.bin .lss 11 13)]) (.cond 14 .skip (.exit 0))) (.seq (.frame (rg [4] 17 64) [] false (.join [.sl 4 false .bool .leaf] (.block 1
 (.seq (.frame (rg [] 17 64) [] false (.join [.sl 80 false .bool .leaf] (.draw [(.first (im 17 0) (.first (im 18 5) (.first (o1 19 (.ixA 8 17 18)) (.first (fa 20 0 19) (.first (ld
 21 20) (.first (im 22 1) (.first (im 23 5) (.first (o1 24 (.ixA 8 22 23)) (.first (fa 25 0 24) (.first (ld 26 25) (.first (o1 27 (.bin .neq 21 26)) (.first (im 28 27) (.first (gf
 29 28 (.mv 0)) (.first (gf 30 28 (.mv 5)) (.first (gf 31 28 (.ixA 8 29 30)) (.first (gf 32 28 (.fAddr 1 31)) (.first (gf 33 28 (.load true 4 32)) (.first (gf 34 28 (.mv 1)) (.first
 (gf 35 28 (.mv 5)) (.first (gf 36 28 (.ixA 8 34 35)) (.first (gf 37 28 (.fAddr 1 36)) (.first (gf 38 28 (.load true 4 37)) (.first (gf 39 28 (.eqA true [.int, .int, .int, .int] 33
 38)) (.first (o1 40 (.pick 28 kT 39)) (.first (im 41 40) (.first (gf 42 41 (.mv 0)) (.first (gf 43 41 (.mv 5)) (.first (gf 44 41 (.ixA 8 42 43)) (.first (gf 45 41 (.fAddr 5 44))
 (.first (gf 46 41 (.load false 1 45)) (.first (gf 47 41 (.mv 1)) (.first (gf 48 41 (.mv 5)) (.first (gf 49 41 (.ixA 8 47 48)) (.first (gf 50 41 (.fAddr 5 49)) (.first (gf 51 41
 (.load false 1 50)) (.first (gf 52 41 (.bin .neq 46 51)) (.first (o1 53 (.pick 41 kT 52)) (.first (im 54 53) (.first (gf 55 54 (.mv 0)) (.first (gf 56 54 (.mv 5)) (.first (gf 57 54
 (.ixA 8 55 56)) (.first (gf 58 54 (.fAddr 6 57)) (.first (gf 59 54 (.load false 1 58)) (.first (gf 60 54 (.mv 1)) (.first (gf 61 54 (.mv 5)) (.first (gf 62 54 (.ixA 8 60 61))
 (.first (gf 63 54 (.fAddr 6 62)) (.first (gf 64 54 (.load false 1 63)) (.first (gf 65 54 (.bin .neq 59 64)) (.first (o1 66 (.pick 54 kT 65)) (.first (im 67 66) (.first (gf 68 67
 (.mv 0)) (.first (gf 69 67 (.mv 5)) (.first (gf 70 67 (.ixA 8 68 69)) (.first (gf 71 67 (.fAddr 7 70)) (.first (gf 72 67 (.load false 1 71)) (.first (gf 73 67 (.mv 1)) (.first (gf
 74 67 (.mv 5)) (.first (gf 75 67 (.ixA 8 73 74)) (.first (gf 76 67 (.fAddr 7 75)) (.first (gf 77 67 (.load false 1 76)) (.alt (oS ⟨some 78, .call Uq [72,
 77], some (67, false)⟩ Df) (.first (gf 79 67 (.un .not 78)) (.first (o1 80 (.pick 67 kT 79)) .done)) .stop))))))))))))))))))))))))))))))))))))))))))))))))))))))))))))))])))
 (.cond 80 (.seq (.region [o1 4 (.asg kF)]) .ret) .skip))))) (.region [im 15 5, o1 16 (.bin .add 15 (kI 1)), ia 5 16])))))))) (.seq (.region [o1 4 (.asg kT)]) .ret))))
def Ie : AFn := ⟨ Ut, K2.erase, [.tmp 4], 2⟩
def Of (P : Pg) (x : ((List Node) × (List Node))) (K : Bool → Unit → Prop) : Prop :=
 ((((x.1.length : Int) != (x.2.length : Int)) = true → K false ()) ∧ (((x.1.length : Int) != (x.2.length : Int)) = false → Ag (D := Bool) (fun J1 => B0 (D := (Bool × Int)) (false, (0 : Int)) (fun d3 J4 => (((decide (d3.2 < (x.1.length : Int))) = true → Ag (D := Bool) (fun J5 => Ag (D := Bool) (fun J7 => (0 ≤ d3.2 ∧ d3.2 < (x.1.length : Int)) ∧
 (d3.2.toNat < x.1.length) ∧
 (0 ≤ d3.2 ∧ d3.2 < (x.2.length : Int)) ∧
 (d3.2.toNat < x.2.length) ∧
 ((((List.getD x.1 d3.2.toNat Ak).1 != (List.getD x.2 d3.2.toNat Ak).1) = false → 0 ≤ d3.2 ∧ d3.2 < (x.1.length : Int))) ∧
 ((((List.getD x.1 d3.2.toNat Ak).1 != (List.getD x.2 d3.2.toNat Ak).1) = false → d3.2.toNat < x.1.length)) ∧
 ((((List.getD x.1 d3.2.toNat Ak).1 != (List.getD x.2 d3.2.toNat Ak).1) = false → 0 ≤ d3.2 ∧ d3.2 < (x.2.length : Int))) ∧
 ((((List.getD x.1 d3.2.toNat Ak).1 != (List.getD x.2 d3.2.toNat Ak).1) = false → d3.2.toNat < x.2.length)) ∧
 (((cond ((List.getD x.1 d3.2.toNat Ak).1 != (List.getD x.2 d3.2.toNat Ak).1) true (!(((List.getD x.1 d3.2.toNat Ak).2.1.1 == (List.getD x.2 d3.2.toNat Ak).2.1.1) && (((List.getD x.1 d3.2.toNat Ak).2.1.2.1 == (List.getD x.2 d3.2.toNat Ak).2.1.2.1) && (((List.getD x.1 d3.2.toNat Ak).2.1.2.2.1 == (List.getD x.2 d3.2.toNat Ak).2.1.2.2.1) && (((List.getD x.1 d3.2.toNat Ak).2.1.2.2.2 == (List.getD x.2 d3.2.toNat Ak).2.1.2.2.2) && true)))))) = false → 0 ≤ d3.2 ∧ d3.2 < (x.1.length : Int))) ∧
 (((cond ((List.getD x.1 d3.2.toNat Ak).1 != (List.getD x.2 d3.2.toNat Ak).1) true (!(((List.getD x.1 d3.2.toNat Ak).2.1.1 == (List.getD x.2 d3.2.toNat Ak).2.1.1) && (((List.getD x.1 d3.2.toNat Ak).2.1.2.1 == (List.getD x.2 d3.2.toNat Ak).2.1.2.1) && (((List.getD x.1 d3.2.toNat Ak).2.1.2.2.1 == (List.getD x.2 d3.2.toNat Ak).2.1.2.2.1) && (((List.getD x.1 d3.2.toNat Ak).2.1.2.2.2 == (List.getD x.2 d3.2.toNat Ak).2.1.2.2.2) && true)))))) = false → d3.2.toNat < x.1.length)) ∧
 (((cond ((List.getD x.1 d3.2.toNat Ak).1 != (List.getD x.2 d3.2.toNat Ak).1) true (!(((List.getD x.1 d3.2.toNat Ak).2.1.1 == (List.getD x.2 d3.2.toNat Ak).2.1.1) && (((List.getD x.1 d3.2.toNat Ak).2.1.2.1 == (List.getD x.2 d3.2.toNat Ak).2.1.2.1) && (((List.getD x.1 d3.2.toNat Ak).2.1.2.2.1 == (List.getD x.2 d3.2.toNat Ak).2.1.2.2.1) && (((List.getD x.1 d3.2.toNat Ak).2.1.2.2.2 == (List.getD x.2 d3.2.toNat Ak).2.1.2.2.2) && true)))))) = false → 0 ≤ d3.2 ∧ d3.2 < (x.2.length : Int))) ∧
 (((cond ((List.getD x.1 d3.2.toNat Ak).1 != (List.getD x.2 d3.2.toNat Ak).1) true (!(((List.getD x.1 d3.2.toNat Ak).2.1.1 == (List.getD x.2 d3.2.toNat Ak).2.1.1) && (((List.getD x.1 d3.2.toNat Ak).2.1.2.1 == (List.getD x.2 d3.2.toNat Ak).2.1.2.1) && (((List.getD x.1 d3.2.toNat Ak).2.1.2.2.1 == (List.getD x.2 d3.2.toNat Ak).2.1.2.2.1) && (((List.getD x.1 d3.2.toNat Ak).2.1.2.2.2 == (List.getD x.2 d3.2.toNat Ak).2.1.2.2.2) && true)))))) = false → d3.2.toNat < x.2.length)) ∧
 (((cond (cond ((List.getD x.1 d3.2.toNat Ak).1 != (List.getD x.2 d3.2.toNat Ak).1) true (!(((List.getD x.1 d3.2.toNat Ak).2.1.1 == (List.getD x.2 d3.2.toNat Ak).2.1.1) && (((List.getD x.1 d3.2.toNat Ak).2.1.2.1 == (List.getD x.2 d3.2.toNat Ak).2.1.2.1) && (((List.getD x.1 d3.2.toNat Ak).2.1.2.2.1 == (List.getD x.2 d3.2.toNat Ak).2.1.2.2.1) && (((List.getD x.1 d3.2.toNat Ak).2.1.2.2.2 == (List.getD x.2 d3.2.toNat Ak).2.1.2.2.2) && true)))))) true ((List.getD x.1 d3.2.toNat Ak).2.2.1 != (List.getD x.2 d3.2.toNat Ak).2.2.1)) = false → 0 ≤ d3.2 ∧ d3.2 < (x.1.length : Int))) ∧
 (((cond (cond ((List.getD x.1 d3.2.toNat Ak).1 != (List.getD x.2 d3.2.toNat Ak).1) true (!(((List.getD x.1 d3.2.toNat Ak).2.1.1 == (List.getD x.2 d3.2.toNat Ak).2.1.1) && (((List.getD x.1 d3.2.toNat Ak).2.1.2.1 == (List.getD x.2 d3.2.toNat Ak).2.1.2.1) && (((List.getD x.1 d3.2.toNat Ak).2.1.2.2.1 == (List.getD x.2 d3.2.toNat Ak).2.1.2.2.1) && (((List.getD x.1 d3.2.toNat Ak).2.1.2.2.2 == (List.getD x.2 d3.2.toNat Ak).2.1.2.2.2) && true)))))) true ((List.getD x.1 d3.2.toNat Ak).2.2.1 != (List.getD x.2 d3.2.toNat Ak).2.2.1)) = false → d3.2.toNat < x.1.length)) ∧
 (((cond (cond ((List.getD x.1 d3.2.toNat Ak).1 != (List.getD x.2 d3.2.toNat Ak).1) true (!(((List.getD x.1 d3.2.toNat Ak).2.1.1 == (List.getD x.2 d3.2.toNat Ak).2.1.1) && (((List.getD x.1 d3.2.toNat Ak).2.1.2.1 == (List.getD x.2 d3.2.toNat Ak).2.1.2.1) && (((List.getD x.1 d3.2.toNat Ak).2.1.2.2.1 == (List.getD x.2 d3.2.toNat Ak).2.1.2.2.1) && (((List.getD x.1 d3.2.toNat Ak).2.1.2.2.2 == (List.getD x.2 d3.2.toNat Ak).2.1.2.2.2) && true)))))) true ((List.getD x.1 d3.2.toNat Ak).2.2.1 != (List.getD x.2 d3.2.toNat Ak).2.2.1)) = false → 0 ≤ d3.2 ∧ d3.2 < (x.2.length : Int))) ∧
 (((cond (cond ((List.getD x.1 d3.2.toNat Ak).1 != (List.getD x.2 d3.2.toNat Ak).1) true (!(((List.getD x.1 d3.2.toNat Ak).2.1.1 == (List.getD x.2 d3.2.toNat Ak).2.1.1) && (((List.getD x.1 d3.2.toNat Ak).2.1.2.1 == (List.getD x.2 d3.2.toNat Ak).2.1.2.1) && (((List.getD x.1 d3.2.toNat Ak).2.1.2.2.1 == (List.getD x.2 d3.2.toNat Ak).2.1.2.2.1) && (((List.getD x.1 d3.2.toNat Ak).2.1.2.2.2 == (List.getD x.2 d3.2.toNat Ak).2.1.2.2.2) && true)))))) true ((List.getD x.1 d3.2.toNat Ak).2.2.1 != (List.getD x.2 d3.2.toNat Ak).2.2.1)) = false → d3.2.toNat < x.2.length)) ∧
 (((cond (cond (cond ((List.getD x.1 d3.2.toNat Ak).1 != (List.getD x.2 d3.2.toNat Ak).1) true (!(((List.getD x.1 d3.2.toNat Ak).2.1.1 == (List.getD x.2 d3.2.toNat Ak).2.1.1) && (((List.getD x.1 d3.2.toNat Ak).2.1.2.1 == (List.getD x.2 d3.2.toNat Ak).2.1.2.1) && (((List.getD x.1 d3.2.toNat Ak).2.1.2.2.1 == (List.getD x.2 d3.2.toNat Ak).2.1.2.2.1) && (((List.getD x.1 d3.2.toNat Ak).2.1.2.2.2 == (List.getD x.2 d3.2.toNat Ak).2.1.2.2.2) && true)))))) true ((List.getD x.1 d3.2.toNat Ak).2.2.1 != (List.getD x.2 d3.2.toNat Ak).2.2.1)) true ((List.getD x.1 d3.2.toNat Ak).2.2.2.1 != (List.getD x.2 d3.2.toNat Ak).2.2.2.1)) = false → 0 ≤ d3.2 ∧ d3.2 < (x.1.length : Int))) ∧
 (((cond (cond (cond ((List.getD x.1 d3.2.toNat Ak).1 != (List.getD x.2 d3.2.toNat Ak).1) true (!(((List.getD x.1 d3.2.toNat Ak).2.1.1 == (List.getD x.2 d3.2.toNat Ak).2.1.1) && (((List.getD x.1 d3.2.toNat Ak).2.1.2.1 == (List.getD x.2 d3.2.toNat Ak).2.1.2.1) && (((List.getD x.1 d3.2.toNat Ak).2.1.2.2.1 == (List.getD x.2 d3.2.toNat Ak).2.1.2.2.1) && (((List.getD x.1 d3.2.toNat Ak).2.1.2.2.2 == (List.getD x.2 d3.2.toNat Ak).2.1.2.2.2) && true)))))) true ((List.getD x.1 d3.2.toNat Ak).2.2.1 != (List.getD x.2 d3.2.toNat Ak).2.2.1)) true ((List.getD x.1 d3.2.toNat Ak).2.2.2.1 != (List.getD x.2 d3.2.toNat Ak).2.2.2.1)) = false → d3.2.toNat < x.1.length)) ∧
 (((cond (cond (cond ((List.getD x.1 d3.2.toNat Ak).1 != (List.getD x.2 d3.2.toNat Ak).1) true (!(((List.getD x.1 d3.2.toNat Ak).2.1.1 == (List.getD x.2 d3.2.toNat Ak).2.1.1) && (((List.getD x.1 d3.2.toNat Ak).2.1.2.1 == (List.getD x.2 d3.2.toNat Ak).2.1.2.1) && (((List.getD x.1 d3.2.toNat Ak).2.1.2.2.1 == (List.getD x.2 d3.2.toNat Ak).2.1.2.2.1) && (((List.getD x.1 d3.2.toNat Ak).2.1.2.2.2 == (List.getD x.2 d3.2.toNat Ak).2.1.2.2.2) && true)))))) true ((List.getD x.1 d3.2.toNat Ak).2.2.1 != (List.getD x.2 d3.2.toNat Ak).2.2.1)) true ((List.getD x.1 d3.2.toNat Ak).2.2.2.1 != (List.getD x.2 d3.2.toNat Ak).2.2.2.1)) = false → 0 ≤ d3.2 ∧ d3.2 < (x.2.length : Int))) ∧
 (((cond (cond (cond ((List.getD x.1 d3.2.toNat Ak).1 != (List.getD x.2 d3.2.toNat Ak).1) true (!(((List.getD x.1 d3.2.toNat Ak).2.1.1 == (List.getD x.2 d3.2.toNat Ak).2.1.1) && (((List.getD x.1 d3.2.toNat Ak).2.1.2.1 == (List.getD x.2 d3.2.toNat Ak).2.1.2.1) && (((List.getD x.1 d3.2.toNat Ak).2.1.2.2.1 == (List.getD x.2 d3.2.toNat Ak).2.1.2.2.1) && (((List.getD x.1 d3.2.toNat Ak).2.1.2.2.2 == (List.getD x.2 d3.2.toNat Ak).2.1.2.2.2) && true)))))) true ((List.getD x.1 d3.2.toNat Ak).2.2.1 != (List.getD x.2 d3.2.toNat Ak).2.2.1)) true ((List.getD x.1 d3.2.toNat Ak).2.2.2.1 != (List.getD x.2 d3.2.toNat Ak).2.2.2.1)) = false → d3.2.toNat < x.2.length)) ∧
 (Ag (D := Bool) (fun J9 => (((cond (cond (cond ((List.getD x.1 d3.2.toNat Ak).1 != (List.getD x.2 d3.2.toNat Ak).1) true (!(((List.getD x.1 d3.2.toNat Ak).2.1.1 == (List.getD x.2 d3.2.toNat Ak).2.1.1) && (((List.getD x.1 d3.2.toNat Ak).2.1.2.1 == (List.getD x.2 d3.2.toNat Ak).2.1.2.1) && (((List.getD x.1 d3.2.toNat Ak).2.1.2.2.1 == (List.getD x.2 d3.2.toNat Ak).2.1.2.2.1) && (((List.getD x.1 d3.2.toNat Ak).2.1.2.2.2 == (List.getD x.2 d3.2.toNat Ak).2.1.2.2.2) && true)))))) true ((List.getD x.1 d3.2.toNat Ak).2.2.1 != (List.getD x.2 d3.2.toNat Ak).2.2.1)) true ((List.getD x.1 d3.2.toNat Ak).2.2.2.1 != (List.getD x.2 d3.2.toNat Ak).2.2.2.1)) = false → Fn P Uq Df ((List.getD x.1 d3.2.toNat Ak).2.2.2.2, (List.getD x.2 d3.2.toNat Ak).2.2.2.2) (fun (d10 : Bool) _ => J9 d10)) ∧ (((cond (cond (cond ((List.getD x.1 d3.2.toNat Ak).1 != (List.getD x.2 d3.2.toNat Ak).1) true (!(((List.getD x.1 d3.2.toNat Ak).2.1.1 == (List.getD x.2 d3.2.toNat Ak).2.1.1) && (((List.getD x.1 d3.2.toNat Ak).2.1.2.1 == (List.getD x.2 d3.2.toNat Ak).2.1.2.1) && (((List.getD x.1 d3.2.toNat Ak).2.1.2.2.1 == (List.getD x.2 d3.2.toNat Ak).2.1.2.2.1) && (((List.getD x.1 d3.2.toNat Ak).2.1.2.2.2 == (List.getD x.2 d3.2.toNat Ak).2.1.2.2.2) && true)))))) true ((List.getD x.1 d3.2.toNat Ak).2.2.1 != (List.getD x.2 d3.2.toNat Ak).2.2.1)) true ((List.getD x.1 d3.2.toNat Ak).2.2.2.1 != (List.getD x.2 d3.2.toNat Ak).2.2.2.1)) = true → J9 false) ∧ True))) (fun d11 => J7 (cond (cond (cond (cond ((List.getD x.1 d3.2.toNat Ak).1 != (List.getD x.2 d3.2.toNat Ak).1) true (!(((List.getD x.1 d3.2.toNat Ak).2.1.1 == (List.getD x.2 d3.2.toNat Ak).2.1.1) && (((List.getD x.1 d3.2.toNat Ak).2.1.2.1 == (List.getD x.2 d3.2.toNat Ak).2.1.2.1) && (((List.getD x.1 d3.2.toNat Ak).2.1.2.2.1 == (List.getD x.2 d3.2.toNat Ak).2.1.2.2.1) && (((List.getD x.1 d3.2.toNat Ak).2.1.2.2.2 == (List.getD x.2 d3.2.toNat Ak).2.1.2.2.2) && true)))))) true ((List.getD x.1 d3.2.toNat Ak).2.2.1 != (List.getD x.2 d3.2.toNat Ak).2.2.1)) true ((List.getD x.1 d3.2.toNat Ak).2.2.2.1 != (List.getD x.2 d3.2.toNat Ak).2.2.2.1)) true (!d11)))) ∧ True) (fun d8 => ((d8 = true → K false ()) ∧ (d8 = false → J5 d3.1)))) (fun d6 => J4 (d6, (i64.wrap (d3.2 + (1 : Int)))))) ∧ ((decide (d3.2 < (x.1.length : Int))) = false → J1 d3.1)))) (fun d2 => K true ())))
theorem RR {P : Pg} (h : Has P Ie) {x : DP Cz.ps} {K : DP Cz.rs → DP (ptrs Cz.ps) → Prop} (hw : Of P x K) : Fn P Ut Cz x K :=
 BI (c := K2) h rfl rfl (by kernel_rfl) (Eq.mpr (show BC P Ie Cz K2 x K = _ by kernel_rfl) hw)
def IE : Be :=
 (.seq (.region [o1 0 (.asg kF)]) (.seq (.region [oS ⟨some 6, .call zS8 [(.c (.string ⟨#[97, 124, 98, 42]⟩))], none⟩ Cc, im 5 6, o1 7 (.ext 5 0), o1 8
 (.ext 5 1), ia 1 7, ia 2 8]) (.seq (.region [oS ⟨some 10, .call zS8 [(.c (.string ⟨#[97, 42, 42]⟩))], none⟩ Cc, im 9 10, o1 11 (.ext 9 0), o1 12
 (.ext 9 1), ia 3 11, ia 4 12]) (.seq (.region [im 13 2, o1 14 (.bin .eql 13 (kI 0)), im 15 14, gt 16 15 (.mv 4), gt 17 15 (.bin .eql 16 (kI 40)), o1 18 (.pick 15 17 kF), im 19 18,
 gt 20 19 (.mv 1), gt 21 19 (.lenK 20), gt 22 19 (.bin .eql 21 (kI 4)), o1 23 (.pick 19 22 kF), im 24 23, gt 25 24 (.mv 1), gt 26 24 (.ixA 8 25 (kI 2)), gt 27 24 (.fAddr 0 26), gt
 28 24 (.load false 1 27), gt 29 24 (.bin .eql 28 (kI 6)), o1 30 (.pick 24 29 kF), im 31 30, gt 32 31 (.mv 1), gt 33 31 (.ixA 8 32 (kI 2)), gt 34 31 (.fAddr 6 33), gt 35 31 (.load
 false 1 34), gt 36 31 (.bin .eql 35 (kI (-1))), o1 37 (.pick 31 36 kF), im 38 37, gt 39 38 (.mv 1), gt 40 38 (.ixA 8 39 (kI 3)), gt 41 38 (.fAddr 0 40), gt 42 38 (.load false 1
 41), gt 43 38 (.bin .eql 42 (kI 5)), o1 44 (.pick 38 43 kF), im 45 44, ⟨⟨some 46, .mv 1, some (45, true)⟩, none, ⟨[], []⟩, false, some 45, true, false⟩, ⟨⟨some 47, .ixA 8 46 (kI
 3), some (45, true)⟩, none, ⟨[], []⟩, false, none, true, false⟩, ⟨⟨some 48, .fAddr 7 47, some (45, true)⟩, none, ⟨[], []⟩, false, none, true, false⟩, ⟨⟨some 49, .load false 1 48,
 some (45, true)⟩, none, ⟨[], []⟩, false, none, true, false⟩, ⟨⟨some 50, .buildSl 1 [(.int .i64 0)] 2 [(0, (kI 0)), (1, (kI 2))], some (45, true)⟩, some (bI, .leaf), ⟨[], []⟩,
 false, none, true, false⟩, ⟨⟨some 51, .call Uq [49, 50], some (45, true)⟩, none, Df, false, none, true, true⟩, o1 52 (.pick 45 51 kF), ia 0 52])
 .ret))))
def Gj : AFn := ⟨ ND, IE.erase, [.tmp 0], 0⟩
def LQ (P : Pg) (x : Unit) (K : Bool → Unit → Prop) : Prop :=
 Fn P zS8 Cc ([97, 124, 98, 42] : List UInt8) (fun (d1 : ((List Node) × Int)) (e2 : Unit) => Fn P zS8 Cc ([97, 42, 42] : List UInt8) (fun (d3 : ((List Node) × Int)) (e4 : Unit) => (((cond (cond (d1.2 == (0 : Int)) (d3.2 == (40 : Int)) false) ((d1.1.length : Int) == (4 : Int)) false) = true → 0 ≤ (2 : Int) ∧ (2 : Int) < (d1.1.length : Int))) ∧
 (((cond (cond (d1.2 == (0 : Int)) (d3.2 == (40 : Int)) false) ((d1.1.length : Int) == (4 : Int)) false) = true → (Int.toNat (2 : Int)) < d1.1.length)) ∧
 (((cond (cond (cond (d1.2 == (0 : Int)) (d3.2 == (40 : Int)) false) ((d1.1.length : Int) == (4 : Int)) false) ((List.getD d1.1 (Int.toNat (2 : Int)) Ak).1 == (6 : Int)) false) = true → 0 ≤ (2 : Int) ∧ (2 : Int) < (d1.1.length : Int))) ∧
 (((cond (cond (cond (d1.2 == (0 : Int)) (d3.2 == (40 : Int)) false) ((d1.1.length : Int) == (4 : Int)) false) ((List.getD d1.1 (Int.toNat (2 : Int)) Ak).1 == (6 : Int)) false) = true → (Int.toNat (2 : Int)) < d1.1.length)) ∧
 (((cond (cond (cond (cond (d1.2 == (0 : Int)) (d3.2 == (40 : Int)) false) ((d1.1.length : Int) == (4 : Int)) false) ((List.getD d1.1 (Int.toNat (2 : Int)) Ak).1 == (6 : Int)) false) ((List.getD d1.1 (Int.toNat (2 : Int)) Ak).2.2.2.1 == (-1 : Int)) false) = true → 0 ≤ (3 : Int) ∧ (3 : Int) < (d1.1.length : Int))) ∧
 (((cond (cond (cond (cond (d1.2 == (0 : Int)) (d3.2 == (40 : Int)) false) ((d1.1.length : Int) == (4 : Int)) false) ((List.getD d1.1 (Int.toNat (2 : Int)) Ak).1 == (6 : Int)) false) ((List.getD d1.1 (Int.toNat (2 : Int)) Ak).2.2.2.1 == (-1 : Int)) false) = true → (Int.toNat (3 : Int)) < d1.1.length)) ∧
 (((cond (cond (cond (cond (cond (d1.2 == (0 : Int)) (d3.2 == (40 : Int)) false) ((d1.1.length : Int) == (4 : Int)) false) ((List.getD d1.1 (Int.toNat (2 : Int)) Ak).1 == (6 : Int)) false) ((List.getD d1.1 (Int.toNat (2 : Int)) Ak).2.2.2.1 == (-1 : Int)) false) ((List.getD d1.1 (Int.toNat (3 : Int)) Ak).1 == (5 : Int)) false) = true → (0 ≤ (3 : Int) ∧ (3 : Int) < (d1.1.length : Int)) ∧
 ((Int.toNat (3 : Int)) < d1.1.length) ∧
 Fn P Uq Df ((List.getD d1.1 (Int.toNat (3 : Int)) Ak).2.2.2.2, ([(0 : Int), (2 : Int)] : List Int)) (fun (d5 : Bool) (e6 : Unit) => K (cond true d5 false) ())) ∧ ((cond (cond (cond (cond (cond (d1.2 == (0 : Int)) (d3.2 == (40 : Int)) false) ((d1.1.length : Int) == (4 : Int)) false) ((List.getD d1.1 (Int.toNat (2 : Int)) Ak).1 == (6 : Int)) false) ((List.getD d1.1 (Int.toNat (2 : Int)) Ak).2.2.2.1 == (-1 : Int)) false) ((List.getD d1.1 (Int.toNat (3 : Int)) Ak).1 == (5 : Int)) false) = false → K (cond false false false) ()))))
theorem Py {P : Pg} (h : Has P Gj) {x : DP Cx.ps} {K : DP Cx.rs → DP (ptrs Cx.ps) → Prop} (hw : LQ P x K) : Fn P ND Cx x K :=
 BI (c := IE) h rfl rfl (by kernel_rfl) (Eq.mpr (show BC P Gj Cx IE x K = _ by kernel_rfl) hw)
def AbP : Be :=
 (.seq (.region [o1 1 (.box 0), o1 2 (.asg kF)]) (.seq (.region [fa 3 5 1, ld 4 3, o1 5 (.bin .geq 4 (kI 0)), im 6 5, gt 7 6 (.fAddr 5 1), gt 8 6 (.load false 1 7), gt 9 6 (.bin
 .leq 8 (kI 100)), o1 10 (.pick 6 9 kF), im 11 10, gt 12 11 (.fAddr 6 1), gt 13 11 (.load false 1 12), gt 14 11 (.bin .eql 13 (kI (-1))), gt 15 11 (.mv 14), gf 16 15 (.fAddr 6 1),
 gf 17 15 (.load false 1 16), gf 18 15 (.fAddr 5 1), gf 19 15 (.load false 1 18), gf 20 15 (.bin .geq 17 19), gf 21 15 (.mv 20), gt 22 21 (.fAddr 6 1), gt 23 21 (.load false 1 22),
 gt 24 21 (.bin .leq 23 (kI 100)), gf 25 15 (.pick 21 24 kF), gt 26 11 (.pick 15 kT 25), o1 27 (.pick 11 26 kF), ia 2 27]) .ret))
def AbM : AFn := ⟨ XG, AbP.erase, [.tmp 2], 1⟩
def AbY (P : Pg) (x : Node) (K : Bool → Unit → Prop) : Prop :=
 K (cond (cond (decide (x.2.2.1 ≥ (0 : Int))) (decide (x.2.2.1 ≤ (100 : Int))) false) (cond (x.2.2.2.1 == (-1 : Int)) true (cond (decide (x.2.2.2.1 ≥ x.2.2.1)) (decide (x.2.2.2.1 ≤ (100 : Int))) false)) false) ()
theorem Ab9 {P : Pg} (h : Has P AbM) {x : DP AbD.ps} {K : DP AbD.rs → DP (ptrs AbD.ps) → Prop} (hw : AbY P x K) : Fn P XG AbD x K :=
 BI (c := AbP) h rfl rfl (by kernel_rfl) (Eq.mpr (show BC P AbM AbD AbP x K = _ by kernel_rfl) hw)
def AbV : Be :=
 (.seq (.region [o1 2 (.box 0), o1 4 (.asg kF)]) (.seq (.seq (.region [fa 7 7 2, ld 8 7, o1 9 (.lenK 8), o1 10 (.mv (kI 0))]) (.frame (rg [4, 6] 10 12) [] false (.join [.sl 4 false
 .bool .leaf] (.block 0 (.loop [.sl 4 false .bool .leaf, .si 10] (.seq (.region [o1 11 (.bin .lss 10 9)]) (.seq (.cond 11 .skip (.exit 0)) (.seq (.frame (rg [4, 6] 12 9) [] false
 (.join [.sl 4 false .bool .leaf] (.block 1 (.seq (.region [o1 12 (.ixA 1 8 10), ld 13 12, ia 6 13]) (.seq (.region [im 14 6, o1 15 (.bin .lss 14 (kI 0)), im 16 15, gf 17 16 (.mv
 6), gf 18 16 (.mv 1), gf 19 16 (.bin .geq 17 18), o1 20 (.pick 16 kT 19)]) (.cond 20 (.seq (.region [o1 4 (.asg kF)]) .ret) .skip)))))) (.region [o1 21 (.bin .add 10 (kI 1)), im 10
 21]))))))))) (.seq (.seq (.region [fa 22 0 2, ld 23 22]) (.frame (rg [4] 24 26) [] false (.join [.sl 4 false .bool .leaf] (.block 2 (.seq (.seq (.region [o1 25 (.bin .eql 23 (kI
 0)), ia 24 25]) (.frame [24, 26, 27, 28] [] false (.join [.sl 24 false .bool .leaf] (.cond 24 .skip (.seq (.region [o1 26 (.bin .eql 23 (kI 1)), ia 24 26]) (.frame [24, 27, 28] []
 false (.join [.sl 24 false .bool .leaf] (.cond 24 .skip (.seq (.region [o1 27 (.bin .eql 23 (kI 2)), ia 24 27]) (.frame [24, 28] [] false (.join [.sl 24 false .bool .leaf] (.cond
 24 .skip (.region [o1 28 (.bin .eql 23 (kI 3)), ia 24 28]))))))))))))) (.cond 24 (.seq (.region [fa 29 7 2, ld 30 29, o1 31 (.lenK 30), o1 32 (.bin .eql 31 (kI 0)), ia 4 32]) .ret)
 (.seq (.seq (.region [o1 34 (.bin .eql 23 (kI 4)), ia 33 34]) (.frame [33, 35] [] false (.join [.sl 33 false .bool .leaf] (.cond 33 .skip (.region [o1 35 (.bin .eql 23 (kI 5)), ia
 33 35]))))) (.cond 33 (.seq (.region [fa 36 7 2, ld 37 36, o1 38 (.lenK 37), o1 39 (.bin .geq 38 (kI 2)), ia 4 39]) .ret) (.seq (.region [o1 41 (.bin .eql 23 (kI 6)), ia 40 41])
 (.cond 40 (.seq (.region [fa 42 7 2, ld 43 42, o1 44 (.lenK 43), o1 45 (.bin .eql 44 (kI 1)), im 46 45, gt 47 46 (.load true 8 2), oS ⟨some 48, .call XG
 [47], some (46, true)⟩ AbD, o1 49 (.pick 46 48 kF), ia 4 49]) .ret) .skip)))))))))) (.seq (.region [o1 4 (.asg kF)]) .ret))))
def AbU : AFn := ⟨ XH, AbV.erase, [.tmp 4], 2⟩
def Ab4 (P : Pg) (x : (Node × Int)) (K : Bool → Unit → Prop) : Prop :=
 Ag (D := Bool) (fun J1 => B0 (D := (Bool × Int)) (false, (0 : Int)) (fun d3 J4 => (((decide (d3.2 < (x.1.2.2.2.2.length : Int))) = true → Ag (D := Bool) (fun J5 => (0 ≤ d3.2 ∧ d3.2 < (x.1.2.2.2.2.length : Int)) ∧
 (d3.2.toNat < x.1.2.2.2.2.length) ∧
 (((cond (decide ((List.getD x.1.2.2.2.2 d3.2.toNat (0 : Int)) < (0 : Int))) true (decide ((List.getD x.1.2.2.2.2 d3.2.toNat (0 : Int)) ≥ x.2))) = true → K false ()) ∧ ((cond (decide ((List.getD x.1.2.2.2.2 d3.2.toNat (0 : Int)) < (0 : Int))) true (decide ((List.getD x.1.2.2.2.2 d3.2.toNat (0 : Int)) ≥ x.2))) = false → J5 d3.1))) (fun d6 => J4 (d6, (i64.wrap (d3.2 + (1 : Int)))))) ∧ ((decide (d3.2 < (x.1.2.2.2.2.length : Int))) = false → J1 d3.1)))) (fun d2 => Ag (D := Bool) (fun J7 => Ag (D := Bool) (fun J9 => (((x.1.1 == (0 : Int)) = true → J9 (x.1.1 == (0 : Int))) ∧ ((x.1.1 == (0 : Int)) = false → Ag (D := Bool) (fun J11 => (((x.1.1 == (1 : Int)) = true → J11 (x.1.1 == (1 : Int))) ∧ ((x.1.1 == (1 : Int)) = false → Ag (D := Bool) (fun J13 => (((x.1.1 == (2 : Int)) = true → J13 (x.1.1 == (2 : Int))) ∧ ((x.1.1 == (2 : Int)) = false → J13 (x.1.1 == (3 : Int))))) (fun d14 => J11 d14)))) (fun d12 => J9 d12)))) (fun d10 => ((d10 = true → K ((x.1.2.2.2.2.length : Int) == (0 : Int)) ()) ∧ (d10 = false → Ag (D := Bool) (fun J15 => (((x.1.1 == (4 : Int)) = true → J15 (x.1.1 == (4 : Int))) ∧ ((x.1.1 == (4 : Int)) = false → J15 (x.1.1 == (5 : Int))))) (fun d16 => ((d16 = true → K (decide ((x.1.2.2.2.2.length : Int) ≥ (2 : Int))) ()) ∧ (d16 = false → (((x.1.1 == (6 : Int)) = true → Ag (D := Bool) (fun J17 => ((((x.1.2.2.2.2.length : Int) == (1 : Int)) = true → Fn P XG AbD x.1 (fun (d18 : Bool) _ => J17 d18)) ∧ ((((x.1.2.2.2.2.length : Int) == (1 : Int)) = false → J17 false) ∧ True))) (fun d19 => K (cond ((x.1.2.2.2.2.length : Int) == (1 : Int)) d19 false) ())) ∧ ((x.1.1 == (6 : Int)) = false → J7 d2))))))))) (fun d8 => K false ()))
theorem Ack {P : Pg} (h : Has P AbU) {x : DP AbE.ps} {K : DP AbE.rs → DP (ptrs AbE.ps) → Prop} (hw : Ab4 P x K) : Fn P XH AbE x K :=
 BI (c := AbV) h rfl rfl (by kernel_rfl) (Eq.mpr (show BC P AbU AbE AbV x K = _ by kernel_rfl) hw)
def AbS : Be :=
 (.seq (.region [ia 2 (kI 0)]) (.seq (.seq (.region [im 5 0, o1 6 (.lenK 5), o1 7 (.bin .eql 6 (kI 0)), im 8 7, gf 9 8 (.mv 0), gf 10 8 (.lenK 9), gf 11 8 (.bin .gtr 10 (kI 4000)),
 o1 12 (.pick 8 kT 11)]) (.cond 12 (.seq (.region [ia 2 (kI 2)]) .ret) .skip)) (.seq (.seq (.region [im 13 0, o1 14 (.lenK 13), o1 15 (.mv (kI 0))]) (.frame (rg [2, 3, 4] 15 10)
 [1004] false (.join [.si 2] (.block 0 (.loop [.si 2, .si 15] (.seq (.region [o1 16 (.bin .lss 15 14)]) (.seq (.cond 16 .skip (.exit 0)) (.seq (.frame (rg [2, 3, 4] 17 7) [1004]
 false (.join [.si 2] (.block 1 (.seq (.region [im 17 15, o1 18 (.ixA 8 13 15), o1 19 (.load true 8 18), o1 4 (.alloc [(.int .i64 0), (.int .u64 0), (.int .u64 0), (.int .u64 0),
 (.int .u64 0), (.int .i64 0), (.int .i64 0), (.slice none 0 0)]), ia 3 17, o0 ⟨none, .store 8 4 19, none⟩]) (.seq (.region [o1 20 (.load true 8 4), im 21 3, oS ⟨some 22, .call
 XH [20, 21], none⟩ AbE, o1 23 (.un .not 22)]) (.cond 23 (.seq (.region [ia 2 (kI 2)]) .ret) .skip)))))) (.region [o1 24 (.bin .add 15 (kI 1)), im 15
 24]))))))))) (.seq (.region [ia 2 (kI 0)]) .ret))))
def AbR : AFn := ⟨ XD, AbS.erase, [.tmp 2], 1⟩
def Ab0 (P : Pg) (x : (List Node)) (K : Int → Unit → Prop) : Prop :=
 (((cond ((x.length : Int) == (0 : Int)) true (decide ((x.length : Int) > (4000 : Int)))) = true → K (2 : Int) ()) ∧ ((cond ((x.length : Int) == (0 : Int)) true (decide ((x.length : Int) > (4000 : Int)))) = false → Ag (D := Int) (fun J1 => B0 (D := (Int × Int)) ((0 : Int), (0 : Int)) (fun d3 J4 => (((decide (d3.2 < (x.length : Int))) = true → Ag (D := Int) (fun J5 => (0 ≤ d3.2 ∧ d3.2 < (x.length : Int)) ∧
 (d3.2.toNat < x.length) ∧
 Fn P XH AbE ((List.getD x d3.2.toNat Ak), d3.2) (fun (d7 : Bool) (e8 : Unit) => (((!d7) = true → K (2 : Int) ()) ∧ ((!d7) = false → J5 d3.1)))) (fun d6 => J4 (d6, (i64.wrap (d3.2 + (1 : Int)))))) ∧ ((decide (d3.2 < (x.length : Int))) = false → J1 d3.1)))) (fun d2 => K (0 : Int) ())))
theorem Ach {P : Pg} (h : Has P AbR) {x : DP AbF.ps} {K : DP AbF.rs → DP (ptrs AbF.ps) → Prop} (hw : Ab0 P x K) : Fn P XD AbF x K :=
 BI (c := AbS) h rfl rfl (by kernel_rfl) (Eq.mpr (show BC P AbR AbF AbS x K = _ by kernel_rfl) hw)
def AkZ : Be :=
 (.seq (.region [o1 4 (.asg kF)]) (.seq (.region [im 10 0, im 11 1, oS ⟨some 12, .call XF [10, 11], none⟩ CJ, ia 5 12]) (.seq (.region [im
 14 5, oS ⟨some 15, .call zS8 [14], none⟩ Cc, im 13 15, o1 16 (.ext 13 0), o1 17 (.ext 13 1), ia 6 16, ia 7 17]) (.seq (.seq (.region [im 18 7, o1 19
 (.bin .neq 18 (kI 0))]) (.cond 19 (.seq (.region [im 20 6, o1 21 (.lenK 20), o1 22 (.bin .eql 21 (kI 0)), im 23 22, oS ⟨some 24, .call ND [], some
 (23, true)⟩ Cx, o1 25 (.pick 23 24 kF), ia 4 25]) .ret) .skip)) (.seq (.region [im 27 5, o1 28 (.bin .add (.c (.string ⟨#[40]⟩)) 27), o1 29 (.bin .add 28 (.c (.string
 ⟨#[41]⟩))), oS ⟨some 30, .call zS8 [29], none⟩ Cc, im 26 30, o1 31 (.ext 26 0), o1 32 (.ext 26 1), ia 8 31, ia 9 32]) (.seq (.region [im 33 6, oS
 ⟨some 34, .call XD [33], none⟩ AbF, o1 35 (.bin .eql 34 (kI 0)), im 36 35, gt 37 36 (.mv 6), gt 38 36 (.lenK 37), gt 39 36 (.bin .gtr 38 (kI 0)), o1
 40 (.pick 36 39 kF), im 41 40, gt 42 41 (.mv 5), gt 43 41 (.lenS 42), gt 44 41 (.bin .add 43 (kI 2)), gt 45 41 (.bin .gtr 44 (kI 256)), gt 46 41 (.mv 45), gf 47 46 (.mv 9), gf 48
 46 (.bin .eql 47 (kI 0)), gf 49 46 (.mv 48), gt 50 49 (.mv 6), gt 51 49 (.mv 8), oS ⟨some 52, .call Ut [50, 51], some (49, true)⟩ Cz, gf 53 46
 (.pick 49 52 kF), gt 54 41 (.pick 46 kT 53), o1 55 (.pick 41 54 kF), im 56 55, oS ⟨some 57, .call ND [], some (56, true)⟩ Cx, o1 58 (.pick
 56 57 kF), ia 4 58]) .ret))))))
def AkY : AFn := ⟨ VK, AkZ.erase, [.tmp 4], 2⟩
def Ak1 (P : Pg) (x : ((List Int) × Int)) (K : Bool → Unit → Prop) : Prop :=
 Fn P XF CJ x (fun (d1 : (List UInt8)) (e2 : Unit) => Fn P zS8 Cc d1 (fun (d3 : ((List Node) × Int)) (e4 : Unit) => (((d3.2 != (0 : Int)) = true → Ag (D := Bool) (fun J5 => ((((d3.1.length : Int) == (0 : Int)) = true → Fn P ND Cx () (fun (d6 : Bool) _ => J5 d6)) ∧ ((((d3.1.length : Int) == (0 : Int)) = false → J5 false) ∧ True))) (fun d7 => K (cond ((d3.1.length : Int) == (0 : Int)) d7 false) ())) ∧ ((d3.2 != (0 : Int)) = false → (List.length ([40] : List UInt8) + d1.length ≤ 9223372036854775807) ∧
 (List.length (([40] : List UInt8) ++ d1) + List.length ([41] : List UInt8) ≤ 9223372036854775807) ∧
 Fn P zS8 Cc ((([40] : List UInt8) ++ d1) ++ ([41] : List UInt8)) (fun (d8 : ((List Node) × Int)) (e9 : Unit) => Fn P XD AbF d3.1 (fun (d10 : Int) (e11 : Unit) => Ag (D := Bool) (fun J12 => (((d8.2 == (0 : Int)) = true → ((decide ((i64.wrap ((d1.length : Int) + (2 : Int))) > (256 : Int))) = false → ((cond (d10 == (0 : Int)) (decide ((d3.1.length : Int) > (0 : Int))) false) = true → Fn P Ut Cz (d3.1, d8.1) (fun (d13 : Bool) _ => J12 d13)))) ∧ (((d8.2 == (0 : Int)) = false → J12 false) ∧ (((decide ((i64.wrap ((d1.length : Int) + (2 : Int))) > (256 : Int))) = true → J12 false) ∧ (((cond (d10 == (0 : Int)) (decide ((d3.1.length : Int) > (0 : Int))) false) = false → J12 false) ∧ True))))) (fun d14 => Ag (D := Bool) (fun J15 => (((cond (cond (d10 == (0 : Int)) (decide ((d3.1.length : Int) > (0 : Int))) false) (cond (decide ((i64.wrap ((d1.length : Int) + (2 : Int))) > (256 : Int))) true (cond (d8.2 == (0 : Int)) d14 false)) false) = true → Fn P ND Cx () (fun (d16 : Bool) _ => J15 d16)) ∧ (((cond (cond (d10 == (0 : Int)) (decide ((d3.1.length : Int) > (0 : Int))) false) (cond (decide ((i64.wrap ((d1.length : Int) + (2 : Int))) > (256 : Int))) true (cond (d8.2 == (0 : Int)) d14 false)) false) = false → J15 false) ∧ True))) (fun d17 => K (cond (cond (cond (d10 == (0 : Int)) (decide ((d3.1.length : Int) > (0 : Int))) false) (cond (decide ((i64.wrap ((d1.length : Int) + (2 : Int))) > (256 : Int))) true (cond (d8.2 == (0 : Int)) d14 false)) false) d17 false) ()))))))))
theorem Ak4 {P : Pg} (h : Has P AkY) {x : DP AkV.ps} {K : DP AkV.rs → DP (ptrs AkV.ps) → Prop} (hw : Ak1 P x K) : Fn P VK AkV x K :=
 BI (c := AkZ) h rfl rfl (by kernel_rfl) (Eq.mpr (show BC P AkY AkV AkZ x K = _ by kernel_rfl) hw)
def E8 : Be :=
 (.seq (.region [o1 3 (.box 1), ia 4 (kI 0)]) (.seq (.frame (rg [] 5 10) [0] true (.join [.bx 0 Aw (.pair .leaf (.pair .leaf (.pair .leaf (.node .own (.pair .leaf (.pair
 .leaf (.pair .leaf (.pair .leaf tM))))))))] (.draw [(.first (im 5 0) (.first (im 6 0) (.first (o1 7 (.nilc 6)) (.first (fa 8 3 7) (.first (o1 10 (.load true 8 3)) (.alt (ld 9 8)
 (.alt (oT ⟨some 11, .buildSl 8 [(.int .i64 0), (.int .u64 0), (.int .u64 0), (.int .u64 0), (.int .u64 0), (.int .i64 0), (.int .i64 0), (.slice none 0 0)] 1 [(0, 10)], none⟩ (some
 (Fc, (.pair .leaf (.pair .leaf (.pair .leaf (.pair .leaf tM))))))) (.alt (oT ⟨some 12, .app 8 80 9 11, none⟩ (some (Fc, (.pair .leaf (.pair .leaf (.pair .leaf (.pair .leaf
 tM))))))) (.first (o1 13 (.nilc 5)) (.first (fa 14 3 13) (.alt (o0 ⟨none, .store 1 14 12, none⟩) .done .stop))) .stop) .stop) (.alt (oT ⟨some 11, .buildSl 8 [(.int .i64 0), (.int
 .u64 0), (.int .u64 0), (.int .u64 0), (.int .u64 0), (.int .i64 0), (.int .i64 0), (.slice none 0 0)] 1 [(0, 10)], none⟩ (some (Fc, (.pair .leaf (.pair .leaf (.pair .leaf
 (.pair .leaf tM))))))) (.first (ld 9 8) (.alt (oT ⟨some 12, .app 8 80 9 11, none⟩ (some (Fc, (.pair .leaf (.pair .leaf (.pair .leaf (.pair .leaf tM))))))) (.first (o1 13 (.nilc
 5)) (.first (fa 14 3 13) (.alt (o0 ⟨none, .store 1 14 12, none⟩) .done .stop))) .stop)) .stop)))))))]))) (.seq (.region [im 15 0, o1 16 (.nilc 15), fa 17 3 16, ld 18 17, o1 19
 (.lenK 18), o1 20 (.bin .sub 19 (kI 1)), ia 4 20]) .ret)))
def DE : AFn := ⟨ zS4, E8.erase, [.tmp 4], 2⟩
def Hw (P : Pg) (x : (Aa × Node)) (K : Int → Aa → Prop) : Prop :=
 Ag (D := Aa) (fun J1 => (((((x.1.2.2.2.length + List.length ([x.2] : List Node)) * 80 ≤ 140737488355328) ∧
 (J1 (x.1.1, (x.1.2.1, (x.1.2.2.1, (x.1.2.2.2 ++ ([x.2] : List Node)))))) ∧ True) ∧ True) ∧ True) ∧ (((((x.1.2.2.2.length + List.length ([x.2] : List Node)) * 80 ≤ 140737488355328) ∧
 (J1 (x.1.1, (x.1.2.1, (x.1.2.2.1, (x.1.2.2.2 ++ ([x.2] : List Node)))))) ∧ True) ∧ True) ∧ True)) (fun d2 => K (i64.wrap ((d2.2.2.2.length : Int) - (1 : Int))) d2)
theorem Lx {P : Pg} (h : Has P DE) {x : DP AG.ps} {K : DP AG.rs → DP (ptrs AG.ps) → Prop} (hw : Hw P x K) : Fn P zS4 AG x K :=
 BI (c := E8) h rfl rfl (by kernel_rfl) (Eq.mpr (show BC P DE AG E8 x K = _ by kernel_rfl) hw)
def Ev : Be :=
 (.seq (.region [ia 6 (kI 0)]) (.seq (.seq (.region [im 7 2, o1 8 (.lenK 7)]) (.frame (rg [6] 9 10) [0] true (.join [.si 6, .bx 0 Aw (.pair .leaf (.pair .leaf (.pair
 .leaf (.node .own (.pair .leaf (.pair .leaf (.pair .leaf (.pair .leaf tM))))))))] (.block 0 (.seq (.region [o1 10 (.bin .eql 8 (kI 0)), ia 9 10]) (.cond 9 (.seq (.region [im 11 0,
 o1 12 (.build [(.int .i64 0), (.int .u64 0), (.int .u64 0), (.int .u64 0), (.int .u64 0), (.int .i64 0), (.int .i64 0), (.slice none 0 0)] []), oS ⟨some 13, .call
 zS4 [11, 12], none⟩ AG, ia 6 13]) .ret) (.seq (.region [o1 15 (.bin .eql 8 (kI 1)), ia 14 15]) (.cond 14 (.seq (.region [im 16 2, o1 17
 (.ixA 1 16 (kI 0)), ld 18 17, ia 6 18]) .ret) .skip)))))))) (.seq (.region [im 19 0, im 20 1, im 21 2, o1 22 (.build [(.int .i64 0), (.int .u64 0), (.int .u64 0), (.int .u64 0),
 (.int .u64 0), (.int .i64 0), (.int .i64 0), (.slice none 0 0)] [(0, 1, 20), (7, 1, 21)]), oS ⟨some 23, .call zS4 [19, 22], none⟩ AG, ia
 6 23]) .ret)))
def Da : AFn := ⟨ Oe, Ev.erase, [.tmp 6], 3⟩
def GB (P : Pg) (x : (Aa × (Int × (List Int)))) (K : Int → Aa → Prop) : Prop :=
 Ag (D := (Int × Aa)) (fun J1 => ((((x.2.2.length : Int) == (0 : Int)) = true → Fn P zS4 AG (x.1, ((0 : Int), (((0 : Int), ((0 : Int), ((0 : Int), (0 : Int)))), ((0 : Int), ((0 : Int), []))))) (fun (d3 : Int) (e4 : Aa) => K d3 e4)) ∧ (((x.2.2.length : Int) == (0 : Int)) = false → ((((x.2.2.length : Int) == (1 : Int)) = true → (0 ≤ (0 : Int) ∧ (0 : Int) < (x.2.2.length : Int)) ∧
 ((Int.toNat (0 : Int)) < x.2.2.length) ∧
 K (List.getD x.2.2 (Int.toNat (0 : Int)) (0 : Int)) x.1) ∧ (((x.2.2.length : Int) == (1 : Int)) = false → J1 ((0 : Int), x.1)))))) (fun d2 => Fn P zS4 AG (d2.2, (x.2.1, (((0 : Int), ((0 : Int), ((0 : Int), (0 : Int)))), ((0 : Int), ((0 : Int), x.2.2))))) (fun (d5 : Int) (e6 : Aa) => K d5 e6))
theorem JR {P : Pg} (h : Has P Da) {x : DP A5.ps} {K : DP A5.rs → DP (ptrs A5.ps) → Prop} (hw : GB P x K) : Fn P Oe A5 x K :=
 BI (c := Ev) h rfl rfl (by kernel_rfl) (Eq.mpr (show BC P Da A5 Ev x K = _ by kernel_rfl) hw)
def EN : Be :=
 (.seq (.region [o1 2 (.asg (.c (.int .u8 0))), o1 3 (.asg kF)]) (.seq (.seq (.draw [(.first (im 4 0) (.first (o1 5 (.nilc 4)) (.first (fa 6 1 5) (.first (ld 7 6) (.first (im 8 0)
 (.first (o1 9 (.nilc 8)) (.first (fa 10 0 9) (.first (ld 11 10) (.first (o1 12 (.lenS 11)) (.first (o1 13 (.bin .eql 7 12)) .done))))))))))]) (.cond 13 (.seq (.region [o1 2 (.asg
 (.c (.int .u8 0))), o1 3 (.asg kF)]) .ret) .skip)) (.seq (.frame (rg [2, 3] 14 9) [] false (.join [.sl 2 false (.int .u8) .leaf, .sl 3 false .bool .leaf] (.draw [(.first (im 14 0)
 (.first (o1 15 (.nilc 14)) (.first (fa 16 0 15) (.first (ld 17 16) (.first (im 18 0) (.first (o1 19 (.nilc 18)) (.first (fa 20 1 19) (.first (ld 21 20) (.first (o1 22 (.ixS 17 21))
 (.alt (ia 2 22) (.alt (o1 3 (.asg kT)) .done .stop) .stop))))))))))]))) .ret)))
def Dn : AFn := ⟨ zS5, EN.erase, [.tmp 2, .tmp 3], 1⟩
def GV (P : Pg) (x : Aa) (K : (Int × Bool) → Aa → Prop) : Prop :=
 (((x.2.1 == (x.1.length : Int)) = true → K ((0 : Int), false) x) ∧ ((x.2.1 == (x.1.length : Int)) = false → Ag (D := (Int × Bool)) (fun J1 => (0 ≤ x.2.1 ∧ x.2.1 < (x.1.length : Int)) ∧
 ((J1 (((x.1.getD x.2.1.toNat 0).toNat : Int), true)) ∧ True) ∧ True) (fun d2 => K d2 x)))
theorem Ku {P : Pg} (h : Has P Dn) {x : DP AF.ps} {K : DP AF.rs → DP (ptrs AF.ps) → Prop} (hw : GV P x K) : Fn P zS5 AF x K :=
 BI (c := EN) h rfl rfl (by kernel_rfl) (Eq.mpr (show BC P Dn AF EN x K = _ by kernel_rfl) hw)
def D7 : Be :=
 (.seq (.region [ia 4 (kI 0)]) (.seq (.region [im 8 0, o1 9 (.nilc 8), fa 10 1 9, ld 11 10, o1 12 (.bin .add 11 (kI 1)), o1 13 (.nilc 8), fa 14 1 13, o0 ⟨none, .store 1 14 12,
 none⟩]) (.seq (.region [im 15 0, im 16 1, o1 17 (.build [(.int .i64 0), (.int .u64 0), (.int .u64 0), (.int .u64 0), (.int .u64 0), (.int .i64 0), (.int .i64 0), (.slice none 0 0)]
 [(0, 1, 16)]), oS ⟨some 18, .call zS4 [15, 17], none⟩ AG, ia 5 18]) (.seq (.seq (.region [im 20 0, oS ⟨some 21, .call
 zS5 [20], none⟩ AF, im 19 21, o1 22 (.ext 19 0), o1 23 (.ext 19 1), ia 6 22, ia 7 23]) (.seq (.region [im 24 7, im 25 24, gt 26 25
 (.mv 6), oS ⟨some 27, .call "strings.IndexByte" [(.c (.string ⟨#[42, 43, 63, 123]⟩)), 26], some (25, true)⟩ Dt, gt 28 25 (.bin .geq 27 (kI 0)), o1 29 (.pick 25 28
 kF)]) (.frame [30] [] false (.join [] (.cond 29 (.region [o1 30 (.mkI 26 (kI 40)), o0 ⟨none, .panic 30, none⟩]) .skip))))) (.seq (.region [im 31 5, ia 4 31]) .ret)))))
def CX : AFn := ⟨ OV, D7.erase, [.tmp 4], 2⟩
def FO (P : Pg) (x : (Aa × Int)) (K : Int → Aa → Prop) : Prop :=
 Fn P zS4 AG ((x.1.1, ((i64.wrap (x.1.2.1 + (1 : Int))), x.1.2.2)), (x.2, (((0 : Int), ((0 : Int), ((0 : Int), (0 : Int)))), ((0 : Int), ((0 : Int), []))))) (fun (d1 : Int) (e2 : Aa) => Fn P zS5 AF e2 (fun (d3 : (Int × Bool)) (e4 : Aa) => Ag (D := Int) (fun J5 => ((d3.2 = true → Fn P "strings.IndexByte" Dt (([42, 43, 63, 123] : List UInt8), d3.1) (fun (d6 : Int) _ => J5 d6)) ∧ ((d3.2 = false → J5 (0 : Int)) ∧ True))) (fun d7 => Ag (D := Unit) (fun J8 => (((cond d3.2 (decide (d7 ≥ (0 : Int))) false) = true → P.kp (.iface 26 (.int .i64 (40 : Int)))) ∧ ((cond d3.2 (decide (d7 ≥ (0 : Int))) false) = false → J8 ()))) (fun d9 => K d1 e4))))
theorem Jl {P : Pg} (h : Has P CX) {x : DP AY.ps} {K : DP AY.rs → DP (ptrs AY.ps) → Prop} (hw : FO P x K) : Fn P OV AY x K :=
 BI (c := D7) h rfl rfl (by kernel_rfl) (Eq.mpr (show BC P CX AY D7 x K = _ by kernel_rfl) hw)
def EO : Be :=
 (.seq (.region [o1 4 (.asg (.c .nilFunc))]) (.seq (.seq (.region [im 5 1]) (.frame (rg [4] 6 22) [] false (.join [] (.block 0 (.seq (.region [o1 7 (.bin .eql 5 (.c (.int .u8 40))),
 ia 6 7]) (.cond 6 (.seq (.region [im 8 0, o1 9 (.mkf (Sv, true) [8]), ia 4 9]) .ret) (.seq (.region [o1 11 (.bin .eql 5 (.c (.int .u8 91))), ia
 10 11]) (.cond 10 (.seq (.region [im 12 0, o1 13 (.mkf (Um, true) [12]), ia 4 13]) .ret) (.seq (.region [o1 15 (.bin .eql 5 (.c (.int .u8 46))), ia
 14 15]) (.cond 14 (.seq (.region [im 16 0, o1 17 (.mkf (Un, true) [16]), ia 4 17]) .ret) (.seq (.region [o1 19 (.bin .eql 5 (.c (.int .u8 92))), ia 18
 19]) (.cond 18 (.seq (.region [im 20 0, o1 21 (.mkf (Uo, true) [20]), ia 4 21]) .ret) (.seq (.seq (.region [o1 23 (.bin .eql 5 (.c (.int .u8 42))),
 ia 22 23]) (.frame [22, 24, 25, 26] [] false (.join [.sl 22 false .bool .leaf] (.cond 22 .skip (.seq (.region [o1 24 (.bin .eql 5 (.c (.int .u8 43))), ia 22 24]) (.frame [22, 25,
 26] [] false (.join [.sl 22 false .bool .leaf] (.cond 22 .skip (.seq (.region [o1 25 (.bin .eql 5 (.c (.int .u8 63))), ia 22 25]) (.frame [22, 26] [] false (.join [.sl 22 false
 .bool .leaf] (.cond 22 .skip (.region [o1 26 (.bin .eql 5 (.c (.int .u8 123))), ia 22 26]))))))))))))) (.frame [27] [] false (.join [] (.cond 22 (.region [o1 27 (.mkI 26 (kI 40)),
 o0 ⟨none, .panic 27, none⟩]) .skip)))))))))))))))) (.seq (.region [im 28 0, o1 29 (.mkf (Up, true) [28]), ia 4 29]) .ret)))
def Dp : AFn := ⟨ VF, EO.erase, [.tmp 4], 2⟩
def GW (P : Pg) (x : (Aa × Int)) (K : Int → Aa → Prop) : Prop :=
 Ag (D := Unit) (fun J1 => (((x.2 == (40 : Int)) = true → K (0 : Int) x.1) ∧ ((x.2 == (40 : Int)) = false → (((x.2 == (91 : Int)) = true → K (1 : Int) x.1) ∧ ((x.2 == (91 : Int)) = false → (((x.2 == (46 : Int)) = true → K (2 : Int) x.1) ∧ ((x.2 == (46 : Int)) = false → (((x.2 == (92 : Int)) = true → K (3 : Int) x.1) ∧ ((x.2 == (92 : Int)) = false → Ag (D := Bool) (fun J3 => (((x.2 == (42 : Int)) = true → J3 (x.2 == (42 : Int))) ∧ ((x.2 == (42 : Int)) = false → Ag (D := Bool) (fun J5 => (((x.2 == (43 : Int)) = true → J5 (x.2 == (43 : Int))) ∧ ((x.2 == (43 : Int)) = false → Ag (D := Bool) (fun J7 => (((x.2 == (63 : Int)) = true → J7 (x.2 == (63 : Int))) ∧ ((x.2 == (63 : Int)) = false → J7 (x.2 == (123 : Int))))) (fun d8 => J5 d8)))) (fun d6 => J3 d6)))) (fun d4 => Ag (D := Unit) (fun J9 => ((d4 = true → P.kp (.iface 26 (.int .i64 (40 : Int)))) ∧ (d4 = false → J9 ()))) (fun d10 => J1 ()))))))))))) (fun d2 => K (4 : Int) x.1)
theorem Kv {P : Pg} (h : Has P Dp) {x : DP BH.ps} {K : DP BH.rs → DP (ptrs BH.ps) → Prop} (hw : GW P x K) : Fn P VF BH x K :=
 BI (c := EO) h rfl rfl (by kernel_rfl) (Eq.mpr (show BC P Dp BH EO x K = _ by kernel_rfl) hw)
def Fa : Be :=
 (.seq (.region [o1 4 (.asg kF)]) (.seq (.region [im 8 0, oS ⟨some 9, .call zS5 [8], none⟩ AF, im 7 9, o1 10 (.ext 7 0), o1 11 (.ext 7
 1), ia 5 10, ia 6 11]) (.seq (.seq (.region [im 12 6, o1 13 (.un .not 12), im 14 13, gf 15 14 (.mv 5), gf 16 14 (.mv 1), gf 17 14 (.bin .neq 15 16), o1 18 (.pick 14 kT 17)]) (.cond
 18 (.seq (.region [o1 4 (.asg kF)]) .ret) .skip)) (.seq (.region [im 19 0, o1 20 (.nilc 19), fa 21 1 20, ld 22 21, o1 23 (.bin .add 22 (kI 1)), o1 24 (.nilc 19), fa 25 1 24, o0
 ⟨none, .store 1 25 23, none⟩]) (.seq (.region [o1 4 (.asg kT)]) .ret)))))
def DG : AFn := ⟨ zS1, Fa.erase, [.tmp 4], 2⟩
def Hy (P : Pg) (x : (Aa × Int)) (K : Bool → Aa → Prop) : Prop :=
 Fn P zS5 AF x.1 (fun (d1 : (Int × Bool)) (e2 : Aa) => (((cond (!d1.2) true (d1.1 != x.2)) = true → K false e2) ∧ ((cond (!d1.2) true (d1.1 != x.2)) = false → K true (e2.1, ((i64.wrap (e2.2.1 + (1 : Int))), e2.2.2)))))
theorem Lz {P : Pg} (h : Has P DG) {x : DP As.ps} {K : DP As.rs → DP (ptrs As.ps) → Prop} (hw : Hy P x K) : Fn P zS1 As x K :=
 BI (c := Fa) h rfl rfl (by kernel_rfl) (Eq.mpr (show BC P DG As Fa x K = _ by kernel_rfl) hw)
def JF : Be :=
 (.seq (.region [o1 4 (.asg kF)]) (.seq (.region [im 5 1, im 6 0, o1 7 (.lenS 6), o1 8 (.bin .lss 5 7), im 9 8, gt 10 9 (.mv 0), gt 11 9 (.mv 1), gt 12 9 (.ixS 10 11), gt 13 9 (.bin
 .geq 12 (.c (.int .u8 48))), o1 14 (.pick 9 13 kF), im 15 14, gt 16 15 (.mv 0), gt 17 15 (.mv 1), gt 18 15 (.ixS 16 17), gt 19 15 (.bin .leq 18 (.c (.int .u8 57))), o1 20 (.pick 15
 19 kF), ia 4 20]) .ret))
def G0 : AFn := ⟨ Ur, JF.erase, [.tmp 4], 2⟩
def ME (P : Pg) (x : ((List UInt8) × Int)) (K : Bool → Unit → Prop) : Prop :=
 (((decide (x.2 < (x.1.length : Int))) = true → 0 ≤ x.2 ∧ x.2 < (x.1.length : Int))) ∧
 (((cond (decide (x.2 < (x.1.length : Int))) (decide (((x.1.getD x.2.toNat 0).toNat : Int) ≥ (48 : Int))) false) = true → 0 ≤ x.2 ∧ x.2 < (x.1.length : Int))) ∧
 K (cond (cond (decide (x.2 < (x.1.length : Int))) (decide (((x.1.getD x.2.toNat 0).toNat : Int) ≥ (48 : Int))) false) (decide (((x.1.getD x.2.toNat 0).toNat : Int) ≤ (57 : Int))) false) ()
theorem QD {P : Pg} (h : Has P G0) {x : DP Cy.ps} {K : DP Cy.rs → DP (ptrs Cy.ps) → Prop} (hw : ME P x K) : Fn P Ur Cy x K :=
 BI (c := JF) h rfl rfl (by kernel_rfl) (Eq.mpr (show BC P G0 Cy JF x K = _ by kernel_rfl) hw)
def IJ : Be :=
 (.seq (.region [ia 4 (kI 0), ia 5 (kI 0), o1 6 (.asg kF)]) (.seq (.seq (.region [im 9 1, o1 10 (.bin .lss 9 (kI 0)), im 11 10, gf 12 11 (.mv 0), gf 13 11 (.mv 1), oS ⟨some 14,
 .call Ur [12, 13], some (11, false)⟩ Cy, gf 15 11 (.un .not 14), o1 16 (.pick 11 kT 15)]) (.cond 16 (.seq (.region [ia 4 (kI 0), ia 5 (kI 0), o1 6
 (.asg kF)]) .ret) .skip)) (.seq (.region [im 17 1, ia 7 (kI 0), ia 8 17]) (.seq (.frame (rg [7, 8] 18 14) [] false (.join [.si 7, .si 8] (.block 0 (.loop [.si 7, .si 8] (.seq (.seq
 (.region [im 18 0, im 19 8, oS ⟨some 20, .call Ur [18, 19], none⟩ Cy]) (.cond 20 .skip (.exit 0))) (.seq (.frame (rg [7] 23 9) [] false (.join [.si 7]
 (.block 1 (.region [im 23 7, o1 24 (.bin .mul (kI 10) 23), im 25 0, im 26 8, o1 27 (.ixS 25 26), o1 28 (.bin .sub 27 (.c (.int .u8 48))), o1 29 (.conv (.toInt .i64) 28), o1 30
 (.bin .add 24 29), o1 31 (.mm false 30 (kI 2147483648)), ia 7 31])))) (.region [im 21 8, o1 22 (.bin .add 21 (kI 1)), ia 8 22]))))))) (.seq (.seq (.region [im 32 7, o1 33 (.bin
 .gtr 32 (kI 2147483647)), im 34 33, gf 35 34 (.mv 0), gf 36 34 (.mv 1), gf 37 34 (.ixS 35 36), gf 38 34 (.bin .eql 37 (.c (.int .u8 48))), gf 39 34 (.mv 38), gt 40 39 (.mv 8), gt
 41 39 (.mv 1), gt 42 39 (.bin .add 41 (kI 1)), gt 43 39 (.bin .gtr 40 42), gf 44 34 (.pick 39 43 kF), o1 45 (.pick 34 kT 44)]) (.cond 45 (.seq (.region [ia 4 (kI 0), ia 5 (kI 0),
 o1 6 (.asg kF)]) .ret) .skip)) (.seq (.region [im 46 7, im 47 8, ia 4 46, ia 5 47, o1 6 (.asg kT)]) .ret))))))
def Gn : AFn := ⟨ VG, IJ.erase, [.tmp 4, .tmp 5, .tmp 6], 2⟩
def LV (P : Pg) (x : ((List UInt8) × Int)) (K : (Int × (Int × Bool)) → Unit → Prop) : Prop :=
 Ag (D := Bool) (fun J1 => (((decide (x.2 < (0 : Int))) = false → Fn P Ur Cy x (fun (d2 : Bool) _ => J1 d2)) ∧ (((decide (x.2 < (0 : Int))) = true → J1 false) ∧ True))) (fun d3 => (((cond (decide (x.2 < (0 : Int))) true (!d3)) = true → K ((0 : Int), ((0 : Int), false)) ()) ∧ ((cond (decide (x.2 < (0 : Int))) true (!d3)) = false → Ag (D := (Int × Int)) (fun J4 => B0 (D := (Int × Int)) ((0 : Int), x.2) (fun d6 J7 => Fn P Ur Cy (x.1, d6.2) (fun (d8 : Bool) (e9 : Unit) => ((d8 = true → Ag (D := Int) (fun J10 => (0 ≤ d6.2 ∧ d6.2 < (x.1.length : Int)) ∧
 J10 (if (2147483648 : Int) < (i64.wrap ((i64.wrap ((10 : Int) * d6.1)) + (i64.wrap (u8.wrap (((x.1.getD d6.2.toNat 0).toNat : Int) - (48 : Int)))))) then (2147483648 : Int) else (i64.wrap ((i64.wrap ((10 : Int) * d6.1)) + (i64.wrap (u8.wrap (((x.1.getD d6.2.toNat 0).toNat : Int) - (48 : Int)))))))) (fun d11 => J7 (d11, (i64.wrap (d6.2 + (1 : Int)))))) ∧ (d8 = false → J4 d6))))) (fun d5 => (((decide (d5.1 > (2147483647 : Int))) = false → 0 ≤ x.2 ∧ x.2 < (x.1.length : Int))) ∧
 (((cond (decide (d5.1 > (2147483647 : Int))) true (cond (((x.1.getD x.2.toNat 0).toNat : Int) == (48 : Int)) (decide (d5.2 > (i64.wrap (x.2 + (1 : Int))))) false)) = true → K ((0 : Int), ((0 : Int), false)) ()) ∧ ((cond (decide (d5.1 > (2147483647 : Int))) true (cond (((x.1.getD x.2.toNat 0).toNat : Int) == (48 : Int)) (decide (d5.2 > (i64.wrap (x.2 + (1 : Int))))) false)) = false → K (d5.1, (d5.2, true)) ()))))))
theorem PC {P : Pg} (h : Has P Gn) {x : DP CM.ps} {K : DP CM.rs → DP (ptrs CM.ps) → Prop} (hw : LV P x K) : Fn P VG CM x K :=
 BI (c := IJ) h rfl rfl (by kernel_rfl) (Eq.mpr (show BC P Gn CM IJ x K = _ by kernel_rfl) hw)
def Ea : Be :=
 (.seq (.region [ia 2 (kI 0)]) (.seq (.frame (rg [] 3 16) [] false (.join [.si 3, .si 4, .sl 5 false .bool .leaf] (.draw [(.first (im 7 0) (.first (o1 8 (.nilc 7)) (.first (fa 9 0
 8) (.first (ld 10 9) (.first (im 11 0) (.first (o1 12 (.nilc 11)) (.first (fa 13 1 12) (.first (ld 14 13) (.alt (oS ⟨some 15, .call VG [10, 14], none⟩
 CM) (.first (im 6 15) (.alt (o1 16 (.ext 6 0)) (.alt (o1 17 (.ext 6 1)) (.alt (o1 18 (.ext 6 2)) (.alt (ia 3 16) (.alt (ia 4 17) (.alt (ia 5 18) .done .stop) .stop)
 .stop) (.alt (ia 3 16) (.alt (o1 18 (.ext 6 2)) (.alt (ia 4 17) (.alt (ia 5 18) .done .stop) .stop) (.alt (ia 4 17) (.alt (o1 18 (.ext 6 2)) (.alt (ia 5 18) .done .stop) .stop)
 .stop)) .stop)) (.alt (o1 18 (.ext 6 2)) (.alt (o1 17 (.ext 6 1)) (.alt (ia 3 16) (.alt (ia 4 17) (.alt (ia 5 18) .done .stop) .stop) .stop) (.alt (ia 3 16) (.alt (o1 17 (.ext 6
 1)) (.alt (ia 4 17) (.alt (ia 5 18) .done .stop) .stop) .stop) .stop)) (.alt (ia 3 16) (.alt (o1 17 (.ext 6 1)) (.alt (o1 18 (.ext 6 2)) (.alt (ia 4 17) (.alt (ia 5 18) .done
 .stop) .stop) (.alt (ia 4 17) (.alt (o1 18 (.ext 6 2)) (.alt (ia 5 18) .done .stop) .stop) .stop)) (.alt (o1 18 (.ext 6 2)) (.alt (o1 17 (.ext 6 1)) (.alt (ia 4 17) (.alt (ia 5 18)
 .done .stop) .stop) .stop) .stop)) .stop))) (.alt (o1 17 (.ext 6 1)) (.alt (o1 16 (.ext 6 0)) (.alt (o1 18 (.ext 6 2)) (.alt (ia 3 16) (.alt (ia 4 17) (.alt (ia 5 18) .done .stop)
 .stop) .stop) (.alt (ia 3 16) (.alt (o1 18 (.ext 6 2)) (.alt (ia 4 17) (.alt (ia 5 18) .done .stop) .stop) (.alt (ia 4 17) (.alt (o1 18 (.ext 6 2)) (.alt (ia 5 18) .done .stop)
 .stop) .stop)) .stop)) (.alt (o1 18 (.ext 6 2)) (.alt (o1 16 (.ext 6 0)) (.alt (ia 3 16) (.alt (ia 4 17) (.alt (ia 5 18) .done .stop) .stop) .stop) .stop) .stop)) (.alt (o1 18
 (.ext 6 2)) (.alt (o1 16 (.ext 6 0)) (.alt (o1 17 (.ext 6 1)) (.alt (ia 3 16) (.alt (ia 4 17) (.alt (ia 5 18) .done .stop) .stop) .stop) (.alt (ia 3 16) (.alt (o1 17 (.ext 6 1))
 (.alt (ia 4 17) (.alt (ia 5 18) .done .stop) .stop) .stop) .stop)) (.alt (o1 17 (.ext 6 1)) (.alt (o1 16 (.ext 6 0)) (.alt (ia 3 16) (.alt (ia 4 17) (.alt (ia 5 18) .done .stop)
 .stop) .stop) .stop) .stop)) .stop)))) .stop)))))))))]))) (.seq (.seq (.region [im 19 5, o1 20 (.un .not 19), im 21 20, gf 22 21 (.mv 3), gf 23 21 (.bin .gtr 22 (kI 100)), o1 24
 (.pick 21 kT 23)]) (.frame [25] [] false (.join [] (.cond 24 (.region [o1 25 (.mkI 26 (kI 40)), o0 ⟨none, .panic 25, none⟩]) .skip)))) (.seq (.region [im 26 0, im 27 4, o1 28
 (.nilc 26), fa 29 1 28, o0 ⟨none, .store 1 29 27, none⟩]) (.seq (.region [im 30 3, ia 2 30]) .ret)))))
def C0 : AFn := ⟨ QB, Ea.erase, [.tmp 2], 1⟩
def FR (P : Pg) (x : Aa) (K : Int → Aa → Prop) : Prop :=
 Ag (D := (Int × (Int × Bool))) (fun J1 => (Fn P VG CM (x.1, x.2.1) (fun (d3 : (Int × (Int × Bool))) (e4 : Unit) => ((((((J1 d3) ∧ True) ∧ True) ∧ True) ∧ (((((J1 d3) ∧ True) ∧ True) ∧ ((((J1 d3) ∧ True) ∧ True) ∧ True)) ∧ True)) ∧ ((((((J1 d3) ∧ True) ∧ True) ∧ True) ∧ (((((J1 d3) ∧ True) ∧ True) ∧ True) ∧ True)) ∧ ((((((J1 d3) ∧ True) ∧ True) ∧ ((((J1 d3) ∧ True) ∧ True) ∧ True)) ∧ (((((J1 d3) ∧ True) ∧ True) ∧ True) ∧ True)) ∧ True))) ∧ (((((((J1 d3) ∧ True) ∧ True) ∧ True) ∧ (((((J1 d3) ∧ True) ∧ True) ∧ ((((J1 d3) ∧ True) ∧ True) ∧ True)) ∧ True)) ∧ ((((((J1 d3) ∧ True) ∧ True) ∧ True) ∧ True) ∧ True)) ∧ (((((((J1 d3) ∧ True) ∧ True) ∧ True) ∧ (((((J1 d3) ∧ True) ∧ True) ∧ True) ∧ True)) ∧ ((((((J1 d3) ∧ True) ∧ True) ∧ True) ∧ True) ∧ True)) ∧ True)))) ∧ True) (fun d2 => Ag (D := Unit) (fun J5 => (((cond (!d2.2.2) true (decide (d2.1 > (100 : Int)))) = true → P.kp (.iface 26 (.int .i64 (40 : Int)))) ∧ ((cond (!d2.2.2) true (decide (d2.1 > (100 : Int)))) = false → J5 ()))) (fun d6 => K d2.1 (x.1, (d2.2.1, x.2.2))))
theorem Jo {P : Pg} (h : Has P C0) {x : DP AZ.ps} {K : DP AZ.rs → DP (ptrs AZ.ps) → Prop} (hw : FR P x K) : Fn P QB AZ x K :=
 BI (c := Ea) h rfl rfl (by kernel_rfl) (Eq.mpr (show BC P C0 AZ Ea x K = _ by kernel_rfl) hw)
def D8 : Be :=
 (.seq (.region [ia 2 (kI 0), ia 3 (kI 0)]) (.seq (.region [im 6 0, oS ⟨some 7, .call QB [6], none⟩ AZ, ia 2 7]) (.seq (.region
 [im 8 2, ia 3 8]) (.seq (.seq (.region [im 9 0, oS ⟨some 10, .call zS1 [9, (.c (.int .u8 44))], none⟩ As]) (.frame (rg [3, 4, 5] 11 12)
 [0] true (.join [.si 3, .bx 0 Aw (.pair .leaf (.pair .leaf (.pair .leaf (.node .own (.pair .leaf (.pair .leaf (.pair .leaf (.pair .leaf tM))))))))] (.cond 10 (.seq
 (.region [ia 3 (kI (-1))]) (.seq (.region [im 12 0, oS ⟨some 13, .call zS5 [12], none⟩ AF, im 11 13, o1 14 (.ext 11 0), o1 15 (.ext 11
 1), ia 4 14, ia 5 15]) (.seq (.region [im 16 5, im 17 16, gt 18 17 (.mv 4), gt 19 17 (.bin .neq 18 (.c (.int .u8 125))), o1 20 (.pick 17 19 kF)]) (.frame [3, 21, 22] [0] true
 (.join [.si 3, .bx 0 Aw (.pair .leaf (.pair .leaf (.pair .leaf (.node .own (.pair .leaf (.pair .leaf (.pair .leaf (.pair .leaf tM))))))))] (.cond 20 (.region [im 21 0,
 oS ⟨some 22, .call QB [21], none⟩ AZ, ia 3 22]) .skip)))))) .skip)))) (.seq (.seq (.region [im 23 0, oS ⟨some 24, .call
 zS1 [23, (.c (.int .u8 125))], none⟩ As, o1 25 (.un .not 24), im 26 25, gf 27 26 (.mv 3), gf 28 26 (.bin .geq 27 (kI 0)), gf 29 26 (.mv
 28), gt 30 29 (.mv 3), gt 31 29 (.mv 2), gt 32 29 (.bin .lss 30 31), gf 33 26 (.pick 29 32 kF), o1 34 (.pick 26 kT 33)]) (.frame [35] [] false (.join [] (.cond 34 (.region [o1 35
 (.mkI 26 (kI 40)), o0 ⟨none, .panic 35, none⟩]) .skip)))) (.seq (.region [im 36 2, im 37 3, ia 2 36, ia 3 37]) .ret))))))
def CY : AFn := ⟨ XE, D8.erase, [.tmp 2, .tmp 3], 1⟩
def FP (P : Pg) (x : Aa) (K : (Int × Int) → Aa → Prop) : Prop :=
 Fn P QB AZ x (fun (d1 : Int) (e2 : Aa) => Fn P zS1 As (e2, (44 : Int)) (fun (d3 : Bool) (e4 : Aa) => Ag (D := (Int × Aa)) (fun J5 => ((d3 = true → Fn P zS5 AF e4 (fun (d7 : (Int × Bool)) (e8 : Aa) => Ag (D := (Int × Aa)) (fun J9 => (((cond d7.2 (d7.1 != (125 : Int)) false) = true → Fn P QB AZ e8 (fun (d11 : Int) (e12 : Aa) => J9 (d11, e12))) ∧ ((cond d7.2 (d7.1 != (125 : Int)) false) = false → J9 ((-1 : Int), e8)))) (fun d10 => J5 d10))) ∧ (d3 = false → J5 (d1, e4)))) (fun d6 => Fn P zS1 As (d6.2, (125 : Int)) (fun (d13 : Bool) (e14 : Aa) => Ag (D := Unit) (fun J15 => (((cond (!d13) true (cond (decide (d6.1 ≥ (0 : Int))) (decide (d6.1 < d1)) false)) = true → P.kp (.iface 26 (.int .i64 (40 : Int)))) ∧ ((cond (!d13) true (cond (decide (d6.1 ≥ (0 : Int))) (decide (d6.1 < d1)) false)) = false → J15 ()))) (fun d16 => K (d1, d6.1) e14)))))
theorem Jm {P : Pg} (h : Has P CY) {x : DP Bf.ps} {K : DP Bf.rs → DP (ptrs Bf.ps) → Prop} (hw : FP P x K) : Fn P XE Bf x K :=
 BI (c := D8) h rfl rfl (by kernel_rfl) (Eq.mpr (show BC P CY Bf D8 x K = _ by kernel_rfl) hw)
def C6 : Be :=
 (.seq (.region [ia 2 (kI 0), ia 3 (kI 0), o1 4 (.asg kF)]) (.seq (.frame (rg [] 2 22) [0] true (.join [.si 2, .si 3, .sl 4 false .bool .leaf, .bx 0 Aw (.pair .leaf
 (.pair .leaf (.pair .leaf (.node .own (.pair .leaf (.pair .leaf (.pair .leaf (.pair .leaf tM))))))))] (.block 0 (.seq (.region [im 6 0, oS ⟨some 7, .call
 zS1 [6, (.c (.int .u8 42))], none⟩ As, ia 5 7]) (.cond 5 (.seq (.region [ia 2 (kI 0), ia 3 (kI (-1)), o1 4 (.asg kT)]) .ret) (.seq
 (.region [im 9 0, oS ⟨some 10, .call zS1 [9, (.c (.int .u8 43))], none⟩ As, ia 8 10]) (.cond 8 (.seq (.region [ia 2 (kI 1), ia 3 (kI
 (-1)), o1 4 (.asg kT)]) .ret) (.seq (.region [im 12 0, oS ⟨some 13, .call zS1 [12, (.c (.int .u8 63))], none⟩ As, ia 11 13]) (.cond 11
 (.seq (.region [ia 2 (kI 0), ia 3 (kI 1), o1 4 (.asg kT)]) .ret) (.seq (.region [im 15 0, oS ⟨some 16, .call zS1 [15, (.c (.int .u8 123))], none⟩
 As, ia 14 16]) (.cond 14 (.seq (.region [im 18 0, oS ⟨some 19, .call XE [18], none⟩ Bf, im 17 19, o1 20 (.ext 17
 0), o1 21 (.ext 17 1), ia 2 20, ia 3 21]) (.seq (.region [im 22 2, im 23 3, ia 2 22, ia 3 23, o1 4 (.asg kT)]) .ret)) .skip))))))))))) (.seq (.region [ia 2 (kI 0), ia 3 (kI 0), o1
 4 (.asg kF)]) .ret)))
def Cn : AFn := ⟨ VH, C6.erase, [.tmp 2, .tmp 3, .tmp 4], 1⟩
def EF (P : Pg) (x : Aa) (K : (Int × (Int × Bool)) → Aa → Prop) : Prop :=
 Ag (D := (Int × (Int × (Bool × Aa)))) (fun J1 => Fn P zS1 As (x, (42 : Int)) (fun (d3 : Bool) (e4 : Aa) => ((d3 = true → K ((0 : Int), ((-1 : Int), true)) e4) ∧ (d3 = false → Fn P zS1 As (e4, (43 : Int)) (fun (d5 : Bool) (e6 : Aa) => ((d5 = true → K ((1 : Int), ((-1 : Int), true)) e6) ∧ (d5 = false → Fn P zS1 As (e6, (63 : Int)) (fun (d7 : Bool) (e8 : Aa) => ((d7 = true → K ((0 : Int), ((1 : Int), true)) e8) ∧ (d7 = false → Fn P zS1 As (e8, (123 : Int)) (fun (d9 : Bool) (e10 : Aa) => ((d9 = true → Fn P XE Bf e10 (fun (d11 : (Int × Int)) (e12 : Aa) => K (d11.1, (d11.2, true)) e12)) ∧ (d9 = false → J1 ((0 : Int), ((0 : Int), (false, e10)))))))))))))))) (fun d2 => K ((0 : Int), ((0 : Int), false)) d2.2.2.2)
theorem HH {P : Pg} (h : Has P Cn) {x : DP A7.ps} {K : DP A7.rs → DP (ptrs A7.ps) → Prop} (hw : EF P x K) : Fn P VH A7 x K :=
 BI (c := C6) h rfl rfl (by kernel_rfl) (Eq.mpr (show BC P Cn A7 C6 x K = _ by kernel_rfl) hw)
def CV : Be :=
 (.seq (.region [ia 2 (kI 0)]) (.seq (.seq (.region [im 4 0, o1 5 (.nilc 4), fa 6 2 5, ld 7 6, o1 8 (.bin .eql 7 (kI 50))]) (.frame [9] [] false (.join [] (.cond 8 (.region [o1 9
 (.mkI 26 (kI 1)), o0 ⟨none, .panic 9, none⟩]) .skip)))) (.seq (.region [im 10 0, o1 11 (.nilc 10), fa 12 1 11, ld 13 12, o1 14 (.bin .add 13 (kI 1)), o1 15 (.nilc 10), fa 16 1 15,
 o0 ⟨none, .store 1 16 14, none⟩]) (.seq (.region [im 17 0, o1 18 (.nilc 17), fa 19 2 18, ld 20 19, o1 21 (.bin .add 20 (kI 1)), o1 22 (.nilc 17), fa 23 2 22, o0 ⟨none, .store 1 23
 21, none⟩]) (.seq (.region [im 24 0, oS ⟨some 25, .call QU [24], none⟩ AQ, ia 3 25]) (.seq (.region [im 26 0, o1 27 (.nilc 26),
 fa 28 2 27, ld 29 28, o1 30 (.bin .sub 29 (kI 1)), o1 31 (.nilc 26), fa 32 2 31, o0 ⟨none, .store 1 32 30, none⟩]) (.seq (.seq (.region [im 33 0, oS ⟨some 34, .call
 zS1 [33, (.c (.int .u8 41))], none⟩ As, o1 35 (.un .not 34)]) (.frame [36] [] false (.join [] (.cond 35 (.region [o1 36 (.mkI 26 (kI
 40)), o0 ⟨none, .panic 36, none⟩]) .skip)))) (.seq (.region [im 37 3, ia 2 37]) .ret))))))))
def A4 : AFn := ⟨ Sv, CV.erase, [.tmp 2], 1⟩
def Ek (P : Pg) (x : Aa) (K : Int → Aa → Prop) : Prop :=
 Ag (D := Unit) (fun J1 => (((x.2.2.1 == (50 : Int)) = true → P.kp (.iface 26 (.int .i64 (1 : Int)))) ∧ ((x.2.2.1 == (50 : Int)) = false → J1 ()))) (fun d2 => Fn P QU AQ (x.1, ((i64.wrap (x.2.1 + (1 : Int))), ((i64.wrap (x.2.2.1 + (1 : Int))), x.2.2.2))) (fun (d3 : Int) (e4 : Aa) => Fn P zS1 As ((e4.1, (e4.2.1, ((i64.wrap (e4.2.2.1 - (1 : Int))), e4.2.2.2))), (41 : Int)) (fun (d5 : Bool) (e6 : Aa) => Ag (D := Unit) (fun J7 => (((!d5) = true → P.kp (.iface 26 (.int .i64 (40 : Int)))) ∧ ((!d5) = false → J7 ()))) (fun d8 => K d3 e6))))
theorem G8 {P : Pg} (h : Has P A4) {x : DP AP.ps} {K : DP AP.rs → DP (ptrs AP.ps) → Prop} (hw : Ek P x K) : Fn P Sv AP x K :=
 BI (c := CV) h rfl rfl (by kernel_rfl) (Eq.mpr (show BC P A4 AP CV x K = _ by kernel_rfl) hw)
def Gf : Be :=
 (.seq (.region [o1 2 (.box 0), o1 4 (.alloc [(.int .u64 0), (.int .u64 0), (.int .u64 0), (.int .u64 0)])]) (.seq (.region [im 5 1, o1 6 (.bin .quo 5 (.c (.int .u8 64))), o1 7
 (.ixAr 4 1 2 6), ld 8 7, im 9 1, o1 10 (.bin .rem 9 (.c (.int .u8 64))), o1 11 (.bin .shl (.c (.int .u64 1)) 10), o1 12 (.bin .or 8 11), o1 13 (.ixAr 4 1 2 6), o0 ⟨none, .store 1
 13 12, none⟩]) (.seq (.region [o1 14 (.load true 4 2), o0 ⟨none, .store 4 4 14, none⟩]) .ret)))
def Ey : AFn := ⟨ zS6, Gf.erase, [.cell 4 true 4], 2⟩
def IV (P : Pg) (x : ((Int × (Int × (Int × Int))) × Int)) (K : (Int × (Int × (Int × Int))) → Unit → Prop) : Prop :=
 ((64 : Int) ≠ 0) ∧
 (0 ≤ (u8.wrap (Int.tdiv x.2 (64 : Int))) ∧ (u8.wrap (Int.tdiv x.2 (64 : Int))) < ((4 : Nat) : Int)) ∧
 ((Int.toNat (u8.wrap (Int.tdiv x.2 (64 : Int)))) < 4) ∧
 ((64 : Int) ≠ 0) ∧
 (0 ≤ (Int.tmod x.2 (64 : Int))) ∧
 (0 ≤ (u8.wrap (Int.tdiv x.2 (64 : Int))) ∧ (u8.wrap (Int.tdiv x.2 (64 : Int))) < ((4 : Nat) : Int)) ∧
 ((Int.toNat (u8.wrap (Int.tdiv x.2 (64 : Int)))) < 4) ∧
 K ((if (Int.toNat (u8.wrap (Int.tdiv x.2 (64 : Int)))) = 0 then (u64.wrap ((BitVec.toNat (BitVec.ofInt u64.bits (List.getD [x.1.1, x.1.2.1, x.1.2.2.1, x.1.2.2.2] (Int.toNat (u8.wrap (Int.tdiv x.2 (64 : Int)))) (0 : Int)) ||| BitVec.ofInt u64.bits (u64.wrap ((1 : Int) * 2 ^ (min (Int.toNat (Int.tmod x.2 (64 : Int))) u64.bits)))) : Nat) : Int)) else x.1.1), ((if (Int.toNat (u8.wrap (Int.tdiv x.2 (64 : Int)))) = 1 then (u64.wrap ((BitVec.toNat (BitVec.ofInt u64.bits (List.getD [x.1.1, x.1.2.1, x.1.2.2.1, x.1.2.2.2] (Int.toNat (u8.wrap (Int.tdiv x.2 (64 : Int)))) (0 : Int)) ||| BitVec.ofInt u64.bits (u64.wrap ((1 : Int) * 2 ^ (min (Int.toNat (Int.tmod x.2 (64 : Int))) u64.bits)))) : Nat) : Int)) else x.1.2.1), ((if (Int.toNat (u8.wrap (Int.tdiv x.2 (64 : Int)))) = 2 then (u64.wrap ((BitVec.toNat (BitVec.ofInt u64.bits (List.getD [x.1.1, x.1.2.1, x.1.2.2.1, x.1.2.2.2] (Int.toNat (u8.wrap (Int.tdiv x.2 (64 : Int)))) (0 : Int)) ||| BitVec.ofInt u64.bits (u64.wrap ((1 : Int) * 2 ^ (min (Int.toNat (Int.tmod x.2 (64 : Int))) u64.bits)))) : Nat) : Int)) else x.1.2.2.1), (if (Int.toNat (u8.wrap (Int.tdiv x.2 (64 : Int)))) = 3 then (u64.wrap ((BitVec.toNat (BitVec.ofInt u64.bits (List.getD [x.1.1, x.1.2.1, x.1.2.2.1, x.1.2.2.2] (Int.toNat (u8.wrap (Int.tdiv x.2 (64 : Int)))) (0 : Int)) ||| BitVec.ofInt u64.bits (u64.wrap ((1 : Int) * 2 ^ (min (Int.toNat (Int.tmod x.2 (64 : Int))) u64.bits)))) : Nat) : Int)) else x.1.2.2.2)))) ()
theorem MQ {P : Pg} (h : Has P Ey) {x : DP AO.ps} {K : DP AO.rs → DP (ptrs AO.ps) → Prop} (hw : IV P x K) : Fn P zS6 AO x K :=
 BI (c := Gf) h rfl rfl (by kernel_rfl) (Eq.mpr (show BC P Ey AO Gf x K = _ by kernel_rfl) hw)
def EP : Be :=
 (.seq (.region [o1 2 (.asg (.c (.int .u8 0)))]) (.seq (.region [im 6 0, oS ⟨some 7, .call zS5 [6], none⟩ AF, im 5 7, o1 8 (.ext 5 0),
 o1 9 (.ext 5 1), ia 3 8, ia 4 9]) (.seq (.seq (.region [im 10 4, o1 11 (.un .not 10)]) (.frame [12] [] false (.join [] (.cond 11 (.region [o1 12 (.mkI 26 (kI 40)), o0 ⟨none, .panic
 12, none⟩]) .skip)))) (.seq (.region [im 13 0, o1 14 (.nilc 13), fa 15 1 14, ld 16 15, o1 17 (.bin .add 16 (kI 1)), o1 18 (.nilc 13), fa 19 1 18, o0 ⟨none, .store 1 19 17, none⟩])
 (.seq (.region [im 20 3, ia 2 20]) .ret)))))
def Dq : AFn := ⟨ zS9, EP.erase, [.tmp 2], 1⟩
def GX (P : Pg) (x : Aa) (K : Int → Aa → Prop) : Prop :=
 Fn P zS5 AF x (fun (d1 : (Int × Bool)) (e2 : Aa) => Ag (D := Unit) (fun J3 => (((!d1.2) = true → P.kp (.iface 26 (.int .i64 (40 : Int)))) ∧ ((!d1.2) = false → J3 ()))) (fun d4 => K d1.1 (e2.1, ((i64.wrap (e2.2.1 + (1 : Int))), e2.2.2))))
theorem Kw {P : Pg} (h : Has P Dq) {x : DP AS.ps} {K : DP AS.rs → DP (ptrs AS.ps) → Prop} (hw : GX P x K) : Fn P zS9 AS x K :=
 BI (c := EP) h rfl rfl (by kernel_rfl) (Eq.mpr (show BC P Dq AS EP x K = _ by kernel_rfl) hw)
def ER : Be :=
 (.seq (.region [o1 3 (.box 0), o1 6 (.alloc [(.int .u64 0), (.int .u64 0), (.int .u64 0), (.int .u64 0)])]) (.seq (.seq (.region [im 8 1, o1 9 (.conv (.toInt .i64) 8), ia 7 9])
 (.frame (rg [7] 10 10) [1003] false (.join [.bx 1003 (.pair (.int .u64) (.pair (.int .u64) (.pair (.int .u64) (.int .u64)))) .leaf] (.block 0 (.loop [.si 7, .bx 1003 (.pair (.int
 .u64) (.pair (.int .u64) (.pair (.int .u64) (.int .u64)))) .leaf] (.seq (.seq (.region [im 10 7, im 11 2, o1 12 (.conv (.toInt .i64) 11), o1 13 (.bin .leq 10 12)]) (.cond 13 .skip
 (.exit 0))) (.seq (.frame (rg [] 16 4) [1003] false (.join [.bx 1003 (.pair (.int .u64) (.pair (.int .u64) (.pair (.int .u64) (.int .u64)))) .leaf] (.block 1 (.region [o1 16 (.load
 true 4 3), im 17 7, o1 18 (.conv (.toInt .u8) 17), oS ⟨some 19, .call zS6 [16, 18], none⟩ AO, o0 ⟨none, .store 4 3 19, none⟩])))) (.region
 [im 14 7, o1 15 (.bin .add 14 (kI 1)), ia 7 15])))))))) (.seq (.region [o1 20 (.load true 4 3), o0 ⟨none, .store 4 6 20, none⟩]) .ret)))
def Dr : AFn := ⟨ zS0, ER.erase, [.cell 6 true 4], 3⟩
def GY (P : Pg) (x : ((Int × (Int × (Int × Int))) × (Int × Int))) (K : (Int × (Int × (Int × Int))) → Unit → Prop) : Prop :=
 Ag (D := (Int × (Int × (Int × Int)))) (fun J1 => B0 (D := (Int × (Int × (Int × (Int × Int))))) ((i64.wrap x.2.1), x.1) (fun d3 J4 => (((decide (d3.1 ≤ (i64.wrap x.2.2))) = true → Ag (D := (Int × (Int × (Int × Int)))) (fun J5 => Fn P zS6 AO (d3.2, (u8.wrap d3.1)) (fun (d7 : (Int × (Int × (Int × Int)))) (e8 : Unit) => J5 d7)) (fun d6 => J4 ((i64.wrap (d3.1 + (1 : Int))), d6))) ∧ ((decide (d3.1 ≤ (i64.wrap x.2.2))) = false → J1 d3.2)))) (fun d2 => K d2 ())
theorem Kx {P : Pg} (h : Has P Dr) {x : DP Ao.ps} {K : DP Ao.rs → DP (ptrs Ao.ps) → Prop} (hw : GY P x K) : Fn P zS0 Ao x K :=
 BI (c := ER) h rfl rfl (by kernel_rfl) (Eq.mpr (show BC P Dr Ao ER x K = _ by kernel_rfl) hw)
def FI : Be :=
 (.seq (.region [o1 2 (.box 0), o1 4 (.alloc [(.int .u64 0), (.int .u64 0), (.int .u64 0), (.int .u64 0)])]) (.seq (.seq (.region [im 5 1]) (.frame (rg [] 6 35) [1004] false (.join
 [.bx 1004 (.pair (.int .u64) (.pair (.int .u64) (.pair (.int .u64) (.int .u64)))) .leaf] (.block 0 (.seq (.region [o1 7 (.bin .eql 5 (.c (.string ⟨#[97, 108, 112, 104, 97]⟩))), ia
 6 7]) (.cond 6 (.seq (.region [o1 8 (.load true 4 2), oS ⟨some 9, .call zS0 [8, (.c (.int .u8 97)), (.c (.int .u8 122))], none⟩ Ao, oS
 ⟨some 10, .call zS0 [9, (.c (.int .u8 65)), (.c (.int .u8 90))], none⟩ Ao, o0 ⟨none, .store 4 4 10, none⟩]) .ret) (.seq (.region [o1 12
 (.bin .eql 5 (.c (.string ⟨#[100, 105, 103, 105, 116]⟩))), ia 11 12]) (.cond 11 (.seq (.region [o1 13 (.load true 4 2), oS ⟨some 14, .call zS0 [13, (.c
 (.int .u8 48)), (.c (.int .u8 57))], none⟩ Ao, o0 ⟨none, .store 4 4 14, none⟩]) .ret) (.seq (.region [o1 16 (.bin .eql 5 (.c (.string ⟨#[97, 108, 110, 117,
 109]⟩))), ia 15 16]) (.cond 15 (.seq (.region [o1 17 (.load true 4 2), oS ⟨some 18, .call zS0 [17, (.c (.int .u8 97)), (.c (.int .u8 122))], none⟩
 Ao, oS ⟨some 19, .call zS0 [18, (.c (.int .u8 65)), (.c (.int .u8 90))], none⟩ Ao, oS ⟨some 20, .call
 zS0 [19, (.c (.int .u8 48)), (.c (.int .u8 57))], none⟩ Ao, o0 ⟨none, .store 4 4 20, none⟩]) .ret) (.seq (.region [o1 22 (.bin .eql 5
 (.c (.string ⟨#[117, 112, 112, 101, 114]⟩))), ia 21 22]) (.cond 21 (.seq (.region [o1 23 (.load true 4 2), oS ⟨some 24, .call zS0 [23, (.c (.int .u8
 65)), (.c (.int .u8 90))], none⟩ Ao, o0 ⟨none, .store 4 4 24, none⟩]) .ret) (.seq (.region [o1 26 (.bin .eql 5 (.c (.string ⟨#[108, 111, 119, 101, 114]⟩))), ia 25
 26]) (.cond 25 (.seq (.region [o1 27 (.load true 4 2), oS ⟨some 28, .call zS0 [27, (.c (.int .u8 97)), (.c (.int .u8 122))], none⟩ Ao,
 o0 ⟨none, .store 4 4 28, none⟩]) .ret) (.seq (.region [o1 30 (.bin .eql 5 (.c (.string ⟨#[115, 112, 97, 99, 101]⟩))), ia 29 30]) (.cond 29 (.seq (.region [o1 31 (.load true 4 2),
 oS ⟨some 32, .call zS0 [31, (.c (.int .u8 9)), (.c (.int .u8 13))], none⟩ Ao, oS ⟨some 33, .call zS6 [32, (.c
 (.int .u8 32))], none⟩ AO, o0 ⟨none, .store 4 4 33, none⟩]) .ret) (.seq (.region [o1 35 (.bin .eql 5 (.c (.string ⟨#[112, 117, 110, 99, 116]⟩))), ia 34 35]) (.cond 34
 (.seq (.region [o1 36 (.load true 4 2), oS ⟨some 37, .call zS0 [36, (.c (.int .u8 33)), (.c (.int .u8 47))], none⟩ Ao, oS ⟨some 38,
 .call zS0 [37, (.c (.int .u8 58)), (.c (.int .u8 64))], none⟩ Ao, oS ⟨some 39, .call zS0 [38, (.c (.int .u8
 91)), (.c (.int .u8 96))], none⟩ Ao, oS ⟨some 40, .call zS0 [39, (.c (.int .u8 123)), (.c (.int .u8 126))], none⟩ Ao,
 o0 ⟨none, .store 4 4 40, none⟩]) .ret) .skip)))))))))))))))))) (.region [o1 41 (.mkI 26 (kI 40)), o0 ⟨none, .panic 41, none⟩])))
def Ee : AFn := ⟨ VI, FI.erase, [.cell 4 true 4], 2⟩
def Ik (P : Pg) (x : ((Int × (Int × (Int × Int))) × (List UInt8))) (K : (Int × (Int × (Int × Int))) → Unit → Prop) : Prop :=
 Ag (D := (Int × (Int × (Int × Int)))) (fun J1 => (((x.2 == ([97, 108, 112, 104, 97] : List UInt8)) = true → Fn P zS0 Ao (x.1, ((97 : Int), (122 : Int))) (fun (d3 : (Int × (Int × (Int × Int)))) (e4 : Unit) => Fn P zS0 Ao (d3, ((65 : Int), (90 : Int))) (fun (d5 : (Int × (Int × (Int × Int)))) (e6 : Unit) => K d5 ()))) ∧ ((x.2 == ([97, 108, 112, 104, 97] : List UInt8)) = false → (((x.2 == ([100, 105, 103, 105, 116] : List UInt8)) = true → Fn P zS0 Ao (x.1, ((48 : Int), (57 : Int))) (fun (d7 : (Int × (Int × (Int × Int)))) (e8 : Unit) => K d7 ())) ∧ ((x.2 == ([100, 105, 103, 105, 116] : List UInt8)) = false → (((x.2 == ([97, 108, 110, 117, 109] : List UInt8)) = true → Fn P zS0 Ao (x.1, ((97 : Int), (122 : Int))) (fun (d9 : (Int × (Int × (Int × Int)))) (e10 : Unit) => Fn P zS0 Ao (d9, ((65 : Int), (90 : Int))) (fun (d11 : (Int × (Int × (Int × Int)))) (e12 : Unit) => Fn P zS0 Ao (d11, ((48 : Int), (57 : Int))) (fun (d13 : (Int × (Int × (Int × Int)))) (e14 : Unit) => K d13 ())))) ∧ ((x.2 == ([97, 108, 110, 117, 109] : List UInt8)) = false → (((x.2 == ([117, 112, 112, 101, 114] : List UInt8)) = true → Fn P zS0 Ao (x.1, ((65 : Int), (90 : Int))) (fun (d15 : (Int × (Int × (Int × Int)))) (e16 : Unit) => K d15 ())) ∧ ((x.2 == ([117, 112, 112, 101, 114] : List UInt8)) = false → (((x.2 == ([108, 111, 119, 101, 114] : List UInt8)) = true → Fn P zS0 Ao (x.1, ((97 : Int), (122 : Int))) (fun (d17 : (Int × (Int × (Int × Int)))) (e18 : Unit) => K d17 ())) ∧ ((x.2 == ([108, 111, 119, 101, 114] : List UInt8)) = false → (((x.2 == ([115, 112, 97, 99, 101] : List UInt8)) = true → Fn P zS0 Ao (x.1, ((9 : Int), (13 : Int))) (fun (d19 : (Int × (Int × (Int × Int)))) (e20 : Unit) => Fn P zS6 AO (d19, (32 : Int)) (fun (d21 : (Int × (Int × (Int × Int)))) (e22 : Unit) => K d21 ()))) ∧ ((x.2 == ([115, 112, 97, 99, 101] : List UInt8)) = false → (((x.2 == ([112, 117, 110, 99, 116] : List UInt8)) = true → Fn P zS0 Ao (x.1, ((33 : Int), (47 : Int))) (fun (d23 : (Int × (Int × (Int × Int)))) (e24 : Unit) => Fn P zS0 Ao (d23, ((58 : Int), (64 : Int))) (fun (d25 : (Int × (Int × (Int × Int)))) (e26 : Unit) => Fn P zS0 Ao (d25, ((91 : Int), (96 : Int))) (fun (d27 : (Int × (Int × (Int × Int)))) (e28 : Unit) => Fn P zS0 Ao (d27, ((123 : Int), (126 : Int))) (fun (d29 : (Int × (Int × (Int × Int)))) (e30 : Unit) => K d29 ()))))) ∧ ((x.2 == ([112, 117, 110, 99, 116] : List UInt8)) = false → J1 ((0 : Int), ((0 : Int), ((0 : Int), (0 : Int))))))))))))))))))) (fun d2 => P.kp (.iface 26 (.int .i64 (40 : Int))))
theorem Mc {P : Pg} (h : Has P Ee) {x : DP BV.ps} {K : DP BV.rs → DP (ptrs BV.ps) → Prop} (hw : Ik P x K) : Fn P VI BV x K :=
 BI (c := FI) h rfl rfl (by kernel_rfl) (Eq.mpr (show BC P Ee BV FI x K = _ by kernel_rfl) hw)
def EM : Be :=
 (.seq (.region [o1 3 (.box 1), o1 4 (.alloc [(.int .u64 0), (.int .u64 0), (.int .u64 0), (.int .u64 0)])]) (.seq (.seq (.frame (rg [5, 6] 12 13) [] false (.join [.sl 5 false .str
 .leaf, .sl 6 false .bool .leaf] (.draw [(.first (im 13 0) (.first (o1 14 (.nilc 13)) (.first (fa 15 0 14) (.first (ld 16 15) (.first (im 17 0) (.first (o1 18 (.nilc 17)) (.first
 (fa 19 1 18) (.first (ld 20 19) (.first (o1 21 (.slS 16 (some 20) none)) (.alt (oS ⟨some 22, .call "strings.CutPrefix" [21, (.c (.string ⟨#[91, 58]⟩))], none⟩ Ds)
 (.first (im 12 22) (.alt (o1 23 (.ext 12 0)) (.alt (o1 24 (.ext 12 1)) (.alt (ia 5 23) (.alt (ia 6 24) .done .stop) .stop) (.alt (ia 5 23) (.alt (o1 24 (.ext 12 1)) (.alt (ia 6 24)
 .done .stop) .stop) .stop)) (.alt (o1 24 (.ext 12 1)) (.alt (o1 23 (.ext 12 0)) (.alt (ia 5 23) (.alt (ia 6 24) .done .stop) .stop) .stop) .stop))) .stop))))))))))]))) (.seq
 (.region [im 25 6]) (.cond 25 (.seq (.region [im 27 5, oS ⟨some 28, .call "strings.Cut" [27, (.c (.string ⟨#[58, 93]⟩))], none⟩ Gp, im 26 28, o1 29 (.ext 26 0), o1 30
 (.ext 26 1), o1 31 (.ext 26 2), ia 7 29, ia 8 30, ia 9 31]) (.seq (.seq (.region [im 32 9, o1 33 (.un .not 32)]) (.frame [34] [] false (.join [] (.cond 33 (.region [o1 34 (.mkI 26
 (kI 40)), o0 ⟨none, .panic 34, none⟩]) .skip)))) (.seq (.region [im 35 0, o1 36 (.nilc 35), fa 37 1 36, ld 38 37, im 39 7, o1 40 (.lenS 39), o1 41 (.bin .add (kI 2) 40), o1 42
 (.bin .add 41 (kI 2)), o1 43 (.bin .add 38 42), o1 44 (.nilc 35), fa 45 1 44, o0 ⟨none, .store 1 45 43, none⟩]) (.seq (.region [o1 46 (.load true 4 3), im 47 7, oS ⟨some 48, .call
 VI [46, 47], none⟩ BV, o0 ⟨none, .store 4 4 48, none⟩]) .ret)))) .skip))) (.seq (.region [im 49 0, oS ⟨some 50, .call
 zS9 [49], none⟩ AS, ia 10 50]) (.seq (.frame (rg [11] 51 9) [] false (.join [.sl 11 false .str .leaf] (.draw [(.first (im 51 0)
 (.first (o1 52 (.nilc 51)) (.first (fa 53 0 52) (.first (ld 54 53) (.first (im 55 0) (.first (o1 56 (.nilc 55)) (.first (fa 57 1 56) (.first (ld 58 57) (.first (o1 59 (.slS 54
 (some 58) none)) (.alt (ia 11 59) .done .stop))))))))))]))) (.seq (.seq (.region [im 60 11, o1 61 (.lenS 60), o1 62 (.bin .lss 61 (kI 2)), im 63 62, gf 64 63 (.mv 11), gf 65 63
 (.ixS 64 (kI 0)), gf 66 63 (.bin .neq 65 (.c (.int .u8 45))), o1 67 (.pick 63 kT 66), im 68 67, gf 69 68 (.mv 11), gf 70 68 (.ixS 69 (kI 1)), gf 71 68 (.bin .eql 70 (.c (.int .u8
 93))), o1 72 (.pick 68 kT 71)]) (.cond 72 (.seq (.region [o1 73 (.load true 4 3), im 74 10, oS ⟨some 75, .call zS6 [73, 74], none⟩ AO, o0
 ⟨none, .store 4 4 75, none⟩]) .ret) .skip)) (.seq (.seq (.region [im 76 11, o1 77 (.ixS 76 (kI 1)), im 78 10, o1 79 (.bin .lss 77 78)]) (.frame [80] [] false (.join [] (.cond 79
 (.region [o1 80 (.mkI 26 (kI 40)), o0 ⟨none, .panic 80, none⟩]) .skip)))) (.seq (.region [im 81 0, o1 82 (.nilc 81), fa 83 1 82, ld 84 83, o1 85 (.bin .add 84 (kI 2)), o1 86 (.nilc
 81), fa 87 1 86, o0 ⟨none, .store 1 87 85, none⟩]) (.seq (.frame (rg [] 88 5) [1004] false (.join [.bx 1004 (.pair (.int .u64) (.pair (.int .u64) (.pair (.int .u64) (.int .u64))))
 .leaf] (.draw [(.first (o1 88 (.load true 4 3)) (.first (im 89 10) (.first (im 90 11) (.first (o1 91 (.ixS 90 (kI 1))) (.alt (oS ⟨some 92, .call zS0
 [88, 89, 91], none⟩ Ao) (.alt (o0 ⟨none, .store 4 4 92, none⟩) .done .stop) .stop)))))]))) .ret))))))))
def Dm : AFn := ⟨ QV, EM.erase, [.cell 4 true 4], 2⟩
def GU (P : Pg) (x : (Aa × (Int × (Int × (Int × Int))))) (K : (Int × (Int × (Int × Int))) → Aa → Prop) : Prop :=
 Ag (D := ((List UInt8) × Bool)) (fun J1 => (0 ≤ x.1.2.1 ∧ x.1.2.1 ≤ (x.1.1.length : Int)) ∧
 (Fn P "strings.CutPrefix" Ds ((List.drop x.1.2.1.toNat x.1.1), ([91, 58] : List UInt8)) (fun (d3 : ((List UInt8) × Bool)) (e4 : Unit) => ((((J1 d3) ∧ True) ∧ True) ∧ ((((J1 d3) ∧ True) ∧ True) ∧ True)) ∧ (((((J1 d3) ∧ True) ∧ True) ∧ True) ∧ True))) ∧ True) (fun d2 => ((d2.2 = true → Fn P "strings.Cut" Gp (d2.1, ([58, 93] : List UInt8)) (fun (d5 : ((List UInt8) × ((List UInt8) × Bool))) (e6 : Unit) => Ag (D := Unit) (fun J7 => (((!d5.2.2) = true → P.kp (.iface 26 (.int .i64 (40 : Int)))) ∧ ((!d5.2.2) = false → J7 ()))) (fun d8 => Fn P VI BV (x.2, d5.1) (fun (d9 : (Int × (Int × (Int × Int)))) (e10 : Unit) => K d9 (x.1.1, ((i64.wrap (x.1.2.1 + (i64.wrap ((i64.wrap ((2 : Int) + (d5.1.length : Int))) + (2 : Int))))), x.1.2.2)))))) ∧ (d2.2 = false → Fn P zS9 AS x.1 (fun (d11 : Int) (e12 : Aa) => Ag (D := (List UInt8)) (fun J13 => (0 ≤ e12.2.1 ∧ e12.2.1 ≤ (e12.1.length : Int)) ∧
 (J13 (List.drop e12.2.1.toNat e12.1)) ∧ True) (fun d14 => (((decide ((d14.length : Int) < (2 : Int))) = false → 0 ≤ (0 : Int) ∧ (0 : Int) < (d14.length : Int))) ∧
 (((cond (decide ((d14.length : Int) < (2 : Int))) true (((UInt8.toNat (List.getD d14 (Int.toNat (0 : Int)) 0) : Nat) : Int) != (45 : Int))) = false → 0 ≤ (1 : Int) ∧ (1 : Int) < (d14.length : Int))) ∧
 (((cond (cond (decide ((d14.length : Int) < (2 : Int))) true (((UInt8.toNat (List.getD d14 (Int.toNat (0 : Int)) 0) : Nat) : Int) != (45 : Int))) true (((UInt8.toNat (List.getD d14 (Int.toNat (1 : Int)) 0) : Nat) : Int) == (93 : Int))) = true → Fn P zS6 AO (x.2, d11) (fun (d15 : (Int × (Int × (Int × Int)))) (e16 : Unit) => K d15 e12)) ∧ ((cond (cond (decide ((d14.length : Int) < (2 : Int))) true (((UInt8.toNat (List.getD d14 (Int.toNat (0 : Int)) 0) : Nat) : Int) != (45 : Int))) true (((UInt8.toNat (List.getD d14 (Int.toNat (1 : Int)) 0) : Nat) : Int) == (93 : Int))) = false → (0 ≤ (1 : Int) ∧ (1 : Int) < (d14.length : Int)) ∧
 Ag (D := Unit) (fun J17 => (((decide (((UInt8.toNat (List.getD d14 (Int.toNat (1 : Int)) 0) : Nat) : Int) < d11)) = true → P.kp (.iface 26 (.int .i64 (40 : Int)))) ∧ ((decide (((UInt8.toNat (List.getD d14 (Int.toNat (1 : Int)) 0) : Nat) : Int) < d11)) = false → J17 ()))) (fun d18 => Ag (D := (Int × (Int × (Int × Int)))) (fun J19 => (0 ≤ (1 : Int) ∧ (1 : Int) < (d14.length : Int)) ∧
 (Fn P zS0 Ao (x.2, (d11, ((UInt8.toNat (List.getD d14 (Int.toNat (1 : Int)) 0) : Nat) : Int))) (fun (d21 : (Int × (Int × (Int × Int)))) (e22 : Unit) => (J19 d21) ∧ True)) ∧ True) (fun d20 => K d20 (e12.1, ((i64.wrap (e12.2.1 + (2 : Int))), e12.2.2)))))))))))
theorem Ks {P : Pg} (h : Has P Dm) {x : DP A9.ps} {K : DP A9.rs → DP (ptrs A9.ps) → Prop} (hw : GU P x K) : Fn P QV A9 x K :=
 BI (c := EM) h rfl rfl (by kernel_rfl) (Eq.mpr (show BC P Dm A9 EM x K = _ by kernel_rfl) hw)
end Go.VS
