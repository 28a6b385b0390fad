/- Functions of the program: typed code, and what it says, lifted. -/
import Derived.Test.YtbandpkgjepklaaKTxSig
import Derived.KernelRfl
set_option linter.unusedVariables false
set_option linter.unusedSimpArgs false
set_option maxRecDepth 8000
open List renaming getD → Qa0, length → Qa2, replicate → Qa7, take → Qa9, drop → Qb0
open Int renaming toNat → Qa1, tmod → Qa4, tdiv → Qa5, fdiv → Qa8
open BitVec renaming ofInt → Qa3, toNat → Qa6
namespace Go.VS
open IntKind
def Oa : Be :=
 (.seq (.region [ia 4 (kI 0)]) (.seq (.region [im 5 0, o1 6 (.conv (.toInt .u64) 5), im 7 1, o1 8 (.conv (.toInt .u64) 7), o1 9 (.bin .rem 6 8), o1 10 (.conv (.toInt .i64) 9), ia 4
 10]) .ret))
def K8 : AFn := ⟨ zS2, Oa.erase, [.tmp 4], 2⟩
def QZ (P : Pg) (x : (Int × Int)) (K : Int → Unit → Prop) : Prop :=
 ((u64.wrap x.2) ≠ 0) ∧
 K (i64.wrap (Qa4 (u64.wrap x.1) (u64.wrap x.2))) ()
theorem UP {P : Pg} (h : Has P K8) {x : DP BF.ps} {K : DP BF.rs → DP (ptrs BF.ps) → Prop} (hw : QZ P x K) : Fn P zS2 BF x K :=
 BI (c := Oa) h rfl rfl (by kernel_rfl) (Eq.mpr (show BC P K8 BF Oa x K = _ by kernel_rfl) hw)
def Qt : Be :=
 (.seq (.region [ia 4 (kI 0)]) (.seq (.region [im 6 1, o1 7 (.bin .add 6 (kI 1)), o1 8 (.conv (.toInt .u64) 7), o1 9 (.bin .mul 8 (.c (.int .u64 11400714819323198485))), ia 5 9])
 (.seq (.seq (.region [im 10 0, o1 11 (.lenK 10), o1 12 (.bin .gtr 11 (kI 0))]) (.frame (rg [5] 13 10) [] false (.join [.sl 5 false (.int .u64) .leaf] (.cond 12 (.region [im 13 5,
 im 14 0, im 15 1, im 16 0, o1 17 (.lenK 16), o1 18 (.bin .rem 15 17), o1 19 (.ixA 1 14 18), ld 20 19, o1 21 (.conv (.toInt .u64) 20), o1 22 (.bin .xor 13 21), ia 5 22]) .skip))))
 (.seq (.region [im 23 5, im 24 5, o1 25 (.bin .shr 24 (.c (.int .u64 31))), o1 26 (.bin .xor 23 25), o1 27 (.bin .mul 26 (.c (.int .u64 13787848793156543929))), ia 5 27]) (.seq
 (.region [im 28 5, im 29 5, o1 30 (.bin .shr 29 (.c (.int .u64 29))), o1 31 (.bin .xor 28 30), o1 32 (.bin .shr 31 (.c (.int .u64 1))), o1 33 (.conv (.toInt .i64) 32), ia 4 33])
 .ret)))))
def MA : AFn := ⟨ zS3, Qt.erase, [.tmp 4], 2⟩
def Sz (P : Pg) (x : ((List Int) × Int)) (K : Int → Unit → Prop) : Prop :=
 Ag (D := Int) (fun J1 => (((decide ((x.1.length : Int) > (0 : Int))) = true → ((x.1.length : Int) ≠ 0) ∧
 (0 ≤ (Qa4 x.2 (x.1.length : Int)) ∧ (Qa4 x.2 (x.1.length : Int)) < (x.1.length : Int)) ∧
 ((Qa1 (Qa4 x.2 (x.1.length : Int))) < x.1.length) ∧
 J1 (u64.wrap ((Qa6 (Qa3 u64.bits (u64.wrap ((u64.wrap (i64.wrap (x.2 + (1 : Int)))) * (11400714819323198485 : Int))) ^^^ Qa3 u64.bits (u64.wrap (Qa0 x.1 (Qa1 (Qa4 x.2 (x.1.length : Int))) (0 : Int)))) : Nat) : Int))) ∧ ((decide ((x.1.length : Int) > (0 : Int))) = false → J1 (u64.wrap ((u64.wrap (i64.wrap (x.2 + (1 : Int)))) * (11400714819323198485 : Int)))))) (fun d2 => (0 ≤ (31 : Int)) ∧
 (0 ≤ (29 : Int)) ∧
 (0 ≤ (1 : Int)) ∧
 K (i64.wrap (Qa8 (u64.wrap ((Qa6 (Qa3 u64.bits (u64.wrap ((u64.wrap ((Qa6 (Qa3 u64.bits d2 ^^^ Qa3 u64.bits (Qa8 d2 (2 ^ (min (Qa1 (31 : Int)) u64.bits)))) : Nat) : Int)) * (13787848793156543929 : Int))) ^^^ Qa3 u64.bits (Qa8 (u64.wrap ((u64.wrap ((Qa6 (Qa3 u64.bits d2 ^^^ Qa3 u64.bits (Qa8 d2 (2 ^ (min (Qa1 (31 : Int)) u64.bits)))) : Nat) : Int)) * (13787848793156543929 : Int))) (2 ^ (min (Qa1 (29 : Int)) u64.bits)))) : Nat) : Int)) (2 ^ (min (Qa1 (1 : Int)) u64.bits)))) ())
theorem WI {P : Pg} (h : Has P MA) {x : DP Ce.ps} {K : DP Ce.rs → DP (ptrs Ce.ps) → Prop} (hw : Sz P x K) : Fn P zS3 Ce x K :=
 BI (c := Qt) h rfl rfl (by kernel_rfl) (Eq.mpr (show BC P MA Ce Qt x K = _ by kernel_rfl) hw)
def IC : Be :=
 (.seq (.region [o1 4 (.asg (.c (.string ⟨#[]⟩)))]) (.seq (.region [oT ⟨some 9, .buildSl 1 [(.string ⟨#[]⟩)] 14 [(0, (.c (.string ⟨#[97]⟩))), (1, (.c (.string ⟨#[98]⟩))), (2, (.c
 (.string ⟨#[46]⟩))), (3, (.c (.string ⟨#[91, 97, 98, 93]⟩))), (4, (.c (.string ⟨#[91, 94, 97, 93]⟩))), (5, (.c (.string ⟨#[40, 97, 124, 98, 41]⟩))), (6, (.c (.string ⟨#[40, 97, 98,
 41]⟩))), (7, (.c (.string ⟨#[91, 91, 58, 97, 108, 112, 104, 97, 58, 93, 120, 93]⟩))), (8, (.c (.string ⟨#[92, 43]⟩))), (9, (.c (.string ⟨#[40, 41]⟩))), (10, (.c (.string ⟨#[40, 98,
 124, 41]⟩))), (11, (.c (.string ⟨#[91, 97, 45, 99, 93]⟩))), (12, (.c (.string ⟨#[93]⟩))), (13, (.c (.string ⟨#[120]⟩)))], none⟩ (some (.str, .leaf)), ia 5 9]) (.seq (.region [oT
 ⟨some 10, .buildSl 1 [(.string ⟨#[]⟩)] 10 [(0, (.c (.string ⟨#[]⟩))), (1, (.c (.string ⟨#[]⟩))), (2, (.c (.string ⟨#[]⟩))), (3, (.c (.string ⟨#[42]⟩))), (4, (.c (.string
 ⟨#[43]⟩))), (5, (.c (.string ⟨#[63]⟩))), (6, (.c (.string ⟨#[123, 50, 125]⟩))), (7, (.c (.string ⟨#[123, 49, 44, 50, 125]⟩))), (8, (.c (.string ⟨#[123, 48, 44, 49, 125]⟩))), (9,
 (.c (.string ⟨#[123, 50, 44, 125]⟩)))], none⟩ (some (.str, .leaf)), ia 6 10]) (.seq (.region [o1 7 (.asg (.c (.string ⟨#[]⟩)))]) (.seq (.seq (.region [im 11 0, oS ⟨some 12, .call
 zS3 [11, (kI 1)], none⟩ Ce, o1 13 (.bin .rem 12 (kI 5)), o1 14 (.bin .eql 13 (kI 0))]) (.frame [7] [] false (.join [.sl 7 false .str .leaf] (.cond 14
 (.region [o1 7 (.asg (.c (.string ⟨#[94]⟩)))]) .skip)))) (.seq (.seq (.region [ia 8 (kI 0)]) (.frame (rg [7, 8] 15 33) [] false (.join [.sl 7 false .str .leaf] (.block 0 (.loop
 [.sl 7 false .str .leaf, .si 8] (.seq (.seq (.region [im 15 8, im 16 1, oS ⟨some 17, .call zS2 [16, (kI 8)], none⟩ BF, o1 18 (.bin .lss 15 17)])
 (.cond 18 .skip (.exit 0))) (.seq (.frame (rg [7] 21 27) [] false (.join [.sl 7 false .str .leaf] (.block 1 (.seq (.frame (rg [7] 21 19) [] false (.join [.sl 7 false .str .leaf]
 (.draw [(.first (im 21 7) (.first (im 22 5) (.first (im 23 0) (.first (im 24 8) (.first (o1 25 (.bin .add (kI 10) 24)) (.first (im 31 6) (.first (im 32 0) (.first (im 33 8) (.first
 (o1 34 (.bin .add (kI 30) 33)) (.alt (oS ⟨some 26, .call zS3 [23, 25], none⟩ Ce) (.alt (oS ⟨some 27, .call zS2 [26, (kI 14)],
 none⟩ BF) (.first (o1 28 (.ixA 1 22 27)) (.alt (ld 29 28) (.first (o1 30 (.bin .add 21 29)) (.alt (oS ⟨some 35, .call zS3 [32, 34], none⟩ Ce)
 (.alt (oS ⟨some 36, .call zS2 [35, (kI 10)], none⟩ BF) (.first (o1 37 (.ixA 1 31 36)) (.first (ld 38 37) (.first (o1 39 (.bin .add 30 38)) (.alt (ia
 7 39) .done .stop)))) .stop) .stop)) (.alt (oS ⟨some 35, .call zS3 [32, 34], none⟩ Ce) (.alt (ld 29 28) (.first (o1 30 (.bin .add 21 29)) (.alt (oS
 ⟨some 36, .call zS2 [35, (kI 10)], none⟩ BF) (.first (o1 37 (.ixA 1 31 36)) (.first (ld 38 37) (.first (o1 39 (.bin .add 30 38)) (.alt (ia 7 39)
 .done .stop)))) .stop)) (.alt (oS ⟨some 36, .call zS2 [35, (kI 10)], none⟩ BF) (.first (ld 29 28) (.first (o1 30 (.bin .add 21 29)) (.first (o1 37
 (.ixA 1 31 36)) (.first (ld 38 37) (.first (o1 39 (.bin .add 30 38)) (.alt (ia 7 39) .done .stop)))))) .stop)) .stop))) .stop) .stop))))))))))]))) (.seq (.region [im 40 0, im 41 8,
 o1 42 (.bin .add (kI 50) 41), oS ⟨some 43, .call zS3 [40, 42], none⟩ Ce, o1 44 (.bin .rem 43 (kI 6)), o1 45 (.bin .eql 44 (kI 0))]) (.frame [7, 46,
 47] [] false (.join [.sl 7 false .str .leaf] (.cond 45 (.region [im 46 7, o1 47 (.bin .add 46 (.c (.string ⟨#[124]⟩))), ia 7 47]) .skip)))))))) (.region [im 19 8, o1 20 (.bin .add
 19 (kI 1)), ia 8 20])))))))) (.seq (.seq (.region [im 48 0, oS ⟨some 49, .call zS3 [48, (kI 2)], none⟩ Ce, o1 50 (.bin .rem 49 (kI 5)), o1 51 (.bin
 .eql 50 (kI 0))]) (.frame [7, 52, 53] [] false (.join [.sl 7 false .str .leaf] (.cond 51 (.region [im 52 7, o1 53 (.bin .add 52 (.c (.string ⟨#[36]⟩))), ia 7 53]) .skip)))) (.seq
 (.region [im 54 7, ia 4 54]) .ret))))))))
def Gh : AFn := ⟨ XK, IC.erase, [.tmp 4], 2⟩
abbrev Bo : List (List UInt8) := ([([97] : List UInt8), ([98] : List UInt8), ([46] : List UInt8), ([91, 97, 98, 93] : List UInt8), ([91, 94, 97, 93] : List UInt8), ([40, 97, 124, 98, 41] : List UInt8), ([40, 97, 98, 41] : List UInt8), ([91, 91, 58, 97, 108, 112, 104, 97, 58, 93, 120, 93] : List UInt8), ([92, 43] : List UInt8), ([40, 41] : List UInt8), ([40, 98, 124, 41] : List UInt8), ([91, 97, 45, 99, 93] : List UInt8), ([93] : List UInt8), ([120] : List UInt8)] : List (List UInt8))
abbrev BE : List (List UInt8) := ([([] : List UInt8), ([] : List UInt8), ([] : List UInt8), ([42] : List UInt8), ([43] : List UInt8), ([63] : List UInt8), ([123, 50, 125] : List UInt8), ([123, 49, 44, 50, 125] : List UInt8), ([123, 48, 44, 49, 125] : List UInt8), ([123, 50, 44, 125] : List UInt8)] : List (List UInt8))
def LO (P : Pg) (x : ((List Int) × Int)) (K : (List UInt8) → Unit → Prop) : Prop :=
 Fn P zS3 Ce (x.1, (1 : Int)) (fun (d1 : Int) _ => ((5 : Int) ≠ 0) ∧
 Ag (D := (List UInt8)) (fun J3 => ((((Qa4 d1 (5 : Int)) == (0 : Int)) = true → J3 ([94] : List UInt8)) ∧ (((Qa4 d1 (5 : Int)) == (0 : Int)) = false → J3 ([] : List UInt8)))) (fun d4 => Ag (D := (List UInt8)) (fun J5 => B0 (D := ((List UInt8) × Int)) (d4, (0 : Int)) (fun d7 J8 => Fn P zS2 BF (x.2, (8 : Int)) (fun (d9 : Int) _ => (((decide (d7.2 < d9)) = true → Ag (D := (List UInt8)) (fun J11 => Ag (D := (List UInt8)) (fun J13 => (Fn P zS3 Ce (x.1, (i64.wrap ((10 : Int) + d7.2))) (fun (d15 : Int) _ => (Fn P zS2 BF (d15, (14 : Int)) (fun (d17 : Int) _ => (0 ≤ d17 ∧ d17 < ((Qa2 Bo : Nat) : Int)) ∧
 ((d17.toNat < Qa2 Bo) ∧
 (d7.1.length + Qa2 (Qa0 Bo d17.toNat []) ≤ 9223372036854775807) ∧
 (Fn P zS3 Ce (x.1, (i64.wrap ((30 : Int) + d7.2))) (fun (d19 : Int) _ => (Fn P zS2 BF (d19, (10 : Int)) (fun (d21 : Int) _ => (0 ≤ d21 ∧ d21 < ((Qa2 BE : Nat) : Int)) ∧
 (d21.toNat < Qa2 BE) ∧
 (Qa2 (d7.1 ++ (Qa0 Bo d17.toNat [])) + Qa2 (Qa0 BE d21.toNat []) ≤ 9223372036854775807) ∧
 (J13 ((d7.1 ++ (Qa0 Bo d17.toNat [])) ++ (Qa0 BE d21.toNat []))) ∧ True)) ∧ True)) ∧ True) ∧ ((Fn P zS3 Ce (x.1, (i64.wrap ((30 : Int) + d7.2))) (fun (d23 : Int) _ => ((d17.toNat < Qa2 Bo) ∧
 (d7.1.length + Qa2 (Qa0 Bo d17.toNat []) ≤ 9223372036854775807) ∧
 (Fn P zS2 BF (d23, (10 : Int)) (fun (d25 : Int) _ => (0 ≤ d25 ∧ d25 < ((Qa2 BE : Nat) : Int)) ∧
 (d25.toNat < Qa2 BE) ∧
 (Qa2 (d7.1 ++ (Qa0 Bo d17.toNat [])) + Qa2 (Qa0 BE d25.toNat []) ≤ 9223372036854775807) ∧
 (J13 ((d7.1 ++ (Qa0 Bo d17.toNat [])) ++ (Qa0 BE d25.toNat []))) ∧ True)) ∧ True) ∧ ((Fn P zS2 BF (d23, (10 : Int)) (fun (d27 : Int) _ => (d17.toNat < Qa2 Bo) ∧
 (d7.1.length + Qa2 (Qa0 Bo d17.toNat []) ≤ 9223372036854775807) ∧
 (0 ≤ d27 ∧ d27 < ((Qa2 BE : Nat) : Int)) ∧
 (d27.toNat < Qa2 BE) ∧
 (Qa2 (d7.1 ++ (Qa0 Bo d17.toNat [])) + Qa2 (Qa0 BE d27.toNat []) ≤ 9223372036854775807) ∧
 (J13 ((d7.1 ++ (Qa0 Bo d17.toNat [])) ++ (Qa0 BE d27.toNat []))) ∧ True)) ∧ True))) ∧ True))) ∧ True)) ∧ True) (fun d14 => Fn P zS3 Ce (x.1, (i64.wrap ((50 : Int) + d7.2))) (fun (d29 : Int) _ => ((6 : Int) ≠ 0) ∧
 Ag (D := (List UInt8)) (fun J31 => ((((Qa4 d29 (6 : Int)) == (0 : Int)) = true → (d14.length + Qa2 ([124] : List UInt8) ≤ 9223372036854775807) ∧
 J31 (d14 ++ ([124] : List UInt8))) ∧ (((Qa4 d29 (6 : Int)) == (0 : Int)) = false → J31 d14))) (fun d32 => J11 d32)))) (fun d12 => J8 (d12, (i64.wrap (d7.2 + (1 : Int)))))) ∧ ((decide (d7.2 < d9)) = false → J5 d7.1))))) (fun d6 => Fn P zS3 Ce (x.1, (2 : Int)) (fun (d33 : Int) _ => ((5 : Int) ≠ 0) ∧
 Ag (D := (List UInt8)) (fun J35 => ((((Qa4 d33 (5 : Int)) == (0 : Int)) = true → (d6.length + Qa2 ([36] : List UInt8) ≤ 9223372036854775807) ∧
 J35 (d6 ++ ([36] : List UInt8))) ∧ (((Qa4 d33 (5 : Int)) == (0 : Int)) = false → J35 d6))) (fun d36 => K d36 ())))))
theorem Pw {P : Pg} (h : Has P Gh) {x : DP CJ.ps} {K : DP CJ.rs → DP (ptrs CJ.ps) → Prop} (hw : LO P x K) : Fn P XK CJ x K :=
 BI (c := IC) h rfl rfl (by kernel_rfl) (Eq.mpr (show BC P Gh CJ IC x K = _ by kernel_rfl) hw)
def AeZ : Be :=
 (.seq (.region [ia 2 (kI 0)]) (.seq (.seq (.region [im 7 0, o1 8 (.lenK 7), o1 9 (.bin .eql 8 (kI 0)), im 10 9, gf 11 10 (.mv 0), gf 12 10 (.lenK 11), gf 13 10 (.bin .gtr 12 (kI
 4000)), o1 14 (.pick 10 kT 13)]) (.cond 14 (.seq (.region [ia 2 (kI 2)]) .ret) .skip)) (.seq (.seq (.region [ia 3 (kI 0)]) (.frame (rg [2, 3, 4, 5, 6] 15 90) [1004] false (.join
 [.si 2] (.block 0 (.loop [.si 2, .si 3] (.seq (.seq (.region [im 15 3, im 16 0, o1 17 (.lenK 16), o1 18 (.bin .lss 15 17)]) (.cond 18 .skip (.exit 0))) (.seq (.frame (rg [2, 4, 5,
 6] 21 84) [1004] false (.join [.si 2] (.block 1 (.seq (.region [im 21 0, im 22 3, o1 23 (.ixA 8 21 22), o1 24 (.load true 8 23), o1 4 (.alloc [(.int .i64 0), (.int .u64 0), (.int
 .u64 0), (.int .u64 0), (.int .u64 0), (.int .i64 0), (.int .i64 0), (.slice none 0 0)]), o0 ⟨none, .store 8 4 24, none⟩]) (.seq (.seq (.region [ia 5 (kI 0)]) (.frame (rg [2, 5] 25
 22) [] false (.join [.si 2] (.block 2 (.loop [.si 2, .si 5] (.seq (.seq (.region [im 25 5, fa 26 7 4, ld 27 26, o1 28 (.lenK 27), o1 29 (.bin .lss 25 28)]) (.cond 29 .skip (.exit
 2))) (.seq (.frame (rg [2] 32 15) [] false (.join [.si 2] (.block 3 (.seq (.region [fa 32 7 4, ld 33 32, im 34 5, o1 35 (.ixA 1 33 34), ld 36 35, o1 37 (.bin .lss 36 (kI 0)), im 38
 37, gf 39 38 (.fAddr 7 4), gf 40 38 (.load false 1 39), gf 41 38 (.mv 5), gf 42 38 (.ixA 1 40 41), gf 43 38 (.load false 1 42), gf 44 38 (.mv 3), gf 45 38 (.bin .geq 43 44), o1 46
 (.pick 38 kT 45)]) (.cond 46 (.seq (.region [ia 2 (kI 2)]) .ret) .skip))))) (.region [im 30 5, o1 31 (.bin .add 30 (kI 1)), ia 5 31])))))))) (.seq (.region [fa 47 7 4, ld 48 47, o1
 49 (.lenK 48), o1 50 (.bin .eql 49 (kI 0)), ia 6 50]) (.seq (.seq (.region [fa 51 0 4, ld 52 51]) (.frame (rg [6] 53 40) [] false (.join [.sl 6 false .bool .leaf] (.block 4 (.seq
 (.region [o1 54 (.bin .eql 52 (kI 6)), ia 53 54]) (.frame (rg [6] 55 38) [] false (.join [.sl 6 false .bool .leaf] (.cond 53 (.region [fa 55 7 4, ld 56 55, o1 57 (.lenK 56), o1 58
 (.bin .eql 57 (kI 1)), im 59 58, gt 60 59 (.fAddr 5 4), gt 61 59 (.load false 1 60), gt 62 59 (.bin .geq 61 (kI 0)), o1 63 (.pick 59 62 kF), im 64 63, gt 65 64 (.fAddr 5 4), gt 66
 64 (.load false 1 65), gt 67 64 (.bin .leq 66 (kI 100)), o1 68 (.pick 64 67 kF), im 69 68, gt 70 69 (.fAddr 6 4), gt 71 69 (.load false 1 70), gt 72 69 (.bin .eql 71 (kI (-1))), gt
 73 69 (.mv 72), gf 74 73 (.fAddr 6 4), gf 75 73 (.load false 1 74), gf 76 73 (.fAddr 5 4), gf 77 73 (.load false 1 76), gf 78 73 (.bin .geq 75 77), gf 79 73 (.mv 78), gt 80 79
 (.fAddr 6 4), gt 81 79 (.load false 1 80), gt 82 79 (.bin .leq 81 (kI 100)), gf 83 73 (.pick 79 82 kF), gt 84 69 (.pick 73 kT 83), o1 85 (.pick 69 84 kF), ia 6 85]) (.seq (.seq
 (.region [o1 87 (.bin .eql 52 (kI 4)), ia 86 87]) (.frame [86, 88] [] false (.join [.sl 86 false .bool .leaf] (.cond 86 .skip (.region [o1 88 (.bin .eql 52 (kI 5)), ia 86 88])))))
 (.frame (rg [6] 89 4) [] false (.join [.sl 6 false .bool .leaf] (.cond 86 (.region [fa 89 7 4, ld 90 89, o1 91 (.lenK 90), o1 92 (.bin .geq 91 (kI 2)), ia 6 92]) .skip))))))))))))
 (.seq (.region [im 93 6, o1 94 (.un .not 93), im 95 94, gf 96 95 (.fAddr 0 4), gf 97 95 (.load false 1 96), gf 98 95 (.bin .lss 97 (kI 0)), o1 99 (.pick 95 kT 98), im 100 99, gf
 101 100 (.fAddr 0 4), gf 102 100 (.load false 1 101), gf 103 100 (.bin .gtr 102 (kI 6)), o1 104 (.pick 100 kT 103)]) (.cond 104 (.seq (.region [ia 2 (kI 2)]) .ret) .skip)))))))))
 (.region [im 19 3, o1 20 (.bin .add 19 (kI 1)), ia 3 20])))))))) (.seq (.region [ia 2 (kI 0)]) .ret))))
def Aei : AFn := ⟨ YZ, AeZ.erase, [.tmp 2], 1⟩
def AfL (P : Pg) (x : (List Node)) (K : Int → Unit → Prop) : Prop :=
 (((cond ((x.length : Int) == (0 : Int)) true (decide ((x.length : Int) > (4000 : Int)))) = true → K (2 : Int) ()) ∧ ((cond ((x.length : Int) == (0 : Int)) true (decide ((x.length : Int) > (4000 : Int)))) = false → Ag (D := Int) (fun J1 => B0 (D := (Int × Int)) ((0 : Int), (0 : Int)) (fun d3 J4 => (((decide (d3.2 < (x.length : Int))) = true → Ag (D := Int) (fun J5 => (0 ≤ d3.2 ∧ d3.2 < (x.length : Int)) ∧
 (d3.2.toNat < x.length) ∧
 Ag (D := Int) (fun J7 => B0 (D := (Int × Int)) (d3.1, (0 : Int)) (fun d9 J10 => (((decide (d9.2 < ((Qa2 (Qa0 x d3.2.toNat Ak).2.2.2.2 : Nat) : Int))) = true → Ag (D := Int) (fun J11 => (0 ≤ d9.2 ∧ d9.2 < ((Qa2 (Qa0 x d3.2.toNat Ak).2.2.2.2 : Nat) : Int)) ∧
 (d9.2.toNat < Qa2 (Qa0 x d3.2.toNat Ak).2.2.2.2) ∧
 (((decide ((Qa0 (Qa0 x d3.2.toNat Ak).2.2.2.2 d9.2.toNat (0 : Int)) < (0 : Int))) = false → 0 ≤ d9.2 ∧ d9.2 < ((Qa2 (Qa0 x d3.2.toNat Ak).2.2.2.2 : Nat) : Int))) ∧
 (((decide ((Qa0 (Qa0 x d3.2.toNat Ak).2.2.2.2 d9.2.toNat (0 : Int)) < (0 : Int))) = false → d9.2.toNat < Qa2 (Qa0 x d3.2.toNat Ak).2.2.2.2)) ∧
 (((cond (decide ((Qa0 (Qa0 x d3.2.toNat Ak).2.2.2.2 d9.2.toNat (0 : Int)) < (0 : Int))) true (decide ((Qa0 (Qa0 x d3.2.toNat Ak).2.2.2.2 d9.2.toNat (0 : Int)) ≥ d3.2))) = true → K (2 : Int) ()) ∧ ((cond (decide ((Qa0 (Qa0 x d3.2.toNat Ak).2.2.2.2 d9.2.toNat (0 : Int)) < (0 : Int))) true (decide ((Qa0 (Qa0 x d3.2.toNat Ak).2.2.2.2 d9.2.toNat (0 : Int)) ≥ d3.2))) = false → J11 d9.1))) (fun d12 => J10 (d12, (i64.wrap (d9.2 + (1 : Int)))))) ∧ ((decide (d9.2 < ((Qa2 (Qa0 x d3.2.toNat Ak).2.2.2.2 : Nat) : Int))) = false → J7 d9.1)))) (fun d8 => Ag (D := Bool) (fun J13 => Ag (D := Bool) (fun J15 => ((((Qa0 x d3.2.toNat Ak).1 == (6 : Int)) = true → J15 (cond (cond (cond (((Qa2 (Qa0 x d3.2.toNat Ak).2.2.2.2 : Nat) : Int) == (1 : Int)) (decide ((Qa0 x d3.2.toNat Ak).2.2.1 ≥ (0 : Int))) false) (decide ((Qa0 x d3.2.toNat Ak).2.2.1 ≤ (100 : Int))) false) (cond ((Qa0 x d3.2.toNat Ak).2.2.2.1 == (-1 : Int)) true (cond (decide ((Qa0 x d3.2.toNat Ak).2.2.2.1 ≥ (Qa0 x d3.2.toNat Ak).2.2.1)) (decide ((Qa0 x d3.2.toNat Ak).2.2.2.1 ≤ (100 : Int))) false)) false)) ∧ (((Qa0 x d3.2.toNat Ak).1 == (6 : Int)) = false → Ag (D := Bool) (fun J17 => ((((Qa0 x d3.2.toNat Ak).1 == (4 : Int)) = true → J17 ((Qa0 x d3.2.toNat Ak).1 == (4 : Int))) ∧ (((Qa0 x d3.2.toNat Ak).1 == (4 : Int)) = false → J17 ((Qa0 x d3.2.toNat Ak).1 == (5 : Int))))) (fun d18 => Ag (D := Bool) (fun J19 => ((d18 = true → J19 (decide (((Qa2 (Qa0 x d3.2.toNat Ak).2.2.2.2 : Nat) : Int) ≥ (2 : Int)))) ∧ (d18 = false → J19 (((Qa2 (Qa0 x d3.2.toNat Ak).2.2.2.2 : Nat) : Int) == (0 : Int))))) (fun d20 => J15 d20))))) (fun d16 => J13 d16)) (fun d14 => (((cond (cond (!d14) true (decide ((Qa0 x d3.2.toNat Ak).1 < (0 : Int)))) true (decide ((Qa0 x d3.2.toNat Ak).1 > (6 : Int)))) = true → K (2 : Int) ()) ∧ ((cond (cond (!d14) true (decide ((Qa0 x d3.2.toNat Ak).1 < (0 : Int)))) true (decide ((Qa0 x d3.2.toNat Ak).1 > (6 : Int)))) = false → J5 d8))))) (fun d6 => J4 (d6, (i64.wrap (d3.2 + (1 : Int)))))) ∧ ((decide (d3.2 < (x.length : Int))) = false → J1 d3.1)))) (fun d2 => K (0 : Int) ())))
theorem AgX {P : Pg} (h : Has P Aei) {x : DP Adt.ps} {K : DP Adt.rs → DP (ptrs Adt.ps) → Prop} (hw : AfL P x K) : Fn P YZ Adt x K :=
 BI (c := AeZ) h rfl rfl (by kernel_rfl) (Eq.mpr (show BC P Aei Adt AeZ x K = _ by kernel_rfl) hw)
def AdY : Be :=
 (.seq (.region [o1 3 (.asg kF)]) (.seq (.region [im 4 0, o1 5 (.bin .geq 4 (kI 0)), im 6 5, gt 7 6 (.mv 0), gt 8 6 (.load false 1 1), gt 9 6 (.bin .lss 7 8), o1 10 (.pick 6 9 kF),
 ia 3 10]) .ret))
def AdJ : AFn := ⟨ QB, AdY.erase, [.tmp 3], 2⟩
def Aes (P : Pg) (x : (Int × Int)) (K : Bool → Int → Prop) : Prop :=
 K (cond (decide (x.1 ≥ (0 : Int))) (decide (x.1 < x.2)) false) x.2
theorem Afz {P : Pg} (h : Has P AdJ) {x : DP AcV.ps} {K : DP AcV.rs → DP (ptrs AcV.ps) → Prop} (hw : Aes P x K) : Fn P QB AcV x K :=
 BI (c := AdY) h rfl rfl (by kernel_rfl) (Eq.mpr (show BC P AdJ AcV AdY x K = _ by kernel_rfl) hw)
def Aeb : Be :=
 (.seq (.region [o1 1 (.box 0), ia 2 (kI 0)]) (.seq (.region [fa 8 0 1, ld 9 8, o1 10 (.lenK 9), o1 3 (.alloc [(.int .i64 0)]), o0 ⟨none, .store 1 3 10, none⟩]) (.seq (.region [o1
 11 (.mkf (QB, false) [3]), ia 4 11]) (.seq (.seq (.region [ld 12 3, o1 13 (.bin .lss 12 (kI 1)), im 14 13, gf 15 14 (.load false 1 3), gf 16 14 (.bin
 .gtr 15 (kI 8000)), o1 17 (.pick 14 kT 16), im 18 17, ⟨⟨some 19, .mv 4, some (18, false)⟩, none, ⟨[], []⟩, false, some 18, true, false⟩, ⟨⟨some 20, .fAddr 1 1, some (18, false)⟩,
 none, ⟨[], []⟩, false, none, true, false⟩, ⟨⟨some 21, .load false 1 20, some (18, false)⟩, none, ⟨[], []⟩, false, none, true, false⟩, ⟨⟨some 22, .callv 19 [21], some (18, false)⟩,
 none, AcV, false, none, true, true⟩, ⟨⟨some 23, .un .not 22, some (18, false)⟩, none, ⟨[], []⟩, false, none, true, true⟩, o1 24 (.pick 18 kT 23)]) (.cond 24 (.seq
 (.region [ia 2 (kI 2)]) .ret) .skip)) (.seq (.seq (.region [fa 25 0 1, ld 26 25, o1 27 (.lenK 26), o1 28 (.mv (kI 0))]) (.frame (rg [2, 6, 7] 28 28) [1003, 1006] true (.join [.si
 2] (.block 0 (.loop [.si 2, .si 28, .bx 1003 bI .leaf] (.seq (.region [o1 29 (.bin .lss 28 27)]) (.seq (.cond 29 .skip (.exit 0)) (.seq (.frame (rg [2, 6, 7] 30 25) [1003, 1006]
 true (.join [.si 2, .bx 1003 bI .leaf] (.block 1 (.seq (.region [o1 30 (.ixA 7 26 28), o1 31 (.load true 7 30), o1 6 (.alloc [(.int .i64 0), (.int .u64 0), (.int .u64 0), (.int
 .u64 0), (.int .u64 0), (.int .i64 0), (.int .i64 0)]), o0 ⟨none, .store 7 6 31, none⟩]) (.seq (.region [im 32 4, fa 33 5 6, ld 34 33, oS ⟨some 35, .callv 32 [34], none⟩
 AcV, ia 7 35]) (.seq (.seq (.region [fa 36 0 6, ld 37 36]) (.frame (rg [7] 38 15) [1003] true (.join [.sl 7 false .bool .leaf, .bx 1003 bI .leaf] (.block 2 (.seq
 (.seq (.region [o1 39 (.bin .eql 37 (kI 0)), ia 38 39]) (.frame [38, 40, 41] [] false (.join [.sl 38 false .bool .leaf] (.cond 38 .skip (.seq (.region [o1 40 (.bin .eql 37 (kI 2)),
 ia 38 40]) (.frame [38, 41] [] false (.join [.sl 38 false .bool .leaf] (.cond 38 .skip (.region [o1 41 (.bin .eql 37 (kI 3)), ia 38 41]))))))))) (.frame (rg [7] 42 11) [1003] true
 (.join [.sl 7 false .bool .leaf, .bx 1003 bI .leaf] (.cond 38 .skip (.seq (.region [o1 43 (.bin .eql 37 (kI 1)), ia 42 43]) (.frame (rg [7] 44 9) [1003] true (.join [.sl 7 false
 .bool .leaf, .bx 1003 bI .leaf] (.cond 42 (.region [im 44 7, im 45 44, ⟨⟨some 46, .mv 4, some (45, true)⟩, none, ⟨[], []⟩, false, some 45, true, false⟩, ⟨⟨some 47, .fAddr 6 6, some
 (45, true)⟩, none, ⟨[], []⟩, false, none, true, false⟩, ⟨⟨some 48, .load false 1 47, some (45, true)⟩, none, ⟨[], []⟩, false, none, true, false⟩, ⟨⟨some 49, .callv 46 [48], some
 (45, true)⟩, none, AcV, false, none, true, true⟩, o1 50 (.pick 45 49 kF), ia 7 50]) (.seq (.region [o1 52 (.bin .eql 37 (kI 4)), ia 51 52]) (.frame [7] [] false
 (.join [.sl 7 false .bool .leaf] (.cond 51 (.region [o1 7 (.asg kT)]) (.region [o1 7 (.asg kF)]))))))))))))))))) (.seq (.region [im 53 7, o1 54 (.un .not 53)]) (.cond 54 (.seq
 (.region [ia 2 (kI 2)]) .ret) .skip)))))))) (.region [o1 55 (.bin .add 28 (kI 1)), im 28 55]))))))))) (.seq (.region [ia 2 (kI 0)]) .ret))))))
def AdQ : AFn := ⟨ QU, Aeb.erase, [.tmp 2], 1⟩
def AeS (P : Pg) (x : ((List State) × Int)) (K : Int → Unit → Prop) : Prop :=
 (((cond (decide ((x.1.length : Int) < (1 : Int))) true (decide ((x.1.length : Int) > (8000 : Int)))) = true → (((cond true true false) = true → K (2 : Int) ()) ∧ ((cond true true false) = false → Ag (D := Int) (fun J1 => B0 (D := (Int × (Int × Int))) ((0 : Int), ((0 : Int), (x.1.length : Int))) (fun d3 J4 => (((decide (d3.2.1 < (x.1.length : Int))) = true → Ag (D := (Int × Int)) (fun J5 => (0 ≤ d3.2.1 ∧ d3.2.1 < (x.1.length : Int)) ∧
 (d3.2.1.toNat < x.1.length) ∧
 Fn P QB AcV ((Qa0 x.1 d3.2.1.toNat Aby).2.2.1, d3.2.2) (fun (d7 : Bool) (e8 : Int) => Ag (D := (Bool × Int)) (fun J9 => Ag (D := Bool) (fun J11 => ((((Qa0 x.1 d3.2.1.toNat Aby).1 == (0 : Int)) = true → J11 ((Qa0 x.1 d3.2.1.toNat Aby).1 == (0 : Int))) ∧ (((Qa0 x.1 d3.2.1.toNat Aby).1 == (0 : Int)) = false → Ag (D := Bool) (fun J13 => ((((Qa0 x.1 d3.2.1.toNat Aby).1 == (2 : Int)) = true → J13 ((Qa0 x.1 d3.2.1.toNat Aby).1 == (2 : Int))) ∧ (((Qa0 x.1 d3.2.1.toNat Aby).1 == (2 : Int)) = false → J13 ((Qa0 x.1 d3.2.1.toNat Aby).1 == (3 : Int))))) (fun d14 => J11 d14)))) (fun d12 => Ag (D := (Bool × Int)) (fun J15 => ((d12 = true → J15 (d7, e8)) ∧ (d12 = false → Ag (D := (Bool × Int)) (fun J17 => ((((Qa0 x.1 d3.2.1.toNat Aby).1 == (1 : Int)) = true → ((d7 = true → Fn P QB AcV ((Qa0 x.1 d3.2.1.toNat Aby).2.2.2, e8) (fun (d19 : Bool) (e20 : Int) => J17 ((cond true d19 false), e20))) ∧ (d7 = false → J17 ((cond false false false), e8)))) ∧ (((Qa0 x.1 d3.2.1.toNat Aby).1 == (1 : Int)) = false → Ag (D := Bool) (fun J21 => ((((Qa0 x.1 d3.2.1.toNat Aby).1 == (4 : Int)) = true → J21 true) ∧ (((Qa0 x.1 d3.2.1.toNat Aby).1 == (4 : Int)) = false → J21 false))) (fun d22 => J17 (d22, e8))))) (fun d18 => J15 d18)))) (fun d16 => J9 d16))) (fun d10 => (((!d10.1) = true → K (2 : Int) ()) ∧ ((!d10.1) = false → J5 (d3.1, d10.2)))))) (fun d6 => J4 (d6.1, ((i64.wrap (d3.2.1 + (1 : Int))), d6.2)))) ∧ ((decide (d3.2.1 < (x.1.length : Int))) = false → J1 d3.1)))) (fun d2 => K (0 : Int) ())))) ∧ ((cond (decide ((x.1.length : Int) < (1 : Int))) true (decide ((x.1.length : Int) > (8000 : Int)))) = false → Fn P QB AcV (x.2, (x.1.length : Int)) (fun (d23 : Bool) (e24 : Int) => (((cond false true (!d23)) = true → K (2 : Int) ()) ∧ ((cond false true (!d23)) = false → Ag (D := Int) (fun J25 => B0 (D := (Int × (Int × Int))) ((0 : Int), ((0 : Int), e24)) (fun d27 J28 => (((decide (d27.2.1 < (x.1.length : Int))) = true → Ag (D := (Int × Int)) (fun J29 => (0 ≤ d27.2.1 ∧ d27.2.1 < (x.1.length : Int)) ∧
 (d27.2.1.toNat < x.1.length) ∧
 Fn P QB AcV ((Qa0 x.1 d27.2.1.toNat Aby).2.2.1, d27.2.2) (fun (d31 : Bool) (e32 : Int) => Ag (D := (Bool × Int)) (fun J33 => Ag (D := Bool) (fun J35 => ((((Qa0 x.1 d27.2.1.toNat Aby).1 == (0 : Int)) = true → J35 ((Qa0 x.1 d27.2.1.toNat Aby).1 == (0 : Int))) ∧ (((Qa0 x.1 d27.2.1.toNat Aby).1 == (0 : Int)) = false → Ag (D := Bool) (fun J37 => ((((Qa0 x.1 d27.2.1.toNat Aby).1 == (2 : Int)) = true → J37 ((Qa0 x.1 d27.2.1.toNat Aby).1 == (2 : Int))) ∧ (((Qa0 x.1 d27.2.1.toNat Aby).1 == (2 : Int)) = false → J37 ((Qa0 x.1 d27.2.1.toNat Aby).1 == (3 : Int))))) (fun d38 => J35 d38)))) (fun d36 => Ag (D := (Bool × Int)) (fun J39 => ((d36 = true → J39 (d31, e32)) ∧ (d36 = false → Ag (D := (Bool × Int)) (fun J41 => ((((Qa0 x.1 d27.2.1.toNat Aby).1 == (1 : Int)) = true → ((d31 = true → Fn P QB AcV ((Qa0 x.1 d27.2.1.toNat Aby).2.2.2, e32) (fun (d43 : Bool) (e44 : Int) => J41 ((cond true d43 false), e44))) ∧ (d31 = false → J41 ((cond false false false), e32)))) ∧ (((Qa0 x.1 d27.2.1.toNat Aby).1 == (1 : Int)) = false → Ag (D := Bool) (fun J45 => ((((Qa0 x.1 d27.2.1.toNat Aby).1 == (4 : Int)) = true → J45 true) ∧ (((Qa0 x.1 d27.2.1.toNat Aby).1 == (4 : Int)) = false → J45 false))) (fun d46 => J41 (d46, e32))))) (fun d42 => J39 d42)))) (fun d40 => J33 d40))) (fun d34 => (((!d34.1) = true → K (2 : Int) ()) ∧ ((!d34.1) = false → J29 (d27.1, d34.2)))))) (fun d30 => J28 (d30.1, ((i64.wrap (d27.2.1 + (1 : Int))), d30.2)))) ∧ ((decide (d27.2.1 < (x.1.length : Int))) = false → J25 d27.1)))) (fun d26 => K (0 : Int) ()))))))
theorem AfZ {P : Pg} (h : Has P AdQ) {x : DP Ac2.ps} {K : DP Ac2.rs → DP (ptrs Ac2.ps) → Prop} (hw : AeS P x K) : Fn P QU Ac2 x K :=
 BI (c := Aeb) h rfl rfl (by kernel_rfl) (Eq.mpr (show BC P AdQ Ac2 Aeb x K = _ by kernel_rfl) hw)
def AeJ : Be :=
 (.seq (.region [o1 3 (.box 0), o1 6 (.asg (.c (.pointer none)))]) (.seq (.frame (rg [] 6 10) [1015] false (.join [.pt 6 1015 0, .bx 1015 XM (.pair (.pair tM .leaf)
 (.pair .leaf (.pair .leaf (.pair tO tO))))] (.draw [(.first (im 8 1) (.first (im 9 2) (.first (fa 10 0 3) (.first (ld 11 10) (.first (o1 12 (.lenK 11)) (.alt (o1 7 (.load true 2
 3)) (.alt (oT ⟨some 13, .mkSl 1 1 [(.bool false)] 12 12, none⟩ (some (.bool, .leaf))) (.first (o1 14 (.build [(.slice none 0 0), (.int .i64 0), (.string ⟨#[]⟩), (.int .i64 0),
 (.slice none 0 0), (.slice none 0 0)] [(0, 2, 7), (2, 1, 8), (3, 1, 9), (5, 1, 13)])) (.alt (o1 15 (.box 14)) (.alt (ia 6 15) .done .stop) .stop)) .stop) (.alt (oT ⟨some 13, .mkSl
 1 1 [(.bool false)] 12 12, none⟩ (some (.bool, .leaf))) (.first (o1 7 (.load true 2 3)) (.first (o1 14 (.build [(.slice none 0 0), (.int .i64 0), (.string ⟨#[]⟩), (.int .i64 0),
 (.slice none 0 0), (.slice none 0 0)] [(0, 2, 7), (2, 1, 8), (3, 1, 9), (5, 1, 13)])) (.alt (o1 15 (.box 14)) (.alt (ia 6 15) .done .stop) .stop))) .stop)))))))]))) .ret))
def Ad8 : AFn := ⟨ XE, AeJ.erase, [.tmp 6], 3⟩
def Afy (P : Pg) (x : (((List State) × Int) × ((List UInt8) × Int))) (K : Qm → Unit → Prop) : Prop :=
 Ag (D := Qm) (fun J1 => (((0 ≤ (x.1.1.length : Int) ∧ (x.1.1.length : Int) ≤ (x.1.1.length : Int) ∧ ((1 : Nat) : Int) * (x.1.1.length : Int) ≤ 281474976710656) ∧
 ((J1 (x.1, (x.2.1, (x.2.2, ([], (Qa7 (Qa1 (x.1.1.length : Int)) false)))))) ∧ True) ∧ True) ∧ True) ∧ (((0 ≤ (x.1.1.length : Int) ∧ (x.1.1.length : Int) ≤ (x.1.1.length : Int) ∧ ((1 : Nat) : Int) * (x.1.1.length : Int) ≤ 281474976710656) ∧
 ((J1 (x.1, (x.2.1, (x.2.2, ([], (Qa7 (Qa1 (x.1.1.length : Int)) false)))))) ∧ True) ∧ True) ∧ True)) (fun d2 => K d2 ())
theorem AgB {P : Pg} (h : Has P Ad8) {x : DP Adf.ps} {K : DP Adf.rs → DP (ptrs Adf.ps) → Prop} (hw : Afy P x K) : Fn P XE Adf x K :=
 BI (c := AeJ) h rfl rfl (by kernel_rfl) (Eq.mpr (show BC P Ad8 Adf AeJ x K = _ by kernel_rfl) hw)
def Aec : Be :=
 (.seq (.region [o1 3 (.box 0), o1 6 (.asg (.c (.slice none 0 0)))]) (.seq (.seq (.region [fa 7 0 3, ld 8 7]) (.frame (rg [6] 9 19) [] false (.join [.sl 6 false (.sl bI) tO] (.block
 0 (.seq (.region [o1 10 (.bin .eql 8 (kI 1)), ia 9 10]) (.cond 9 (.seq (.region [fa 11 5 3, ld 12 11, fa 13 6 3, ld 14 13, oT ⟨some 15, .buildSl 1 [(.int .i64 0)] 2 [(0, 12), (1,
 14)], none⟩ (some (bI, .leaf)), ia 6 15]) .ret) (.seq (.region [o1 17 (.bin .eql 8 (kI 2)), ia 16 17]) (.frame (rg [6] 18 10) [] false (.join [.sl 6 false (.sl bI) tO] (.cond 16
 (.seq (.region [im 18 1]) (.cond 18 (.seq (.region [fa 19 5 3, ld 20 19, oT ⟨some 21, .buildSl 1 [(.int .i64 0)] 1 [(0, 20)], none⟩ (some (bI, .leaf)), ia 6 21]) .ret) .skip))
 (.seq (.region [o1 23 (.bin .eql 8 (kI 3)), ia 22 23]) (.frame (rg [6] 24 4) [] false (.join [.sl 6 false (.sl bI) tO] (.cond 22 (.seq (.region [im 24 2]) (.cond 24 (.seq (.region
 [fa 25 5 3, ld 26 25, oT ⟨some 27, .buildSl 1 [(.int .i64 0)] 1 [(0, 26)], none⟩ (some (bI, .leaf)), ia 6 27]) .ret) .skip)) .skip)))))))))))))) (.seq (.region [o1 6 (.asg (.c
 (.slice none 0 0)))]) .ret)))
def AdR : AFn := ⟨ Y0, Aec.erase, [.tmp 6], 3⟩
def AeT (P : Pg) (x : (State × (Bool × Bool))) (K : (List Int) → Unit → Prop) : Prop :=
 Ag (D := (List Int)) (fun J1 => (((x.1.1 == (1 : Int)) = true → K ([x.1.2.2.1, x.1.2.2.2] : List Int) ()) ∧ ((x.1.1 == (1 : Int)) = false → Ag (D := (List Int)) (fun J3 => (((x.1.1 == (2 : Int)) = true → ((x.2.1 = true → K ([x.1.2.2.1] : List Int) ()) ∧ (x.2.1 = false → J3 []))) ∧ ((x.1.1 == (2 : Int)) = false → Ag (D := (List Int)) (fun J5 => (((x.1.1 == (3 : Int)) = true → ((x.2.2 = true → K ([x.1.2.2.1] : List Int) ()) ∧ (x.2.2 = false → J5 []))) ∧ ((x.1.1 == (3 : Int)) = false → J5 []))) (fun d6 => J3 d6)))) (fun d4 => J1 d4)))) (fun d2 => K [] ())
theorem Af0 {P : Pg} (h : Has P AdR) {x : DP Ade.ps} {K : DP Ade.rs → DP (ptrs Ade.ps) → Prop} (hw : AeT P x K) : Fn P Y0 Ade x K :=
 BI (c := Aec) h rfl rfl (by kernel_rfl) (Eq.mpr (show BC P AdR Ade Aec x K = _ by kernel_rfl) hw)
def AdV : Be :=
 (.seq (.region [o1 3 (.box 1)]) (.seq (.region [fa 6 0 3, ld 7 6, oT ⟨some 8, .buildSl 1 [(.int .i64 0)] 1 [(0, 7)], none⟩ (some (bI, .leaf)), ia 4 8]) (.frame (rg [4, 5] 9 66) [0]
 true (.join [.bx 0 XM (.pair (.pair tM .leaf) (.pair .leaf (.pair .leaf (.pair tO tO))))] (.block 0 (.loop [.sl 4 false (.sl bI) tO, .bx 0 XM (.pair
 (.pair tM .leaf) (.pair .leaf (.pair .leaf (.pair tO tO))))] (.seq (.seq (.region [im 9 4, o1 10 (.lenK 9), o1 11 (.bin .gtr 10 (kI 0))]) (.cond 11 .skip (.exit 0))) (.frame (rg
 [4, 5] 12 63) [0] true (.join [.sl 4 false (.sl bI) tO, .bx 0 XM (.pair (.pair tM .leaf) (.pair .leaf (.pair .leaf (.pair tO tO))))] (.block 1 (.seq (.region [im 12 4,
 im 13 4, o1 14 (.lenK 13), o1 15 (.bin .sub 14 (kI 1)), o1 16 (.ixA 1 12 15), ld 17 16, ia 5 17]) (.seq (.region [im 18 4, im 19 4, o1 20 (.lenK 19), o1 21 (.bin .sub 20 (kI 1)),
 o1 22 (.slK 1 18 none (some 21)), ia 4 22]) (.seq (.seq (.region [im 23 0, o1 24 (.nilc 23), fa 25 5 24, ld 26 25, im 27 5, o1 28 (.ixA 1 26 27), ld 29 28]) (.cond 29 (.exit 1)
 .skip)) (.seq (.region [im 30 0, o1 31 (.nilc 30), fa 32 5 31, ld 33 32, im 34 5, o1 35 (.ixA 1 33 34), o0 ⟨none, .store 1 35 kT, none⟩]) (.seq (.frame (rg [] 36 13) [0] true
 (.join [.bx 0 XM (.pair (.pair tM .leaf) (.pair .leaf (.pair .leaf (.pair tO tO))))] (.draw [(.first (im 36 0) (.first (im 37 0) (.first (o1 38 (.nilc 37)) (.first (fa
 39 4 38) (.first (im 41 5) (.first (fa 42 1 3) (.first (ld 43 42) (.first (o1 44 (.build [(.int .i64 0), (.int .i64 0)] [(0, 1, 41), (1, 1, 43)])) (.alt (ld 40 39) (.alt (oT ⟨some
 45, .buildSl 2 [(.int .i64 0), (.int .i64 0)] 1 [(0, 44)], none⟩ (some ((.pair bI bI), .leaf))) (.alt (oT ⟨some 46, .app 2 16 40 45, none⟩ (some ((.pair bI bI), .leaf))) (.first
 (o1 47 (.nilc 36)) (.first (fa 48 4 47) (.alt (o0 ⟨none, .store 1 48 46, none⟩) .done .stop))) .stop) .stop) (.alt (oT ⟨some 45, .buildSl 2 [(.int .i64 0), (.int .i64 0)] 1 [(0,
 44)], none⟩ (some ((.pair bI bI), .leaf))) (.first (ld 40 39) (.alt (oT ⟨some 46, .app 2 16 40 45, none⟩ (some ((.pair bI bI), .leaf))) (.first (o1 47 (.nilc 36)) (.first (fa 48 4
 47) (.alt (o0 ⟨none, .store 1 48 46, none⟩) .done .stop))) .stop)) .stop))))))))))]))) (.frame (rg [4] 49 26) [] false (.join [.sl 4 false (.sl bI) tO] (.draw [(.first (im 49 4)
 (.first (im 50 0) (.first (o1 51 (.nilc 50)) (.first (fa 52 0 51) (.first (fa 53 0 52) (.first (ld 54 53) (.first (im 55 5) (.first (o1 56 (.ixA 7 54 55)) (.first (o1 57 (.load
 true 7 56)) (.first (im 58 0) (.first (o1 59 (.nilc 58)) (.first (fa 60 3 59) (.first (ld 61 60) (.first (o1 62 (.bin .eql 61 (kI 0))) (.first (im 63 0) (.first (o1 64 (.nilc 63))
 (.first (fa 65 3 64) (.first (ld 66 65) (.first (im 67 0) (.first (o1 68 (.nilc 67)) (.first (fa 69 2 68) (.first (ld 70 69) (.first (o1 71 (.lenS 70)) (.first (o1 72 (.bin .eql 66
 71)) (.alt (oS ⟨some 73, .call Y0 [57, 62, 72], none⟩ Ade) (.alt (oT ⟨some 74, .app 1 8 49 73, none⟩ (some (bI, .leaf))) (.alt (ia 4 74)
 .done .stop) .stop) .stop)))))))))))))))))))))))))]))))))))))))))))))
def AdF : AFn := ⟨ QV, AdV.erase, [], 2⟩
def Aep (P : Pg) (x : (Qm × (Int × Int))) (K : Unit → Qm → Prop) : Prop :=
 Ag (D := Qm) (fun J1 => B0 (D := ((List Int) × Qm)) (([x.2.1] : List Int), x.1) (fun d3 J4 => (((decide ((d3.1.length : Int) > (0 : Int))) = true → Ag (D := ((List Int) × Qm)) (fun J5 => (0 ≤ (i64.wrap ((d3.1.length : Int) - (1 : Int))) ∧ (i64.wrap ((d3.1.length : Int) - (1 : Int))) < (d3.1.length : Int)) ∧
 ((Qa1 (i64.wrap ((d3.1.length : Int) - (1 : Int)))) < d3.1.length) ∧
 (0 ≤ (i64.wrap ((d3.1.length : Int) - (1 : Int))) ∧ (i64.wrap ((d3.1.length : Int) - (1 : Int))) ≤ (d3.1.length : Int)) ∧
 (0 + (Qa1 (i64.wrap ((d3.1.length : Int) - (1 : Int)))) ≤ d3.1.length) ∧
 (0 ≤ (Qa0 d3.1 (Qa1 (i64.wrap ((d3.1.length : Int) - (1 : Int)))) (0 : Int)) ∧ (Qa0 d3.1 (Qa1 (i64.wrap ((d3.1.length : Int) - (1 : Int)))) (0 : Int)) < (d3.2.2.2.2.2.length : Int)) ∧
 ((Qa1 (Qa0 d3.1 (Qa1 (i64.wrap ((d3.1.length : Int) - (1 : Int)))) (0 : Int))) < d3.2.2.2.2.2.length) ∧
 (((Qa0 d3.2.2.2.2.2 (Qa1 (Qa0 d3.1 (Qa1 (i64.wrap ((d3.1.length : Int) - (1 : Int)))) (0 : Int))) false) = true → J5 ((Qa9 (Qa1 (i64.wrap ((d3.1.length : Int) - (1 : Int)))) (Qb0 0 d3.1)), d3.2)) ∧ ((Qa0 d3.2.2.2.2.2 (Qa1 (Qa0 d3.1 (Qa1 (i64.wrap ((d3.1.length : Int) - (1 : Int)))) (0 : Int))) false) = false → (0 ≤ (Qa0 d3.1 (Qa1 (i64.wrap ((d3.1.length : Int) - (1 : Int)))) (0 : Int)) ∧ (Qa0 d3.1 (Qa1 (i64.wrap ((d3.1.length : Int) - (1 : Int)))) (0 : Int)) < (d3.2.2.2.2.2.length : Int)) ∧
 ((Qa1 (Qa0 d3.1 (Qa1 (i64.wrap ((d3.1.length : Int) - (1 : Int)))) (0 : Int))) < d3.2.2.2.2.2.length) ∧
 Ag (D := Qm) (fun J7 => (((((d3.2.2.2.2.1.length + Qa2 ([((Qa0 d3.1 (Qa1 (i64.wrap ((d3.1.length : Int) - (1 : Int)))) (0 : Int)), x.2.2)] : List (Int × Int))) * 16 ≤ 140737488355328) ∧
 (J7 (d3.2.1, (d3.2.2.1, (d3.2.2.2.1, ((d3.2.2.2.2.1 ++ ([((Qa0 d3.1 (Qa1 (i64.wrap ((d3.1.length : Int) - (1 : Int)))) (0 : Int)), x.2.2)] : List (Int × Int))), (List.set d3.2.2.2.2.2 (Qa1 (Qa0 d3.1 (Qa1 (i64.wrap ((d3.1.length : Int) - (1 : Int)))) (0 : Int))) true)))))) ∧ True) ∧ True) ∧ True) ∧ (((((d3.2.2.2.2.1.length + Qa2 ([((Qa0 d3.1 (Qa1 (i64.wrap ((d3.1.length : Int) - (1 : Int)))) (0 : Int)), x.2.2)] : List (Int × Int))) * 16 ≤ 140737488355328) ∧
 (J7 (d3.2.1, (d3.2.2.1, (d3.2.2.2.1, ((d3.2.2.2.2.1 ++ ([((Qa0 d3.1 (Qa1 (i64.wrap ((d3.1.length : Int) - (1 : Int)))) (0 : Int)), x.2.2)] : List (Int × Int))), (List.set d3.2.2.2.2.2 (Qa1 (Qa0 d3.1 (Qa1 (i64.wrap ((d3.1.length : Int) - (1 : Int)))) (0 : Int))) true)))))) ∧ True) ∧ True) ∧ True)) (fun d8 => Ag (D := (List Int)) (fun J9 => (0 ≤ (Qa0 d3.1 (Qa1 (i64.wrap ((d3.1.length : Int) - (1 : Int)))) (0 : Int)) ∧ (Qa0 d3.1 (Qa1 (i64.wrap ((d3.1.length : Int) - (1 : Int)))) (0 : Int)) < (d8.1.1.length : Int)) ∧
 ((Qa1 (Qa0 d3.1 (Qa1 (i64.wrap ((d3.1.length : Int) - (1 : Int)))) (0 : Int))) < d8.1.1.length) ∧
 (Fn P Y0 Ade ((Qa0 d8.1.1 (Qa1 (Qa0 d3.1 (Qa1 (i64.wrap ((d3.1.length : Int) - (1 : Int)))) (0 : Int))) Aby), ((d8.2.2.1 == (0 : Int)), (d8.2.2.1 == (d8.2.1.length : Int)))) (fun (d11 : (List Int)) _ => (((Qa2 (Qa9 (Qa1 (i64.wrap ((d3.1.length : Int) - (1 : Int)))) (Qb0 0 d3.1)) + d11.length) * 8 ≤ 140737488355328) ∧
 (J9 ((Qa9 (Qa1 (i64.wrap ((d3.1.length : Int) - (1 : Int)))) (Qb0 0 d3.1)) ++ d11)) ∧ True) ∧ True)) ∧ True) (fun d10 => J5 (d10, d8)))))) (fun d6 => J4 d6)) ∧ ((decide ((d3.1.length : Int) > (0 : Int))) = false → J1 d3.2)))) (fun d2 => K () d2)
theorem Afq {P : Pg} (h : Has P AdF) {x : DP AcY.ps} {K : DP AcY.rs → DP (ptrs AcY.ps) → Prop} (hw : Aep P x K) : Fn P QV AcY x K :=
 BI (c := AdV) h rfl rfl (by kernel_rfl) (Eq.mpr (show BC P AdF AcY AdV x K = _ by kernel_rfl) hw)
def AdO : Be :=
 (.seq (.frame (rg [2] 7 9) [] false (.join [.sl 2 false (.int .u8) .leaf] (.draw [(.first (im 7 0) (.first (o1 8 (.nilc 7)) (.first (fa 9 2 8) (.first (ld 10 9) (.first (im 11 0)
 (.first (o1 12 (.nilc 11)) (.first (fa 13 3 12) (.first (ld 14 13) (.first (o1 15 (.ixS 10 14)) (.alt (ia 2 15) .done .stop))))))))))]))) (.seq (.region [im 16 0, o1 17 (.nilc 16),
 fa 18 3 17, ld 19 18, o1 20 (.bin .add 19 (kI 1)), o1 21 (.nilc 16), fa 22 3 21, o0 ⟨none, .store 1 22 20, none⟩]) (.seq (.region [im 23 0, o1 24 (.nilc 23), fa 25 4 24, ld 26 25,
 ia 3 26]) (.seq (.frame (rg [] 27 13) [0] true (.join [.bx 0 XM (.pair (.pair tM .leaf) (.pair .leaf (.pair .leaf (.pair tO tO))))] (.draw [(.first (im 27 0) (.first
 (im 28 0) (.first (im 29 0) (.first (o1 30 (.nilc 29)) (.first (fa 31 0 30) (.first (fa 32 0 31) (.first (ld 33 32) (.first (o1 34 (.lenK 33)) (.first (o1 36 (.nilc 27)) (.first
 (fa 37 4 36) (.alt (oT ⟨some 35, .mkSl 1 1 [(.bool false)] 34 34, none⟩ (some (.bool, .leaf))) (.alt (o0 ⟨none, .store 1 37 (.c (.slice none 0 0)), none⟩) (.first (o1 38 (.nilc
 28)) (.first (fa 39 5 38) (.alt (o0 ⟨none, .store 1 39 35, none⟩) .done .stop))) .stop) (.alt (o0 ⟨none, .store 1 37 (.c (.slice none 0 0)), none⟩) (.alt (oT ⟨some 35, .mkSl 1 1
 [(.bool false)] 34 34, none⟩ (some (.bool, .leaf))) (.first (o1 38 (.nilc 28)) (.first (fa 39 5 38) (.alt (o0 ⟨none, .store 1 39 35, none⟩) .done .stop))) .stop)
 .stop))))))))))))]))) (.seq (.region [im 40 3, o1 41 (.lenK 40), o1 42 (.mv (kI 0))]) (.frame (rg [5, 6] 42 36) [0, 1005, 1006] true (.join [.bx 0 XM (.pair (.pair tM
 .leaf) (.pair .leaf (.pair .leaf (.pair tO tO))))] (.block 0 (.loop [.si 42, .bx 0 XM (.pair (.pair tM .leaf) (.pair .leaf (.pair .leaf (.pair tO tO))))] (.seq
 (.region [o1 43 (.bin .lss 42 41)]) (.seq (.cond 43 .skip (.exit 0)) (.seq (.frame (rg [5, 6] 44 33) [0, 1005, 1006] true (.join [.bx 0 XM (.pair (.pair tM .leaf)
 (.pair .leaf (.pair .leaf (.pair tO tO))))] (.block 1 (.seq (.region [o1 44 (.ixA 2 40 42), o1 45 (.load true 2 44), o1 5 (.alloc [(.int .i64 0), (.int .i64 0)]), o0 ⟨none, .store
 2 5 45, none⟩]) (.seq (.frame (rg [6] 46 9) [1006] false (.join [.pt 6 1006 0, .bx 1006 Abt .leaf] (.draw [(.first (im 46 0) (.first (o1 47 (.nilc 46)) (.first (fa 48 0 47)
 (.first (fa 49 0 48) (.first (fa 51 0 5) (.alt (ld 50 49) (.alt (ld 52 51) (.first (o1 53 (.ixA 7 50 52)) (.alt (o1 54 (.load true 7 53)) (.alt (o1 6 (.alloc [(.int .i64 0), (.int
 .u64 0), (.int .u64 0), (.int .u64 0), (.int .u64 0), (.int .i64 0), (.int .i64 0)])) (.alt (o0 ⟨none, .store 7 6 54, none⟩) .done .stop) .stop) (.alt (o1 6 (.alloc [(.int .i64 0),
 (.int .u64 0), (.int .u64 0), (.int .u64 0), (.int .u64 0), (.int .i64 0), (.int .i64 0)])) (.first (o1 54 (.load true 7 53)) (.alt (o0 ⟨none, .store 7 6 54, none⟩) .done .stop))
 .stop))) (.alt (o1 6 (.alloc [(.int .i64 0), (.int .u64 0), (.int .u64 0), (.int .u64 0), (.int .u64 0), (.int .i64 0), (.int .i64 0)])) (.first (ld 52 51) (.first (o1 53 (.ixA 7
 50 52)) (.first (o1 54 (.load true 7 53)) (.alt (o0 ⟨none, .store 7 6 54, none⟩) .done .stop)))) .stop)) (.alt (ld 52 51) (.alt (ld 50 49) (.first (o1 53 (.ixA 7 50 52)) (.alt (o1
 54 (.load true 7 53)) (.alt (o1 6 (.alloc [(.int .i64 0), (.int .u64 0), (.int .u64 0), (.int .u64 0), (.int .u64 0), (.int .i64 0), (.int .i64 0)])) (.alt (o0 ⟨none, .store 7 6
 54, none⟩) .done .stop) .stop) (.alt (o1 6 (.alloc [(.int .i64 0), (.int .u64 0), (.int .u64 0), (.int .u64 0), (.int .u64 0), (.int .i64 0), (.int .i64 0)])) (.first (o1 54 (.load
 true 7 53)) (.alt (o0 ⟨none, .store 7 6 54, none⟩) .done .stop)) .stop))) (.alt (o1 6 (.alloc [(.int .i64 0), (.int .u64 0), (.int .u64 0), (.int .u64 0), (.int .u64 0), (.int .i64
 0), (.int .i64 0)])) (.first (ld 50 49) (.first (o1 53 (.ixA 7 50 52)) (.first (o1 54 (.load true 7 53)) (.alt (o0 ⟨none, .store 7 6 54, none⟩) .done .stop)))) .stop)) (.alt (o1 6
 (.alloc [(.int .i64 0), (.int .u64 0), (.int .u64 0), (.int .u64 0), (.int .u64 0), (.int .i64 0), (.int .i64 0)])) (.first (ld 50 49) (.first (ld 52 51) (.first (o1 53 (.ixA 7 50
 52)) (.first (o1 54 (.load true 7 53)) (.alt (o0 ⟨none, .store 7 6 54, none⟩) .done .stop))))) .stop))))))))]))) (.seq (.region [fa 55 0 6, ld 56 55, o1 57 (.bin .eql 56 (kI 0)),
 im 58 57, gt 59 58 (.mv 2), gt 60 58 (.bin .quo 59 (.c (.int .u8 64))), gt 61 58 (.fAddr 1 6), gt 62 58 (.ixAr 4 1 61 60), gt 63 58 (.load false 1 62), gt 64 58 (.mv 2), gt 65 58
 (.bin .rem 64 (.c (.int .u8 64))), gt 66 58 (.bin .shr 63 65), gt 67 58 (.bin .and 66 (.c (.int .u64 1))), gt 68 58 (.bin .eql 67 (.c (.int .u64 1))), o1 69 (.pick 58 68 kF)])
 (.frame (rg [] 70 7) [0] true (.join [.bx 0 XM (.pair (.pair tM .leaf) (.pair .leaf (.pair .leaf (.pair tO tO))))] (.cond 69 (.region [im 70 0, fa 71 5 6, ld 72 71, fa
 73 1 5, ld 74 73, o1 75 (.build [(.int .i64 0), (.int .i64 0)] [(0, 1, 72), (1, 1, 74)]), oS ⟨some 76, .call QV [70, 75], none⟩
 AcY]) .skip))))))))) (.region [o1 77 (.bin .add 42 (kI 1)), im 42 77])))))))))))))
def AdC : AFn := ⟨ XF, AdO.erase, [], 1⟩
def Aee (P : Pg) (x : Qm) (K : Unit → Qm → Prop) : Prop :=
 Ag (D := Int) (fun J1 => (0 ≤ x.2.2.1 ∧ x.2.2.1 < (x.2.1.length : Int)) ∧
 (J1 ((x.2.1.getD x.2.2.1.toNat 0).toNat : Int)) ∧ True) (fun d2 => Ag (D := Qm) (fun J3 => ((0 ≤ (x.1.1.length : Int) ∧ (x.1.1.length : Int) ≤ (x.1.1.length : Int) ∧ ((1 : Nat) : Int) * (x.1.1.length : Int) ≤ 281474976710656) ∧
 ((J3 (x.1, (x.2.1, ((i64.wrap (x.2.2.1 + (1 : Int))), ([], (Qa7 (Qa1 (x.1.1.length : Int)) false)))))) ∧ True) ∧ True) ∧ ((((0 ≤ (x.1.1.length : Int) ∧ (x.1.1.length : Int) ≤ (x.1.1.length : Int) ∧ ((1 : Nat) : Int) * (x.1.1.length : Int) ≤ 281474976710656) ∧
 (J3 (x.1, (x.2.1, ((i64.wrap (x.2.2.1 + (1 : Int))), ([], (Qa7 (Qa1 (x.1.1.length : Int)) false)))))) ∧ True) ∧ True) ∧ True)) (fun d4 => Ag (D := Qm) (fun J5 => B0 (D := (Int × Qm)) ((0 : Int), d4) (fun d7 J8 => (((decide (d7.1 < (x.2.2.2.1.length : Int))) = true → Ag (D := Qm) (fun J9 => (0 ≤ d7.1 ∧ d7.1 < (x.2.2.2.1.length : Int)) ∧
 (d7.1.toNat < x.2.2.2.1.length) ∧
 Ag (D := State) (fun J11 => (((0 ≤ (Qa0 x.2.2.2.1 d7.1.toNat ((0 : Int), (0 : Int))).1 ∧ (Qa0 x.2.2.2.1 d7.1.toNat ((0 : Int), (0 : Int))).1 < (d7.2.1.1.length : Int)) ∧
 (((Qa1 (Qa0 x.2.2.2.1 d7.1.toNat ((0 : Int), (0 : Int))).1) < d7.2.1.1.length) ∧
 ((J11 (Qa0 d7.2.1.1 (Qa1 (Qa0 x.2.2.2.1 d7.1.toNat ((0 : Int), (0 : Int))).1) Aby)) ∧ True) ∧ True) ∧ ((((Qa1 (Qa0 x.2.2.2.1 d7.1.toNat ((0 : Int), (0 : Int))).1) < d7.2.1.1.length) ∧
 (J11 (Qa0 d7.2.1.1 (Qa1 (Qa0 x.2.2.2.1 d7.1.toNat ((0 : Int), (0 : Int))).1) Aby)) ∧ True) ∧ True)) ∧ (((0 ≤ (Qa0 x.2.2.2.1 d7.1.toNat ((0 : Int), (0 : Int))).1 ∧ (Qa0 x.2.2.2.1 d7.1.toNat ((0 : Int), (0 : Int))).1 < (d7.2.1.1.length : Int)) ∧
 ((Qa1 (Qa0 x.2.2.2.1 d7.1.toNat ((0 : Int), (0 : Int))).1) < d7.2.1.1.length) ∧
 (J11 (Qa0 d7.2.1.1 (Qa1 (Qa0 x.2.2.2.1 d7.1.toNat ((0 : Int), (0 : Int))).1) Aby)) ∧ True) ∧ True)) ∧ ((((0 ≤ (Qa0 x.2.2.2.1 d7.1.toNat ((0 : Int), (0 : Int))).1 ∧ (Qa0 x.2.2.2.1 d7.1.toNat ((0 : Int), (0 : Int))).1 < (d7.2.1.1.length : Int)) ∧
 (((Qa1 (Qa0 x.2.2.2.1 d7.1.toNat ((0 : Int), (0 : Int))).1) < d7.2.1.1.length) ∧
 ((J11 (Qa0 d7.2.1.1 (Qa1 (Qa0 x.2.2.2.1 d7.1.toNat ((0 : Int), (0 : Int))).1) Aby)) ∧ True) ∧ True) ∧ ((((Qa1 (Qa0 x.2.2.2.1 d7.1.toNat ((0 : Int), (0 : Int))).1) < d7.2.1.1.length) ∧
 (J11 (Qa0 d7.2.1.1 (Qa1 (Qa0 x.2.2.2.1 d7.1.toNat ((0 : Int), (0 : Int))).1) Aby)) ∧ True) ∧ True)) ∧ (((0 ≤ (Qa0 x.2.2.2.1 d7.1.toNat ((0 : Int), (0 : Int))).1 ∧ (Qa0 x.2.2.2.1 d7.1.toNat ((0 : Int), (0 : Int))).1 < (d7.2.1.1.length : Int)) ∧
 ((Qa1 (Qa0 x.2.2.2.1 d7.1.toNat ((0 : Int), (0 : Int))).1) < d7.2.1.1.length) ∧
 (J11 (Qa0 d7.2.1.1 (Qa1 (Qa0 x.2.2.2.1 d7.1.toNat ((0 : Int), (0 : Int))).1) Aby)) ∧ True) ∧ True)) ∧ (((0 ≤ (Qa0 x.2.2.2.1 d7.1.toNat ((0 : Int), (0 : Int))).1 ∧ (Qa0 x.2.2.2.1 d7.1.toNat ((0 : Int), (0 : Int))).1 < (d7.2.1.1.length : Int)) ∧
 ((Qa1 (Qa0 x.2.2.2.1 d7.1.toNat ((0 : Int), (0 : Int))).1) < d7.2.1.1.length) ∧
 (J11 (Qa0 d7.2.1.1 (Qa1 (Qa0 x.2.2.2.1 d7.1.toNat ((0 : Int), (0 : Int))).1) Aby)) ∧ True) ∧ True))) (fun d12 => (((d12.1 == (0 : Int)) = true → (64 : Int) ≠ 0)) ∧
 (((d12.1 == (0 : Int)) = true → 0 ≤ (u8.wrap (Qa5 d2 (64 : Int))) ∧ (u8.wrap (Qa5 d2 (64 : Int))) < ((4 : Nat) : Int))) ∧
 (((d12.1 == (0 : Int)) = true → (Qa1 (u8.wrap (Qa5 d2 (64 : Int)))) < 4)) ∧
 (((d12.1 == (0 : Int)) = true → (64 : Int) ≠ 0)) ∧
 (((d12.1 == (0 : Int)) = true → 0 ≤ (Qa4 d2 (64 : Int)))) ∧
 Ag (D := Qm) (fun J13 => (((cond (d12.1 == (0 : Int)) ((u64.wrap ((Qa6 (Qa3 u64.bits (Qa8 (Qa0 [d12.2.1.1, d12.2.1.2.1, d12.2.1.2.2.1, d12.2.1.2.2.2] (Qa1 (u8.wrap (Qa5 d2 (64 : Int)))) (0 : Int)) (2 ^ (min (Qa1 (Qa4 d2 (64 : Int))) u64.bits))) &&& Qa3 u64.bits (1 : Int)) : Nat) : Int)) == (1 : Int)) false) = true → Fn P QV AcY (d7.2, (d12.2.2.1, (Qa0 x.2.2.2.1 d7.1.toNat ((0 : Int), (0 : Int))).2)) (fun (d15 : Unit) (e16 : Qm) => J13 e16)) ∧ ((cond (d12.1 == (0 : Int)) ((u64.wrap ((Qa6 (Qa3 u64.bits (Qa8 (Qa0 [d12.2.1.1, d12.2.1.2.1, d12.2.1.2.2.1, d12.2.1.2.2.2] (Qa1 (u8.wrap (Qa5 d2 (64 : Int)))) (0 : Int)) (2 ^ (min (Qa1 (Qa4 d2 (64 : Int))) u64.bits))) &&& Qa3 u64.bits (1 : Int)) : Nat) : Int)) == (1 : Int)) false) = false → J13 d7.2))) (fun d14 => J9 d14))) (fun d10 => J8 ((i64.wrap (d7.1 + (1 : Int))), d10))) ∧ ((decide (d7.1 < (x.2.2.2.1.length : Int))) = false → J5 d7.2)))) (fun d6 => K () d6)))
theorem Aff {P : Pg} (h : Has P AdC) {x : DP Ac1.ps} {K : DP Ac1.rs → DP (ptrs Ac1.ps) → Prop} (hw : Aee P x K) : Fn P XF Ac1 x K :=
 BI (c := AdO) h rfl rfl (by kernel_rfl) (Eq.mpr (show BC P AdC Ac1 AdO x K = _ by kernel_rfl) hw)
def AdE : Be :=
 (.seq (.region [ia 2 (kI 0)]) (.seq (.seq (.region [im 5 0, o1 6 (.nilc 5), fa 7 4 6, ld 8 7, o1 9 (.lenK 8), o1 10 (.mv (kI 0))]) (.frame (rg [2, 4] 10 18) [1004] false (.join
 [.si 2] (.block 0 (.loop [.si 2, .si 10] (.seq (.region [o1 11 (.bin .lss 10 9)]) (.seq (.cond 11 .skip (.exit 0)) (.seq (.frame (rg [2, 4] 12 15) [1004] false (.join [.si 2]
 (.block 1 (.seq (.region [o1 12 (.ixA 2 8 10), o1 13 (.load true 2 12), o1 4 (.alloc [(.int .i64 0), (.int .i64 0)]), o0 ⟨none, .store 2 4 13, none⟩]) (.seq (.draw [(.first (im 14
 0) (.first (o1 15 (.nilc 14)) (.first (fa 16 0 15) (.first (fa 17 0 16) (.first (ld 18 17) (.first (fa 19 0 4) (.first (ld 20 19) (.first (o1 21 (.ixA 7 18 20)) (.first (fa 22 0
 21) (.first (ld 23 22) (.first (o1 24 (.bin .eql 23 (kI 4))) .done)))))))))))]) (.cond 24 (.seq (.region [fa 25 1 4, ld 26 25, ia 2 26]) .ret) .skip)))))) (.region [o1 27 (.bin
 .add 10 (kI 1)), im 10 27]))))))))) (.seq (.region [ia 2 (kI (-1))]) .ret)))
def Adi : AFn := ⟨ XG, AdE.erase, [.tmp 2], 1⟩
def AdX (P : Pg) (x : Qm) (K : Int → Qm → Prop) : Prop :=
 Ag (D := Int) (fun J1 => B0 (D := (Int × Int)) ((0 : Int), (0 : Int)) (fun d3 J4 => (((decide (d3.2 < (x.2.2.2.1.length : Int))) = true → Ag (D := Int) (fun J5 => (0 ≤ d3.2 ∧ d3.2 < (x.2.2.2.1.length : Int)) ∧
 (d3.2.toNat < x.2.2.2.1.length) ∧
 (0 ≤ (Qa0 x.2.2.2.1 d3.2.toNat ((0 : Int), (0 : Int))).1 ∧ (Qa0 x.2.2.2.1 d3.2.toNat ((0 : Int), (0 : Int))).1 < (x.1.1.length : Int)) ∧
 ((Qa1 (Qa0 x.2.2.2.1 d3.2.toNat ((0 : Int), (0 : Int))).1) < x.1.1.length) ∧
 ((((Qa0 x.1.1 (Qa1 (Qa0 x.2.2.2.1 d3.2.toNat ((0 : Int), (0 : Int))).1) Aby).1 == (4 : Int)) = true → K (Qa0 x.2.2.2.1 d3.2.toNat ((0 : Int), (0 : Int))).2 x) ∧ (((Qa0 x.1.1 (Qa1 (Qa0 x.2.2.2.1 d3.2.toNat ((0 : Int), (0 : Int))).1) Aby).1 == (4 : Int)) = false → J5 d3.1))) (fun d6 => J4 (d6, (i64.wrap (d3.2 + (1 : Int)))))) ∧ ((decide (d3.2 < (x.2.2.2.1.length : Int))) = false → J1 d3.1)))) (fun d2 => K (-1 : Int) x)
theorem AeC {P : Pg} (h : Has P Adi) {x : DP AcW.ps} {K : DP AcW.rs → DP (ptrs AcW.ps) → Prop} (hw : AdX P x K) : Fn P XG AcW x K :=
 BI (c := AdE) h rfl rfl (by kernel_rfl) (Eq.mpr (show BC P Adi AcW AdE x K = _ by kernel_rfl) hw)
def AdN : Be :=
 (.seq (.region [im 6 0, o1 7 (.nilc 6), fa 8 4 7, ld 9 8, o1 10 (.lenK 9), o1 11 (.mv (kI 0))]) (.frame (rg [4, 5, 9] 11 19) [0, 1005] true (.join [.bx 0 XM (.pair
 (.pair tM .leaf) (.pair .leaf (.pair .leaf (.pair tO tO))))] (.block 0 (.loop [.rf 9 ⟨.obj 0 4, []⟩ .leaf (.pair bI bI), .si 11, .bx 0 XM (.pair (.pair tM .leaf)
 (.pair .leaf (.pair .leaf (.pair tO tO))))] (.seq (.region [o1 12 (.bin .lss 11 10)]) (.seq (.cond 12 .skip (.exit 0)) (.seq (.frame (rg [4, 5, 9] 13 16) [0, 1005] true (.join [.rf
 9 ⟨.obj 0 4, []⟩ .leaf (.pair bI bI), .bx 0 XM (.pair (.pair tM .leaf) (.pair .leaf (.pair .leaf (.pair tO tO))))] (.block 1 (.seq (.region [im 13 11, o1 14 (.ixA 2 9
 11), o1 15 (.load true 2 14), o1 5 (.alloc [(.int .i64 0), (.int .i64 0)]), ia 4 13, o0 ⟨none, .store 2 5 15, none⟩]) (.seq (.region [fa 16 1 5, ld 17 16, im 18 1, o1 19 (.bin .gtr
 17 18)]) (.cond 19 (.seq (.region [im 20 0, im 21 0, o1 22 (.nilc 21), fa 23 4 22, ld 24 23, im 25 4, o1 26 (.slK 2 24 none (some 25)), o1 27 (.nilc 20), fa 28 4 27, o0 ⟨none,
 .store 1 28 26, none⟩]) .ret) .skip)))))) (.region [o1 29 (.bin .add 11 (kI 1)), im 11 29])))))))))
def AdB : AFn := ⟨ Y1, AdN.erase, [], 2⟩
def Aed (P : Pg) (x : (Qm × Int)) (K : Unit → Qm → Prop) : Prop :=
 Ag (D := Qm) (fun J1 => B0 (D := (Int × (Int × Qm))) ((x.1.2.2.2.1.length : Int), ((0 : Int), x.1)) (fun d3 J4 => (((decide (d3.2.1 < (x.1.2.2.2.1.length : Int))) = true → Ag (D := (Int × Qm)) (fun J5 => (0 ≤ d3.2.1 ∧ d3.2.1 < ((d3.1.toNat : Nat) : Int)) ∧
 ((0 + Qa1 d3.2.1) < d3.2.2.2.2.2.1.length) ∧
 (((decide ((Qa0 d3.2.2.2.2.2.1 (0 + Qa1 d3.2.1) ((0 : Int), (0 : Int))).2 > x.2)) = true → (0 ≤ d3.2.1 ∧ d3.2.1 ≤ (d3.2.2.2.2.2.1.length : Int)) ∧
 (0 + d3.2.1.toNat ≤ d3.2.2.2.2.2.1.length) ∧
 K () (d3.2.2.1, (d3.2.2.2.1, (d3.2.2.2.2.1, ((Qa9 d3.2.1.toNat (Qb0 0 d3.2.2.2.2.2.1)), d3.2.2.2.2.2.2))))) ∧ ((decide ((Qa0 d3.2.2.2.2.2.1 (0 + Qa1 d3.2.1) ((0 : Int), (0 : Int))).2 > x.2)) = false → J5 (((d3.1.toNat : Nat) : Int), d3.2.2)))) (fun d6 => J4 (((d6.1.toNat : Nat) : Int), ((i64.wrap (d3.2.1 + (1 : Int))), d6.2)))) ∧ ((decide (d3.2.1 < (x.1.2.2.2.1.length : Int))) = false → J1 d3.2.2)))) (fun d2 => K () d2)
theorem Afe {P : Pg} (h : Has P AdB) {x : DP Ac4.ps} {K : DP Ac4.rs → DP (ptrs Ac4.ps) → Prop} (hw : Aed P x K) : Fn P Y1 Ac4 x K :=
 BI (c := AdN) h rfl rfl (by kernel_rfl) (Eq.mpr (show BC P AdB Ac4 AdN x K = _ by kernel_rfl) hw)
def Ae5 : Be :=
 (.seq (.region [o1 3 (.box 0), o1 6 (.alloc [(.int .i64 0), (.int .i64 0)]), o1 7 (.asg kF)]) (.seq (.region [o1 12 (.load true 2 3), im 13 1, im 14 2, oS ⟨some 15, .call
 XE [12, 13, 14], none⟩ Adf, ia 8 15]) (.seq (.region [o1 9 (.alloc [(.int .i64 0), (.int .i64 0)])]) (.seq (.region [o1 10 (.asg kF)]) (.frame (rg
 [7, 10, 11] 16 46) [1006, 1009, 1015] true (.block 0 (.loop [.sl 7 false .bool .leaf, .sl 10 false .bool .leaf, .bx 1006 (.pair bI bI) .leaf, .bx 1009 (.pair bI bI) .leaf, .bx 1015
 XM (.pair (.pair tM .leaf) (.pair .leaf (.pair .leaf (.pair tO tO))))] (.frame (rg [7, 10, 11] 16 46) [1006, 1009, 1015] true (.join [.sl 7 false .bool .leaf, .sl 10
 false .bool .leaf, .bx 1006 (.pair bI bI) .leaf, .bx 1009 (.pair bI bI) .leaf, .bx 1015 XM (.pair (.pair tM .leaf) (.pair .leaf (.pair .leaf (.pair tO tO))))] (.block
 1 (.seq (.seq (.region [im 16 10, o1 17 (.un .not 16)]) (.frame (rg [] 18 9) [1015] true (.join [.bx 1015 XM (.pair (.pair tM .leaf) (.pair .leaf (.pair .leaf (.pair
 tO tO))))] (.cond 17 (.frame (rg [] 18 9) [1015] true (.join [.bx 1015 XM (.pair (.pair tM .leaf) (.pair .leaf (.pair .leaf (.pair tO tO))))] (.draw [(.first (im 18 8)
 (.first (fa 19 1 3) (.first (ld 20 19) (.first (im 21 8) (.first (o1 22 (.nilc 21)) (.first (fa 23 3 22) (.first (ld 24 23) (.first (o1 25 (.build [(.int .i64 0), (.int .i64 0)]
 [(0, 1, 20), (1, 1, 24)])) (.alt (oS ⟨some 26, .call QV [18, 25], none⟩ AcY) .done .stop)))))))))]))) .skip)))) (.seq (.seq (.region
 [im 27 8, oS ⟨some 28, .call XG [27], none⟩ AcW, ia 11 28]) (.seq (.region [im 29 11, o1 30 (.bin .geq 29 (kI 0))])
 (.frame (rg [10] 31 9) [1009, 1015] true (.join [.sl 10 false .bool .leaf, .bx 1009 (.pair bI bI) .leaf, .bx 1015 XM (.pair (.pair tM .leaf) (.pair .leaf (.pair .leaf
 (.pair tO tO))))] (.cond 30 (.seq (.region [im 31 11, im 32 8, o1 33 (.nilc 32), fa 34 3 33, ld 35 34, o1 36 (.build [(.int .i64 0), (.int .i64 0)] [(0, 1, 31), (1, 1, 35)]), o0
 ⟨none, .store 2 9 36, none⟩, o1 10 (.asg kT)]) (.region [im 37 8, im 38 11, oS ⟨some 39, .call Y1 [37, 38], none⟩ Ac4]))
 .skip))))) (.seq (.seq (.region [im 40 8, o1 41 (.nilc 40), fa 42 3 41, ld 43 42, im 44 1, o1 45 (.lenS 44), o1 46 (.bin .eql 43 45), im 47 46, gf 48 47 (.mv 10), gf 49 47 (.mv
 48), gt 50 49 (.mv 8), gt 51 49 (.nilc 50), gt 52 49 (.fAddr 4 51), gt 53 49 (.load false 1 52), gt 54 49 (.lenK 53), gt 55 49 (.bin .eql 54 (kI 0)), gf 56 47 (.pick 49 55 kF), o1
 57 (.pick 47 kT 56)]) (.cond 57 (.seq (.region [o1 58 (.load true 2 9), im 59 10, o0 ⟨none, .store 2 6 58, none⟩, ia 7 59]) .ret) .skip)) (.region [im 60 8, oS ⟨some 61, .call
 XF [60], none⟩ Ac1]))))))))))))))
def Aeo : AFn := ⟨ XH, Ae5.erase, [.cell 6 true 2, .tmp 7], 3⟩
def AfR (P : Pg) (x : (((List State) × Int) × ((List UInt8) × Int))) (K : ((Int × Int) × Bool) → Unit → Prop) : Prop :=
 Fn P XE Adf x (fun (d1 : Qm) _ => B0 (D := (Bool × (Bool × ((Int × Int) × ((Int × Int) × Qm))))) (false, (false, (((0 : Int), (0 : Int)), (((0 : Int), (0 : Int)), d1)))) (fun d3 J4 => Ag (D := (Bool × (Bool × ((Int × Int) × ((Int × Int) × Qm))))) (fun J5 => Ag (D := Qm) (fun J7 => (((!d3.2.1) = true → Ag (D := Qm) (fun J9 => (Fn P QV AcY (d3.2.2.2.2, (x.1.2, d3.2.2.2.2.2.2.1)) (fun (d11 : Unit) (e12 : Qm) => J9 e12)) ∧ True) (fun d10 => J7 d10)) ∧ ((!d3.2.1) = false → J7 d3.2.2.2.2))) (fun d8 => Fn P XG AcW d8 (fun (d13 : Int) (e14 : Qm) => Ag (D := (Bool × ((Int × Int) × Qm))) (fun J15 => (((decide (d13 ≥ (0 : Int))) = true → Fn P Y1 Ac4 (e14, d13) (fun (d17 : Unit) (e18 : Qm) => J15 (true, ((d13, e14.2.2.1), e18)))) ∧ ((decide (d13 ≥ (0 : Int))) = false → J15 (d3.2.1, (d3.2.2.2.1, e14))))) (fun d16 => (((cond (d16.2.2.2.2.1 == (x.2.1.length : Int)) true (cond d16.1 ((d16.2.2.2.2.2.1.length : Int) == (0 : Int)) false)) = true → K (d16.2.1, d16.1) ()) ∧ ((cond (d16.2.2.2.2.1 == (x.2.1.length : Int)) true (cond d16.1 ((d16.2.2.2.2.2.1.length : Int) == (0 : Int)) false)) = false → Fn P XF Ac1 d16.2.2 (fun (d19 : Unit) (e20 : Qm) => J5 (d3.1, (d16.1, (d3.2.2.1, (d16.2.1, e20))))))))))) (fun d6 => J4 d6)))
theorem Ag3 {P : Pg} (h : Has P Aeo) {x : DP Adh.ps} {K : DP Adh.rs → DP (ptrs Adh.ps) → Prop} (hw : AfR P x K) : Fn P XH Adh x K :=
 BI (c := Ae5) h rfl rfl (by kernel_rfl) (Eq.mpr (show BC P Aeo Adh Ae5 x K = _ by kernel_rfl) hw)
def Afm : Be :=
 (.seq (.region [o1 2 (.box 0), o1 4 (.asg (.c (.slice none 0 0))), ia 5 (kI 0)]) (.seq (.seq (.region [o1 11 (.load true 2 2), oS ⟨some 12, .call QU [11],
 none⟩ Ac2, ia 6 12]) (.seq (.region [im 13 6, o1 14 (.bin .neq 13 (kI 0))]) (.cond 14 (.seq (.region [im 15 6, o1 4 (.asg (.c (.slice none 0 0))), ia 5 15]) .ret)
 .skip))) (.seq (.region [o1 7 (.asg (.c (.slice none 0 0)))]) (.seq (.seq (.region [ia 8 (kI 0)]) (.frame (rg [7, 8, 9, 10] 16 23) [1009] false (.join [.sl 7 false (.sl (.pair bI
 bI)) tO] (.block 0 (.loop [.sl 7 false (.sl (.pair bI bI)) tO, .si 8] (.seq (.seq (.region [im 16 8, im 17 1, o1 18 (.lenS 17), o1 19 (.bin .leq 16 18)]) (.cond 19 .skip (.exit
 0))) (.frame (rg [7, 8, 9, 10] 20 19) [1009] false (.join [.sl 7 false (.sl (.pair bI bI)) tO, .si 8] (.block 1 (.seq (.region [o1 21 (.load true 2 2), im 22 1, im 23 8, oS ⟨some
 24, .call XH [21, 22, 23], none⟩ Adh, im 20 24, o1 25 (.ext 20 0), o1 26 (.ext 20 1), o1 9 (.alloc [(.int .i64 0), (.int .i64 0)]), o0 ⟨none, .store
 2 9 25, none⟩, ia 10 26]) (.seq (.seq (.region [im 27 10, o1 28 (.un .not 27)]) (.cond 28 (.exit 0) .skip)) (.seq (.region [im 29 7, o1 30 (.load true 2 9), oT ⟨some 31, .buildSl 2
 [(.int .i64 0), (.int .i64 0)] 1 [(0, 30)], none⟩ (some ((.pair bI bI), .leaf)), oT ⟨some 32, .app 2 16 29 31, none⟩ (some ((.pair bI bI), .leaf)), ia 7 32]) (.region [fa 33 1 9,
 ld 34 33, fa 35 0 9, ld 36 35, o1 37 (.bin .add 36 (kI 1)), o1 38 (.mm true 34 37), ia 8 38]))))))))))))) (.seq (.region [im 39 7, ia 4 39, ia 5 (kI 0)]) .ret)))))
def Aev : AFn := ⟨ Y2, Afm.erase, [.tmp 4, .tmp 5], 2⟩
def Af7 (P : Pg) (x : (((List State) × Int) × (List UInt8))) (K : ((List (Int × Int)) × Int) → Unit → Prop) : Prop :=
 Fn P QU Ac2 x.1 (fun (d1 : Int) _ => (((d1 != (0 : Int)) = true → K ([], d1) ()) ∧ ((d1 != (0 : Int)) = false → Ag (D := (List (Int × Int))) (fun J3 => B0 (D := ((List (Int × Int)) × Int)) ([], (0 : Int)) (fun d5 J6 => (((decide (d5.2 ≤ (x.2.length : Int))) = true → Ag (D := ((List (Int × Int)) × Int)) (fun J7 => Fn P XH Adh (x.1, (x.2, d5.2)) (fun (d9 : ((Int × Int) × Bool)) _ => (((!d9.2) = true → J3 d5.1) ∧ ((!d9.2) = false → ((d5.1.length + Qa2 ([d9.1] : List (Int × Int))) * 16 ≤ 140737488355328) ∧
 J7 ((d5.1 ++ ([d9.1] : List (Int × Int))), (if (i64.wrap (d9.1.1 + (1 : Int))) > d9.1.2 then (i64.wrap (d9.1.1 + (1 : Int))) else d9.1.2)))))) (fun d8 => J6 d8)) ∧ ((decide (d5.2 ≤ (x.2.length : Int))) = false → J3 d5.1)))) (fun d4 => K (d4, (0 : Int)) ()))))
theorem Ahf {P : Pg} (h : Has P Aev) {x : DP AdH.ps} {K : DP AdH.rs → DP (ptrs AdH.ps) → Prop} (hw : Af7 P x K) : Fn P Y2 AdH x K :=
 BI (c := Afm) h rfl rfl (by kernel_rfl) (Eq.mpr (show BC P Aev AdH Afm x K = _ by kernel_rfl) hw)
def K3 : Be :=
 (.seq (.region [o1 2 (.box 0), o1 4 (.alloc [(.int .u64 0), (.int .u64 0), (.int .u64 0), (.int .u64 0)])]) (.seq (.region [im 5 1, o1 6 (.bin .quo 5 (.c (.int .u8 64))), im 7 1,
 o1 8 (.bin .quo 7 (.c (.int .u8 64))), o1 9 (.ixAr 4 1 2 8), ld 10 9, im 11 1, o1 12 (.bin .rem 11 (.c (.int .u8 64))), o1 13 (.bin .shl (.c (.int .u64 1)) 12), o1 14 (.bin .or 10
 13), o1 15 (.ixAr 4 1 2 6), o0 ⟨none, .store 1 15 14, none⟩]) (.seq (.region [o1 16 (.load true 4 2), o0 ⟨none, .store 4 4 16, none⟩]) .ret)))
def Ig : AFn := ⟨ VL, K3.erase, [.cell 4 true 4], 2⟩
def Og (P : Pg) (x : ((Int × (Int × (Int × Int))) × Int)) (K : (Int × (Int × (Int × Int))) → Unit → Prop) : Prop :=
 ((64 : Int) ≠ 0) ∧
 ((64 : Int) ≠ 0) ∧
 (0 ≤ (u8.wrap (Qa5 x.2 (64 : Int))) ∧ (u8.wrap (Qa5 x.2 (64 : Int))) < ((4 : Nat) : Int)) ∧
 ((Qa1 (u8.wrap (Qa5 x.2 (64 : Int)))) < 4) ∧
 ((64 : Int) ≠ 0) ∧
 (0 ≤ (Qa4 x.2 (64 : Int))) ∧
 (0 ≤ (u8.wrap (Qa5 x.2 (64 : Int))) ∧ (u8.wrap (Qa5 x.2 (64 : Int))) < ((4 : Nat) : Int)) ∧
 ((Qa1 (u8.wrap (Qa5 x.2 (64 : Int)))) < 4) ∧
 K ((if (Qa1 (u8.wrap (Qa5 x.2 (64 : Int)))) = 0 then (u64.wrap ((Qa6 (Qa3 u64.bits (Qa0 [x.1.1, x.1.2.1, x.1.2.2.1, x.1.2.2.2] (Qa1 (u8.wrap (Qa5 x.2 (64 : Int)))) (0 : Int)) ||| Qa3 u64.bits (u64.wrap ((1 : Int) * 2 ^ (min (Qa1 (Qa4 x.2 (64 : Int))) u64.bits)))) : Nat) : Int)) else x.1.1), ((if (Qa1 (u8.wrap (Qa5 x.2 (64 : Int)))) = 1 then (u64.wrap ((Qa6 (Qa3 u64.bits (Qa0 [x.1.1, x.1.2.1, x.1.2.2.1, x.1.2.2.2] (Qa1 (u8.wrap (Qa5 x.2 (64 : Int)))) (0 : Int)) ||| Qa3 u64.bits (u64.wrap ((1 : Int) * 2 ^ (min (Qa1 (Qa4 x.2 (64 : Int))) u64.bits)))) : Nat) : Int)) else x.1.2.1), ((if (Qa1 (u8.wrap (Qa5 x.2 (64 : Int)))) = 2 then (u64.wrap ((Qa6 (Qa3 u64.bits (Qa0 [x.1.1, x.1.2.1, x.1.2.2.1, x.1.2.2.2] (Qa1 (u8.wrap (Qa5 x.2 (64 : Int)))) (0 : Int)) ||| Qa3 u64.bits (u64.wrap ((1 : Int) * 2 ^ (min (Qa1 (Qa4 x.2 (64 : Int))) u64.bits)))) : Nat) : Int)) else x.1.2.2.1), (if (Qa1 (u8.wrap (Qa5 x.2 (64 : Int)))) = 3 then (u64.wrap ((Qa6 (Qa3 u64.bits (Qa0 [x.1.1, x.1.2.1, x.1.2.2.1, x.1.2.2.2] (Qa1 (u8.wrap (Qa5 x.2 (64 : Int)))) (0 : Int)) ||| Qa3 u64.bits (u64.wrap ((1 : Int) * 2 ^ (min (Qa1 (Qa4 x.2 (64 : Int))) u64.bits)))) : Nat) : Int)) else x.1.2.2.2)))) ()
theorem RS {P : Pg} (h : Has P Ig) {x : DP Br.ps} {K : DP Br.rs → DP (ptrs Br.ps) → Prop} (hw : Og P x K) : Fn P VL Br x K :=
 BI (c := K3) h rfl rfl (by kernel_rfl) (Eq.mpr (show BC P Ig Br K3 x K = _ by kernel_rfl) hw)
def Afk : Be :=
 (.seq (.region [o1 0 (.alloc [(.slice none 0 0), (.int .i64 0)])]) (.seq (.region [o1 1 (.alloc [(.int .u64 0), (.int .u64 0), (.int .u64 0), (.int .u64 0)])]) (.seq (.region [o1 2
 (.build [(.int .i64 0), (.int .u64 0), (.int .u64 0), (.int .u64 0), (.int .u64 0), (.int .i64 0), (.int .i64 0)] [(0, 1, (kI 1)), (5, 1, (kI 1)), (6, 1, (kI 2))]), o1 3 (.load
 true 4 1), oS ⟨some 4, .call VL [3, (.c (.int .u8 97))], none⟩ Br, o1 5 (.build [(.int .i64 0), (.int .u64 0), (.int .u64 0), (.int .u64 0),
 (.int .u64 0), (.int .i64 0), (.int .i64 0)] [(0, 1, (kI 0)), (1, 4, 4), (5, 1, (kI 0))]), o1 6 (.build [(.int .i64 0), (.int .u64 0), (.int .u64 0), (.int .u64 0), (.int .u64 0),
 (.int .i64 0), (.int .i64 0)] [(0, 1, (kI 4))]), oT ⟨some 7, .buildSl 7 [(.int .i64 0), (.int .u64 0), (.int .u64 0), (.int .u64 0), (.int .u64 0), (.int .i64 0), (.int .i64 0)] 3
 [(0, 2), (1, 5), (2, 6)], none⟩ (some (Abt, .leaf)), o1 8 (.build [(.slice none 0 0), (.int .i64 0)] [(0, 1, 7)]), o0 ⟨none, .store 2 0 8, none⟩]) .ret)))
def Aet : AFn := ⟨ VF, Afk.erase, [.cell 0 true 2], 0⟩
def Af5 (P : Pg) (x : Unit) (K : ((List State) × Int) → Unit → Prop) : Prop :=
 Fn P VL Br (((0 : Int), ((0 : Int), ((0 : Int), (0 : Int)))), (97 : Int)) (fun (d1 : (Int × (Int × (Int × Int)))) _ => K (([((1 : Int), (((0 : Int), ((0 : Int), ((0 : Int), (0 : Int)))), ((1 : Int), (2 : Int)))), ((0 : Int), (d1, ((0 : Int), (0 : Int)))), ((4 : Int), (((0 : Int), ((0 : Int), ((0 : Int), (0 : Int)))), ((0 : Int), (0 : Int))))] : List State), (0 : Int)) ())
theorem Ahd {P : Pg} (h : Has P Aet) {x : DP Adj.ps} {K : DP Adj.rs → DP (ptrs Adj.ps) → Prop} (hw : Af5 P x K) : Fn P VF Adj x K :=
 BI (c := Afk) h rfl rfl (by kernel_rfl) (Eq.mpr (show BC P Aet Adj Afk x K = _ by kernel_rfl) hw)
def AeI : Be :=
 (.seq (.region [o1 2 (.box 0), o1 4 (.asg kF), ia 5 (kI 0)]) (.seq (.seq (.region [o1 8 (.load true 2 2), oS ⟨some 9, .call QU [8], none⟩
 Ac2, ia 6 9]) (.seq (.region [im 10 6, o1 11 (.bin .neq 10 (kI 0))]) (.cond 11 (.seq (.region [im 12 6, o1 4 (.asg kF), ia 5 12]) .ret) .skip))) (.seq (.region [o1 13
 (.load true 2 2), im 14 1, oS ⟨some 15, .call XE [13, 14, (kI 0)], none⟩ Adf, ia 7 15]) (.seq (.region [im 16 7, fa 17 1 2, ld 18 17, o1 19 (.build
 [(.int .i64 0), (.int .i64 0)] [(0, 1, 18), (1, 1, (kI 0))]), oS ⟨some 20, .call QV [16, 19], none⟩ AcY]) (.seq (.frame (rg [] 21
 17) [1015] true (.join [.bx 1015 XM (.pair (.pair tM .leaf) (.pair .leaf (.pair .leaf (.pair tO tO))))] (.block 0 (.loop [.bx 1015 XM (.pair (.pair tM
 .leaf) (.pair .leaf (.pair .leaf (.pair tO tO))))] (.seq (.seq (.region [im 21 7, o1 22 (.nilc 21), fa 23 3 22, ld 24 23, im 25 1, o1 26 (.lenS 25), o1 27 (.bin .lss 24 26), im 28
 27, gt 29 28 (.mv 7), gt 30 28 (.nilc 29), gt 31 28 (.fAddr 4 30), gt 32 28 (.load false 1 31), gt 33 28 (.lenK 32), gt 34 28 (.bin .gtr 33 (kI 0)), o1 35 (.pick 28 34 kF)]) (.cond
 35 .skip (.exit 0))) (.frame [36, 37] [1015] true (.join [.bx 1015 XM (.pair (.pair tM .leaf) (.pair .leaf (.pair .leaf (.pair tO tO))))] (.block 1 (.region [im 36 7,
 oS ⟨some 37, .call XF [36], none⟩ Ac1]))))))))) (.seq (.region [im 38 7, oS ⟨some 39, .call XG
 [38], none⟩ AcW, o1 40 (.bin .geq 39 (kI 0)), ia 4 40, ia 5 (kI 0)]) .ret))))))
def Ad7 : AFn := ⟨ Y3, AeI.erase, [.tmp 4, .tmp 5], 2⟩
def Afx (P : Pg) (x : (((List State) × Int) × (List UInt8))) (K : (Bool × Int) → Unit → Prop) : Prop :=
 Fn P QU Ac2 x.1 (fun (d1 : Int) _ => (((d1 != (0 : Int)) = true → K (false, d1) ()) ∧ ((d1 != (0 : Int)) = false → Fn P XE Adf (x.1, (x.2, (0 : Int))) (fun (d3 : Qm) _ => Fn P QV AcY (d3, (x.1.2, (0 : Int))) (fun (d5 : Unit) (e6 : Qm) => Ag (D := Qm) (fun J7 => B0 (D := Qm) e6 (fun d9 J10 => (((cond (decide (d9.2.2.1 < (x.2.length : Int))) (decide ((d9.2.2.2.1.length : Int) > (0 : Int))) false) = true → Ag (D := Qm) (fun J11 => Fn P XF Ac1 d9 (fun (d13 : Unit) (e14 : Qm) => J11 e14)) (fun d12 => J10 d12)) ∧ ((cond (decide (d9.2.2.1 < (x.2.length : Int))) (decide ((d9.2.2.2.1.length : Int) > (0 : Int))) false) = false → J7 d9)))) (fun d8 => Fn P XG AcW d8 (fun (d15 : Int) (e16 : Qm) => K ((decide (d15 ≥ (0 : Int))), (0 : Int)) ())))))))
theorem AgA {P : Pg} (h : Has P Ad7) {x : DP Adn.ps} {K : DP Adn.rs → DP (ptrs Adn.ps) → Prop} (hw : Afx P x K) : Fn P Y3 Adn x K :=
 BI (c := AeI) h rfl rfl (by kernel_rfl) (Eq.mpr (show BC P Ad7 Adn AeI x K = _ by kernel_rfl) hw)
def AfE : Be :=
 (.seq (.region [o1 4 (.asg kF)]) (.seq (.seq (.region [im 6 0, o1 7 (.lenK 6), im 8 1, o1 9 (.lenK 8), o1 10 (.bin .neq 7 9)]) (.cond 10 (.seq (.region [o1 4 (.asg kF)]) .ret)
 .skip)) (.seq (.seq (.region [ia 5 (kI 0)]) (.frame (rg [4, 5] 11 15) [] false (.join [.sl 4 false .bool .leaf] (.block 0 (.loop [.sl 4 false .bool .leaf, .si 5] (.seq (.seq
 (.region [im 11 5, im 12 0, o1 13 (.lenK 12), o1 14 (.bin .lss 11 13)]) (.cond 14 .skip (.exit 0))) (.seq (.frame (rg [4] 17 9) [] false (.join [.sl 4 false .bool .leaf] (.block 1
 (.seq (.draw [(.first (im 17 0) (.first (im 18 5) (.first (o1 19 (.ixA 2 17 18)) (.first (o1 20 (.load true 2 19)) (.first (im 21 1) (.first (im 22 5) (.first (o1 23 (.ixA 2 21
 22)) (.first (o1 24 (.load true 2 23)) (.first (o1 25 (.eqA true [.int, .int] 20 24)) .done)))))))))]) (.cond 25 (.seq (.region [o1 4 (.asg kF)]) .ret) .skip))))) (.region [im 15
 5, o1 16 (.bin .add 15 (kI 1)), ia 5 16])))))))) (.seq (.region [o1 4 (.asg kT)]) .ret))))
def AeN : AFn := ⟨ Y4, AfE.erase, [.tmp 4], 2⟩
def Agu (P : Pg) (x : ((List (Int × Int)) × (List (Int × Int)))) (K : Bool → Unit → Prop) : Prop :=
 ((((x.1.length : Int) != (x.2.length : Int)) = true → K false ()) ∧ (((x.1.length : Int) != (x.2.length : Int)) = false → Ag (D := Bool) (fun J1 => B0 (D := (Bool × Int)) (false, (0 : Int)) (fun d3 J4 => (((decide (d3.2 < (x.1.length : Int))) = true → Ag (D := Bool) (fun J5 => (0 ≤ d3.2 ∧ d3.2 < (x.1.length : Int)) ∧
 (d3.2.toNat < x.1.length) ∧
 (0 ≤ d3.2 ∧ d3.2 < (x.2.length : Int)) ∧
 (d3.2.toNat < x.2.length) ∧
 (((!(((Qa0 x.1 d3.2.toNat ((0 : Int), (0 : Int))).1 == (Qa0 x.2 d3.2.toNat ((0 : Int), (0 : Int))).1) && (((Qa0 x.1 d3.2.toNat ((0 : Int), (0 : Int))).2 == (Qa0 x.2 d3.2.toNat ((0 : Int), (0 : Int))).2) && true))) = true → K false ()) ∧ ((!(((Qa0 x.1 d3.2.toNat ((0 : Int), (0 : Int))).1 == (Qa0 x.2 d3.2.toNat ((0 : Int), (0 : Int))).1) && (((Qa0 x.1 d3.2.toNat ((0 : Int), (0 : Int))).2 == (Qa0 x.2 d3.2.toNat ((0 : Int), (0 : Int))).2) && true))) = false → J5 d3.1))) (fun d6 => J4 (d6, (i64.wrap (d3.2 + (1 : Int)))))) ∧ ((decide (d3.2 < (x.1.length : Int))) = false → J1 d3.1)))) (fun d2 => K true ())))
theorem AhD {P : Pg} (h : Has P AeN) {x : DP AdL.ps} {K : DP AdL.rs → DP (ptrs AdL.ps) → Prop} (hw : Agu P x K) : Fn P Y4 AdL x K :=
 BI (c := AfE) h rfl rfl (by kernel_rfl) (Eq.mpr (show BC P AeN AdL AfE x K = _ by kernel_rfl) hw)
def AeY : Be :=
 (.seq (.region [o1 0 (.asg kF)]) (.seq (.region [oS ⟨some 6, .call VF [], none⟩ Adj, oS ⟨some 7, .call Y2 [6, (.c (.string
 ⟨#[98, 97, 97]⟩))], none⟩ AdH, im 5 7, o1 8 (.ext 5 0), o1 9 (.ext 5 1), ia 1 8, ia 2 9]) (.seq (.region [oS ⟨some 11, .call VF [], none⟩
 Adj, oS ⟨some 12, .call Y3 [11, (.c (.string ⟨#[97, 97]⟩))], none⟩ Adn, im 10 12, o1 13 (.ext 10 0), o1 14 (.ext 10 1), ia 3 13, ia 4 14])
 (.seq (.region [im 15 2, o1 16 (.bin .eql 15 (kI 0)), im 17 16, gt 18 17 (.mv 4), gt 19 17 (.bin .eql 18 (kI 0)), o1 20 (.pick 17 19 kF), im 21 20, gt 22 21 (.mv 3), o1 23 (.pick
 21 22 kF), im 24 23, ⟨⟨some 25, .mv 1, some (24, true)⟩, none, ⟨[], []⟩, false, some 24, true, false⟩, ⟨⟨some 26, .build [(.int .i64 0), (.int .i64 0)] [(0, 1, (kI 0)), (1, 1, (kI
 0))], some (24, true)⟩, none, ⟨[], []⟩, false, none, true, false⟩, ⟨⟨some 27, .build [(.int .i64 0), (.int .i64 0)] [(0, 1, (kI 1)), (1, 1, (kI 3))], some (24, true)⟩, none, ⟨[],
 []⟩, false, none, true, false⟩, ⟨⟨some 28, .build [(.int .i64 0), (.int .i64 0)] [(0, 1, (kI 3)), (1, 1, (kI 3))], some (24, true)⟩, none, ⟨[], []⟩, false, none, true, false⟩,
 ⟨⟨some 29, .buildSl 2 [(.int .i64 0), (.int .i64 0)] 3 [(0, 26), (1, 27), (2, 28)], some (24, true)⟩, some ((.pair bI bI), .leaf), ⟨[], []⟩, false, none, true, false⟩, ⟨⟨some 30,
 .call Y4 [25, 29], some (24, true)⟩, none, AdL, false, none, true, true⟩, o1 31 (.pick 24 30 kF), ia 0 31]) .ret))))
def Aeh : AFn := ⟨ ND, AeY.erase, [.tmp 0], 0⟩
def AfK (P : Pg) (x : Unit) (K : Bool → Unit → Prop) : Prop :=
 Fn P VF Adj () (fun (d1 : ((List State) × Int)) _ => Fn P Y2 AdH (d1, ([98, 97, 97] : List UInt8)) (fun (d3 : ((List (Int × Int)) × Int)) _ => Fn P VF Adj () (fun (d5 : ((List State) × Int)) _ => Fn P Y3 Adn (d5, ([97, 97] : List UInt8)) (fun (d7 : (Bool × Int)) _ => (((cond (cond (d3.2 == (0 : Int)) (d7.2 == (0 : Int)) false) d7.1 false) = true → Fn P Y4 AdL (d3.1, ([((0 : Int), (0 : Int)), ((1 : Int), (3 : Int)), ((3 : Int), (3 : Int))] : List (Int × Int))) (fun (d9 : Bool) _ => K (cond true d9 false) ())) ∧ ((cond (cond (d3.2 == (0 : Int)) (d7.2 == (0 : Int)) false) d7.1 false) = false → K (cond false false false) ()))))))
theorem AgW {P : Pg} (h : Has P Aeh) {x : DP Ac8.ps} {K : DP Ac8.rs → DP (ptrs Ac8.ps) → Prop} (hw : AfK P x K) : Fn P ND Ac8 x K :=
 BI (c := AeY) h rfl rfl (by kernel_rfl) (Eq.mpr (show BC P Aeh Ac8 AeY x K = _ by kernel_rfl) hw)
def Afl : Be :=
 (.seq (.region [o1 4 (.asg (.c (.string ⟨#[]⟩)))]) (.seq (.region [o1 5 (.asg (.c (.string ⟨#[]⟩)))]) (.seq (.seq (.region [ia 6 (kI 0)]) (.frame (rg [] 5 22) [] false (.join [.sl
 5 false .str .leaf] (.block 0 (.loop [.sl 5 false .str .leaf, .si 6] (.seq (.seq (.region [im 7 6, im 8 0, im 9 1, oS ⟨some 10, .call zS3 [8, 9], none⟩
 Ce, oS ⟨some 11, .call zS2 [10, (kI 9)], none⟩ BF, o1 12 (.bin .lss 7 11)]) (.cond 12 .skip (.exit 0))) (.seq (.frame (rg [5] 15 12) [] false
 (.join [.sl 5 false .str .leaf] (.block 1 (.region [im 15 5, oT ⟨some 16, .buildSl 1 [(.string ⟨#[]⟩)] 3 [(0, (.c (.string ⟨#[97]⟩))), (1, (.c (.string ⟨#[98]⟩))), (2, (.c (.string
 ⟨#[120]⟩)))], none⟩ (some (.str, .leaf)), im 17 0, im 18 1, o1 19 (.bin .add 18 (kI 1)), im 20 6, o1 21 (.bin .add 19 20), oS ⟨some 22, .call zS3 [17, 21],
 none⟩ Ce, oS ⟨some 23, .call zS2 [22, (kI 3)], none⟩ BF, o1 24 (.ixA 1 16 23), ld 25 24, o1 26 (.bin .add 15 25), ia 5 26])))) (.region [im 13
 6, o1 14 (.bin .add 13 (kI 1)), ia 6 14])))))))) (.seq (.region [im 27 5, ia 4 27]) .ret))))
def Aeu : AFn := ⟨ Y5, Afl.erase, [.tmp 4], 2⟩
def Af6 (P : Pg) (x : ((List Int) × Int)) (K : (List UInt8) → Unit → Prop) : Prop :=
 Ag (D := (List UInt8)) (fun J1 => B0 (D := ((List UInt8) × Int)) (([] : List UInt8), (0 : Int)) (fun d3 J4 => Fn P zS3 Ce x (fun (d5 : Int) _ => Fn P zS2 BF (d5, (9 : Int)) (fun (d7 : Int) _ => (((decide (d3.2 < d7)) = true → Ag (D := (List UInt8)) (fun J9 => Fn P zS3 Ce (x.1, (i64.wrap ((i64.wrap (x.2 + (1 : Int))) + d3.2))) (fun (d11 : Int) _ => Fn P zS2 BF (d11, (3 : Int)) (fun (d13 : Int) _ => (0 ≤ d13 ∧ d13 < ((Qa2 ([([97] : List UInt8), ([98] : List UInt8), ([120] : List UInt8)] : List (List UInt8)) : Nat) : Int)) ∧
 (d13.toNat < Qa2 ([([97] : List UInt8), ([98] : List UInt8), ([120] : List UInt8)] : List (List UInt8))) ∧
 (d3.1.length + Qa2 (Qa0 ([([97] : List UInt8), ([98] : List UInt8), ([120] : List UInt8)] : List (List UInt8)) d13.toNat []) ≤ 9223372036854775807) ∧
 J9 (d3.1 ++ (Qa0 ([([97] : List UInt8), ([98] : List UInt8), ([120] : List UInt8)] : List (List UInt8)) d13.toNat []))))) (fun d10 => J4 (d10, (i64.wrap (d3.2 + (1 : Int)))))) ∧ ((decide (d3.2 < d7)) = false → J1 d3.1)))))) (fun d2 => K d2 ())
theorem Ahe {P : Pg} (h : Has P Aeu) {x : DP AdG.ps} {K : DP AdG.rs → DP (ptrs AdG.ps) → Prop} (hw : Af6 P x K) : Fn P Y5 AdG x K :=
 BI (c := Afl) h rfl rfl (by kernel_rfl) (Eq.mpr (show BC P Aeu AdG Afl x K = _ by kernel_rfl) hw)
def AbP : Be :=
 (.seq (.region [o1 1 (.box 0), o1 2 (.asg kF)]) (.seq (.region [fa 3 5 1, ld 4 3, o1 5 (.bin .geq 4 (kI 0)), im 6 5, gt 7 6 (.fAddr 5 1), gt 8 6 (.load false 1 7), gt 9 6 (.bin
 .leq 8 (kI 100)), o1 10 (.pick 6 9 kF), im 11 10, gt 12 11 (.fAddr 6 1), gt 13 11 (.load false 1 12), gt 14 11 (.bin .eql 13 (kI (-1))), gt 15 11 (.mv 14), gf 16 15 (.fAddr 6 1),
 gf 17 15 (.load false 1 16), gf 18 15 (.fAddr 5 1), gf 19 15 (.load false 1 18), gf 20 15 (.bin .geq 17 19), gf 21 15 (.mv 20), gt 22 21 (.fAddr 6 1), gt 23 21 (.load false 1 22),
 gt 24 21 (.bin .leq 23 (kI 100)), gf 25 15 (.pick 21 24 kF), gt 26 11 (.pick 15 kT 25), o1 27 (.pick 11 26 kF), ia 2 27]) .ret))
def AbM : AFn := ⟨ Y6, AbP.erase, [.tmp 2], 1⟩
def AbY (P : Pg) (x : Node) (K : Bool → Unit → Prop) : Prop :=
 K (cond (cond (decide (x.2.2.1 ≥ (0 : Int))) (decide (x.2.2.1 ≤ (100 : Int))) false) (cond (x.2.2.2.1 == (-1 : Int)) true (cond (decide (x.2.2.2.1 ≥ x.2.2.1)) (decide (x.2.2.2.1 ≤ (100 : Int))) false)) false) ()
theorem Ab9 {P : Pg} (h : Has P AbM) {x : DP AbD.ps} {K : DP AbD.rs → DP (ptrs AbD.ps) → Prop} (hw : AbY P x K) : Fn P Y6 AbD x K :=
 BI (c := AbP) h rfl rfl (by kernel_rfl) (Eq.mpr (show BC P AbM AbD AbP x K = _ by kernel_rfl) hw)
def AbV : Be :=
 (.seq (.region [o1 2 (.box 0), o1 4 (.asg kF)]) (.seq (.seq (.region [fa 7 7 2, ld 8 7, o1 9 (.lenK 8), o1 10 (.mv (kI 0))]) (.frame (rg [4, 6] 10 12) [] false (.join [.sl 4 false
 .bool .leaf] (.block 0 (.loop [.sl 4 false .bool .leaf, .si 10] (.seq (.region [o1 11 (.bin .lss 10 9)]) (.seq (.cond 11 .skip (.exit 0)) (.seq (.frame (rg [4, 6] 12 9) [] false
 (.join [.sl 4 false .bool .leaf] (.block 1 (.seq (.region [o1 12 (.ixA 1 8 10), ld 13 12, ia 6 13]) (.seq (.region [im 14 6, o1 15 (.bin .lss 14 (kI 0)), im 16 15, gf 17 16 (.mv
 6), gf 18 16 (.mv 1), gf 19 16 (.bin .geq 17 18), o1 20 (.pick 16 kT 19)]) (.cond 20 (.seq (.region [o1 4 (.asg kF)]) .ret) .skip)))))) (.region [o1 21 (.bin .add 10 (kI 1)), im 10
 21]))))))))) (.seq (.seq (.region [fa 22 0 2, ld 23 22]) (.frame (rg [4] 24 26) [] false (.join [.sl 4 false .bool .leaf] (.block 2 (.seq (.seq (.region [o1 25 (.bin .eql 23 (kI
 0)), ia 24 25]) (.frame [24, 26, 27, 28] [] false (.join [.sl 24 false .bool .leaf] (.cond 24 .skip (.seq (.region [o1 26 (.bin .eql 23 (kI 1)), ia 24 26]) (.frame [24, 27, 28] []
 false (.join [.sl 24 false .bool .leaf] (.cond 24 .skip (.seq (.region [o1 27 (.bin .eql 23 (kI 2)), ia 24 27]) (.frame [24, 28] [] false (.join [.sl 24 false .bool .leaf] (.cond
 24 .skip (.region [o1 28 (.bin .eql 23 (kI 3)), ia 24 28]))))))))))))) (.cond 24 (.seq (.region [fa 29 7 2, ld 30 29, o1 31 (.lenK 30), o1 32 (.bin .eql 31 (kI 0)), ia 4 32]) .ret)
 (.seq (.seq (.region [o1 34 (.bin .eql 23 (kI 4)), ia 33 34]) (.frame [33, 35] [] false (.join [.sl 33 false .bool .leaf] (.cond 33 .skip (.region [o1 35 (.bin .eql 23 (kI 5)), ia
 33 35]))))) (.cond 33 (.seq (.region [fa 36 7 2, ld 37 36, o1 38 (.lenK 37), o1 39 (.bin .geq 38 (kI 2)), ia 4 39]) .ret) (.seq (.region [o1 41 (.bin .eql 23 (kI 6)), ia 40 41])
 (.cond 40 (.seq (.region [fa 42 7 2, ld 43 42, o1 44 (.lenK 43), o1 45 (.bin .eql 44 (kI 1)), im 46 45, gt 47 46 (.load true 8 2), oS ⟨some 48, .call Y6
 [47], some (46, true)⟩ AbD, o1 49 (.pick 46 48 kF), ia 4 49]) .ret) .skip)))))))))) (.seq (.region [o1 4 (.asg kF)]) .ret))))
def AbU : AFn := ⟨ Y7, AbV.erase, [.tmp 4], 2⟩
def Ab4 (P : Pg) (x : (Node × Int)) (K : Bool → Unit → Prop) : Prop :=
 Ag (D := Bool) (fun J1 => B0 (D := (Bool × Int)) (false, (0 : Int)) (fun d3 J4 => (((decide (d3.2 < (x.1.2.2.2.2.length : Int))) = true → Ag (D := Bool) (fun J5 => (0 ≤ d3.2 ∧ d3.2 < (x.1.2.2.2.2.length : Int)) ∧
 (d3.2.toNat < x.1.2.2.2.2.length) ∧
 (((cond (decide ((Qa0 x.1.2.2.2.2 d3.2.toNat (0 : Int)) < (0 : Int))) true (decide ((Qa0 x.1.2.2.2.2 d3.2.toNat (0 : Int)) ≥ x.2))) = true → K false ()) ∧ ((cond (decide ((Qa0 x.1.2.2.2.2 d3.2.toNat (0 : Int)) < (0 : Int))) true (decide ((Qa0 x.1.2.2.2.2 d3.2.toNat (0 : Int)) ≥ x.2))) = false → J5 d3.1))) (fun d6 => J4 (d6, (i64.wrap (d3.2 + (1 : Int)))))) ∧ ((decide (d3.2 < (x.1.2.2.2.2.length : Int))) = false → J1 d3.1)))) (fun d2 => Ag (D := Bool) (fun J7 => Ag (D := Bool) (fun J9 => (((x.1.1 == (0 : Int)) = true → J9 (x.1.1 == (0 : Int))) ∧ ((x.1.1 == (0 : Int)) = false → Ag (D := Bool) (fun J11 => (((x.1.1 == (1 : Int)) = true → J11 (x.1.1 == (1 : Int))) ∧ ((x.1.1 == (1 : Int)) = false → Ag (D := Bool) (fun J13 => (((x.1.1 == (2 : Int)) = true → J13 (x.1.1 == (2 : Int))) ∧ ((x.1.1 == (2 : Int)) = false → J13 (x.1.1 == (3 : Int))))) (fun d14 => J11 d14)))) (fun d12 => J9 d12)))) (fun d10 => ((d10 = true → K ((x.1.2.2.2.2.length : Int) == (0 : Int)) ()) ∧ (d10 = false → Ag (D := Bool) (fun J15 => (((x.1.1 == (4 : Int)) = true → J15 (x.1.1 == (4 : Int))) ∧ ((x.1.1 == (4 : Int)) = false → J15 (x.1.1 == (5 : Int))))) (fun d16 => ((d16 = true → K (decide ((x.1.2.2.2.2.length : Int) ≥ (2 : Int))) ()) ∧ (d16 = false → (((x.1.1 == (6 : Int)) = true → Ag (D := Bool) (fun J17 => ((((x.1.2.2.2.2.length : Int) == (1 : Int)) = true → Fn P Y6 AbD x.1 (fun (d18 : Bool) _ => J17 d18)) ∧ ((((x.1.2.2.2.2.length : Int) == (1 : Int)) = false → J17 false) ∧ True))) (fun d19 => K (cond ((x.1.2.2.2.2.length : Int) == (1 : Int)) d19 false) ())) ∧ ((x.1.1 == (6 : Int)) = false → J7 d2))))))))) (fun d8 => K false ()))
theorem Ack {P : Pg} (h : Has P AbU) {x : DP AbE.ps} {K : DP AbE.rs → DP (ptrs AbE.ps) → Prop} (hw : Ab4 P x K) : Fn P Y7 AbE x K :=
 BI (c := AbV) h rfl rfl (by kernel_rfl) (Eq.mpr (show BC P AbU AbE AbV x K = _ by kernel_rfl) hw)
def AbS : Be :=
 (.seq (.region [ia 2 (kI 0)]) (.seq (.seq (.region [im 5 0, o1 6 (.lenK 5), o1 7 (.bin .eql 6 (kI 0)), im 8 7, gf 9 8 (.mv 0), gf 10 8 (.lenK 9), gf 11 8 (.bin .gtr 10 (kI 4000)),
 o1 12 (.pick 8 kT 11)]) (.cond 12 (.seq (.region [ia 2 (kI 2)]) .ret) .skip)) (.seq (.seq (.region [im 13 0, o1 14 (.lenK 13), o1 15 (.mv (kI 0))]) (.frame (rg [2, 3, 4] 15 10)
 [1004] false (.join [.si 2] (.block 0 (.loop [.si 2, .si 15] (.seq (.region [o1 16 (.bin .lss 15 14)]) (.seq (.cond 16 .skip (.exit 0)) (.seq (.frame (rg [2, 3, 4] 17 7) [1004]
 false (.join [.si 2] (.block 1 (.seq (.region [im 17 15, o1 18 (.ixA 8 13 15), o1 19 (.load true 8 18), o1 4 (.alloc [(.int .i64 0), (.int .u64 0), (.int .u64 0), (.int .u64 0),
 (.int .u64 0), (.int .i64 0), (.int .i64 0), (.slice none 0 0)]), ia 3 17, o0 ⟨none, .store 8 4 19, none⟩]) (.seq (.region [o1 20 (.load true 8 4), im 21 3, oS ⟨some 22, .call
 Y7 [20, 21], none⟩ AbE, o1 23 (.un .not 22)]) (.cond 23 (.seq (.region [ia 2 (kI 2)]) .ret) .skip)))))) (.region [o1 24 (.bin .add 15 (kI 1)), im 15
 24]))))))))) (.seq (.region [ia 2 (kI 0)]) .ret))))
def AbR : AFn := ⟨ AaZ, AbS.erase, [.tmp 2], 1⟩
def Ab0 (P : Pg) (x : (List Node)) (K : Int → Unit → Prop) : Prop :=
 (((cond ((x.length : Int) == (0 : Int)) true (decide ((x.length : Int) > (4000 : Int)))) = true → K (2 : Int) ()) ∧ ((cond ((x.length : Int) == (0 : Int)) true (decide ((x.length : Int) > (4000 : Int)))) = false → Ag (D := Int) (fun J1 => B0 (D := (Int × Int)) ((0 : Int), (0 : Int)) (fun d3 J4 => (((decide (d3.2 < (x.length : Int))) = true → Ag (D := Int) (fun J5 => (0 ≤ d3.2 ∧ d3.2 < (x.length : Int)) ∧
 (d3.2.toNat < x.length) ∧
 Fn P Y7 AbE ((Qa0 x d3.2.toNat Ak), d3.2) (fun (d7 : Bool) _ => (((!d7) = true → K (2 : Int) ()) ∧ ((!d7) = false → J5 d3.1)))) (fun d6 => J4 (d6, (i64.wrap (d3.2 + (1 : Int)))))) ∧ ((decide (d3.2 < (x.length : Int))) = false → J1 d3.1)))) (fun d2 => K (0 : Int) ())))
theorem Ach {P : Pg} (h : Has P AbR) {x : DP AbF.ps} {K : DP AbF.rs → DP (ptrs AbF.ps) → Prop} (hw : Ab0 P x K) : Fn P AaZ AbF x K :=
 BI (c := AbS) h rfl rfl (by kernel_rfl) (Eq.mpr (show BC P AbR AbF AbS x K = _ by kernel_rfl) hw)
def AeH : Be :=
 (.seq (.region [o1 2 (.box 0), ia 4 (kI 0)]) (.seq (.region [ia 5 (kI 0)]) (.seq (.seq (.region [fa 8 7 2, ld 9 8, o1 10 (.lenK 9), o1 11 (.mv (kI 0))]) (.frame (rg [5, 7] 11 12)
 [] false (.join [.si 5] (.block 0 (.loop [.si 5, .si 11] (.seq (.region [o1 12 (.bin .lss 11 10)]) (.seq (.cond 12 .skip (.exit 0)) (.seq (.frame (rg [5, 7] 13 9) [] false (.join
 [.si 5] (.block 1 (.seq (.region [o1 13 (.ixA 1 9 11), ld 14 13, ia 7 14]) (.region [im 15 5, im 16 1, im 17 7, o1 18 (.ixA 1 16 17), ld 19 18, o1 20 (.bin .add 15 19), o1 21 (.mm
 false 20 (kI 4001)), ia 5 21]))))) (.region [o1 22 (.bin .add 11 (kI 1)), im 11 22]))))))))) (.seq (.seq (.region [fa 23 0 2, ld 24 23]) (.frame (rg [4] 25 39) [] false (.join [.si
 4] (.block 2 (.seq (.region [o1 26 (.bin .eql 24 (kI 4)), ia 25 26]) (.cond 25 (.seq (.region [im 27 5, ia 4 27]) .ret) (.seq (.region [o1 29 (.bin .eql 24 (kI 5)), ia 28 29])
 (.cond 28 (.seq (.region [im 30 5, fa 31 7 2, ld 32 31, o1 33 (.lenK 32), o1 34 (.bin .add 30 33), o1 35 (.bin .sub 34 (kI 1)), o1 36 (.mm false 35 (kI 4001)), ia 4 36]) .ret)
 (.seq (.region [o1 38 (.bin .eql 24 (kI 6)), ia 37 38]) (.cond 37 (.seq (.seq (.region [fa 39 6 2, ld 40 39, o1 41 (.bin .lss 40 (kI 0))]) (.cond 41 (.seq (.region [fa 42 5 2, ld
 43 42, im 44 5, o1 45 (.bin .mul 43 44), im 46 5, o1 47 (.bin .add 45 46), o1 48 (.bin .add 47 (kI 1)), o1 49 (.mm false 48 (kI 4001)), ia 4 49]) .ret) .skip)) (.seq (.region [fa
 50 5 2, ld 51 50, im 52 5, o1 53 (.bin .mul 51 52), fa 54 6 2, ld 55 54, fa 56 5 2, ld 57 56, o1 58 (.bin .sub 55 57), im 59 5, o1 60 (.bin .add 59 (kI 1)), o1 61 (.bin .mul 58
 60), o1 62 (.bin .add 53 61), o1 63 (.mm false 62 (kI 4001)), ia 4 63]) .ret)) .skip)))))))))) (.seq (.region [ia 4 (kI 1)]) .ret)))))
def Ad6 : AFn := ⟨ AcJ, AeH.erase, [.tmp 4], 2⟩
def Afw (P : Pg) (x : (Node × (List Int))) (K : Int → Unit → Prop) : Prop :=
 Ag (D := Int) (fun J1 => B0 (D := (Int × Int)) ((0 : Int), (0 : Int)) (fun d3 J4 => (((decide (d3.2 < (x.1.2.2.2.2.length : Int))) = true → Ag (D := Int) (fun J5 => (0 ≤ d3.2 ∧ d3.2 < (x.1.2.2.2.2.length : Int)) ∧
 (d3.2.toNat < x.1.2.2.2.2.length) ∧
 (0 ≤ (Qa0 x.1.2.2.2.2 d3.2.toNat (0 : Int)) ∧ (Qa0 x.1.2.2.2.2 d3.2.toNat (0 : Int)) < (x.2.length : Int)) ∧
 ((Qa1 (Qa0 x.1.2.2.2.2 d3.2.toNat (0 : Int))) < x.2.length) ∧
 J5 (if (4001 : Int) < (i64.wrap (d3.1 + (Qa0 x.2 (Qa1 (Qa0 x.1.2.2.2.2 d3.2.toNat (0 : Int))) (0 : Int)))) then (4001 : Int) else (i64.wrap (d3.1 + (Qa0 x.2 (Qa1 (Qa0 x.1.2.2.2.2 d3.2.toNat (0 : Int))) (0 : Int)))))) (fun d6 => J4 (d6, (i64.wrap (d3.2 + (1 : Int)))))) ∧ ((decide (d3.2 < (x.1.2.2.2.2.length : Int))) = false → J1 d3.1)))) (fun d2 => Ag (D := Int) (fun J7 => (((x.1.1 == (4 : Int)) = true → K d2 ()) ∧ ((x.1.1 == (4 : Int)) = false → (((x.1.1 == (5 : Int)) = true → K (if (4001 : Int) < (i64.wrap ((i64.wrap (d2 + (x.1.2.2.2.2.length : Int))) - (1 : Int))) then (4001 : Int) else (i64.wrap ((i64.wrap (d2 + (x.1.2.2.2.2.length : Int))) - (1 : Int)))) ()) ∧ ((x.1.1 == (5 : Int)) = false → (((x.1.1 == (6 : Int)) = true → (((decide (x.1.2.2.2.1 < (0 : Int))) = true → K (if (4001 : Int) < (i64.wrap ((i64.wrap ((i64.wrap (x.1.2.2.1 * d2)) + d2)) + (1 : Int))) then (4001 : Int) else (i64.wrap ((i64.wrap ((i64.wrap (x.1.2.2.1 * d2)) + d2)) + (1 : Int)))) ()) ∧ ((decide (x.1.2.2.2.1 < (0 : Int))) = false → K (if (4001 : Int) < (i64.wrap ((i64.wrap (x.1.2.2.1 * d2)) + (i64.wrap ((i64.wrap (x.1.2.2.2.1 - x.1.2.2.1)) * (i64.wrap (d2 + (1 : Int))))))) then (4001 : Int) else (i64.wrap ((i64.wrap (x.1.2.2.1 * d2)) + (i64.wrap ((i64.wrap (x.1.2.2.2.1 - x.1.2.2.1)) * (i64.wrap (d2 + (1 : Int)))))))) ()))) ∧ ((x.1.1 == (6 : Int)) = false → J7 (0 : Int)))))))) (fun d8 => K (1 : Int) ()))
theorem Agz {P : Pg} (h : Has P Ad6) {x : DP Adm.ps} {K : DP Adm.rs → DP (ptrs Adm.ps) → Prop} (hw : Afw P x K) : Fn P AcJ Adm x K :=
 BI (c := AeH) h rfl rfl (by kernel_rfl) (Eq.mpr (show BC P Ad6 Adm AeH x K = _ by kernel_rfl) hw)
end Go.VS
