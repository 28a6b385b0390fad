/- Functions of the program: typed code, and what it says, lifted. -/
import Derived.Test.YtbandpkgjepklaaKTxSig
import Derived.KernelRfl
set_option linter.unusedVariables false
set_option linter.unusedSimpArgs false
set_option maxRecDepth 8000
namespace Go.VS
open IntKind
def Oa : Be :=
 (.seq (.region [ia 4 (kI 0)]) (.seq (.region [im 5 0, o1 6 (.conv (.toInt .u64) 5), im 7 1, o1 8 (.conv (.toInt .u64) 7), o1 9 (.bin .rem 6 8), o1 10 (.conv (.toInt .i64) 9), ia 4
 10]) .ret))
def K8 : AFn := ⟨ zS4, Oa.erase, [.tmp 4], 2⟩
def QZ (P : Pg) (x : (Int × Int)) (K : Int → Unit → Prop) : Prop :=
 ((u64.wrap x.2) ≠ 0) ∧
 K (i64.wrap (Int.tmod (u64.wrap x.1) (u64.wrap x.2))) ()
theorem UP {P : Pg} (h : Has P K8) {x : DP BF.ps} {K : DP BF.rs → DP (ptrs BF.ps) → Prop} (hw : QZ P x K) : Fn P zS4 BF x K :=
 BI (c := Oa) h rfl rfl (by kernel_rfl) (Eq.mpr (show BC P K8 BF Oa x K = _ by kernel_rfl) hw)
def Qt : Be :=
 (.seq (.region [ia 4 (kI 0)]) (.seq (.region [im 6 1, o1 7 (.bin .add 6 (kI 1)), o1 8 (.conv (.toInt .u64) 7), o1 9 (.bin .mul 8 (.c (.int .u64 11400714819323198485))), ia 5 9])
 (.seq (.seq (.region [im 10 0, o1 11 (.lenK 10), o1 12 (.bin .gtr 11 (kI 0))]) (.frame (rg [5] 13 10) [] false (.join [.sl 5 false (.int .u64) .leaf] (.cond 12 (.region [im 13 5,
 im 14 0, im 15 1, im 16 0, o1 17 (.lenK 16), o1 18 (.bin .rem 15 17), o1 19 (.ixA 1 14 18), ld 20 19, o1 21 (.conv (.toInt .u64) 20), o1 22 (.bin .xor 13 21), ia 5 22]) .skip))))
 (.seq (.region [im 23 5, im 24 5, o1 25 (.bin .shr 24 (.c (.int .u64 31))), o1 26 (.bin .xor 23 25), o1 27 (.bin .mul 26 (.c (.int .u64 13787848793156543929))), ia 5 27]) (.seq
 (.region [im 28 5, im 29 5, o1 30 (.bin .shr 29 (.c (.int .u64 29))), o1 31 (.bin .xor 28 30), o1 32 (.bin .shr 31 (.c (.int .u64 1))), o1 33 (.conv (.toInt .i64) 32), ia 4 33])
 .ret)))))
def MA : AFn := ⟨ zS6, Qt.erase, [.tmp 4], 2⟩
def Sz (P : Pg) (x : ((List Int) × Int)) (K : Int → Unit → Prop) : Prop :=
 Ag (D := Int) (fun J1 => (((decide ((x.1.length : Int) > (0 : Int))) = true → ((x.1.length : Int) ≠ 0) ∧
 (0 ≤ (Int.tmod x.2 (x.1.length : Int)) ∧ (Int.tmod x.2 (x.1.length : Int)) < (x.1.length : Int)) ∧
 ((Int.toNat (Int.tmod x.2 (x.1.length : Int))) < x.1.length) ∧
 J1 (u64.wrap ((BitVec.toNat (BitVec.ofInt u64.bits (u64.wrap ((u64.wrap (i64.wrap (x.2 + (1 : Int)))) * (11400714819323198485 : Int))) ^^^ BitVec.ofInt u64.bits (u64.wrap (List.getD x.1 (Int.toNat (Int.tmod x.2 (x.1.length : Int))) (0 : Int)))) : Nat) : Int))) ∧ ((decide ((x.1.length : Int) > (0 : Int))) = false → J1 (u64.wrap ((u64.wrap (i64.wrap (x.2 + (1 : Int)))) * (11400714819323198485 : Int)))))) (fun d2 => (0 ≤ (31 : Int)) ∧
 (0 ≤ (29 : Int)) ∧
 (0 ≤ (1 : Int)) ∧
 K (i64.wrap (Int.fdiv (u64.wrap ((BitVec.toNat (BitVec.ofInt u64.bits (u64.wrap ((u64.wrap ((BitVec.toNat (BitVec.ofInt u64.bits d2 ^^^ BitVec.ofInt u64.bits (Int.fdiv d2 (2 ^ (min (Int.toNat (31 : Int)) u64.bits)))) : Nat) : Int)) * (13787848793156543929 : Int))) ^^^ BitVec.ofInt u64.bits (Int.fdiv (u64.wrap ((u64.wrap ((BitVec.toNat (BitVec.ofInt u64.bits d2 ^^^ BitVec.ofInt u64.bits (Int.fdiv d2 (2 ^ (min (Int.toNat (31 : Int)) u64.bits)))) : Nat) : Int)) * (13787848793156543929 : Int))) (2 ^ (min (Int.toNat (29 : Int)) u64.bits)))) : Nat) : Int)) (2 ^ (min (Int.toNat (1 : Int)) u64.bits)))) ())
theorem WI {P : Pg} (h : Has P MA) {x : DP Ce.ps} {K : DP Ce.rs → DP (ptrs Ce.ps) → Prop} (hw : Sz P x K) : Fn P zS6 Ce x K :=
 BI (c := Qt) h rfl rfl (by kernel_rfl) (Eq.mpr (show BC P MA Ce Qt x K = _ by kernel_rfl) hw)
def IC : Be :=
 (.seq (.region [o1 4 (.asg (.c (.string ⟨#[]⟩)))]) (.seq (.region [oT ⟨some 9, .buildSl 1 [(.string ⟨#[]⟩)] 14 [(0, (.c (.string ⟨#[97]⟩))), (1, (.c (.string ⟨#[98]⟩))), (2, (.c
 (.string ⟨#[46]⟩))), (3, (.c (.string ⟨#[91, 97, 98, 93]⟩))), (4, (.c (.string ⟨#[91, 94, 97, 93]⟩))), (5, (.c (.string ⟨#[40, 97, 124, 98, 41]⟩))), (6, (.c (.string ⟨#[40, 97, 98,
 41]⟩))), (7, (.c (.string ⟨#[91, 91, 58, 97, 108, 112, 104, 97, 58, 93, 120, 93]⟩))), (8, (.c (.string ⟨#[92, 43]⟩))), (9, (.c (.string ⟨#[40, 41]⟩))), (10, (.c (.string ⟨#[40, 98,
 124, 41]⟩))), (11, (.c (.string ⟨#[91, 97, 45, 99, 93]⟩))), (12, (.c (.string ⟨#[93]⟩))), (13, (.c (.string ⟨#[120]⟩)))], none⟩ (some (.str, .leaf)), ia 5 9]) (.seq (.region [oT
 ⟨some 10, .buildSl 1 [(.string ⟨#[]⟩)] 10 [(0, (.c (.string ⟨#[]⟩))), (1, (.c (.string ⟨#[]⟩))), (2, (.c (.string ⟨#[]⟩))), (3, (.c (.string ⟨#[42]⟩))), (4, (.c (.string
 ⟨#[43]⟩))), (5, (.c (.string ⟨#[63]⟩))), (6, (.c (.string ⟨#[123, 50, 125]⟩))), (7, (.c (.string ⟨#[123, 49, 44, 50, 125]⟩))), (8, (.c (.string ⟨#[123, 48, 44, 49, 125]⟩))), (9,
 (.c (.string ⟨#[123, 50, 44, 125]⟩)))], none⟩ (some (.str, .leaf)), ia 6 10]) (.seq (.region [o1 7 (.asg (.c (.string ⟨#[]⟩)))]) (.seq (.seq (.region [im 11 0, oS ⟨some 12, .call
 zS6 [11, (kI 1)], none⟩ Ce, o1 13 (.bin .rem 12 (kI 5)), o1 14 (.bin .eql 13 (kI 0))]) (.frame [7] [] false (.join [.sl 7 false .str .leaf] (.cond 14
 (.region [o1 7 (.asg (.c (.string ⟨#[94]⟩)))]) .skip)))) (.seq (.seq (.region [ia 8 (kI 0)]) (.frame (rg [7, 8] 15 33) [] false (.join [.sl 7 false .str .leaf] (.block 0 (.loop
 [.sl 7 false .str .leaf, .si 8] (.seq (.seq (.region [im 15 8, im 16 1, oS ⟨some 17, .call zS4 [16, (kI 8)], none⟩ BF, o1 18 (.bin .lss 15 17)])
 (.cond 18 .skip (.exit 0))) (.seq (.frame (rg [7] 21 27) [] false (.join [.sl 7 false .str .leaf] (.block 1 (.seq (.frame (rg [7] 21 19) [] false (.join [.sl 7 false .str .leaf]
 (.draw [(.first (im 21 7) (.first (im 22 5) (.first (im 23 0) (.first (im 24 8) (.first (o1 25 (.bin .add (kI 10) 24)) (.first (im 31 6) (.first (im 32 0) (.first (im 33 8) (.first
 (o1 34 (.bin .add (kI 30) 33)) (.alt (oS ⟨some 26, .call zS6 [23, 25], none⟩ Ce) (.alt (oS ⟨some 27, .call zS4 [26, (kI 14)],
 none⟩ BF) (.first (o1 28 (.ixA 1 22 27)) (.alt (ld 29 28) (.first (o1 30 (.bin .add 21 29)) (.alt (oS ⟨some 35, .call zS6 [32, 34], none⟩ Ce)
 (.alt (oS ⟨some 36, .call zS4 [35, (kI 10)], none⟩ BF) (.first (o1 37 (.ixA 1 31 36)) (.first (ld 38 37) (.first (o1 39 (.bin .add 30 38)) (.alt (ia
 7 39) .done .stop)))) .stop) .stop)) (.alt (oS ⟨some 35, .call zS6 [32, 34], none⟩ Ce) (.alt (ld 29 28) (.first (o1 30 (.bin .add 21 29)) (.alt (oS
 ⟨some 36, .call zS4 [35, (kI 10)], none⟩ BF) (.first (o1 37 (.ixA 1 31 36)) (.first (ld 38 37) (.first (o1 39 (.bin .add 30 38)) (.alt (ia 7 39)
 .done .stop)))) .stop)) (.alt (oS ⟨some 36, .call zS4 [35, (kI 10)], none⟩ BF) (.first (ld 29 28) (.first (o1 30 (.bin .add 21 29)) (.first (o1 37
 (.ixA 1 31 36)) (.first (ld 38 37) (.first (o1 39 (.bin .add 30 38)) (.alt (ia 7 39) .done .stop)))))) .stop)) .stop))) .stop) .stop))))))))))]))) (.seq (.region [im 40 0, im 41 8,
 o1 42 (.bin .add (kI 50) 41), oS ⟨some 43, .call zS6 [40, 42], none⟩ Ce, o1 44 (.bin .rem 43 (kI 6)), o1 45 (.bin .eql 44 (kI 0))]) (.frame [7, 46,
 47] [] false (.join [.sl 7 false .str .leaf] (.cond 45 (.region [im 46 7, o1 47 (.bin .add 46 (.c (.string ⟨#[124]⟩))), ia 7 47]) .skip)))))))) (.region [im 19 8, o1 20 (.bin .add
 19 (kI 1)), ia 8 20])))))))) (.seq (.seq (.region [im 48 0, oS ⟨some 49, .call zS6 [48, (kI 2)], none⟩ Ce, o1 50 (.bin .rem 49 (kI 5)), o1 51 (.bin
 .eql 50 (kI 0))]) (.frame [7, 52, 53] [] false (.join [.sl 7 false .str .leaf] (.cond 51 (.region [im 52 7, o1 53 (.bin .add 52 (.c (.string ⟨#[36]⟩))), ia 7 53]) .skip)))) (.seq
 (.region [im 54 7, ia 4 54]) .ret))))))))
def Gh : AFn := ⟨ Y2, IC.erase, [.tmp 4], 2⟩
abbrev Bo : List (List UInt8) := ([([97] : List UInt8), ([98] : List UInt8), ([46] : List UInt8), ([91, 97, 98, 93] : List UInt8), ([91, 94, 97, 93] : List UInt8), ([40, 97, 124, 98, 41] : List UInt8), ([40, 97, 98, 41] : List UInt8), ([91, 91, 58, 97, 108, 112, 104, 97, 58, 93, 120, 93] : List UInt8), ([92, 43] : List UInt8), ([40, 41] : List UInt8), ([40, 98, 124, 41] : List UInt8), ([91, 97, 45, 99, 93] : List UInt8), ([93] : List UInt8), ([120] : List UInt8)] : List (List UInt8))
abbrev BE : List (List UInt8) := ([([] : List UInt8), ([] : List UInt8), ([] : List UInt8), ([42] : List UInt8), ([43] : List UInt8), ([63] : List UInt8), ([123, 50, 125] : List UInt8), ([123, 49, 44, 50, 125] : List UInt8), ([123, 48, 44, 49, 125] : List UInt8), ([123, 50, 44, 125] : List UInt8)] : List (List UInt8))
def LO (P : Pg) (x : ((List Int) × Int)) (K : (List UInt8) → Unit → Prop) : Prop :=
 Fn P zS6 Ce (x.1, (1 : Int)) (fun (d1 : Int) (e2 : Unit) => ((5 : Int) ≠ 0) ∧
 Ag (D := (List UInt8)) (fun J3 => ((((Int.tmod d1 (5 : Int)) == (0 : Int)) = true → J3 ([94] : List UInt8)) ∧ (((Int.tmod d1 (5 : Int)) == (0 : Int)) = false → J3 ([] : List UInt8)))) (fun d4 => Ag (D := (List UInt8)) (fun J5 => B0 (D := ((List UInt8) × Int)) (d4, (0 : Int)) (fun d7 J8 => Fn P zS4 BF (x.2, (8 : Int)) (fun (d9 : Int) (e10 : Unit) => (((decide (d7.2 < d9)) = true → Ag (D := (List UInt8)) (fun J11 => Ag (D := (List UInt8)) (fun J13 => (Fn P zS6 Ce (x.1, (i64.wrap ((10 : Int) + d7.2))) (fun (d15 : Int) (e16 : Unit) => (Fn P zS4 BF (d15, (14 : Int)) (fun (d17 : Int) (e18 : Unit) => (0 ≤ d17 ∧ d17 < ((List.length Bo : Nat) : Int)) ∧
 ((d17.toNat < List.length Bo) ∧
 (d7.1.length + List.length (List.getD Bo d17.toNat []) ≤ 9223372036854775807) ∧
 (Fn P zS6 Ce (x.1, (i64.wrap ((30 : Int) + d7.2))) (fun (d19 : Int) (e20 : Unit) => (Fn P zS4 BF (d19, (10 : Int)) (fun (d21 : Int) (e22 : Unit) => (0 ≤ d21 ∧ d21 < ((List.length BE : Nat) : Int)) ∧
 (d21.toNat < List.length BE) ∧
 (List.length (d7.1 ++ (List.getD Bo d17.toNat [])) + List.length (List.getD BE d21.toNat []) ≤ 9223372036854775807) ∧
 (J13 ((d7.1 ++ (List.getD Bo d17.toNat [])) ++ (List.getD BE d21.toNat []))) ∧ True)) ∧ True)) ∧ True) ∧ ((Fn P zS6 Ce (x.1, (i64.wrap ((30 : Int) + d7.2))) (fun (d23 : Int) (e24 : Unit) => ((d17.toNat < List.length Bo) ∧
 (d7.1.length + List.length (List.getD Bo d17.toNat []) ≤ 9223372036854775807) ∧
 (Fn P zS4 BF (d23, (10 : Int)) (fun (d25 : Int) (e26 : Unit) => (0 ≤ d25 ∧ d25 < ((List.length BE : Nat) : Int)) ∧
 (d25.toNat < List.length BE) ∧
 (List.length (d7.1 ++ (List.getD Bo d17.toNat [])) + List.length (List.getD BE d25.toNat []) ≤ 9223372036854775807) ∧
 (J13 ((d7.1 ++ (List.getD Bo d17.toNat [])) ++ (List.getD BE d25.toNat []))) ∧ True)) ∧ True) ∧ ((Fn P zS4 BF (d23, (10 : Int)) (fun (d27 : Int) (e28 : Unit) => (d17.toNat < List.length Bo) ∧
 (d7.1.length + List.length (List.getD Bo d17.toNat []) ≤ 9223372036854775807) ∧
 (0 ≤ d27 ∧ d27 < ((List.length BE : Nat) : Int)) ∧
 (d27.toNat < List.length BE) ∧
 (List.length (d7.1 ++ (List.getD Bo d17.toNat [])) + List.length (List.getD BE d27.toNat []) ≤ 9223372036854775807) ∧
 (J13 ((d7.1 ++ (List.getD Bo d17.toNat [])) ++ (List.getD BE d27.toNat []))) ∧ True)) ∧ True))) ∧ True))) ∧ True)) ∧ True) (fun d14 => Fn P zS6 Ce (x.1, (i64.wrap ((50 : Int) + d7.2))) (fun (d29 : Int) (e30 : Unit) => ((6 : Int) ≠ 0) ∧
 Ag (D := (List UInt8)) (fun J31 => ((((Int.tmod d29 (6 : Int)) == (0 : Int)) = true → (d14.length + List.length ([124] : List UInt8) ≤ 9223372036854775807) ∧
 J31 (d14 ++ ([124] : List UInt8))) ∧ (((Int.tmod d29 (6 : Int)) == (0 : Int)) = false → J31 d14))) (fun d32 => J11 d32)))) (fun d12 => J8 (d12, (i64.wrap (d7.2 + (1 : Int)))))) ∧ ((decide (d7.2 < d9)) = false → J5 d7.1))))) (fun d6 => Fn P zS6 Ce (x.1, (2 : Int)) (fun (d33 : Int) (e34 : Unit) => ((5 : Int) ≠ 0) ∧
 Ag (D := (List UInt8)) (fun J35 => ((((Int.tmod d33 (5 : Int)) == (0 : Int)) = true → (d6.length + List.length ([36] : List UInt8) ≤ 9223372036854775807) ∧
 J35 (d6 ++ ([36] : List UInt8))) ∧ (((Int.tmod d33 (5 : Int)) == (0 : Int)) = false → J35 d6))) (fun d36 => K d36 ())))))
theorem Pw {P : Pg} (h : Has P Gh) {x : DP CJ.ps} {K : DP CJ.rs → DP (ptrs CJ.ps) → Prop} (hw : LO P x K) : Fn P Y2 CJ x K :=
 BI (c := IC) h rfl rfl (by kernel_rfl) (Eq.mpr (show BC P Gh CJ IC x K = _ by kernel_rfl) hw)
def EL : Be :=
 (.seq (.region [o1 3 (.box 1), ia 4 (kI 0)]) (.seq (.frame (rg [] 5 10) [0] true (.join [.bx 0 Ay (.pair .leaf (.pair .leaf (.pair .leaf (.pair (.node .own (.pair .leaf
 (.pair .leaf (.pair .leaf (.pair .leaf tM))))) .leaf))))] (.draw [(.first (im 5 0) (.first (im 6 0) (.first (o1 7 (.nilc 6)) (.first (fa 8 3 7) (.first (o1 10 (.load true 8 3))
 (.alt (ld 9 8) (.alt (oT ⟨some 11, .buildSl 8 [(.int .i64 0), (.int .u64 0), (.int .u64 0), (.int .u64 0), (.int .u64 0), (.int .i64 0), (.int .i64 0), (.slice none 0 0)] 1 [(0,
 10)], none⟩ (some (Fc, (.pair .leaf (.pair .leaf (.pair .leaf (.pair .leaf tM))))))) (.alt (oT ⟨some 12, .app 8 80 9 11, none⟩ (some (Fc, (.pair .leaf (.pair .leaf (.pair
 .leaf (.pair .leaf tM))))))) (.first (o1 13 (.nilc 5)) (.first (fa 14 3 13) (.alt (o0 ⟨none, .store 1 14 12, none⟩) .done .stop))) .stop) .stop) (.alt (oT ⟨some 11, .buildSl 8
 [(.int .i64 0), (.int .u64 0), (.int .u64 0), (.int .u64 0), (.int .u64 0), (.int .i64 0), (.int .i64 0), (.slice none 0 0)] 1 [(0, 10)], none⟩ (some (Fc, (.pair .leaf (.pair
 .leaf (.pair .leaf (.pair .leaf tM))))))) (.first (ld 9 8) (.alt (oT ⟨some 12, .app 8 80 9 11, none⟩ (some (Fc, (.pair .leaf (.pair .leaf (.pair .leaf (.pair .leaf tM)))))))
 (.first (o1 13 (.nilc 5)) (.first (fa 14 3 13) (.alt (o0 ⟨none, .store 1 14 12, none⟩) .done .stop))) .stop)) .stop)))))))]))) (.seq (.region [im 15 0, o1 16 (.nilc 15), fa 17 3
 16, ld 18 17, o1 19 (.lenK 18), o1 20 (.bin .sub 19 (kI 1)), ia 4 20]) .ret)))
def Dl : AFn := ⟨ zS2, EL.erase, [.tmp 4], 2⟩
def GS (P : Pg) (x : (Ab × Node)) (K : Int → Ab → Prop) : Prop :=
 Ag (D := Ab) (fun J1 => (((((x.1.2.2.2.1.length + List.length ([x.2] : List Node)) * 80 ≤ 140737488355328) ∧
 (J1 (x.1.1, (x.1.2.1, (x.1.2.2.1, ((x.1.2.2.2.1 ++ ([x.2] : List Node)), x.1.2.2.2.2))))) ∧ True) ∧ True) ∧ True) ∧ (((((x.1.2.2.2.1.length + List.length ([x.2] : List Node)) * 80 ≤ 140737488355328) ∧
 (J1 (x.1.1, (x.1.2.1, (x.1.2.2.1, ((x.1.2.2.2.1 ++ ([x.2] : List Node)), x.1.2.2.2.2))))) ∧ True) ∧ True) ∧ True)) (fun d2 => K (i64.wrap ((d2.2.2.2.1.length : Int) - (1 : Int))) d2)
theorem Kr {P : Pg} (h : Has P Dl) {x : DP Ar.ps} {K : DP Ar.rs → DP (ptrs Ar.ps) → Prop} (hw : GS P x K) : Fn P zS2 Ar x K :=
 BI (c := EL) h rfl rfl (by kernel_rfl) (Eq.mpr (show BC P Dl Ar EL x K = _ by kernel_rfl) hw)
def EK : Be :=
 (.seq (.region [ia 4 (kI 0)]) (.seq (.seq (.region [im 5 0, o1 6 (.nilc 5), fa 7 4 6, ld 8 7, o1 9 (.bin .eql 8 (kI 0))]) (.frame (rg [] 10 4) [0] false (.join [.bx 0 Ay
 (.pair .leaf (.pair .leaf (.pair .leaf (.pair (.node .own (.pair .leaf (.pair .leaf (.pair .leaf (.pair .leaf tM))))) .leaf))))] (.cond 9 (.region [im 10 0, im 11 1, o1 12 (.nilc
 10), fa 13 4 12, o0 ⟨none, .store 1 13 11, none⟩]) .skip)))) (.seq (.region [ia 4 (kI 0)]) .ret)))
def Dk : AFn := ⟨ zS0, EK.erase, [.tmp 4], 2⟩
def GR (P : Pg) (x : (Ab × Int)) (K : Int → Ab → Prop) : Prop :=
 Ag (D := Ab) (fun J1 => (((x.1.2.2.2.2 == (0 : Int)) = true → J1 (x.1.1, (x.1.2.1, (x.1.2.2.1, (x.1.2.2.2.1, x.2))))) ∧ ((x.1.2.2.2.2 == (0 : Int)) = false → J1 x.1))) (fun d2 => K (0 : Int) d2)
theorem Kq {P : Pg} (h : Has P Dk) {x : DP Am.ps} {K : DP Am.rs → DP (ptrs Am.ps) → Prop} (hw : GR P x K) : Fn P zS0 Am x K :=
 BI (c := EK) h rfl rfl (by kernel_rfl) (Eq.mpr (show BC P Dk Am EK x K = _ by kernel_rfl) hw)
def FH : Be :=
 (.seq (.region [o1 4 (.asg kF)]) (.seq (.frame (rg [] 4 24) [] false (.join [.sl 4 false .bool .leaf] (.draw [(.first (im 5 0) (.first (o1 6 (.nilc 5)) (.first (fa 7 1 6) (.first
 (ld 8 7) (.first (im 9 0) (.first (o1 10 (.nilc 9)) (.first (fa 11 0 10) (.first (ld 12 11) (.first (o1 13 (.lenS 12)) (.first (o1 14 (.bin .lss 8 13)) (.first (im 15 14) (.first
 (gt 16 15 (.mv 0)) (.first (gt 17 15 (.nilc 16)) (.first (gt 18 15 (.fAddr 0 17)) (.first (gt 19 15 (.load false 1 18)) (.first (gt 20 15 (.mv 0)) (.first (gt 21 15 (.nilc 20))
 (.first (gt 22 15 (.fAddr 1 21)) (.first (gt 23 15 (.load false 1 22)) (.first (gt 24 15 (.ixS 19 23)) (.first (gt 25 15 (.mv 1)) (.first (gt 26 15 (.bin .eql 24 25)) (.first (o1
 27 (.pick 15 26 kF)) (.alt (ia 4 27) .done .stop))))))))))))))))))))))))]))) .ret))
def Ed : AFn := ⟨ zS5, FH.erase, [.tmp 4], 2⟩
def Ij (P : Pg) (x : (Ab × Int)) (K : Bool → Ab → Prop) : Prop :=
 Ag (D := Bool) (fun J1 => (((decide (x.1.2.1 < (x.1.1.length : Int))) = true → 0 ≤ x.1.2.1 ∧ x.1.2.1 < (x.1.1.length : Int))) ∧
 (J1 (cond (decide (x.1.2.1 < (x.1.1.length : Int))) (((x.1.1.getD x.1.2.1.toNat 0).toNat : Int) == x.2) false)) ∧ True) (fun d2 => K d2 x.1)
theorem Mb {P : Pg} (h : Has P Ed) {x : DP Ax.ps} {K : DP Ax.rs → DP (ptrs Ax.ps) → Prop} (hw : Ij P x K) : Fn P zS5 Ax x K :=
 BI (c := FH) h rfl rfl (by kernel_rfl) (Eq.mpr (show BC P Ed Ax FH x K = _ by kernel_rfl) hw)
def K3 : Be :=
 (.seq (.region [o1 2 (.box 0), o1 4 (.alloc [(.int .u64 0), (.int .u64 0), (.int .u64 0), (.int .u64 0)])]) (.seq (.region [im 5 1, o1 6 (.bin .quo 5 (.c (.int .u8 64))), im 7 1,
 o1 8 (.bin .quo 7 (.c (.int .u8 64))), o1 9 (.ixAr 4 1 2 8), ld 10 9, im 11 1, o1 12 (.bin .rem 11 (.c (.int .u8 64))), o1 13 (.bin .shl (.c (.int .u64 1)) 12), o1 14 (.bin .or 10
 13), o1 15 (.ixAr 4 1 2 6), o0 ⟨none, .store 1 15 14, none⟩]) (.seq (.region [o1 16 (.load true 4 2), o0 ⟨none, .store 4 4 16, none⟩]) .ret)))
def Ig : AFn := ⟨ zS7, K3.erase, [.cell 4 true 4], 2⟩
def Og (P : Pg) (x : ((Int × (Int × (Int × Int))) × Int)) (K : (Int × (Int × (Int × Int))) → Unit → Prop) : Prop :=
 ((64 : Int) ≠ 0) ∧
 ((64 : Int) ≠ 0) ∧
 (0 ≤ (u8.wrap (Int.tdiv x.2 (64 : Int))) ∧ (u8.wrap (Int.tdiv x.2 (64 : Int))) < ((4 : Nat) : Int)) ∧
 ((Int.toNat (u8.wrap (Int.tdiv x.2 (64 : Int)))) < 4) ∧
 ((64 : Int) ≠ 0) ∧
 (0 ≤ (Int.tmod x.2 (64 : Int))) ∧
 (0 ≤ (u8.wrap (Int.tdiv x.2 (64 : Int))) ∧ (u8.wrap (Int.tdiv x.2 (64 : Int))) < ((4 : Nat) : Int)) ∧
 ((Int.toNat (u8.wrap (Int.tdiv x.2 (64 : Int)))) < 4) ∧
 K ((if (Int.toNat (u8.wrap (Int.tdiv x.2 (64 : Int)))) = 0 then (u64.wrap ((BitVec.toNat (BitVec.ofInt u64.bits (List.getD [x.1.1, x.1.2.1, x.1.2.2.1, x.1.2.2.2] (Int.toNat (u8.wrap (Int.tdiv x.2 (64 : Int)))) (0 : Int)) ||| BitVec.ofInt u64.bits (u64.wrap ((1 : Int) * 2 ^ (min (Int.toNat (Int.tmod x.2 (64 : Int))) u64.bits)))) : Nat) : Int)) else x.1.1), ((if (Int.toNat (u8.wrap (Int.tdiv x.2 (64 : Int)))) = 1 then (u64.wrap ((BitVec.toNat (BitVec.ofInt u64.bits (List.getD [x.1.1, x.1.2.1, x.1.2.2.1, x.1.2.2.2] (Int.toNat (u8.wrap (Int.tdiv x.2 (64 : Int)))) (0 : Int)) ||| BitVec.ofInt u64.bits (u64.wrap ((1 : Int) * 2 ^ (min (Int.toNat (Int.tmod x.2 (64 : Int))) u64.bits)))) : Nat) : Int)) else x.1.2.1), ((if (Int.toNat (u8.wrap (Int.tdiv x.2 (64 : Int)))) = 2 then (u64.wrap ((BitVec.toNat (BitVec.ofInt u64.bits (List.getD [x.1.1, x.1.2.1, x.1.2.2.1, x.1.2.2.2] (Int.toNat (u8.wrap (Int.tdiv x.2 (64 : Int)))) (0 : Int)) ||| BitVec.ofInt u64.bits (u64.wrap ((1 : Int) * 2 ^ (min (Int.toNat (Int.tmod x.2 (64 : Int))) u64.bits)))) : Nat) : Int)) else x.1.2.2.1), (if (Int.toNat (u8.wrap (Int.tdiv x.2 (64 : Int)))) = 3 then (u64.wrap ((BitVec.toNat (BitVec.ofInt u64.bits (List.getD [x.1.1, x.1.2.1, x.1.2.2.1, x.1.2.2.2] (Int.toNat (u8.wrap (Int.tdiv x.2 (64 : Int)))) (0 : Int)) ||| BitVec.ofInt u64.bits (u64.wrap ((1 : Int) * 2 ^ (min (Int.toNat (Int.tmod x.2 (64 : Int))) u64.bits)))) : Nat) : Int)) else x.1.2.2.2)))) ()
theorem RS {P : Pg} (h : Has P Ig) {x : DP Br.ps} {K : DP Br.rs → DP (ptrs Br.ps) → Prop} (hw : Og P x K) : Fn P zS7 Br x K :=
 BI (c := K3) h rfl rfl (by kernel_rfl) (Eq.mpr (show BC P Ig Br K3 x K = _ by kernel_rfl) hw)
def E7 : Be :=
 (.seq (.region [o1 1 (.box 0), o1 2 (.alloc [(.int .u64 0), (.int .u64 0), (.int .u64 0), (.int .u64 0)])]) (.seq (.seq (.region [ia 3 (kI 0)]) (.frame (rg [] 3 11) [1001] false
 (.join [.bx 1001 (.pair (.int .u64) (.pair (.int .u64) (.pair (.int .u64) (.int .u64)))) .leaf] (.block 0 (.loop [.si 3, .bx 1001 (.pair (.int .u64) (.pair (.int .u64) (.pair (.int
 .u64) (.int .u64)))) .leaf] (.seq (.seq (.region [im 4 3, o1 5 (.bin .lss 4 (kI 4))]) (.cond 5 .skip (.exit 0))) (.seq (.frame (rg [] 8 6) [1001] false (.join [.bx 1001 (.pair
 (.int .u64) (.pair (.int .u64) (.pair (.int .u64) (.int .u64)))) .leaf] (.block 1 (.region [im 8 3, im 9 3, o1 10 (.ixAr 4 1 1 9), ld 11 10, o1 12 (.un .xor 11), o1 13 (.ixAr 4 1 1
 8), o0 ⟨none, .store 1 13 12, none⟩])))) (.region [im 6 3, o1 7 (.bin .add 6 (kI 1)), ia 3 7])))))))) (.seq (.region [o1 14 (.load true 4 1), o0 ⟨none, .store 4 2 14, none⟩])
 .ret)))
def DD : AFn := ⟨ VH, E7.erase, [.cell 2 true 4], 1⟩
def Hv (P : Pg) (x : (Int × (Int × (Int × Int)))) (K : (Int × (Int × (Int × Int))) → Unit → Prop) : Prop :=
 Ag (D := (Int × (Int × (Int × Int)))) (fun J1 => B0 (D := (Int × (Int × (Int × (Int × Int))))) ((0 : Int), x) (fun d3 J4 => (((decide (d3.1 < (4 : Int))) = true → Ag (D := (Int × (Int × (Int × Int)))) (fun J5 => (0 ≤ d3.1 ∧ d3.1 < ((4 : Nat) : Int)) ∧
 (d3.1.toNat < 4) ∧
 (0 ≤ d3.1 ∧ d3.1 < ((4 : Nat) : Int)) ∧
 (d3.1.toNat < 4) ∧
 J5 ((if d3.1.toNat = 0 then (u64.wrap ((BitVec.toNat (BitVec.ofInt u64.bits (if u64.signed then -1 else u64.max) ^^^ BitVec.ofInt u64.bits (List.getD [d3.2.1, d3.2.2.1, d3.2.2.2.1, d3.2.2.2.2] d3.1.toNat (0 : Int))) : Nat) : Int)) else d3.2.1), ((if d3.1.toNat = 1 then (u64.wrap ((BitVec.toNat (BitVec.ofInt u64.bits (if u64.signed then -1 else u64.max) ^^^ BitVec.ofInt u64.bits (List.getD [d3.2.1, d3.2.2.1, d3.2.2.2.1, d3.2.2.2.2] d3.1.toNat (0 : Int))) : Nat) : Int)) else d3.2.2.1), ((if d3.1.toNat = 2 then (u64.wrap ((BitVec.toNat (BitVec.ofInt u64.bits (if u64.signed then -1 else u64.max) ^^^ BitVec.ofInt u64.bits (List.getD [d3.2.1, d3.2.2.1, d3.2.2.2.1, d3.2.2.2.2] d3.1.toNat (0 : Int))) : Nat) : Int)) else d3.2.2.2.1), (if d3.1.toNat = 3 then (u64.wrap ((BitVec.toNat (BitVec.ofInt u64.bits (if u64.signed then -1 else u64.max) ^^^ BitVec.ofInt u64.bits (List.getD [d3.2.1, d3.2.2.1, d3.2.2.2.1, d3.2.2.2.2] d3.1.toNat (0 : Int))) : Nat) : Int)) else d3.2.2.2.2))))) (fun d6 => J4 ((i64.wrap (d3.1 + (1 : Int))), d6))) ∧ ((decide (d3.1 < (4 : Int))) = false → J1 d3.2)))) (fun d2 => K d2 ())
theorem Lw {P : Pg} (h : Has P DD) {x : DP Bj.ps} {K : DP Bj.rs → DP (ptrs Bj.ps) → Prop} (hw : Hv P x K) : Fn P VH Bj x K :=
 BI (c := E7) h rfl rfl (by kernel_rfl) (Eq.mpr (show BC P DD Bj E7 x K = _ by kernel_rfl) hw)
def H3 : Be :=
 (.seq (.region [o1 2 (.asg kF)]) (.seq (.region [im 3 0, o1 4 (.bin .geq 3 (.c (.int .u8 97))), im 5 4, gt 6 5 (.mv 0), gt 7 5 (.bin .leq 6 (.c (.int .u8 122))), o1 8 (.pick 5 7
 kF), im 9 8, gf 10 9 (.mv 0), gf 11 9 (.bin .geq 10 (.c (.int .u8 65))), gf 12 9 (.mv 11), gt 13 12 (.mv 0), gt 14 12 (.bin .leq 13 (.c (.int .u8 90))), gf 15 9 (.pick 12 14 kF),
 o1 16 (.pick 9 kT 15), ia 2 16]) .ret))
def Fm : AFn := ⟨ Oe, H3.erase, [.tmp 2], 1⟩
def Kf (P : Pg) (x : Int) (K : Bool → Unit → Prop) : Prop :=
 K (cond (cond (decide (x ≥ (97 : Int))) (decide (x ≤ (122 : Int))) false) true (cond (decide (x ≥ (65 : Int))) (decide (x ≤ (90 : Int))) false)) ()
theorem OO {P : Pg} (h : Has P Fm) {x : DP A8.ps} {K : DP A8.rs → DP (ptrs A8.ps) → Prop} (hw : Kf P x K) : Fn P Oe A8 x K :=
 BI (c := H3) h rfl rfl (by kernel_rfl) (Eq.mpr (show BC P Fm A8 H3 x K = _ by kernel_rfl) hw)
def II : Be :=
 (.seq (.region [o1 2 (.asg kF)]) (.seq (.region [im 3 0, o1 4 (.bin .geq 3 (.c (.int .u8 48))), im 5 4, gt 6 5 (.mv 0), gt 7 5 (.bin .leq 6 (.c (.int .u8 57))), o1 8 (.pick 5 7
 kF), ia 2 8]) .ret))
def Gm : AFn := ⟨ Um, II.erase, [.tmp 2], 1⟩
def LU (P : Pg) (x : Int) (K : Bool → Unit → Prop) : Prop :=
 K (cond (decide (x ≥ (48 : Int))) (decide (x ≤ (57 : Int))) false) ()
theorem PB {P : Pg} (h : Has P Gm) {x : DP BR.ps} {K : DP BR.rs → DP (ptrs BR.ps) → Prop} (hw : LU P x K) : Fn P Um BR x K :=
 BI (c := II) h rfl rfl (by kernel_rfl) (Eq.mpr (show BC P Gm BR II x K = _ by kernel_rfl) hw)
def IG : Be :=
 (.seq (.region [o1 4 (.asg kF), o1 5 (.asg kF)]) (.seq (.seq (.region [im 6 0]) (.frame (rg [4, 5] 7 62) [] false (.join [.sl 4 false .bool .leaf, .sl 5 false .bool .leaf] (.block
 0 (.seq (.region [o1 8 (.bin .eql 6 (.c (.string ⟨#[97, 108, 112, 104, 97]⟩))), ia 7 8]) (.cond 7 (.seq (.region [im 9 1, oS ⟨some 10, .call Oe [9],
 none⟩ A8, ia 4 10, o1 5 (.asg kT)]) .ret) (.seq (.region [o1 12 (.bin .eql 6 (.c (.string ⟨#[100, 105, 103, 105, 116]⟩))), ia 11 12]) (.cond 11 (.seq (.region [im 13 1,
 oS ⟨some 14, .call Um [13], none⟩ BR, ia 4 14, o1 5 (.asg kT)]) .ret) (.seq (.region [o1 16 (.bin .eql 6 (.c (.string ⟨#[97, 108, 110, 117,
 109]⟩))), ia 15 16]) (.cond 15 (.seq (.region [im 17 1, oS ⟨some 18, .call Oe [17], none⟩ A8, im 19 18, gf 20 19 (.mv 1), oS ⟨some 21,
 .call Um [20], some (19, false)⟩ BR, o1 22 (.pick 19 kT 21), ia 4 22, o1 5 (.asg kT)]) .ret) (.seq (.region [o1 24 (.bin .eql 6 (.c
 (.string ⟨#[117, 112, 112, 101, 114]⟩))), ia 23 24]) (.cond 23 (.seq (.region [im 25 1, oS ⟨some 26, .call Oe [25], none⟩ A8, im 27 26,
 gt 28 27 (.mv 1), gt 29 27 (.bin .leq 28 (.c (.int .u8 90))), o1 30 (.pick 27 29 kF), ia 4 30, o1 5 (.asg kT)]) .ret) (.seq (.region [o1 32 (.bin .eql 6 (.c (.string ⟨#[108, 111,
 119, 101, 114]⟩))), ia 31 32]) (.cond 31 (.seq (.region [im 33 1, oS ⟨some 34, .call Oe [33], none⟩ A8, im 35 34, gt 36 35 (.mv 1), gt 37
 35 (.bin .geq 36 (.c (.int .u8 97))), o1 38 (.pick 35 37 kF), ia 4 38, o1 5 (.asg kT)]) .ret) (.seq (.region [o1 40 (.bin .eql 6 (.c (.string ⟨#[115, 112, 97, 99, 101]⟩))), ia 39
 40]) (.cond 39 (.seq (.region [im 41 1, o1 42 (.bin .geq 41 (.c (.int .u8 9))), im 43 42, gt 44 43 (.mv 1), gt 45 43 (.bin .leq 44 (.c (.int .u8 13))), o1 46 (.pick 43 45 kF), im
 47 46, gf 48 47 (.mv 1), gf 49 47 (.bin .eql 48 (.c (.int .u8 32))), o1 50 (.pick 47 kT 49), ia 4 50, o1 5 (.asg kT)]) .ret) (.seq (.region [o1 52 (.bin .eql 6 (.c (.string ⟨#[112,
 117, 110, 99, 116]⟩))), ia 51 52]) (.cond 51 (.seq (.region [im 53 1, o1 54 (.bin .geq 53 (.c (.int .u8 33))), im 55 54, gt 56 55 (.mv 1), gt 57 55 (.bin .leq 56 (.c (.int .u8
 126))), o1 58 (.pick 55 57 kF), im 59 58, gt 60 59 (.mv 1), oS ⟨some 61, .call Oe [60], some (59, true)⟩ A8, gt 62 59 (.un .not 61), o1
 63 (.pick 59 62 kF), im 64 63, gt 65 64 (.mv 1), oS ⟨some 66, .call Um [65], some (64, true)⟩ BR, gt 67 64 (.un .not 66), o1 68 (.pick 64
 67 kF), ia 4 68, o1 5 (.asg kT)]) .ret) .skip)))))))))))))))))) (.seq (.region [o1 4 (.asg kF), o1 5 (.asg kF)]) .ret)))
def Gk : AFn := ⟨ QB, IG.erase, [.tmp 4, .tmp 5], 2⟩
def LR (P : Pg) (x : ((List UInt8) × Int)) (K : (Bool × Bool) → Unit → Prop) : Prop :=
 Ag (D := (Bool × Bool)) (fun J1 => (((x.1 == ([97, 108, 112, 104, 97] : List UInt8)) = true → Fn P Oe A8 x.2 (fun (d3 : Bool) (e4 : Unit) => K (d3, true) ())) ∧ ((x.1 == ([97, 108, 112, 104, 97] : List UInt8)) = false → (((x.1 == ([100, 105, 103, 105, 116] : List UInt8)) = true → Fn P Um BR x.2 (fun (d5 : Bool) (e6 : Unit) => K (d5, true) ())) ∧ ((x.1 == ([100, 105, 103, 105, 116] : List UInt8)) = false → (((x.1 == ([97, 108, 110, 117, 109] : List UInt8)) = true → Fn P Oe A8 x.2 (fun (d7 : Bool) (e8 : Unit) => Ag (D := Bool) (fun J9 => ((d7 = false → Fn P Um BR x.2 (fun (d10 : Bool) _ => J9 d10)) ∧ ((d7 = true → J9 false) ∧ True))) (fun d11 => K ((cond d7 true d11), true) ()))) ∧ ((x.1 == ([97, 108, 110, 117, 109] : List UInt8)) = false → (((x.1 == ([117, 112, 112, 101, 114] : List UInt8)) = true → Fn P Oe A8 x.2 (fun (d12 : Bool) (e13 : Unit) => K ((cond d12 (decide (x.2 ≤ (90 : Int))) false), true) ())) ∧ ((x.1 == ([117, 112, 112, 101, 114] : List UInt8)) = false → (((x.1 == ([108, 111, 119, 101, 114] : List UInt8)) = true → Fn P Oe A8 x.2 (fun (d14 : Bool) (e15 : Unit) => K ((cond d14 (decide (x.2 ≥ (97 : Int))) false), true) ())) ∧ ((x.1 == ([108, 111, 119, 101, 114] : List UInt8)) = false → (((x.1 == ([115, 112, 97, 99, 101] : List UInt8)) = true → K ((cond (cond (decide (x.2 ≥ (9 : Int))) (decide (x.2 ≤ (13 : Int))) false) true (x.2 == (32 : Int))), true) ()) ∧ ((x.1 == ([115, 112, 97, 99, 101] : List UInt8)) = false → (((x.1 == ([112, 117, 110, 99, 116] : List UInt8)) = true → Ag (D := Bool) (fun J16 => (((cond (decide (x.2 ≥ (33 : Int))) (decide (x.2 ≤ (126 : Int))) false) = true → Fn P Oe A8 x.2 (fun (d17 : Bool) _ => J16 d17)) ∧ (((cond (decide (x.2 ≥ (33 : Int))) (decide (x.2 ≤ (126 : Int))) false) = false → J16 false) ∧ True))) (fun d18 => Ag (D := Bool) (fun J19 => (((cond (cond (decide (x.2 ≥ (33 : Int))) (decide (x.2 ≤ (126 : Int))) false) (!d18) false) = true → Fn P Um BR x.2 (fun (d20 : Bool) _ => J19 d20)) ∧ (((cond (cond (decide (x.2 ≥ (33 : Int))) (decide (x.2 ≤ (126 : Int))) false) (!d18) false) = false → J19 false) ∧ True))) (fun d21 => K ((cond (cond (cond (decide (x.2 ≥ (33 : Int))) (decide (x.2 ≤ (126 : Int))) false) (!d18) false) (!d21) false), true) ()))) ∧ ((x.1 == ([112, 117, 110, 99, 116] : List UInt8)) = false → J1 (false, false)))))))))))))))) (fun d2 => K (false, false) ())
theorem Pz {P : Pg} (h : Has P Gk) {x : DP Bq.ps} {K : DP Bq.rs → DP (ptrs Bq.ps) → Prop} (hw : LR P x K) : Fn P QB Bq x K :=
 BI (c := IG) h rfl rfl (by kernel_rfl) (Eq.mpr (show BC P Gk Bq IG x K = _ by kernel_rfl) hw)
def Es : Be :=
 (.seq (.region [ia 2 (kI 0)]) (.seq (.region [im 16 0, oS ⟨some 17, .call zS5 [16, (.c (.int .u8 94))], none⟩ Ax, ia 3 17]) (.seq
 (.seq (.region [im 18 3]) (.frame (rg [] 19 7) [0] false (.join [.bx 0 Ay (.pair .leaf (.pair .leaf (.pair .leaf (.pair (.node .own (.pair .leaf (.pair .leaf (.pair
 .leaf (.pair .leaf tM))))) .leaf))))] (.cond 18 (.region [im 19 0, o1 20 (.nilc 19), fa 21 1 20, ld 22 21, o1 23 (.bin .add 22 (kI 1)), o1 24 (.nilc 19), fa 25 1 24, o0 ⟨none,
 .store 1 25 23, none⟩]) .skip)))) (.seq (.region [o1 4 (.alloc [(.int .u64 0), (.int .u64 0), (.int .u64 0), (.int .u64 0)])]) (.seq (.seq (.region [o1 5 (.asg kT)]) (.frame (rg
 [2, 5, 6, 7, 8, 9, 10, 11, 12, 13, 14, 15] 26 219) [0, 1004] true (.join [.si 2, .bx 0 Ay (.pair .leaf (.pair .leaf (.pair .leaf (.pair (.node .own (.pair .leaf (.pair
 .leaf (.pair .leaf (.pair .leaf tM))))) .leaf)))), .bx 1004 (.pair (.int .u64) (.pair (.int .u64) (.pair (.int .u64) (.int .u64)))) .leaf] (.block 0 (.loop [.si 2, .sl 5 false
 .bool .leaf, .bx 0 Ay (.pair .leaf (.pair .leaf (.pair .leaf (.pair (.node .own (.pair .leaf (.pair .leaf (.pair .leaf (.pair .leaf tM))))) .leaf)))), .bx 1004 (.pair
 (.int .u64) (.pair (.int .u64) (.pair (.int .u64) (.int .u64)))) .leaf] (.seq (.seq (.region [im 26 5, im 27 26, ⟨⟨some 28, .mv 0, some (27, false)⟩, none, ⟨[], []⟩, false, some
 27, true, false⟩, ⟨⟨some 29, .call zS5 [28, (.c (.int .u8 93))], some (27, false)⟩, none, Ax, false, none, true, true⟩, ⟨⟨some
 30, .un .not 29, some (27, false)⟩, none, ⟨[], []⟩, false, none, true, true⟩, o1 31 (.pick 27 kT 30)]) (.cond 31 .skip (.exit 0))) (.seq (.frame (rg [2, 6, 7, 8, 9, 10, 11, 12, 13,
 14, 15] 32 213) [0, 1004] true (.join [.si 2, .bx 0 Ay (.pair .leaf (.pair .leaf (.pair .leaf (.pair (.node .own (.pair .leaf (.pair .leaf (.pair .leaf (.pair .leaf
 tM))))) .leaf)))), .bx 1004 (.pair (.int .u64) (.pair (.int .u64) (.pair (.int .u64) (.int .u64)))) .leaf] (.block 1 (.seq (.seq (.draw [(.first (im 32 0) (.first (o1 33 (.nilc
 32)) (.first (fa 34 1 33) (.first (ld 35 34) (.first (im 36 0) (.first (o1 37 (.nilc 36)) (.first (fa 38 0 37) (.first (ld 39 38) (.first (o1 40 (.lenS 39)) (.first (o1 41 (.bin
 .geq 35 40)) .done))))))))))]) (.cond 41 (.seq (.region [im 42 0, oS ⟨some 43, .call zS0 [42, (kI 40)], none⟩ Am, ia 2 43])
 .ret) .skip)) (.seq (.seq (.frame (rg [] 44 28) [0] true (.join [.sl 71 false .bool .leaf, .bx 0 Ay (.pair .leaf (.pair .leaf (.pair .leaf (.pair (.node .own (.pair
 .leaf (.pair .leaf (.pair .leaf (.pair .leaf tM))))) .leaf))))] (.draw [(.first (im 44 0) (.alt (oS ⟨some 45, .call zS5 [44, (.c (.int .u8
 91))], none⟩ Ax) (.first (im 46 45) (.first (gt 47 46 (.mv 0)) (.first (gt 48 46 (.nilc 47)) (.first (gt 49 46 (.fAddr 1 48)) (.first (gt 50 46 (.load false 1 49))
 (.first (gt 51 46 (.bin .add 50 (kI 1))) (.first (gt 52 46 (.mv 0)) (.first (gt 53 46 (.nilc 52)) (.first (gt 54 46 (.fAddr 0 53)) (.first (gt 55 46 (.load false 1 54)) (.first (gt
 56 46 (.lenS 55)) (.first (gt 57 46 (.bin .lss 51 56)) (.first (o1 58 (.pick 46 57 kF)) (.first (im 59 58) (.first (gt 60 59 (.mv 0)) (.first (gt 61 59 (.nilc 60)) (.first (gt 62
 59 (.fAddr 0 61)) (.first (gt 63 59 (.load false 1 62)) (.first (gt 64 59 (.mv 0)) (.first (gt 65 59 (.nilc 64)) (.first (gt 66 59 (.fAddr 1 65)) (.first (gt 67 59 (.load false 1
 66)) (.first (gt 68 59 (.bin .add 67 (kI 1))) (.first (gt 69 59 (.ixS 63 68)) (.first (gt 70 59 (.bin .eql 69 (.c (.int .u8 58)))) (.first (o1 71 (.pick 59 70 kF))
 .done)))))))))))))))))))))))))) .stop))]))) (.cond 71 (.seq (.region [o1 6 (.asg (.c (.string ⟨#[]⟩)))]) (.seq (.region [im 72 0, o1 73 (.nilc 72), fa 74 1 73, ld 75 74, o1 76
 (.bin .add 75 (kI 2)), ia 7 76]) (.seq (.frame (rg [6, 7] 77 39) [] false (.join [.sl 6 false .str .leaf, .si 7] (.block 2 (.loop [.sl 6 false .str .leaf, .si 7] (.seq (.seq
 (.region [im 77 7, o1 78 (.bin .add 77 (kI 1)), im 79 0, o1 80 (.nilc 79), fa 81 0 80, ld 82 81, o1 83 (.lenS 82), o1 84 (.bin .lss 78 83), im 85 84, gt 86 85 (.mv 0), gt 87 85
 (.nilc 86), gt 88 85 (.fAddr 0 87), gt 89 85 (.load false 1 88), gt 90 85 (.mv 7), gt 91 85 (.ixS 89 90), gt 92 85 (.bin .neq 91 (.c (.int .u8 58))), gt 93 85 (.mv 92), gf 94 93
 (.mv 0), gf 95 93 (.nilc 94), gf 96 93 (.fAddr 0 95), gf 97 93 (.load false 1 96), gf 98 93 (.mv 7), gf 99 93 (.bin .add 98 (kI 1)), gf 100 93 (.ixS 97 99), gf 101 93 (.bin .neq
 100 (.c (.int .u8 93))), gt 102 85 (.pick 93 kT 101), o1 103 (.pick 85 102 kF)]) (.cond 103 .skip (.exit 2))) (.frame (rg [6, 7] 104 12) [] false (.join [.sl 6 false .str .leaf,
 .si 7] (.block 3 (.seq (.region [im 104 6, im 105 0, o1 106 (.nilc 105), fa 107 0 106, ld 108 107, im 109 7, im 110 7, o1 111 (.bin .add 110 (kI 1)), o1 112 (.slS 108 (some 109)
 (some 111)), o1 113 (.bin .add 104 112), ia 6 113]) (.region [im 114 7, o1 115 (.bin .add 114 (kI 1)), ia 7 115])))))))))) (.seq (.region [im 117 6, oS ⟨some 118, .call
 QB [117, (.c (.int .u8 0))], none⟩ Bq, im 116 118, o1 119 (.ext 116 0), o1 120 (.ext 116 1), ia 8 119, ia 9 120]) (.seq (.seq (.region [im
 121 9, o1 122 (.un .not 121), im 123 122, gf 124 123 (.mv 7), gf 125 123 (.bin .add 124 (kI 1)), gf 126 123 (.mv 0), gf 127 123 (.nilc 126), gf 128 123 (.fAddr 0 127), gf 129 123
 (.load false 1 128), gf 130 123 (.lenS 129), gf 131 123 (.bin .geq 125 130), o1 132 (.pick 123 kT 131)]) (.cond 132 (.seq (.region [im 133 0, oS ⟨some 134, .call
 zS0 [133, (kI 40)], none⟩ Am, ia 2 134]) .ret) .skip)) (.seq (.seq (.region [ia 10 (kI 0)]) (.frame (rg [10, 11, 12] 135 16)
 [1004] false (.join [.bx 1004 (.pair (.int .u64) (.pair (.int .u64) (.pair (.int .u64) (.int .u64)))) .leaf] (.block 4 (.loop [.si 10, .bx 1004 (.pair (.int .u64) (.pair (.int
 .u64) (.pair (.int .u64) (.int .u64)))) .leaf] (.seq (.seq (.region [im 135 10, o1 136 (.bin .lss 135 (kI 256))]) (.cond 136 .skip (.exit 4))) (.seq (.frame (rg [11, 12] 139 12)
 [1004] false (.join [.bx 1004 (.pair (.int .u64) (.pair (.int .u64) (.pair (.int .u64) (.int .u64)))) .leaf] (.block 5 (.seq (.region [im 140 6, im 141 10, o1 142 (.conv (.toInt
 .u8) 141), oS ⟨some 143, .call QB [140, 142], none⟩ Bq, im 139 143, o1 144 (.ext 139 0), o1 145 (.ext 139 1), ia 11 144, ia 12 145]) (.seq
 (.region [im 146 11]) (.frame (rg [] 147 4) [1004] false (.join [.bx 1004 (.pair (.int .u64) (.pair (.int .u64) (.pair (.int .u64) (.int .u64)))) .leaf] (.cond 146 (.region [o1 147
 (.load true 4 4), im 148 10, o1 149 (.conv (.toInt .u8) 148), oS ⟨some 150, .call zS7 [147, 149], none⟩ Br, o0 ⟨none, .store 4 4 150, none⟩])
 .skip)))))))) (.region [im 137 10, o1 138 (.bin .add 137 (kI 1)), ia 10 138])))))))) (.seq (.region [im 151 0, im 152 7, o1 153 (.bin .add 152 (kI 2)), o1 154 (.nilc 151), fa 155 1
 154, o0 ⟨none, .store 1 155 153, none⟩]) (.exit 1)))))))) .skip)) (.seq (.frame (rg [13] 156 9) [] false (.join [.sl 13 false (.int .u8) .leaf] (.draw [(.first (im 156 0) (.first
 (o1 157 (.nilc 156)) (.first (fa 158 0 157) (.first (ld 159 158) (.first (im 160 0) (.first (o1 161 (.nilc 160)) (.first (fa 162 1 161) (.first (ld 163 162) (.first (o1 164 (.ixS
 159 163)) (.alt (ia 13 164) .done .stop))))))))))]))) (.seq (.region [im 165 13, ia 14 165]) (.seq (.seq (.draw [(.first (im 166 0) (.first (o1 167 (.nilc 166)) (.first (fa 168 1
 167) (.first (ld 169 168) (.first (o1 170 (.bin .add 169 (kI 2))) (.first (im 171 0) (.first (o1 172 (.nilc 171)) (.first (fa 173 0 172) (.first (ld 174 173) (.first (o1 175 (.lenS
 174)) (.first (o1 176 (.bin .lss 170 175)) (.first (im 177 176) (.first (gt 178 177 (.mv 0)) (.first (gt 179 177 (.nilc 178)) (.first (gt 180 177 (.fAddr 0 179)) (.first (gt 181
 177 (.load false 1 180)) (.first (gt 182 177 (.mv 0)) (.first (gt 183 177 (.nilc 182)) (.first (gt 184 177 (.fAddr 1 183)) (.first (gt 185 177 (.load false 1 184)) (.first (gt 186
 177 (.bin .add 185 (kI 1))) (.first (gt 187 177 (.ixS 181 186)) (.first (gt 188 177 (.bin .eql 187 (.c (.int .u8 45)))) (.first (o1 189 (.pick 177 188 kF)) (.first (im 190 189)
 (.first (gt 191 190 (.mv 0)) (.first (gt 192 190 (.nilc 191)) (.first (gt 193 190 (.fAddr 0 192)) (.first (gt 194 190 (.load false 1 193)) (.first (gt 195 190 (.mv 0)) (.first (gt
 196 190 (.nilc 195)) (.first (gt 197 190 (.fAddr 1 196)) (.first (gt 198 190 (.load false 1 197)) (.first (gt 199 190 (.bin .add 198 (kI 2))) (.first (gt 200 190 (.ixS 194 199))
 (.first (gt 201 190 (.bin .neq 200 (.c (.int .u8 93)))) (.first (o1 202 (.pick 190 201 kF)) .done)))))))))))))))))))))))))))))))))))))]) (.frame (rg [14] 203 18) [0] false (.join
 [.sl 14 false (.int .u8) .leaf, .bx 0 Ay (.pair .leaf (.pair .leaf (.pair .leaf (.pair (.node .own (.pair .leaf (.pair .leaf (.pair .leaf (.pair .leaf tM))))) .leaf))))]
 (.cond 202 (.seq (.frame (rg [14] 203 10) [] false (.join [.sl 14 false (.int .u8) .leaf] (.draw [(.first (im 203 0) (.first (o1 204 (.nilc 203)) (.first (fa 205 0 204) (.first (ld
 206 205) (.first (im 207 0) (.first (o1 208 (.nilc 207)) (.first (fa 209 1 208) (.first (ld 210 209) (.first (o1 211 (.bin .add 210 (kI 2))) (.first (o1 212 (.ixS 206 211)) (.alt
 (ia 14 212) .done .stop)))))))))))]))) (.region [im 213 0, im 214 0, o1 215 (.nilc 214), fa 216 1 215, ld 217 216, o1 218 (.bin .add 217 (kI 2)), o1 219 (.nilc 213), fa 220 1 219,
 o0 ⟨none, .store 1 220 218, none⟩])) .skip)))) (.seq (.region [im 221 0, o1 222 (.nilc 221), fa 223 1 222, ld 224 223, o1 225 (.bin .add 224 (kI 1)), o1 226 (.nilc 221), fa 227 1
 226, o0 ⟨none, .store 1 227 225, none⟩]) (.seq (.seq (.region [im 228 14, im 229 13, o1 230 (.bin .lss 228 229)]) (.cond 230 (.seq (.region [im 231 0, oS ⟨some 232, .call
 zS0 [231, (kI 40)], none⟩ Am, ia 2 232]) .ret) .skip)) (.seq (.region [im 233 13, o1 234 (.conv (.toInt .i64) 233), ia 15
 234]) (.frame (rg [15] 235 10) [1004] false (.join [.bx 1004 (.pair (.int .u64) (.pair (.int .u64) (.pair (.int .u64) (.int .u64)))) .leaf] (.block 6 (.loop [.si 15, .bx 1004
 (.pair (.int .u64) (.pair (.int .u64) (.pair (.int .u64) (.int .u64)))) .leaf] (.seq (.seq (.region [im 235 15, im 236 14, o1 237 (.conv (.toInt .i64) 236), o1 238 (.bin .leq 235
 237)]) (.cond 238 .skip (.exit 6))) (.seq (.frame (rg [] 241 4) [1004] false (.join [.bx 1004 (.pair (.int .u64) (.pair (.int .u64) (.pair (.int .u64) (.int .u64)))) .leaf] (.block
 7 (.region [o1 241 (.load true 4 4), im 242 15, o1 243 (.conv (.toInt .u8) 242), oS ⟨some 244, .call zS7 [241, 243], none⟩ Br, o0 ⟨none, .store
 4 4 244, none⟩])))) (.region [im 239 15, o1 240 (.bin .add 239 (kI 1)), ia 15 240])))))))))))))))))) (.region [o1 5 (.asg kF)])))))))) (.seq (.region [im 245 0, o1 246 (.nilc 245),
 fa 247 1 246, ld 248 247, o1 249 (.bin .add 248 (kI 1)), o1 250 (.nilc 245), fa 251 1 250, o0 ⟨none, .store 1 251 249, none⟩]) (.seq (.seq (.region [im 252 3]) (.frame [253, 254]
 [1004] false (.join [.bx 1004 (.pair (.int .u64) (.pair (.int .u64) (.pair (.int .u64) (.int .u64)))) .leaf] (.cond 252 (.region [o1 253 (.load true 4 4), oS ⟨some 254, .call
 VH [253], none⟩ Bj, o0 ⟨none, .store 4 4 254, none⟩]) .skip)))) (.seq (.region [im 255 0, o1 256 (.load true 4 4), o1 257 (.build
 [(.int .i64 0), (.int .u64 0), (.int .u64 0), (.int .u64 0), (.int .u64 0), (.int .i64 0), (.int .i64 0), (.slice none 0 0)] [(0, 1, (kI 1)), (1, 4, 256)]), oS ⟨some 258, .call
 zS2 [255, 257], none⟩ Ar, ia 2 258]) .ret))))))))
def C8 : AFn := ⟨ Y3, Es.erase, [.tmp 2], 1⟩
def Gy (P : Pg) (x : Ab) (K : Int → Ab → Prop) : Prop :=
 Fn P zS5 Ax (x, (94 : Int)) (fun (d1 : Bool) (e2 : Ab) => Ag (D := Ab) (fun J3 => ((d1 = true → J3 (e2.1, ((i64.wrap (e2.2.1 + (1 : Int))), e2.2.2))) ∧ (d1 = false → J3 e2))) (fun d4 => Ag (D := (Int × (Ab × (Int × (Int × (Int × Int)))))) (fun J5 => B0 (D := (Int × (Bool × (Ab × (Int × (Int × (Int × Int))))))) ((0 : Int), (true, (d4, ((0 : Int), ((0 : Int), ((0 : Int), (0 : Int))))))) (fun d7 J8 => ((d7.2.1 = true → (((cond true true false) = true → Ag (D := (Int × (Ab × (Int × (Int × (Int × Int)))))) (fun J9 => (((decide (d7.2.2.1.2.1 ≥ (d7.2.2.1.1.length : Int))) = true → Fn P zS0 Am (d7.2.2.1, (40 : Int)) (fun (d11 : Int) (e12 : Ab) => K d11 e12)) ∧ ((decide (d7.2.2.1.2.1 ≥ (d7.2.2.1.1.length : Int))) = false → Ag (D := (Bool × Ab)) (fun J13 => (Fn P zS5 Ax (d7.2.2.1, (91 : Int)) (fun (d15 : Bool) (e16 : Ab) => (((cond d15 (decide ((i64.wrap (e16.2.1 + (1 : Int))) < (e16.1.length : Int))) false) = true → 0 ≤ (i64.wrap (e16.2.1 + (1 : Int))) ∧ (i64.wrap (e16.2.1 + (1 : Int))) < (e16.1.length : Int))) ∧
 J13 ((cond (cond d15 (decide ((i64.wrap (e16.2.1 + (1 : Int))) < (e16.1.length : Int))) false) (((UInt8.toNat (List.getD e16.1 (Int.toNat (i64.wrap (e16.2.1 + (1 : Int)))) 0) : Nat) : Int) == (58 : Int)) false), e16))) ∧ True) (fun d14 => ((d14.1 = true → Ag (D := ((List UInt8) × Int)) (fun J17 => B0 (D := ((List UInt8) × Int)) (([] : List UInt8), (i64.wrap (d14.2.2.1 + (2 : Int)))) (fun d19 J20 => (((decide ((i64.wrap (d19.2 + (1 : Int))) < (d14.2.1.length : Int))) = true → 0 ≤ d19.2 ∧ d19.2 < (d14.2.1.length : Int))) ∧
 (((((d14.2.1.getD d19.2.toNat 0).toNat : Int) != (58 : Int)) = false → ((decide ((i64.wrap (d19.2 + (1 : Int))) < (d14.2.1.length : Int))) = true → 0 ≤ (i64.wrap (d19.2 + (1 : Int))) ∧ (i64.wrap (d19.2 + (1 : Int))) < (d14.2.1.length : Int)))) ∧
 (((cond (decide ((i64.wrap (d19.2 + (1 : Int))) < (d14.2.1.length : Int))) (cond (((d14.2.1.getD d19.2.toNat 0).toNat : Int) != (58 : Int)) true (((UInt8.toNat (List.getD d14.2.1 (Int.toNat (i64.wrap (d19.2 + (1 : Int)))) 0) : Nat) : Int) != (93 : Int))) false) = true → Ag (D := ((List UInt8) × Int)) (fun J21 => (0 ≤ d19.2 ∧ d19.2 ≤ (i64.wrap (d19.2 + (1 : Int))) ∧ (i64.wrap (d19.2 + (1 : Int))) ≤ (d14.2.1.length : Int)) ∧
 (d19.1.length + List.length (List.drop d19.2.toNat (List.take (Int.toNat (i64.wrap (d19.2 + (1 : Int)))) d14.2.1)) ≤ 9223372036854775807) ∧
 J21 ((d19.1 ++ (List.drop d19.2.toNat (List.take (Int.toNat (i64.wrap (d19.2 + (1 : Int)))) d14.2.1))), (i64.wrap (d19.2 + (1 : Int))))) (fun d22 => J20 d22)) ∧ ((cond (decide ((i64.wrap (d19.2 + (1 : Int))) < (d14.2.1.length : Int))) (cond (((d14.2.1.getD d19.2.toNat 0).toNat : Int) != (58 : Int)) true (((UInt8.toNat (List.getD d14.2.1 (Int.toNat (i64.wrap (d19.2 + (1 : Int)))) 0) : Nat) : Int) != (93 : Int))) false) = false → J17 d19)))) (fun d18 => Fn P QB Bq (d18.1, (0 : Int)) (fun (d23 : (Bool × Bool)) (e24 : Unit) => (((cond (!d23.2) true (decide ((i64.wrap (d18.2 + (1 : Int))) ≥ (d14.2.1.length : Int)))) = true → Fn P zS0 Am (d14.2, (40 : Int)) (fun (d25 : Int) (e26 : Ab) => K d25 e26)) ∧ ((cond (!d23.2) true (decide ((i64.wrap (d18.2 + (1 : Int))) ≥ (d14.2.1.length : Int)))) = false → Ag (D := (Int × (Int × (Int × Int)))) (fun J27 => B0 (D := (Int × (Int × (Int × (Int × Int))))) ((0 : Int), d7.2.2.2) (fun d29 J30 => (((decide (d29.1 < (256 : Int))) = true → Ag (D := (Int × (Int × (Int × Int)))) (fun J31 => Fn P QB Bq (d18.1, (u8.wrap d29.1)) (fun (d33 : (Bool × Bool)) (e34 : Unit) => Ag (D := (Int × (Int × (Int × Int)))) (fun J35 => ((d33.1 = true → Fn P zS7 Br (d29.2, (u8.wrap d29.1)) (fun (d37 : (Int × (Int × (Int × Int)))) (e38 : Unit) => J35 d37)) ∧ (d33.1 = false → J35 d29.2))) (fun d36 => J31 d36))) (fun d32 => J30 ((i64.wrap (d29.1 + (1 : Int))), d32))) ∧ ((decide (d29.1 < (256 : Int))) = false → J27 d29.2)))) (fun d28 => J9 (d7.1, ((d14.2.1, ((i64.wrap (d18.2 + (2 : Int))), d14.2.2.2)), d28)))))))) ∧ (d14.1 = false → Ag (D := Int) (fun J39 => (0 ≤ d14.2.2.1 ∧ d14.2.2.1 < (d14.2.1.length : Int)) ∧
 (J39 ((d14.2.1.getD d14.2.2.1.toNat 0).toNat : Int)) ∧ True) (fun d40 => (((decide ((i64.wrap (d14.2.2.1 + (2 : Int))) < (d14.2.1.length : Int))) = true → 0 ≤ (i64.wrap (d14.2.2.1 + (1 : Int))) ∧ (i64.wrap (d14.2.2.1 + (1 : Int))) < (d14.2.1.length : Int))) ∧
 (((cond (decide ((i64.wrap (d14.2.2.1 + (2 : Int))) < (d14.2.1.length : Int))) (((UInt8.toNat (List.getD d14.2.1 (Int.toNat (i64.wrap (d14.2.2.1 + (1 : Int)))) 0) : Nat) : Int) == (45 : Int)) false) = true → 0 ≤ (i64.wrap (d14.2.2.1 + (2 : Int))) ∧ (i64.wrap (d14.2.2.1 + (2 : Int))) < (d14.2.1.length : Int))) ∧
 Ag (D := (Int × Ab)) (fun J41 => (((cond (cond (decide ((i64.wrap (d14.2.2.1 + (2 : Int))) < (d14.2.1.length : Int))) (((UInt8.toNat (List.getD d14.2.1 (Int.toNat (i64.wrap (d14.2.2.1 + (1 : Int)))) 0) : Nat) : Int) == (45 : Int)) false) (((UInt8.toNat (List.getD d14.2.1 (Int.toNat (i64.wrap (d14.2.2.1 + (2 : Int)))) 0) : Nat) : Int) != (93 : Int)) false) = true → Ag (D := Int) (fun J43 => (0 ≤ (i64.wrap (d14.2.2.1 + (2 : Int))) ∧ (i64.wrap (d14.2.2.1 + (2 : Int))) < (d14.2.1.length : Int)) ∧
 (J43 ((UInt8.toNat (List.getD d14.2.1 (Int.toNat (i64.wrap (d14.2.2.1 + (2 : Int)))) 0) : Nat) : Int)) ∧ True) (fun d44 => J41 (d44, (d14.2.1, ((i64.wrap (d14.2.2.1 + (2 : Int))), d14.2.2.2))))) ∧ ((cond (cond (decide ((i64.wrap (d14.2.2.1 + (2 : Int))) < (d14.2.1.length : Int))) (((UInt8.toNat (List.getD d14.2.1 (Int.toNat (i64.wrap (d14.2.2.1 + (1 : Int)))) 0) : Nat) : Int) == (45 : Int)) false) (((UInt8.toNat (List.getD d14.2.1 (Int.toNat (i64.wrap (d14.2.2.1 + (2 : Int)))) 0) : Nat) : Int) != (93 : Int)) false) = false → J41 (d40, d14.2)))) (fun d42 => (((decide (d42.1 < d40)) = true → Fn P zS0 Am ((d42.2.1, ((i64.wrap (d42.2.2.1 + (1 : Int))), d42.2.2.2)), (40 : Int)) (fun (d45 : Int) (e46 : Ab) => K d45 e46)) ∧ ((decide (d42.1 < d40)) = false → Ag (D := (Int × (Int × (Int × Int)))) (fun J47 => B0 (D := (Int × (Int × (Int × (Int × Int))))) ((i64.wrap d40), d7.2.2.2) (fun d49 J50 => (((decide (d49.1 ≤ (i64.wrap d42.1))) = true → Ag (D := (Int × (Int × (Int × Int)))) (fun J51 => Fn P zS7 Br (d49.2, (u8.wrap d49.1)) (fun (d53 : (Int × (Int × (Int × Int)))) (e54 : Unit) => J51 d53)) (fun d52 => J50 ((i64.wrap (d49.1 + (1 : Int))), d52))) ∧ ((decide (d49.1 ≤ (i64.wrap d42.1))) = false → J47 d49.2)))) (fun d48 => J9 (d7.1, ((d42.2.1, ((i64.wrap (d42.2.2.1 + (1 : Int))), d42.2.2.2)), d48))))))))))))) (fun d10 => J8 (d10.1, (false, d10.2)))) ∧ ((cond true true false) = false → J5 (d7.1, d7.2.2)))) ∧ (d7.2.1 = false → Fn P zS5 Ax (d7.2.2.1, (93 : Int)) (fun (d55 : Bool) (e56 : Ab) => (((cond false true (!d55)) = true → Ag (D := (Int × (Ab × (Int × (Int × (Int × Int)))))) (fun J57 => (((decide (e56.2.1 ≥ (e56.1.length : Int))) = true → Fn P zS0 Am (e56, (40 : Int)) (fun (d59 : Int) (e60 : Ab) => K d59 e60)) ∧ ((decide (e56.2.1 ≥ (e56.1.length : Int))) = false → Ag (D := (Bool × Ab)) (fun J61 => (Fn P zS5 Ax (e56, (91 : Int)) (fun (d63 : Bool) (e64 : Ab) => (((cond d63 (decide ((i64.wrap (e64.2.1 + (1 : Int))) < (e64.1.length : Int))) false) = true → 0 ≤ (i64.wrap (e64.2.1 + (1 : Int))) ∧ (i64.wrap (e64.2.1 + (1 : Int))) < (e64.1.length : Int))) ∧
 J61 ((cond (cond d63 (decide ((i64.wrap (e64.2.1 + (1 : Int))) < (e64.1.length : Int))) false) (((UInt8.toNat (List.getD e64.1 (Int.toNat (i64.wrap (e64.2.1 + (1 : Int)))) 0) : Nat) : Int) == (58 : Int)) false), e64))) ∧ True) (fun d62 => ((d62.1 = true → Ag (D := ((List UInt8) × Int)) (fun J65 => B0 (D := ((List UInt8) × Int)) (([] : List UInt8), (i64.wrap (d62.2.2.1 + (2 : Int)))) (fun d67 J68 => (((decide ((i64.wrap (d67.2 + (1 : Int))) < (d62.2.1.length : Int))) = true → 0 ≤ d67.2 ∧ d67.2 < (d62.2.1.length : Int))) ∧
 (((((d62.2.1.getD d67.2.toNat 0).toNat : Int) != (58 : Int)) = false → ((decide ((i64.wrap (d67.2 + (1 : Int))) < (d62.2.1.length : Int))) = true → 0 ≤ (i64.wrap (d67.2 + (1 : Int))) ∧ (i64.wrap (d67.2 + (1 : Int))) < (d62.2.1.length : Int)))) ∧
 (((cond (decide ((i64.wrap (d67.2 + (1 : Int))) < (d62.2.1.length : Int))) (cond (((d62.2.1.getD d67.2.toNat 0).toNat : Int) != (58 : Int)) true (((UInt8.toNat (List.getD d62.2.1 (Int.toNat (i64.wrap (d67.2 + (1 : Int)))) 0) : Nat) : Int) != (93 : Int))) false) = true → Ag (D := ((List UInt8) × Int)) (fun J69 => (0 ≤ d67.2 ∧ d67.2 ≤ (i64.wrap (d67.2 + (1 : Int))) ∧ (i64.wrap (d67.2 + (1 : Int))) ≤ (d62.2.1.length : Int)) ∧
 (d67.1.length + List.length (List.drop d67.2.toNat (List.take (Int.toNat (i64.wrap (d67.2 + (1 : Int)))) d62.2.1)) ≤ 9223372036854775807) ∧
 J69 ((d67.1 ++ (List.drop d67.2.toNat (List.take (Int.toNat (i64.wrap (d67.2 + (1 : Int)))) d62.2.1))), (i64.wrap (d67.2 + (1 : Int))))) (fun d70 => J68 d70)) ∧ ((cond (decide ((i64.wrap (d67.2 + (1 : Int))) < (d62.2.1.length : Int))) (cond (((d62.2.1.getD d67.2.toNat 0).toNat : Int) != (58 : Int)) true (((UInt8.toNat (List.getD d62.2.1 (Int.toNat (i64.wrap (d67.2 + (1 : Int)))) 0) : Nat) : Int) != (93 : Int))) false) = false → J65 d67)))) (fun d66 => Fn P QB Bq (d66.1, (0 : Int)) (fun (d71 : (Bool × Bool)) (e72 : Unit) => (((cond (!d71.2) true (decide ((i64.wrap (d66.2 + (1 : Int))) ≥ (d62.2.1.length : Int)))) = true → Fn P zS0 Am (d62.2, (40 : Int)) (fun (d73 : Int) (e74 : Ab) => K d73 e74)) ∧ ((cond (!d71.2) true (decide ((i64.wrap (d66.2 + (1 : Int))) ≥ (d62.2.1.length : Int)))) = false → Ag (D := (Int × (Int × (Int × Int)))) (fun J75 => B0 (D := (Int × (Int × (Int × (Int × Int))))) ((0 : Int), d7.2.2.2) (fun d77 J78 => (((decide (d77.1 < (256 : Int))) = true → Ag (D := (Int × (Int × (Int × Int)))) (fun J79 => Fn P QB Bq (d66.1, (u8.wrap d77.1)) (fun (d81 : (Bool × Bool)) (e82 : Unit) => Ag (D := (Int × (Int × (Int × Int)))) (fun J83 => ((d81.1 = true → Fn P zS7 Br (d77.2, (u8.wrap d77.1)) (fun (d85 : (Int × (Int × (Int × Int)))) (e86 : Unit) => J83 d85)) ∧ (d81.1 = false → J83 d77.2))) (fun d84 => J79 d84))) (fun d80 => J78 ((i64.wrap (d77.1 + (1 : Int))), d80))) ∧ ((decide (d77.1 < (256 : Int))) = false → J75 d77.2)))) (fun d76 => J57 (d7.1, ((d62.2.1, ((i64.wrap (d66.2 + (2 : Int))), d62.2.2.2)), d76)))))))) ∧ (d62.1 = false → Ag (D := Int) (fun J87 => (0 ≤ d62.2.2.1 ∧ d62.2.2.1 < (d62.2.1.length : Int)) ∧
 (J87 ((d62.2.1.getD d62.2.2.1.toNat 0).toNat : Int)) ∧ True) (fun d88 => (((decide ((i64.wrap (d62.2.2.1 + (2 : Int))) < (d62.2.1.length : Int))) = true → 0 ≤ (i64.wrap (d62.2.2.1 + (1 : Int))) ∧ (i64.wrap (d62.2.2.1 + (1 : Int))) < (d62.2.1.length : Int))) ∧
 (((cond (decide ((i64.wrap (d62.2.2.1 + (2 : Int))) < (d62.2.1.length : Int))) (((UInt8.toNat (List.getD d62.2.1 (Int.toNat (i64.wrap (d62.2.2.1 + (1 : Int)))) 0) : Nat) : Int) == (45 : Int)) false) = true → 0 ≤ (i64.wrap (d62.2.2.1 + (2 : Int))) ∧ (i64.wrap (d62.2.2.1 + (2 : Int))) < (d62.2.1.length : Int))) ∧
 Ag (D := (Int × Ab)) (fun J89 => (((cond (cond (decide ((i64.wrap (d62.2.2.1 + (2 : Int))) < (d62.2.1.length : Int))) (((UInt8.toNat (List.getD d62.2.1 (Int.toNat (i64.wrap (d62.2.2.1 + (1 : Int)))) 0) : Nat) : Int) == (45 : Int)) false) (((UInt8.toNat (List.getD d62.2.1 (Int.toNat (i64.wrap (d62.2.2.1 + (2 : Int)))) 0) : Nat) : Int) != (93 : Int)) false) = true → Ag (D := Int) (fun J91 => (0 ≤ (i64.wrap (d62.2.2.1 + (2 : Int))) ∧ (i64.wrap (d62.2.2.1 + (2 : Int))) < (d62.2.1.length : Int)) ∧
 (J91 ((UInt8.toNat (List.getD d62.2.1 (Int.toNat (i64.wrap (d62.2.2.1 + (2 : Int)))) 0) : Nat) : Int)) ∧ True) (fun d92 => J89 (d92, (d62.2.1, ((i64.wrap (d62.2.2.1 + (2 : Int))), d62.2.2.2))))) ∧ ((cond (cond (decide ((i64.wrap (d62.2.2.1 + (2 : Int))) < (d62.2.1.length : Int))) (((UInt8.toNat (List.getD d62.2.1 (Int.toNat (i64.wrap (d62.2.2.1 + (1 : Int)))) 0) : Nat) : Int) == (45 : Int)) false) (((UInt8.toNat (List.getD d62.2.1 (Int.toNat (i64.wrap (d62.2.2.1 + (2 : Int)))) 0) : Nat) : Int) != (93 : Int)) false) = false → J89 (d88, d62.2)))) (fun d90 => (((decide (d90.1 < d88)) = true → Fn P zS0 Am ((d90.2.1, ((i64.wrap (d90.2.2.1 + (1 : Int))), d90.2.2.2)), (40 : Int)) (fun (d93 : Int) (e94 : Ab) => K d93 e94)) ∧ ((decide (d90.1 < d88)) = false → Ag (D := (Int × (Int × (Int × Int)))) (fun J95 => B0 (D := (Int × (Int × (Int × (Int × Int))))) ((i64.wrap d88), d7.2.2.2) (fun d97 J98 => (((decide (d97.1 ≤ (i64.wrap d90.1))) = true → Ag (D := (Int × (Int × (Int × Int)))) (fun J99 => Fn P zS7 Br (d97.2, (u8.wrap d97.1)) (fun (d101 : (Int × (Int × (Int × Int)))) (e102 : Unit) => J99 d101)) (fun d100 => J98 ((i64.wrap (d97.1 + (1 : Int))), d100))) ∧ ((decide (d97.1 ≤ (i64.wrap d90.1))) = false → J95 d97.2)))) (fun d96 => J57 (d7.1, ((d90.2.1, ((i64.wrap (d90.2.2.1 + (1 : Int))), d90.2.2.2)), d96))))))))))))) (fun d58 => J8 (d58.1, (false, d58.2)))) ∧ ((cond false true (!d55)) = false → J5 (d7.1, (e56, d7.2.2.2))))))))) (fun d6 => Ag (D := (Int × (Int × (Int × Int)))) (fun J103 => ((d1 = true → Fn P VH Bj d6.2.2 (fun (d105 : (Int × (Int × (Int × Int)))) (e106 : Unit) => J103 d105)) ∧ (d1 = false → J103 d6.2.2))) (fun d104 => Fn P zS2 Ar ((d6.2.1.1, ((i64.wrap (d6.2.1.2.1 + (1 : Int))), d6.2.1.2.2)), ((1 : Int), (d104, ((0 : Int), ((0 : Int), []))))) (fun (d107 : Int) (e108 : Ab) => K d107 e108)))))
theorem JO {P : Pg} (h : Has P C8) {x : DP Bt.ps} {K : DP Bt.rs → DP (ptrs Bt.ps) → Prop} (hw : Gy P x K) : Fn P Y3 Bt x K :=
 BI (c := Es) h rfl rfl (by kernel_rfl) (Eq.mpr (show BC P C8 Bt Es x K = _ by kernel_rfl) hw)
def EJ : Be :=
 (.seq (.region [ia 2 (kI 0)]) (.seq (.frame (rg [3] 5 9) [] false (.join [.sl 3 false (.int .u8) .leaf] (.draw [(.first (im 5 0) (.first (o1 6 (.nilc 5)) (.first (fa 7 0 6) (.first
 (ld 8 7) (.first (im 9 0) (.first (o1 10 (.nilc 9)) (.first (fa 11 1 10) (.first (ld 12 11) (.first (o1 13 (.ixS 8 12)) (.alt (ia 3 13) .done .stop))))))))))]))) (.seq (.region [im
 14 0, o1 15 (.nilc 14), fa 16 1 15, ld 17 16, o1 18 (.bin .add 17 (kI 1)), o1 19 (.nilc 14), fa 20 1 19, o0 ⟨none, .store 1 20 18, none⟩]) (.seq (.seq (.region [im 21 3]) (.frame
 (rg [2, 3, 4] 22 105) [0] true (.join [.si 2, .sl 3 false (.int .u8) .leaf, .bx 0 Ay (.pair .leaf (.pair .leaf (.pair .leaf (.pair (.node .own (.pair .leaf (.pair .leaf
 (.pair .leaf (.pair .leaf tM))))) .leaf))))] (.block 0 (.seq (.region [o1 23 (.bin .eql 21 (.c (.int .u8 40))), ia 22 23]) (.cond 22 (.seq (.seq (.region [im 24 0, o1 25 (.nilc
 24), fa 26 2 25, ld 27 26, o1 28 (.bin .geq 27 (kI 50))]) (.cond 28 (.seq (.region [im 29 0, oS ⟨some 30, .call zS0 [29, (kI 1)], none⟩
 Am, ia 2 30]) .ret) .skip)) (.seq (.region [im 31 0, o1 32 (.nilc 31), fa 33 2 32, ld 34 33, o1 35 (.bin .add 34 (kI 1)), o1 36 (.nilc 31), fa 37 2 36, o0 ⟨none,
 .store 1 37 35, none⟩]) (.seq (.region [im 38 0, oS ⟨some 39, .call VI [38], none⟩ A3, ia 4 39]) (.seq (.seq (.region
 [im 40 0, o1 41 (.nilc 40), fa 42 4 41, ld 43 42, o1 44 (.bin .eql 43 (kI 0)), im 45 44, ⟨⟨some 46, .mv 0, some (45, true)⟩, none, ⟨[], []⟩, false, some 45, true, false⟩, ⟨⟨some
 47, .call zS5 [46, (.c (.int .u8 41))], some (45, true)⟩, none, Ax, false, none, true, true⟩, ⟨⟨some 48, .un .not 47, some (45,
 true)⟩, none, ⟨[], []⟩, false, none, true, true⟩, o1 49 (.pick 45 48 kF)]) (.cond 49 (.seq (.region [im 50 0, oS ⟨some 51, .call zS0 [50, (kI
 40)], none⟩ Am, ia 2 51]) .ret) .skip)) (.seq (.region [im 52 0, o1 53 (.nilc 52), fa 54 2 53, ld 55 54, o1 56 (.bin .sub 55 (kI 1)), o1 57 (.nilc 52), fa 58 2 57,
 o0 ⟨none, .store 1 58 56, none⟩]) (.seq (.region [im 59 0, o1 60 (.nilc 59), fa 61 1 60, ld 62 61, o1 63 (.bin .add 62 (kI 1)), o1 64 (.nilc 59), fa 65 1 64, o0 ⟨none, .store 1 65
 63, none⟩]) (.seq (.region [im 66 4, ia 2 66]) .ret))))))) (.seq (.region [o1 68 (.bin .eql 21 (.c (.int .u8 91))), ia 67 68]) (.cond 67 (.seq (.region [im 69 0, oS ⟨some 70, .call
 Y3 [69], none⟩ Bt, ia 2 70]) .ret) (.seq (.region [o1 72 (.bin .eql 21 (.c (.int .u8 46))), ia 71 72]) (.cond 71 (.seq
 (.region [im 73 0, o1 74 (.build [(.int .u64 0), (.int .u64 0), (.int .u64 0), (.int .u64 0)] []), oS ⟨some 75, .call VH [74], none⟩
 Bj, o1 76 (.build [(.int .i64 0), (.int .u64 0), (.int .u64 0), (.int .u64 0), (.int .u64 0), (.int .i64 0), (.int .i64 0), (.slice none 0 0)] [(0, 1, (kI 1)), (1,
 4, 75)]), oS ⟨some 77, .call zS2 [73, 76], none⟩ Ar, ia 2 77]) .ret) (.seq (.region [o1 79 (.bin .eql 21 (.c (.int .u8 94))),
 ia 78 79]) (.cond 78 (.seq (.region [im 80 0, o1 81 (.build [(.int .i64 0), (.int .u64 0), (.int .u64 0), (.int .u64 0), (.int .u64 0), (.int .i64 0), (.int .i64 0), (.slice none 0
 0)] [(0, 1, (kI 2))]), oS ⟨some 82, .call zS2 [80, 81], none⟩ Ar, ia 2 82]) .ret) (.seq (.region [o1 84 (.bin .eql 21 (.c
 (.int .u8 36))), ia 83 84]) (.cond 83 (.seq (.region [im 85 0, o1 86 (.build [(.int .i64 0), (.int .u64 0), (.int .u64 0), (.int .u64 0), (.int .u64 0), (.int .i64 0), (.int .i64
 0), (.slice none 0 0)] [(0, 1, (kI 3))]), oS ⟨some 87, .call zS2 [85, 86], none⟩ Ar, ia 2 87]) .ret) (.seq (.seq (.region [o1
 89 (.bin .eql 21 (.c (.int .u8 41))), ia 88 89]) (.frame (rg [88] 90 5) [] false (.join [.sl 88 false .bool .leaf] (.cond 88 .skip (.seq (.region [o1 90 (.bin .eql 21 (.c (.int .u8
 124))), ia 88 90]) (.frame (rg [88] 91 4) [] false (.join [.sl 88 false .bool .leaf] (.cond 88 .skip (.seq (.region [o1 91 (.bin .eql 21 (.c (.int .u8 42))), ia 88 91]) (.frame
 [88, 92, 93, 94] [] false (.join [.sl 88 false .bool .leaf] (.cond 88 .skip (.seq (.region [o1 92 (.bin .eql 21 (.c (.int .u8 43))), ia 88 92]) (.frame [88, 93, 94] [] false (.join
 [.sl 88 false .bool .leaf] (.cond 88 .skip (.seq (.region [o1 93 (.bin .eql 21 (.c (.int .u8 63))), ia 88 93]) (.frame [88, 94] [] false (.join [.sl 88 false .bool .leaf] (.cond 88
 .skip (.region [o1 94 (.bin .eql 21 (.c (.int .u8 123))), ia 88 94]))))))))))))))))))))) (.cond 88 (.seq (.region [im 95 0, oS ⟨some 96, .call
 zS0 [95, (kI 40)], none⟩ Am, ia 2 96]) .ret) (.seq (.region [o1 98 (.bin .eql 21 (.c (.int .u8 92))), ia 97 98]) (.frame (rg
 [2, 3] 99 28) [0] true (.join [.si 2, .sl 3 false (.int .u8) .leaf, .bx 0 Ay (.pair .leaf (.pair .leaf (.pair .leaf (.pair (.node .own (.pair .leaf (.pair .leaf (.pair
 .leaf (.pair .leaf tM))))) .leaf))))] (.cond 97 (.seq (.seq (.draw [(.first (im 99 0) (.first (o1 100 (.nilc 99)) (.first (fa 101 1 100) (.first (ld 102 101) (.first (im 103 0)
 (.first (o1 104 (.nilc 103)) (.first (fa 105 0 104) (.first (ld 106 105) (.first (o1 107 (.lenS 106)) (.first (o1 108 (.bin .geq 102 107)) .done))))))))))]) (.cond 108 (.seq
 (.region [im 109 0, oS ⟨some 110, .call zS0 [109, (kI 40)], none⟩ Am, ia 2 110]) .ret) .skip)) (.seq (.frame (rg [3] 111 9)
 [] false (.join [.sl 3 false (.int .u8) .leaf] (.draw [(.first (im 111 0) (.first (o1 112 (.nilc 111)) (.first (fa 113 0 112) (.first (ld 114 113) (.first (im 115 0) (.first (o1
 116 (.nilc 115)) (.first (fa 117 1 116) (.first (ld 118 117) (.first (o1 119 (.ixS 114 118)) (.alt (ia 3 119) .done .stop))))))))))]))) (.region [im 120 0, o1 121 (.nilc 120), fa
 122 1 121, ld 123 122, o1 124 (.bin .add 123 (kI 1)), o1 125 (.nilc 120), fa 126 1 125, o0 ⟨none, .store 1 126 124, none⟩]))) .skip)))))))))))))))))))) (.seq (.region [im 127 0, o1
 128 (.build [(.int .u64 0), (.int .u64 0), (.int .u64 0), (.int .u64 0)] []), im 129 3, oS ⟨some 130, .call zS7 [128, 129], none⟩ Br, o1 131
 (.build [(.int .i64 0), (.int .u64 0), (.int .u64 0), (.int .u64 0), (.int .u64 0), (.int .i64 0), (.int .i64 0), (.slice none 0 0)] [(0, 1, (kI 1)), (1, 4, 130)]), oS ⟨some 132,
 .call zS2 [127, 131], none⟩ Ar, ia 2 132]) .ret)))))
def BG : AFn := ⟨ XK, EJ.erase, [.tmp 2], 1⟩
def GQ (P : Pg) (x : Ab) (K : Int → Ab → Prop) : Prop :=
 Ag (D := Int) (fun J1 => (0 ≤ x.2.1 ∧ x.2.1 < (x.1.length : Int)) ∧
 (J1 ((x.1.getD x.2.1.toNat 0).toNat : Int)) ∧ True) (fun d2 => Ag (D := (Int × (Int × Ab))) (fun J3 => (((d2 == (40 : Int)) = true → (((decide (x.2.2.1 ≥ (50 : Int))) = true → Fn P zS0 Am ((x.1, ((i64.wrap (x.2.1 + (1 : Int))), x.2.2)), (1 : Int)) (fun (d5 : Int) (e6 : Ab) => K d5 e6)) ∧ ((decide (x.2.2.1 ≥ (50 : Int))) = false → Fn P VI A3 (x.1, ((i64.wrap (x.2.1 + (1 : Int))), ((i64.wrap (x.2.2.1 + (1 : Int))), x.2.2.2))) (fun (d7 : Int) (e8 : Ab) => (((e8.2.2.2.2 == (0 : Int)) = true → Fn P zS5 Ax (e8, (41 : Int)) (fun (d9 : Bool) (e10 : Ab) => (((cond true (!d9) false) = true → Fn P zS0 Am (e10, (40 : Int)) (fun (d11 : Int) (e12 : Ab) => K d11 e12)) ∧ ((cond true (!d9) false) = false → K d7 (e10.1, ((i64.wrap (e10.2.1 + (1 : Int))), ((i64.wrap (e10.2.2.1 - (1 : Int))), e10.2.2.2))))))) ∧ ((e8.2.2.2.2 == (0 : Int)) = false → (((cond false false false) = true → Fn P zS0 Am (e8, (40 : Int)) (fun (d13 : Int) (e14 : Ab) => K d13 e14)) ∧ ((cond false false false) = false → K d7 (e8.1, ((i64.wrap (e8.2.1 + (1 : Int))), ((i64.wrap (e8.2.2.1 - (1 : Int))), e8.2.2.2))))))))))) ∧ ((d2 == (40 : Int)) = false → (((d2 == (91 : Int)) = true → Fn P Y3 Bt (x.1, ((i64.wrap (x.2.1 + (1 : Int))), x.2.2)) (fun (d15 : Int) (e16 : Ab) => K d15 e16)) ∧ ((d2 == (91 : Int)) = false → (((d2 == (46 : Int)) = true → Fn P VH Bj ((0 : Int), ((0 : Int), ((0 : Int), (0 : Int)))) (fun (d17 : (Int × (Int × (Int × Int)))) (e18 : Unit) => Fn P zS2 Ar ((x.1, ((i64.wrap (x.2.1 + (1 : Int))), x.2.2)), ((1 : Int), (d17, ((0 : Int), ((0 : Int), []))))) (fun (d19 : Int) (e20 : Ab) => K d19 e20))) ∧ ((d2 == (46 : Int)) = false → (((d2 == (94 : Int)) = true → Fn P zS2 Ar ((x.1, ((i64.wrap (x.2.1 + (1 : Int))), x.2.2)), ((2 : Int), (((0 : Int), ((0 : Int), ((0 : Int), (0 : Int)))), ((0 : Int), ((0 : Int), []))))) (fun (d21 : Int) (e22 : Ab) => K d21 e22)) ∧ ((d2 == (94 : Int)) = false → (((d2 == (36 : Int)) = true → Fn P zS2 Ar ((x.1, ((i64.wrap (x.2.1 + (1 : Int))), x.2.2)), ((3 : Int), (((0 : Int), ((0 : Int), ((0 : Int), (0 : Int)))), ((0 : Int), ((0 : Int), []))))) (fun (d23 : Int) (e24 : Ab) => K d23 e24)) ∧ ((d2 == (36 : Int)) = false → Ag (D := Bool) (fun J25 => (((d2 == (41 : Int)) = true → J25 (d2 == (41 : Int))) ∧ ((d2 == (41 : Int)) = false → Ag (D := Bool) (fun J27 => (((d2 == (124 : Int)) = true → J27 (d2 == (124 : Int))) ∧ ((d2 == (124 : Int)) = false → Ag (D := Bool) (fun J29 => (((d2 == (42 : Int)) = true → J29 (d2 == (42 : Int))) ∧ ((d2 == (42 : Int)) = false → Ag (D := Bool) (fun J31 => (((d2 == (43 : Int)) = true → J31 (d2 == (43 : Int))) ∧ ((d2 == (43 : Int)) = false → Ag (D := Bool) (fun J33 => (((d2 == (63 : Int)) = true → J33 (d2 == (63 : Int))) ∧ ((d2 == (63 : Int)) = false → J33 (d2 == (123 : Int))))) (fun d34 => J31 d34)))) (fun d32 => J29 d32)))) (fun d30 => J27 d30)))) (fun d28 => J25 d28)))) (fun d26 => ((d26 = true → Fn P zS0 Am ((x.1, ((i64.wrap (x.2.1 + (1 : Int))), x.2.2)), (40 : Int)) (fun (d35 : Int) (e36 : Ab) => K d35 e36)) ∧ (d26 = false → Ag (D := (Int × (Int × Ab))) (fun J37 => (((d2 == (92 : Int)) = true → (((decide ((i64.wrap (x.2.1 + (1 : Int))) ≥ (x.1.length : Int))) = true → Fn P zS0 Am ((x.1, ((i64.wrap (x.2.1 + (1 : Int))), x.2.2)), (40 : Int)) (fun (d39 : Int) (e40 : Ab) => K d39 e40)) ∧ ((decide ((i64.wrap (x.2.1 + (1 : Int))) ≥ (x.1.length : Int))) = false → Ag (D := Int) (fun J41 => (0 ≤ (i64.wrap (x.2.1 + (1 : Int))) ∧ (i64.wrap (x.2.1 + (1 : Int))) < (x.1.length : Int)) ∧
 (J41 ((UInt8.toNat (List.getD x.1 (Int.toNat (i64.wrap (x.2.1 + (1 : Int)))) 0) : Nat) : Int)) ∧ True) (fun d42 => J37 ((0 : Int), (d42, (x.1, ((i64.wrap ((i64.wrap (x.2.1 + (1 : Int))) + (1 : Int))), x.2.2)))))))) ∧ ((d2 == (92 : Int)) = false → J37 ((0 : Int), (d2, (x.1, ((i64.wrap (x.2.1 + (1 : Int))), x.2.2))))))) (fun d38 => J3 d38))))))))))))))) (fun d4 => Fn P zS7 Br (((0 : Int), ((0 : Int), ((0 : Int), (0 : Int)))), d4.2.1) (fun (d43 : (Int × (Int × (Int × Int)))) (e44 : Unit) => Fn P zS2 Ar (d4.2.2, ((1 : Int), (d43, ((0 : Int), ((0 : Int), []))))) (fun (d45 : Int) (e46 : Ab) => K d45 e46))))
theorem Kp {P : Pg} (h : Has P BG) {x : DP Bk.ps} {K : DP Bk.rs → DP (ptrs Bk.ps) → Prop} (hw : GQ P x K) : Fn P XK Bk x K :=
 BI (c := EJ) h rfl rfl (by kernel_rfl) (Eq.mpr (show BC P BG Bk EJ x K = _ by kernel_rfl) hw)
def HZ : Be :=
 (.seq (.region [ia 4 (kI 0), ia 5 (kI 0), o1 6 (.asg kF)]) (.seq (.seq (.region [im 9 1, o1 10 (.bin .lss 9 (kI 0)), im 11 10, gf 12 11 (.mv 1), gf 13 11 (.mv 0), gf 14 11 (.lenS
 13), gf 15 11 (.bin .gtr 12 14), o1 16 (.pick 11 kT 15)]) (.cond 16 (.seq (.region [ia 4 (kI 0), ia 5 (kI 0), o1 6 (.asg kF)]) .ret) .skip)) (.seq (.region [im 17 1, ia 7 (kI 0),
 ia 8 17]) (.seq (.frame (rg [4, 5, 6, 7, 8] 18 37) [] false (.join [.si 4, .si 5, .sl 6 false .bool .leaf, .si 7, .si 8] (.block 0 (.loop [.si 4, .si 5, .sl 6 false .bool .leaf,
 .si 7, .si 8] (.seq (.seq (.region [im 18 8, im 19 0, o1 20 (.lenS 19), o1 21 (.bin .lss 18 20), im 22 21, gt 23 22 (.mv 0), gt 24 22 (.mv 8), gt 25 22 (.ixS 23 24), gt 26 22 (.bin
 .geq 25 (.c (.int .u8 48))), o1 27 (.pick 22 26 kF), im 28 27, gt 29 28 (.mv 0), gt 30 28 (.mv 8), gt 31 28 (.ixS 29 30), gt 32 28 (.bin .leq 31 (.c (.int .u8 57))), o1 33 (.pick
 28 32 kF)]) (.cond 33 .skip (.exit 0))) (.frame (rg [4, 5, 6, 7, 8] 34 21) [] false (.join [.si 4, .si 5, .sl 6 false .bool .leaf, .si 7, .si 8] (.block 1 (.seq (.seq (.region [im
 34 8, im 35 1, o1 36 (.bin .gtr 34 35), im 37 36, gt 38 37 (.mv 0), gt 39 37 (.mv 1), gt 40 37 (.ixS 38 39), gt 41 37 (.bin .eql 40 (.c (.int .u8 48))), o1 42 (.pick 37 41 kF)])
 (.cond 42 (.seq (.region [ia 4 (kI 0), ia 5 (kI 0), o1 6 (.asg kF)]) .ret) .skip)) (.seq (.region [im 43 7, o1 44 (.bin .mul (kI 10) 43), im 45 0, im 46 8, o1 47 (.ixS 45 46), o1
 48 (.bin .sub 47 (.c (.int .u8 48))), o1 49 (.conv (.toInt .i64) 48), o1 50 (.bin .add 44 49), ia 7 50]) (.seq (.seq (.region [im 51 7, o1 52 (.bin .gtr 51 (kI 2147483647))])
 (.cond 52 (.seq (.region [ia 4 (kI 0), ia 5 (kI 0), o1 6 (.asg kF)]) .ret) .skip)) (.region [im 53 8, o1 54 (.bin .add 53 (kI 1)), ia 8 54])))))))))))) (.seq (.seq (.region [im 55
 8, im 56 1, o1 57 (.bin .eql 55 56)]) (.cond 57 (.seq (.region [ia 4 (kI 0), ia 5 (kI 0), o1 6 (.asg kF)]) .ret) .skip)) (.seq (.region [im 58 7, im 59 8, ia 4 58, ia 5 59, o1 6
 (.asg kT)]) .ret))))))
def Fl : AFn := ⟨ VJ, HZ.erase, [.tmp 4, .tmp 5, .tmp 6], 2⟩
def Ke (P : Pg) (x : ((List UInt8) × Int)) (K : (Int × (Int × Bool)) → Unit → Prop) : Prop :=
 (((cond (decide (x.2 < (0 : Int))) true (decide (x.2 > (x.1.length : Int)))) = true → K ((0 : Int), ((0 : Int), false)) ()) ∧ ((cond (decide (x.2 < (0 : Int))) true (decide (x.2 > (x.1.length : Int)))) = false → Ag (D := (Int × (Int × (Bool × (Int × Int))))) (fun J1 => B0 (D := (Int × (Int × (Bool × (Int × Int))))) ((0 : Int), ((0 : Int), (false, ((0 : Int), x.2)))) (fun d3 J4 => (((decide (d3.2.2.2.2 < (x.1.length : Int))) = true → 0 ≤ d3.2.2.2.2 ∧ d3.2.2.2.2 < (x.1.length : Int))) ∧
 (((cond (decide (d3.2.2.2.2 < (x.1.length : Int))) (decide (((x.1.getD d3.2.2.2.2.toNat 0).toNat : Int) ≥ (48 : Int))) false) = true → 0 ≤ d3.2.2.2.2 ∧ d3.2.2.2.2 < (x.1.length : Int))) ∧
 (((cond (cond (decide (d3.2.2.2.2 < (x.1.length : Int))) (decide (((x.1.getD d3.2.2.2.2.toNat 0).toNat : Int) ≥ (48 : Int))) false) (decide (((x.1.getD d3.2.2.2.2.toNat 0).toNat : Int) ≤ (57 : Int))) false) = true → Ag (D := (Int × (Int × (Bool × (Int × Int))))) (fun J5 => (((decide (d3.2.2.2.2 > x.2)) = true → 0 ≤ x.2 ∧ x.2 < (x.1.length : Int))) ∧
 (((cond (decide (d3.2.2.2.2 > x.2)) (((x.1.getD x.2.toNat 0).toNat : Int) == (48 : Int)) false) = true → K ((0 : Int), ((0 : Int), false)) ()) ∧ ((cond (decide (d3.2.2.2.2 > x.2)) (((x.1.getD x.2.toNat 0).toNat : Int) == (48 : Int)) false) = false → (0 ≤ d3.2.2.2.2 ∧ d3.2.2.2.2 < (x.1.length : Int)) ∧
 (((decide ((i64.wrap ((i64.wrap ((10 : Int) * d3.2.2.2.1)) + (i64.wrap (u8.wrap (((x.1.getD d3.2.2.2.2.toNat 0).toNat : Int) - (48 : Int)))))) > (2147483647 : Int))) = true → K ((0 : Int), ((0 : Int), false)) ()) ∧ ((decide ((i64.wrap ((i64.wrap ((10 : Int) * d3.2.2.2.1)) + (i64.wrap (u8.wrap (((x.1.getD d3.2.2.2.2.toNat 0).toNat : Int) - (48 : Int)))))) > (2147483647 : Int))) = false → J5 (d3.1, (d3.2.1, (d3.2.2.1, ((i64.wrap ((i64.wrap ((10 : Int) * d3.2.2.2.1)) + (i64.wrap (u8.wrap (((x.1.getD d3.2.2.2.2.toNat 0).toNat : Int) - (48 : Int)))))), (i64.wrap (d3.2.2.2.2 + (1 : Int)))))))))))) (fun d6 => J4 d6)) ∧ ((cond (cond (decide (d3.2.2.2.2 < (x.1.length : Int))) (decide (((x.1.getD d3.2.2.2.2.toNat 0).toNat : Int) ≥ (48 : Int))) false) (decide (((x.1.getD d3.2.2.2.2.toNat 0).toNat : Int) ≤ (57 : Int))) false) = false → J1 d3)))) (fun d2 => (((d2.2.2.2.2 == x.2) = true → K ((0 : Int), ((0 : Int), false)) ()) ∧ ((d2.2.2.2.2 == x.2) = false → K (d2.2.2.2.1, (d2.2.2.2.2, true)) ())))))
theorem ON {P : Pg} (h : Has P Fl) {x : DP B1.ps} {K : DP B1.rs → DP (ptrs B1.ps) → Prop} (hw : Ke P x K) : Fn P VJ B1 x K :=
 BI (c := HZ) h rfl rfl (by kernel_rfl) (Eq.mpr (show BC P Fl B1 HZ x K = _ by kernel_rfl) hw)
def D6 : Be :=
 (.seq (.region [ia 2 (kI 0), ia 3 (kI 0)]) (.seq (.frame (rg [4, 5, 6] 8 14) [] false (.join [.si 4, .si 5, .sl 6 false .bool .leaf] (.draw [(.first (im 9 0) (.first (o1 10 (.nilc
 9)) (.first (fa 11 0 10) (.first (ld 12 11) (.first (im 13 0) (.first (o1 14 (.nilc 13)) (.first (fa 15 1 14) (.first (ld 16 15) (.first (o1 17 (.bin .add 16 (kI 1))) (.alt (oS
 ⟨some 18, .call VJ [12, 17], none⟩ B1) (.first (im 8 18) (.alt (o1 19 (.ext 8 0)) (.alt (o1 20 (.ext 8 1)) (.alt (o1 21 (.ext 8 2)) (.alt
 (ia 4 19) (.alt (ia 5 20) (.alt (ia 6 21) .done .stop) .stop) .stop) (.alt (ia 4 19) (.alt (o1 21 (.ext 8 2)) (.alt (ia 5 20) (.alt (ia 6 21) .done .stop) .stop) (.alt (ia 5 20)
 (.alt (o1 21 (.ext 8 2)) (.alt (ia 6 21) .done .stop) .stop) .stop)) .stop)) (.alt (o1 21 (.ext 8 2)) (.alt (o1 20 (.ext 8 1)) (.alt (ia 4 19) (.alt (ia 5 20) (.alt (ia 6 21) .done
 .stop) .stop) .stop) (.alt (ia 4 19) (.alt (o1 20 (.ext 8 1)) (.alt (ia 5 20) (.alt (ia 6 21) .done .stop) .stop) .stop) .stop)) (.alt (ia 4 19) (.alt (o1 20 (.ext 8 1)) (.alt (o1
 21 (.ext 8 2)) (.alt (ia 5 20) (.alt (ia 6 21) .done .stop) .stop) (.alt (ia 5 20) (.alt (o1 21 (.ext 8 2)) (.alt (ia 6 21) .done .stop) .stop) .stop)) (.alt (o1 21 (.ext 8 2))
 (.alt (o1 20 (.ext 8 1)) (.alt (ia 5 20) (.alt (ia 6 21) .done .stop) .stop) .stop) .stop)) .stop))) (.alt (o1 20 (.ext 8 1)) (.alt (o1 19 (.ext 8 0)) (.alt (o1 21 (.ext 8 2))
 (.alt (ia 4 19) (.alt (ia 5 20) (.alt (ia 6 21) .done .stop) .stop) .stop) (.alt (ia 4 19) (.alt (o1 21 (.ext 8 2)) (.alt (ia 5 20) (.alt (ia 6 21) .done .stop) .stop) (.alt (ia 5
 20) (.alt (o1 21 (.ext 8 2)) (.alt (ia 6 21) .done .stop) .stop) .stop)) .stop)) (.alt (o1 21 (.ext 8 2)) (.alt (o1 19 (.ext 8 0)) (.alt (ia 4 19) (.alt (ia 5 20) (.alt (ia 6 21)
 .done .stop) .stop) .stop) .stop) .stop)) (.alt (o1 21 (.ext 8 2)) (.alt (o1 19 (.ext 8 0)) (.alt (o1 20 (.ext 8 1)) (.alt (ia 4 19) (.alt (ia 5 20) (.alt (ia 6 21) .done .stop)
 .stop) .stop) (.alt (ia 4 19) (.alt (o1 20 (.ext 8 1)) (.alt (ia 5 20) (.alt (ia 6 21) .done .stop) .stop) .stop) .stop)) (.alt (o1 20 (.ext 8 1)) (.alt (o1 19 (.ext 8 0)) (.alt
 (ia 4 19) (.alt (ia 5 20) (.alt (ia 6 21) .done .stop) .stop) .stop) .stop) .stop)) .stop)))) .stop))))))))))]))) (.seq (.region [im 22 4, ia 7 22]) (.seq (.seq (.region [im 23 6,
 im 24 23, gt 25 24 (.mv 5), gt 26 24 (.mv 0), gt 27 24 (.nilc 26), gt 28 24 (.fAddr 0 27), gt 29 24 (.load false 1 28), gt 30 24 (.lenS 29), gt 31 24 (.bin .lss 25 30), o1 32
 (.pick 24 31 kF), im 33 32, gt 34 33 (.mv 0), gt 35 33 (.nilc 34), gt 36 33 (.fAddr 0 35), gt 37 33 (.load false 1 36), gt 38 33 (.mv 5), gt 39 33 (.ixS 37 38), gt 40 33 (.bin .eql
 39 (.c (.int .u8 44))), o1 41 (.pick 33 40 kF)]) (.frame (rg [5, 6, 7] 42 28) [] false (.join [.si 5, .sl 6 false .bool .leaf, .si 7] (.cond 41 (.seq (.region [im 42 5, o1 43 (.bin
 .add 42 (kI 1)), ia 5 43]) (.seq (.region [ia 7 (kI (-1))]) (.seq (.region [im 44 5, im 45 0, o1 46 (.nilc 45), fa 47 0 46, ld 48 47, o1 49 (.lenS 48), o1 50 (.bin .lss 44 49), im
 51 50, gt 52 51 (.mv 0), gt 53 51 (.nilc 52), gt 54 51 (.fAddr 0 53), gt 55 51 (.load false 1 54), gt 56 51 (.mv 5), gt 57 51 (.ixS 55 56), gt 58 51 (.bin .neq 57 (.c (.int .u8
 125))), o1 59 (.pick 51 58 kF)]) (.frame (rg [5, 6, 7] 60 10) [] false (.join [.si 5, .sl 6 false .bool .leaf, .si 7] (.cond 59 (.region [im 61 0, o1 62 (.nilc 61), fa 63 0 62, ld
 64 63, im 65 5, oS ⟨some 66, .call VJ [64, 65], none⟩ B1, im 60 66, o1 67 (.ext 60 0), o1 68 (.ext 60 1), o1 69 (.ext 60 2), ia 7 67, ia
 5 68, ia 6 69]) .skip)))))) .skip)))) (.seq (.seq (.region [im 70 6, o1 71 (.un .not 70), im 72 71, gf 73 72 (.mv 5), gf 74 72 (.mv 0), gf 75 72 (.nilc 74), gf 76 72 (.fAddr 0 75),
 gf 77 72 (.load false 1 76), gf 78 72 (.lenS 77), gf 79 72 (.bin .geq 73 78), o1 80 (.pick 72 kT 79), im 81 80, gf 82 81 (.mv 0), gf 83 81 (.nilc 82), gf 84 81 (.fAddr 0 83), gf 85
 81 (.load false 1 84), gf 86 81 (.mv 5), gf 87 81 (.ixS 85 86), gf 88 81 (.bin .neq 87 (.c (.int .u8 125))), o1 89 (.pick 81 kT 88), im 90 89, gf 91 90 (.mv 4), gf 92 90 (.bin .gtr
 91 (kI 100)), o1 93 (.pick 90 kT 92), im 94 93, gf 95 94 (.mv 7), gf 96 94 (.bin .gtr 95 (kI 100)), o1 97 (.pick 94 kT 96), im 98 97, gf 99 98 (.mv 7), gf 100 98 (.bin .geq 99 (kI
 0)), gf 101 98 (.mv 100), gt 102 101 (.mv 7), gt 103 101 (.mv 4), gt 104 101 (.bin .lss 102 103), gf 105 98 (.pick 101 104 kF), o1 106 (.pick 98 kT 105)]) (.cond 106 (.seq (.region
 [im 107 0, oS ⟨some 108, .call zS0 [107, (kI 40)], none⟩ Am]) (.seq (.region [ia 2 (kI 0), ia 3 (kI 0)]) .ret)) .skip)) (.seq
 (.region [im 109 0, im 110 5, o1 111 (.nilc 109), fa 112 1 111, o0 ⟨none, .store 1 112 110, none⟩]) (.seq (.region [im 113 4, im 114 7, ia 2 113, ia 3 114]) .ret)))))))
def CW : AFn := ⟨ VK, D6.erase, [.tmp 2, .tmp 3], 1⟩
def FN (P : Pg) (x : Ab) (K : (Int × Int) → Ab → Prop) : Prop :=
 Ag (D := (Int × (Int × Bool))) (fun J1 => (Fn P VJ B1 (x.1, (i64.wrap (x.2.1 + (1 : Int)))) (fun (d3 : (Int × (Int × Bool))) (e4 : Unit) => ((((((J1 d3) ∧ True) ∧ True) ∧ True) ∧ (((((J1 d3) ∧ True) ∧ True) ∧ ((((J1 d3) ∧ True) ∧ True) ∧ True)) ∧ True)) ∧ ((((((J1 d3) ∧ True) ∧ True) ∧ True) ∧ (((((J1 d3) ∧ True) ∧ True) ∧ True) ∧ True)) ∧ ((((((J1 d3) ∧ True) ∧ True) ∧ ((((J1 d3) ∧ True) ∧ True) ∧ True)) ∧ (((((J1 d3) ∧ True) ∧ True) ∧ True) ∧ True)) ∧ True))) ∧ (((((((J1 d3) ∧ True) ∧ True) ∧ True) ∧ (((((J1 d3) ∧ True) ∧ True) ∧ ((((J1 d3) ∧ True) ∧ True) ∧ True)) ∧ True)) ∧ ((((((J1 d3) ∧ True) ∧ True) ∧ True) ∧ True) ∧ True)) ∧ (((((((J1 d3) ∧ True) ∧ True) ∧ True) ∧ (((((J1 d3) ∧ True) ∧ True) ∧ True) ∧ True)) ∧ ((((((J1 d3) ∧ True) ∧ True) ∧ True) ∧ True) ∧ True)) ∧ True)))) ∧ True) (fun d2 => (((cond d2.2.2 (decide (d2.2.1 < (x.1.length : Int))) false) = true → 0 ≤ d2.2.1 ∧ d2.2.1 < (x.1.length : Int))) ∧
 Ag (D := (Int × (Bool × Int))) (fun J5 => (((cond (cond d2.2.2 (decide (d2.2.1 < (x.1.length : Int))) false) (((x.1.getD d2.2.1.toNat 0).toNat : Int) == (44 : Int)) false) = true → (((decide ((i64.wrap (d2.2.1 + (1 : Int))) < (x.1.length : Int))) = true → 0 ≤ (i64.wrap (d2.2.1 + (1 : Int))) ∧ (i64.wrap (d2.2.1 + (1 : Int))) < (x.1.length : Int))) ∧
 Ag (D := (Int × (Bool × Int))) (fun J7 => (((cond (decide ((i64.wrap (d2.2.1 + (1 : Int))) < (x.1.length : Int))) (((UInt8.toNat (List.getD x.1 (Int.toNat (i64.wrap (d2.2.1 + (1 : Int)))) 0) : Nat) : Int) != (125 : Int)) false) = true → Fn P VJ B1 (x.1, (i64.wrap (d2.2.1 + (1 : Int)))) (fun (d9 : (Int × (Int × Bool))) (e10 : Unit) => J7 (d9.2.1, (d9.2.2, d9.1)))) ∧ ((cond (decide ((i64.wrap (d2.2.1 + (1 : Int))) < (x.1.length : Int))) (((UInt8.toNat (List.getD x.1 (Int.toNat (i64.wrap (d2.2.1 + (1 : Int)))) 0) : Nat) : Int) != (125 : Int)) false) = false → J7 ((i64.wrap (d2.2.1 + (1 : Int))), (d2.2.2, (-1 : Int)))))) (fun d8 => J5 d8)) ∧ ((cond (cond d2.2.2 (decide (d2.2.1 < (x.1.length : Int))) false) (((x.1.getD d2.2.1.toNat 0).toNat : Int) == (44 : Int)) false) = false → J5 (d2.2.1, (d2.2.2, d2.1))))) (fun d6 => (((cond (!d6.2.1) true (decide (d6.1 ≥ (x.1.length : Int)))) = false → 0 ≤ d6.1 ∧ d6.1 < (x.1.length : Int))) ∧
 (((cond (cond (cond (cond (cond (!d6.2.1) true (decide (d6.1 ≥ (x.1.length : Int)))) true (((x.1.getD d6.1.toNat 0).toNat : Int) != (125 : Int))) true (decide (d2.1 > (100 : Int)))) true (decide (d6.2.2 > (100 : Int)))) true (cond (decide (d6.2.2 ≥ (0 : Int))) (decide (d6.2.2 < d2.1)) false)) = true → Fn P zS0 Am (x, (40 : Int)) (fun (d11 : Int) (e12 : Ab) => K ((0 : Int), (0 : Int)) e12)) ∧ ((cond (cond (cond (cond (cond (!d6.2.1) true (decide (d6.1 ≥ (x.1.length : Int)))) true (((x.1.getD d6.1.toNat 0).toNat : Int) != (125 : Int))) true (decide (d2.1 > (100 : Int)))) true (decide (d6.2.2 > (100 : Int)))) true (cond (decide (d6.2.2 ≥ (0 : Int))) (decide (d6.2.2 < d2.1)) false)) = false → K (d2.1, d6.2.2) (x.1, (d6.1, x.2.2))))))
theorem Jk {P : Pg} (h : Has P CW) {x : DP A6.ps} {K : DP A6.rs → DP (ptrs A6.ps) → Prop} (hw : FN P x K) : Fn P VK A6 x K :=
 BI (c := D6) h rfl rfl (by kernel_rfl) (Eq.mpr (show BC P CW A6 D6 x K = _ by kernel_rfl) hw)
end Go.VS
