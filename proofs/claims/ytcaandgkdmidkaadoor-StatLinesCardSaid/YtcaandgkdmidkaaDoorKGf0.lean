/- Functions of the program: typed code, and what it says, lifted. -/
import Derived.Test.YtcaandgkdmidkaaDoorKTxSig
import Derived.KernelRfl
set_option linter.unusedVariables false
set_option linter.unusedSimpArgs false
set_option maxRecDepth 8000
namespace Go.VS
open IntKind
def Io : B1 :=
 (.seq (.region [ia 4 (kI 0)]) (.seq (.region [im 5 0, o1 6 (.conv (.toInt .u64) 5), im 7 1, o1 8 (.conv (.toInt .u64) 7), o1 9 (.bin .rem 6 8), o1 10 (.conv (.toInt .i64) 9), ia 4
 10]) .ret))
def Gg : AFn := ⟨ zS1, Io.erase, [.tmp 4], 2⟩
def KL (P : Pg) (x : (Int × Int)) (K : Int → Unit → Prop) : Prop :=
 ((u64.wrap x.2) ≠ 0) ∧
 K (i64.wrap (Int.tmod (u64.wrap x.1) (u64.wrap x.2))) ()
theorem NJ {P : Pg} (h : Has P Gg) {x : DP Bg.ps} {K : DP Bg.rs → DP (ptrs Bg.ps) → Prop} (hw : KL P x K) : Fn P zS1 Bg x K :=
 FC (c := Io) h rfl rfl (by kernel_rfl) (Eq.mpr (show E4 P Gg Bg Io x K = _ by kernel_rfl) hw)
def EU : B1 :=
 (.seq (.region [o1 2 (.asg kF)]) (.seq (.region [im 3 0, o1 4 (.bin .geq 3 (kI 0)), im 5 4, gt 6 5 (.mv 0), gt 7 5 (.bin .leq 6 (kI 2147483647)), o1 8 (.pick 5 7 kF), ia 2 8])
 .ret))
def Dr : AFn := ⟨ zS0, EU.erase, [.tmp 2], 1⟩
def GF (P : Pg) (x : Int) (K : Bool → Unit → Prop) : Prop :=
 K (cond (decide (x ≥ (0 : Int))) (decide (x ≤ (2147483647 : Int))) false) ()
theorem Jx {P : Pg} (h : Has P Dr) {x : DP AD.ps} {K : DP AD.rs → DP (ptrs AD.ps) → Prop} (hw : GF P x K) : Fn P zS0 AD x K :=
 FC (c := EU) h rfl rfl (by kernel_rfl) (Eq.mpr (show E4 P Dr AD EU x K = _ by kernel_rfl) hw)
def Ft : B1 :=
 (.seq (.region [ia 4 (kI 0)]) (.seq (.seq (.region [im 5 0, o1 6 (.bin .eql 5 (kI 0))]) (.cond 6 (.seq (.region [ia 4 (kI 0)]) .ret) .skip)) (.seq (.region [im 7 0, ld 8 1, o1 9
 (.bin .sub 8 (kI 1)), o1 10 (.bin .mul 7 9), ld 11 2, o1 12 (.bin .quo 10 11), o1 13 (.bin .add (kI 1) 12), ia 4 13]) .ret)))
def DJ : AFn := ⟨ zS3, Ft.erase, [.tmp 4], 3⟩
def He (P : Pg) (x : (Int × (Int × Int))) (K : Int → (Int × Int) → Prop) : Prop :=
 (((x.1 == (0 : Int)) = true → K (0 : Int) x.2) ∧ ((x.1 == (0 : Int)) = false → (x.2.2 ≠ 0) ∧
 K (i64.wrap ((1 : Int) + (i64.wrap (Int.tdiv (i64.wrap (x.1 * (i64.wrap (x.2.1 - (1 : Int))))) x.2.2)))) x.2))
theorem Kw {P : Pg} (h : Has P DJ) {x : DP Bl.ps} {K : DP Bl.rs → DP (ptrs Bl.ps) → Prop} (hw : He P x K) : Fn P zS3 Bl x K :=
 FC (c := Ft) h rfl rfl (by kernel_rfl) (Eq.mpr (show E4 P DJ Bl Ft x K = _ by kernel_rfl) hw)
def G6 : B1 :=
 (.seq (.region [o1 6 (.box 2), o1 7 (.box 3), ia 8 (kI 0), ia 9 (kI 0)]) (.seq (.seq (.region [ld 13 6, ld 14 7, o1 15 (.bin .leq 13 14)]) (.cond 15 (.seq (.region [im 16 0, im 17
 1, ia 8 16, ia 9 17]) .ret) .skip)) (.seq (.region [o1 18 (.mkf (zS3, false) [7, 6]), ia 10 18]) (.seq (.region [im 19 10, im 20 0, im 21 1, o1 22 (.bin .add 20
 21), oS ⟨some 23, .callv 19 [22], none⟩ Bl, ia 11 23]) (.seq (.seq (.region [im 24 0, o1 25 (.bin .gtr 24 (kI 0)), im 26 25, gt 27 26 (.mv 1), gt 28 26 (.bin .gtr 27 (kI
 0)), o1 29 (.pick 26 28 kF)]) (.frame [11, 30, 31] [] false (.join [.si 11] (.cond 29 (.region [im 30 11, o1 31 (.mm true 30 (kI 2)), ia 11 31]) .skip)))) (.seq (.region [im 32 10,
 im 33 0, im 34 1, o1 35 (.mm false 33 34), oS ⟨some 36, .callv 32 [35], none⟩ Bl, ia 12 36]) (.seq (.seq (.region [im 37 0, im 38 1, o1 39 (.bin .leq 37 38)]) (.cond 39
 (.seq (.region [im 40 12, im 41 11, im 42 12, o1 43 (.bin .sub 41 42), ia 8 40, ia 9 43]) .ret) .skip)) (.seq (.region [im 44 11, im 45 12, o1 46 (.bin .sub 44 45), im 47 12, ia 8
 46, ia 9 47]) .ret))))))))
def Fg : AFn := ⟨ zS6, G6.erase, [.tmp 8, .tmp 9], 4⟩
def Jf (P : Pg) (x : Change) (K : (Int × Int) → Unit → Prop) : Prop :=
 (((decide (x.2.2.1 ≤ x.2.2.2)) = true → K (x.1, x.2.1) ()) ∧ ((decide (x.2.2.1 ≤ x.2.2.2)) = false → Fn P zS3 Bl ((i64.wrap (x.1 + x.2.1)), (x.2.2.2, x.2.2.1)) (fun (d1 : Int) (e2 : (Int × Int)) => BI (D := Int) (fun J3 => (((cond (decide (x.1 > (0 : Int))) (decide (x.2.1 > (0 : Int))) false) = true → J3 (if (2 : Int) > d1 then (2 : Int) else d1)) ∧ ((cond (decide (x.1 > (0 : Int))) (decide (x.2.1 > (0 : Int))) false) = false → J3 d1))) (fun d4 => Fn P zS3 Bl ((if x.2.1 < x.1 then x.2.1 else x.1), e2) (fun (d5 : Int) (e6 : (Int × Int)) => (((decide (x.1 ≤ x.2.1)) = true → K (d5, (i64.wrap (d4 - d5))) ()) ∧ ((decide (x.1 ≤ x.2.1)) = false → K ((i64.wrap (d4 - d5)), d5) ())))))))
theorem Mw {P : Pg} (h : Has P Fg) {x : DP BQ.ps} {K : DP BQ.rs → DP (ptrs BQ.ps) → Prop} (hw : Jf P x K) : Fn P zS6 BQ x K :=
 FC (c := G6) h rfl rfl (by kernel_rfl) (Eq.mpr (show E4 P Fg BQ G6 x K = _ by kernel_rfl) hw)
def G5 : B1 :=
 (.seq (.region [ia 8 (kI 0), ia 9 (kI 0), ia 10 (kI 0)]) (.seq (.seq (.region [im 13 3, o1 14 (.bin .lss 13 (kI 2)), im 15 14, gf 16 15 (.mv 3), gf 17 15 (.bin .gtr 16 (kI 1000)),
 o1 18 (.pick 15 kT 17), im 19 18, gf 20 19 (.mv 0), oS ⟨some 21, .call zS0 [20], some (19, false)⟩ AD, gf 22 19 (.un .not 21), o1 23 (.pick 19 kT
 22), im 24 23, gf 25 24 (.mv 1), oS ⟨some 26, .call zS0 [25], some (24, false)⟩ AD, gf 27 24 (.un .not 26), o1 28 (.pick 24 kT 27), im 29 28, gf 30
 29 (.mv 2), oS ⟨some 31, .call zS0 [30], some (29, false)⟩ AD, gf 32 29 (.un .not 31), o1 33 (.pick 29 kT 32), im 34 33, gf 35 34 (.mv 2), gf 36 34
 (.mv 0), gf 37 34 (.mv 1), gf 38 34 (.bin .add 36 37), gf 39 34 (.bin .lss 35 38), o1 40 (.pick 34 kT 39)]) (.cond 40 (.seq (.region [ia 8 (kI 0), ia 9 (kI 0), ia 10 (kI 3)]) .ret)
 .skip)) (.seq (.region [im 42 0, im 43 1, im 44 2, im 45 3, oS ⟨some 46, .call zS6 [42, 43, 44, 45], none⟩ BQ, im 41 46, o1 47 (.ext 41 0), o1 48 (.ext 41
 1), ia 11 47, ia 12 48]) (.seq (.region [im 49 11, im 50 12, ia 8 49, ia 9 50, ia 10 (kI 0)]) .ret))))
def Ff : AFn := ⟨ zS4, G5.erase, [.tmp 8, .tmp 9, .tmp 10], 4⟩
def Je (P : Pg) (x : Change) (K : (Int × (Int × Int)) → Unit → Prop) : Prop :=
 BI (D := Bool) (fun J1 => (((cond (decide (x.2.2.2 < (2 : Int))) true (decide (x.2.2.2 > (1000 : Int)))) = false → Fn P zS0 AD x.1 (fun (d2 : Bool) _ => J1 d2)) ∧ (((cond (decide (x.2.2.2 < (2 : Int))) true (decide (x.2.2.2 > (1000 : Int)))) = true → J1 false) ∧ True))) (fun d3 => BI (D := Bool) (fun J4 => (((cond (cond (decide (x.2.2.2 < (2 : Int))) true (decide (x.2.2.2 > (1000 : Int)))) true (!d3)) = false → Fn P zS0 AD x.2.1 (fun (d5 : Bool) _ => J4 d5)) ∧ (((cond (cond (decide (x.2.2.2 < (2 : Int))) true (decide (x.2.2.2 > (1000 : Int)))) true (!d3)) = true → J4 false) ∧ True))) (fun d6 => BI (D := Bool) (fun J7 => (((cond (cond (cond (decide (x.2.2.2 < (2 : Int))) true (decide (x.2.2.2 > (1000 : Int)))) true (!d3)) true (!d6)) = false → Fn P zS0 AD x.2.2.1 (fun (d8 : Bool) _ => J7 d8)) ∧ (((cond (cond (cond (decide (x.2.2.2 < (2 : Int))) true (decide (x.2.2.2 > (1000 : Int)))) true (!d3)) true (!d6)) = true → J7 false) ∧ True))) (fun d9 => (((cond (cond (cond (cond (cond (decide (x.2.2.2 < (2 : Int))) true (decide (x.2.2.2 > (1000 : Int)))) true (!d3)) true (!d6)) true (!d9)) true (decide (x.2.2.1 < (i64.wrap (x.1 + x.2.1))))) = true → K ((0 : Int), ((0 : Int), (3 : Int))) ()) ∧ ((cond (cond (cond (cond (cond (decide (x.2.2.2 < (2 : Int))) true (decide (x.2.2.2 > (1000 : Int)))) true (!d3)) true (!d6)) true (!d9)) true (decide (x.2.2.1 < (i64.wrap (x.1 + x.2.1))))) = false → Fn P zS6 BQ x (fun (d10 : (Int × Int)) (e11 : Unit) => K (d10.1, (d10.2, (0 : Int))) ()))))))
theorem Mv {P : Pg} (h : Has P Ff) {x : DP Bh.ps} {K : DP Bh.rs → DP (ptrs Bh.ps) → Prop} (hw : Je P x K) : Fn P zS4 Bh x K :=
 FC (c := G5) h rfl rfl (by kernel_rfl) (Eq.mpr (show E4 P Ff Bh G5 x K = _ by kernel_rfl) hw)
def ER : B1 :=
 (.seq (.region [o1 0 (.asg kF)]) (.seq (.region [oS ⟨some 7, .call zS4 [(kI 60), (kI 40), (kI 100), (kI 10)], none⟩ Bh, im 6 7, o1 8 (.ext 6 0), o1 9 (.ext
 6 1), o1 10 (.ext 6 2), ia 1 8, ia 2 9, ia 3 10]) (.seq (.region [o1 12 (.build [(.string ⟨#[]⟩), (.int .i64 0), (.int .i64 0)] [(0, 1, (.c (.string ⟨#[120]⟩))), (1, 1, (kI 1)),
 (2, 1, (kI 2))]), oT ⟨some 13, .buildSl 3 [(.string ⟨#[]⟩), (.int .i64 0), (.int .i64 0)] 1 [(0, 12)], none⟩ (some (FA, .leaf)), oS ⟨some 14, .call zS7 [13,
 (kI 10)], none⟩ Dt, im 11 14, o1 15 (.ext 11 0), o1 16 (.ext 11 1), ia 4 15, ia 5 16]) (.seq (.region [im 17 3, o1 18 (.bin .eql 17 (kI 0)), im 19 18, gt 20 19 (.mv 5),
 gt 21 19 (.bin .eql 20 (kI 0)), o1 22 (.pick 19 21 kF), im 23 22, gt 24 23 (.mv 1), gt 25 23 (.bin .eql 24 (kI 6)), o1 26 (.pick 23 25 kF), im 27 26, gt 28 27 (.mv 2), gt 29 27
 (.bin .eql 28 (kI 4)), o1 30 (.pick 27 29 kF), im 31 30, gt 32 31 (.mv 4), o0 ⟨some 33, .bin .eql 32 (.c (.string ⟨#[32, 120, 32, 124, 32, 51, 32, 43, 45, 45, 10, 32, 49, 32, 102,
 105, 108, 101, 115, 44, 32, 49, 32, 97, 100, 100, 101, 100, 44, 32, 50, 32, 114, 101, 109, 111, 118, 101, 100, 10]⟩)), some (31, true)⟩, o1 34 (.pick 31 33 kF), ia 0 34]) .ret))))
def Dn : AFn := ⟨ zS5, ER.erase, [.tmp 0], 0⟩
def GB (P : Pg) (x : Unit) (K : Bool → Unit → Prop) : Prop :=
 Fn P zS4 Bh ((60 : Int), ((40 : Int), ((100 : Int), (10 : Int)))) (fun (d1 : (Int × (Int × Int))) (e2 : Unit) => Fn P zS7 Dt (([(([120] : List UInt8), ((1 : Int), (2 : Int)))] : List Stat), (10 : Int)) (fun (d3 : ((List UInt8) × Int)) (e4 : Unit) => K (cond (cond (cond (cond (d1.2.2 == (0 : Int)) (d3.2 == (0 : Int)) false) (d1.1 == (6 : Int)) false) (d1.2.1 == (4 : Int)) false) (d3.1 == ([32, 120, 32, 124, 32, 51, 32, 43, 45, 45, 10, 32, 49, 32, 102, 105, 108, 101, 115, 44, 32, 49, 32, 97, 100, 100, 101, 100, 44, 32, 50, 32, 114, 101, 109, 111, 118, 101, 100, 10] : List UInt8)) false) ()))
theorem Ju {P : Pg} (h : Has P Dn) {x : DP Bk.ps} {K : DP Bk.rs → DP (ptrs Bk.ps) → Prop} (hw : GB P x K) : Fn P zS5 Bk x K :=
 FC (c := ER) h rfl rfl (by kernel_rfl) (Eq.mpr (show E4 P Dn Bk ER x K = _ by kernel_rfl) hw)
def TP : B1 :=
 (.seq (.region [o1 2 (.asg (.c (.string ⟨#[]⟩)))]) (.seq (.region [oT ⟨some 3, .buildSl 1 [(.string ⟨#[]⟩)] 10 [(0, (.c (.string ⟨#[97]⟩))), (1, (.c (.string ⟨#[98]⟩))), (2, (.c
 (.string ⟨#[99]⟩))), (3, (.c (.string ⟨#[97, 98]⟩))), (4, (.c (.string ⟨#[98, 97]⟩))), (5, (.c (.string ⟨#[]⟩))), (6, (.c (.string ⟨#[97, 97]⟩))), (7, (.c (.string ⟨#[98, 32,
 97]⟩))), (8, (.c (.string ⟨#[120, 43, 121]⟩))), (9, (.c (.string ⟨#[92]⟩)))], none⟩ (some (.str, .leaf)), im 4 0, oS ⟨some 5, .call zS1 [4, (kI 10)], none⟩
 Bg, o1 6 (.ixA 1 3 5), ld 7 6, ia 2 7]) .ret))
def TH : AFn := ⟨ zS8, TP.erase, [.tmp 2], 1⟩
abbrev TJ : List (List UInt8) := ([([97] : List UInt8), ([98] : List UInt8), ([99] : List UInt8), ([97, 98] : List UInt8), ([98, 97] : List UInt8), ([] : List UInt8), ([97, 97] : List UInt8), ([98, 32, 97] : List UInt8), ([120, 43, 121] : List UInt8), ([92] : List UInt8)] : List (List UInt8))
def TY (P : Pg) (x : Int) (K : (List UInt8) → Unit → Prop) : Prop :=
 Fn P zS1 Bg (x, (10 : Int)) (fun (d1 : Int) (e2 : Unit) => (0 ≤ d1 ∧ d1 < ((List.length TJ : Nat) : Int)) ∧
 (d1.toNat < List.length TJ) ∧
 K (List.getD TJ d1.toNat []) ())
theorem Uh {P : Pg} (h : Has P TH) {x : DP Ty.ps} {K : DP Ty.rs → DP (ptrs Ty.ps) → Prop} (hw : TY P x K) : Fn P zS8 Ty x K :=
 FC (c := TP) h rfl rfl (by kernel_rfl) (Eq.mpr (show E4 P TH Ty TP x K = _ by kernel_rfl) hw)
def T5 : B1 :=
 (.seq (.region [ia 4 (kI 0)]) (.seq (.region [im 6 1, o1 7 (.bin .add 6 (kI 1)), o1 8 (.conv (.toInt .u64) 7), o1 9 (.bin .mul 8 (.c (.int .u64 11400714819323198485))), ia 5 9])
 (.seq (.seq (.region [im 10 0, o1 11 (.lenK 10), o1 12 (.bin .gtr 11 (kI 0))]) (.frame (rg [5] 13 10) [] false (.join [.sl 5 false (.int .u64) .leaf] (.cond 12 (.region [im 13 5,
 im 14 0, im 15 1, im 16 0, o1 17 (.lenK 16), o1 18 (.bin .rem 15 17), o1 19 (.ixA 1 14 18), ld 20 19, o1 21 (.conv (.toInt .u64) 20), o1 22 (.bin .xor 13 21), ia 5 22]) .skip))))
 (.seq (.region [im 23 5, im 24 5, o1 25 (.bin .shr 24 (.c (.int .u64 31))), o1 26 (.bin .xor 23 25), o1 27 (.bin .mul 26 (.c (.int .u64 13787848793156543929))), ia 5 27]) (.seq
 (.region [im 28 5, im 29 5, o1 30 (.bin .shr 29 (.c (.int .u64 29))), o1 31 (.bin .xor 28 30), o1 32 (.bin .shr 31 (.c (.int .u64 1))), o1 33 (.conv (.toInt .i64) 32), ia 4 33])
 .ret)))))
def TQ : AFn := ⟨ zS2, T5.erase, [.tmp 4], 2⟩
def Ue (P : Pg) (x : ((List Int) × Int)) (K : Int → Unit → Prop) : Prop :=
 BI (D := Int) (fun J1 => (((decide ((x.1.length : Int) > (0 : Int))) = true → ((x.1.length : Int) ≠ 0) ∧
 (0 ≤ (Int.tmod x.2 (x.1.length : Int)) ∧ (Int.tmod x.2 (x.1.length : Int)) < (x.1.length : Int)) ∧
 ((Int.toNat (Int.tmod x.2 (x.1.length : Int))) < x.1.length) ∧
 J1 (u64.wrap ((BitVec.toNat (BitVec.ofInt u64.bits (u64.wrap ((u64.wrap (i64.wrap (x.2 + (1 : Int)))) * (11400714819323198485 : Int))) ^^^ BitVec.ofInt u64.bits (u64.wrap (List.getD x.1 (Int.toNat (Int.tmod x.2 (x.1.length : Int))) (0 : Int)))) : Nat) : Int))) ∧ ((decide ((x.1.length : Int) > (0 : Int))) = false → J1 (u64.wrap ((u64.wrap (i64.wrap (x.2 + (1 : Int)))) * (11400714819323198485 : Int)))))) (fun d2 => (0 ≤ (31 : Int)) ∧
 (0 ≤ (29 : Int)) ∧
 (0 ≤ (1 : Int)) ∧
 K (i64.wrap (Int.fdiv (u64.wrap ((BitVec.toNat (BitVec.ofInt u64.bits (u64.wrap ((u64.wrap ((BitVec.toNat (BitVec.ofInt u64.bits d2 ^^^ BitVec.ofInt u64.bits (Int.fdiv d2 (2 ^ (min (Int.toNat (31 : Int)) u64.bits)))) : Nat) : Int)) * (13787848793156543929 : Int))) ^^^ BitVec.ofInt u64.bits (Int.fdiv (u64.wrap ((u64.wrap ((BitVec.toNat (BitVec.ofInt u64.bits d2 ^^^ BitVec.ofInt u64.bits (Int.fdiv d2 (2 ^ (min (Int.toNat (31 : Int)) u64.bits)))) : Nat) : Int)) * (13787848793156543929 : Int))) (2 ^ (min (Int.toNat (29 : Int)) u64.bits)))) : Nat) : Int)) (2 ^ (min (Int.toNat (1 : Int)) u64.bits)))) ())
theorem Uu {P : Pg} (h : Has P TQ) {x : DP Tx.ps} {K : DP Tx.rs → DP (ptrs Tx.ps) → Prop} (hw : Ue P x K) : Fn P zS2 Tx x K :=
 FC (c := T5) h rfl rfl (by kernel_rfl) (Eq.mpr (show E4 P TQ Tx T5 x K = _ by kernel_rfl) hw)
def TG : B1 :=
 (.seq (.region [o1 2 (.asg (.c (.slice none 0 0)))]) (.seq (.region [o1 3 (.asg (.c (.slice none 0 0)))]) (.seq (.region [ia 4 (kI 0)]) (.seq (.seq (.region [ia 5 (kI 0)]) (.frame
 (rg [] 3 30) [] false (.join [.sl 3 false (.sl .str) tO] (.block 0 (.loop [.sl 3 false (.sl .str) tO, .si 4, .si 5] (.seq (.seq (.region [im 6 5, im 7 0, o1 8 (.MJ 7), o1 9 (.bin
 .lss 6 8)]) (.cond 9 .skip (.exit 0))) (.seq (.frame (rg [3, 4] 12 21) [] false (.join [.sl 3 false (.sl .str) tO, .si 4] (.block 1 (.seq (.region [im 12 0, im 13 5, o1 14 (.ixS 12
 13), o1 15 (.bin .eql 14 (.c (.int .u8 10))), im 16 15, gf 17 16 (.mv 5), gf 18 16 (.bin .add 17 (kI 1)), gf 19 16 (.mv 0), gf 20 16 (.MJ 19), gf 21 16 (.bin .eql 18 20), o1 22
 (.pick 16 kT 21)]) (.frame (rg [3, 4] 23 10) [] false (.join [.sl 3 false (.sl .str) tO, .si 4] (.cond 22 (.seq (.region [im 23 3, im 24 0, im 25 4, im 26 5, o1 27 (.bin .add 26
 (kI 1)), o1 28 (.slS 24 (some 25) (some 27)), oT ⟨some 29, .buildSl 1 [(.string ⟨#[]⟩)] 1 [(0, 28)], none⟩ (some (.str, .leaf)), oT ⟨some 30, .app 1 16 23 29, none⟩ (some (.str,
 .leaf)), ia 3 30]) (.region [im 31 5, o1 32 (.bin .add 31 (kI 1)), ia 4 32])) .skip))))))) (.region [im 10 5, o1 11 (.bin .add 10 (kI 1)), ia 5 11])))))))) (.seq (.region [im 33 3,
 ia 2 33]) .ret)))))
def TD : AFn := ⟨ zS9, TG.erase, [.tmp 2], 1⟩
def TM (P : Pg) (x : (List UInt8)) (K : (List (List UInt8)) → Unit → Prop) : Prop :=
 BI (D := (List (List UInt8))) (fun J1 => Mb (D := ((List (List UInt8)) × (Int × Int))) ([], ((0 : Int), (0 : Int))) (fun d3 J4 => (((decide (d3.2.2 < (x.length : Int))) = true → BI (D := ((List (List UInt8)) × Int)) (fun J5 => (0 ≤ d3.2.2 ∧ d3.2.2 < (x.length : Int)) ∧
 BI (D := ((List (List UInt8)) × Int)) (fun J7 => (((cond (((x.getD d3.2.2.toNat 0).toNat : Int) == (10 : Int)) true ((i64.wrap (d3.2.2 + (1 : Int))) == (x.length : Int))) = true → (0 ≤ d3.2.1 ∧ d3.2.1 ≤ (i64.wrap (d3.2.2 + (1 : Int))) ∧ (i64.wrap (d3.2.2 + (1 : Int))) ≤ (x.length : Int)) ∧
 ((d3.1.length + List.length ([(List.drop d3.2.1.toNat (List.take (Int.toNat (i64.wrap (d3.2.2 + (1 : Int)))) x))] : List (List UInt8))) * 16 ≤ 140737488355328) ∧
 J7 ((d3.1 ++ ([(List.drop d3.2.1.toNat (List.take (Int.toNat (i64.wrap (d3.2.2 + (1 : Int)))) x))] : List (List UInt8))), (i64.wrap (d3.2.2 + (1 : Int))))) ∧ ((cond (((x.getD d3.2.2.toNat 0).toNat : Int) == (10 : Int)) true ((i64.wrap (d3.2.2 + (1 : Int))) == (x.length : Int))) = false → J7 (d3.1, d3.2.1)))) (fun d8 => J5 d8)) (fun d6 => J4 (d6.1, (d6.2, (i64.wrap (d3.2.2 + (1 : Int))))))) ∧ ((decide (d3.2.2 < (x.length : Int))) = false → J1 d3.1)))) (fun d2 => K d2 ())
theorem T3 {P : Pg} (h : Has P TD) {x : DP Tv.ps} {K : DP Tv.rs → DP (ptrs Tv.ps) → Prop} (hw : TM P x K) : Fn P zS9 Tv x K :=
 FC (c := TG) h rfl rfl (by kernel_rfl) (Eq.mpr (show E4 P TD Tv TG x K = _ by kernel_rfl) hw)
def TF : B1 :=
 (.seq (.region [o1 2 (.asg kF)]) (.seq (.region [im 3 0, o1 4 (.bin .neq 3 (.c (.string ⟨#[]⟩))), im 5 4, gt 6 5 (.mv 0), gt 7 5 (.mv 0), gt 8 5 (.MJ 7), gt 9 5 (.bin .sub 8 (kI
 1)), gt 10 5 (.ixS 6 9), gt 11 5 (.bin .eql 10 (.c (.int .u8 10))), o1 12 (.pick 5 11 kF), ia 2 12]) .ret))
def TA : AFn := ⟨ UC, TF.erase, [.tmp 2], 1⟩
def TL (P : Pg) (x : (List UInt8)) (K : Bool → Unit → Prop) : Prop :=
 (((!(x == ([] : List UInt8))) = true → 0 ≤ (i64.wrap ((x.length : Int) - (1 : Int))) ∧ (i64.wrap ((x.length : Int) - (1 : Int))) < (x.length : Int))) ∧
 K (cond (!(x == ([] : List UInt8))) (((UInt8.toNat (List.getD x (Int.toNat (i64.wrap ((x.length : Int) - (1 : Int)))) 0) : Nat) : Int) == (10 : Int)) false) ()
theorem T2 {P : Pg} (h : Has P TA) {x : DP Tu.ps} {K : DP Tu.rs → DP (ptrs Tu.ps) → Prop} (hw : TL P x K) : Fn P UC Tu x K :=
 FC (c := TF) h rfl rfl (by kernel_rfl) (Eq.mpr (show E4 P TA Tu TF x K = _ by kernel_rfl) hw)
def Tz : B1 :=
 (.seq (.region [o1 6 (.asg kF)]) (.seq (.region [o1 7 (.asg (.c (.slice none 0 0)))]) (.seq (.seq (.region [ia 8 (kI 0)]) (.frame (rg [7, 8] 13 23) [] false (.join [.sl 7 false
 (.sl FA) tO] (.block 0 (.loop [.sl 7 false (.sl FA) tO, .si 8] (.seq (.seq (.region [im 13 8, im 14 1, oS ⟨some 15, .call zS1 [14, (kI 6)], none⟩
 Bg, o1 16 (.bin .lss 13 15)]) (.cond 16 .skip (.exit 0))) (.seq (.frame (rg [7] 19 17) [] false (.join [.sl 7 false (.sl FA) tO] (.block 1 (.region [im 19 7, im 20 8, oS
 ⟨some 21, .call zS8 [20], none⟩ Ty, im 22 0, im 23 8, o1 24 (.bin .mul (kI 2) 23), oS ⟨some 25, .call zS2 [22, 24], none⟩
 Tx, oS ⟨some 26, .call zS1 [25, (kI 50)], none⟩ Bg, im 27 0, im 28 8, o1 29 (.bin .mul (kI 2) 28), o1 30 (.bin .add 29 (kI 1)), oS ⟨some 31,
 .call zS2 [27, 30], none⟩ Tx, oS ⟨some 32, .call zS1 [31, (kI 30)], none⟩ Bg, o1 33 (.build [(.string ⟨#[]⟩), (.int
 .i64 0), (.int .i64 0)] [(0, 1, 21), (1, 1, 26), (2, 1, 32)]), oT ⟨some 34, .buildSl 3 [(.string ⟨#[]⟩), (.int .i64 0), (.int .i64 0)] 1 [(0, 33)], none⟩ (some (FA, .leaf)), oT
 ⟨some 35, .app 3 32 19 34, none⟩ (some (FA, .leaf)), ia 7 35])))) (.region [im 17 8, o1 18 (.bin .add 17 (kI 1)), ia 8 18])))))))) (.seq (.region [im 37 7, im 38 2, oS ⟨some 39,
 .call zS1 [38, (kI 60)], none⟩ Bg, o1 40 (.bin .add (kI 2) 39), oS ⟨some 41, .call zS7 [37, 40], none⟩ Dt, im 36 41,
 o1 42 (.ext 36 0), o1 43 (.ext 36 1), ia 9 42, ia 10 43]) (.seq (.region [im 44 9, oS ⟨some 45, .call zS9 [44], none⟩ Tv, ia 11 45]) (.seq
 (.seq (.region [im 46 10, o1 47 (.bin .neq 46 (kI 0)), im 48 47, gf 49 48 (.mv 11), gf 50 48 (.lenK 49), gf 51 48 (.mv 7), gf 52 48 (.lenK 51), gf 53 48 (.bin .add 52 (kI 1)), gf
 54 48 (.bin .neq 50 53), o1 55 (.pick 48 kT 54)]) (.cond 55 (.seq (.region [o1 6 (.asg kF)]) .ret) .skip)) (.seq (.seq (.region [ia 12 (kI 0)]) (.frame (rg [6, 12] 56 20) [] false
 (.join [.sl 6 false .bool .leaf] (.block 2 (.loop [.sl 6 false .bool .leaf, .si 12] (.seq (.seq (.region [im 56 12, im 57 11, o1 58 (.lenK 57), o1 59 (.bin .lss 56 58)]) (.cond 59
 .skip (.exit 2))) (.seq (.frame (rg [6] 62 14) [] false (.join [.sl 6 false .bool .leaf] (.block 3 (.seq (.region [im 62 11, im 63 12, o1 64 (.ixA 1 62 63), ld 65 64, o1 66 (.ixS
 65 (kI 0)), o1 67 (.bin .neq 66 (.c (.int .u8 32))), im 68 67, gf 69 68 (.mv 11), gf 70 68 (.mv 12), gf 71 68 (.ixA 1 69 70), gf 72 68 (.load false 1 71), oS ⟨some 73, .call
 UC [72], some (68, false)⟩ Tu, gf 74 68 (.un .not 73), o1 75 (.pick 68 kT 74)]) (.cond 75 (.seq (.region [o1 6 (.asg kF)]) .ret) .skip)))))
 (.region [im 60 12, o1 61 (.bin .add 60 (kI 1)), ia 12 61])))))))) (.seq (.region [oS ⟨some 76, .call zS5 [], none⟩ Bk, ia 6 76])
 .ret))))))))
def Tw : AFn := ⟨ UF, Tz.erase, [.tmp 6], 3⟩
def TE (P : Pg) (x : ((List Int) × (Int × Int))) (K : Bool → Unit → Prop) : Prop :=
 BI (D := (List Stat)) (fun J1 => Mb (D := ((List Stat) × Int)) ([], (0 : Int)) (fun d3 J4 => Fn P zS1 Bg (x.2.1, (6 : Int)) (fun (d5 : Int) (e6 : Unit) => (((decide (d3.2 < d5)) = true → BI (D := (List Stat)) (fun J7 => Fn P zS8 Ty d3.2 (fun (d9 : (List UInt8)) (e10 : Unit) => Fn P zS2 Tx (x.1, (i64.wrap ((2 : Int) * d3.2))) (fun (d11 : Int) (e12 : Unit) => Fn P zS1 Bg (d11, (50 : Int)) (fun (d13 : Int) (e14 : Unit) => Fn P zS2 Tx (x.1, (i64.wrap ((i64.wrap ((2 : Int) * d3.2)) + (1 : Int)))) (fun (d15 : Int) (e16 : Unit) => Fn P zS1 Bg (d15, (30 : Int)) (fun (d17 : Int) (e18 : Unit) => ((d3.1.length + List.length ([(d9, (d13, d17))] : List Stat)) * 32 ≤ 140737488355328) ∧
 J7 (d3.1 ++ ([(d9, (d13, d17))] : List Stat)))))))) (fun d8 => J4 (d8, (i64.wrap (d3.2 + (1 : Int)))))) ∧ ((decide (d3.2 < d5)) = false → J1 d3.1))))) (fun d2 => Fn P zS1 Bg (x.2.2, (60 : Int)) (fun (d19 : Int) (e20 : Unit) => Fn P zS7 Dt (d2, (i64.wrap ((2 : Int) + d19))) (fun (d21 : ((List UInt8) × Int)) (e22 : Unit) => Fn P zS9 Tv d21.1 (fun (d23 : (List (List UInt8))) (e24 : Unit) => (((cond (d21.2 != (0 : Int)) true ((d23.length : Int) != (i64.wrap ((d2.length : Int) + (1 : Int))))) = true → K false ()) ∧ ((cond (d21.2 != (0 : Int)) true ((d23.length : Int) != (i64.wrap ((d2.length : Int) + (1 : Int))))) = false → BI (D := Bool) (fun J25 => Mb (D := (Bool × Int)) (false, (0 : Int)) (fun d27 J28 => (((decide (d27.2 < (d23.length : Int))) = true → BI (D := Bool) (fun J29 => (0 ≤ d27.2 ∧ d27.2 < (d23.length : Int)) ∧
 (d27.2.toNat < d23.length) ∧
 (0 ≤ (0 : Int) ∧ (0 : Int) < ((List.length (List.getD d23 d27.2.toNat []) : Nat) : Int)) ∧
 (((((UInt8.toNat (List.getD (List.getD d23 d27.2.toNat []) (Int.toNat (0 : Int)) 0) : Nat) : Int) != (32 : Int)) = false → 0 ≤ d27.2 ∧ d27.2 < (d23.length : Int))) ∧
 (((((UInt8.toNat (List.getD (List.getD d23 d27.2.toNat []) (Int.toNat (0 : Int)) 0) : Nat) : Int) != (32 : Int)) = false → d27.2.toNat < d23.length)) ∧
 BI (D := Bool) (fun J31 => (((((UInt8.toNat (List.getD (List.getD d23 d27.2.toNat []) (Int.toNat (0 : Int)) 0) : Nat) : Int) != (32 : Int)) = false → Fn P UC Tu (List.getD d23 d27.2.toNat []) (fun (d32 : Bool) _ => J31 d32)) ∧ (((((UInt8.toNat (List.getD (List.getD d23 d27.2.toNat []) (Int.toNat (0 : Int)) 0) : Nat) : Int) != (32 : Int)) = true → J31 false) ∧ True))) (fun d33 => (((cond (((UInt8.toNat (List.getD (List.getD d23 d27.2.toNat []) (Int.toNat (0 : Int)) 0) : Nat) : Int) != (32 : Int)) true (!d33)) = true → K false ()) ∧ ((cond (((UInt8.toNat (List.getD (List.getD d23 d27.2.toNat []) (Int.toNat (0 : Int)) 0) : Nat) : Int) != (32 : Int)) true (!d33)) = false → J29 d27.1)))) (fun d30 => J28 (d30, (i64.wrap (d27.2 + (1 : Int)))))) ∧ ((decide (d27.2 < (d23.length : Int))) = false → J25 d27.1)))) (fun d26 => Fn P zS5 Bk () (fun (d34 : Bool) (e35 : Unit) => K d34 ()))))))))
theorem TO {P : Pg} (h : Has P Tw) {x : DP Tt.ps} {K : DP Tt.rs → DP (ptrs Tt.ps) → Prop} (hw : TE P x K) : Fn P UF Tt x K :=
 FC (c := Tz) h rfl rfl (by kernel_rfl) (Eq.mpr (show E4 P Tw Tt Tz x K = _ by kernel_rfl) hw)
def EV : B1 :=
 (.seq (.region [ia 2 (kI 0), ia 3 (kI 0), ia 4 (kI 0), o1 5 (.asg kF)]) (.seq (.seq (.region [im 8 0, o1 9 (.lenK 8), o1 10 (.mv (kI 0))]) (.frame (rg [2, 3, 4, 5, 7] 10 35) [1007]
 false (.join [.si 2, .si 3, .si 4, .sl 5 false .bool .leaf] (.block 0 (.loop [.si 2, .si 3, .si 4, .sl 5 false .bool .leaf, .si 10] (.seq (.region [o1 11 (.bin .lss 10 9)]) (.seq
 (.cond 11 .skip (.exit 0)) (.seq (.frame (rg [2, 3, 4, 5, 7] 12 32) [1007] false (.join [.si 2, .si 3, .si 4, .sl 5 false .bool .leaf] (.block 1 (.seq (.region [o1 12 (.ixA 3 8
 10), o1 13 (.load true 3 12), o1 7 (.alloc [(.string ⟨#[]⟩), (.int .i64 0), (.int .i64 0)]), o0 ⟨none, .store 3 7 13, none⟩]) (.seq (.seq (.region [fa 14 1 7, ld 15 14, oS ⟨some
 16, .call zS0 [15], none⟩ AD, o1 17 (.un .not 16), im 18 17, gf 19 18 (.fAddr 2 7), gf 20 18 (.load false 1 19), oS ⟨some 21, .call
 zS0 [20], some (18, false)⟩ AD, gf 22 18 (.un .not 21), o1 23 (.pick 18 kT 22)]) (.cond 23 (.seq (.region [ia 2 (kI 0), ia 3 (kI 0), ia 4 (kI 0), o1
 5 (.asg kF)]) .ret) .skip)) (.seq (.region [im 24 2, fa 25 1 7, ld 26 25, o1 27 (.bin .add 24 26), ia 2 27]) (.seq (.region [im 28 3, fa 29 2 7, ld 30 29, o1 31 (.bin .add 28 30),
 ia 3 31]) (.seq (.seq (.region [im 32 2, im 33 3, o1 34 (.bin .add 32 33), oS ⟨some 35, .call zS0 [34], none⟩ AD, o1 36 (.un .not 35)]) (.cond 36
 (.seq (.region [ia 2 (kI 0), ia 3 (kI 0), ia 4 (kI 0), o1 5 (.asg kF)]) .ret) .skip)) (.region [im 37 4, fa 38 1 7, ld 39 38, fa 40 2 7, ld 41 40, o1 42 (.bin .add 39 41), o1 43
 (.mm true 37 42), ia 4 43]))))))))) (.region [o1 44 (.bin .add 10 (kI 1)), im 10 44]))))))))) (.seq (.region [im 45 2, im 46 3, im 47 4, ia 2 45, ia 3 46, ia 4 47, o1 5 (.asg kT)])
 .ret)))
def Ds : AFn := ⟨ "mergelens/stat.totals", EV.erase, [.tmp 2, .tmp 3, .tmp 4, .tmp 5], 1⟩
def GG (P : Pg) (x : (List Stat)) (K : (Int × (Int × (Int × Bool))) → Unit → Prop) : Prop :=
 BI (D := (Int × (Int × (Int × Bool)))) (fun J1 => Mb (D := (Int × (Int × (Int × (Bool × Int))))) ((0 : Int), ((0 : Int), ((0 : Int), (false, (0 : Int))))) (fun d3 J4 => (((decide (d3.2.2.2.2 < (x.length : Int))) = true → BI (D := (Int × (Int × (Int × Bool)))) (fun J5 => (0 ≤ d3.2.2.2.2 ∧ d3.2.2.2.2 < (x.length : Int)) ∧
 (d3.2.2.2.2.toNat < x.length) ∧
 Fn P zS0 AD (List.getD x d3.2.2.2.2.toNat FH).2.1 (fun (d7 : Bool) (e8 : Unit) => BI (D := Bool) (fun J9 => (((!d7) = false → Fn P zS0 AD (List.getD x d3.2.2.2.2.toNat FH).2.2 (fun (d10 : Bool) _ => J9 d10)) ∧ (((!d7) = true → J9 false) ∧ True))) (fun d11 => (((cond (!d7) true (!d11)) = true → K ((0 : Int), ((0 : Int), ((0 : Int), false))) ()) ∧ ((cond (!d7) true (!d11)) = false → Fn P zS0 AD (i64.wrap ((i64.wrap (d3.1 + (List.getD x d3.2.2.2.2.toNat FH).2.1)) + (i64.wrap (d3.2.1 + (List.getD x d3.2.2.2.2.toNat FH).2.2)))) (fun (d12 : Bool) (e13 : Unit) => (((!d12) = true → K ((0 : Int), ((0 : Int), ((0 : Int), false))) ()) ∧ ((!d12) = false → J5 ((i64.wrap (d3.1 + (List.getD x d3.2.2.2.2.toNat FH).2.1)), ((i64.wrap (d3.2.1 + (List.getD x d3.2.2.2.2.toNat FH).2.2)), ((if (i64.wrap ((List.getD x d3.2.2.2.2.toNat FH).2.1 + (List.getD x d3.2.2.2.2.toNat FH).2.2)) > d3.2.2.1 then (i64.wrap ((List.getD x d3.2.2.2.2.toNat FH).2.1 + (List.getD x d3.2.2.2.2.toNat FH).2.2)) else d3.2.2.1), d3.2.2.2.1))))))))))) (fun d6 => J4 (d6.1, (d6.2.1, (d6.2.2.1, (d6.2.2.2, (i64.wrap (d3.2.2.2.2 + (1 : Int))))))))) ∧ ((decide (d3.2.2.2.2 < (x.length : Int))) = false → J1 (d3.1, (d3.2.1, (d3.2.2.1, d3.2.2.2.1))))))) (fun d2 => K (d2.1, (d2.2.1, (d2.2.2.1, true))) ())
theorem Jy {P : Pg} (h : Has P Ds) {x : DP BF.ps} {K : DP BF.rs → DP (ptrs BF.ps) → Prop} (hw : GG P x K) : Fn P "mergelens/stat.totals" BF x K :=
 FC (c := EV) h rfl rfl (by kernel_rfl) (Eq.mpr (show E4 P Ds BF EV x K = _ by kernel_rfl) hw)
def ET : B1 :=
 (.seq (.region [o1 2 (.asg (.c (.string ⟨#[]⟩)))]) (.seq (.seq (.region [im 3 0, o1 4 (.bin .lss 3 (kI 0)), im 5 4, gf 6 5 (.mv 0), gf 7 5 (.bin .gtr 6 (kI 2147483647)), o1 8
 (.pick 5 kT 7)]) (.cond 8 (.seq (.region [o1 2 (.asg (.c (.string ⟨#[]⟩)))]) .ret) .skip)) (.seq (.region [im 9 0, oS ⟨some 10, .call "strconv.Itoa" [9], none⟩ D4, ia 2
 10]) .ret)))
def Dq : AFn := ⟨ "mergelens/scan.Format", ET.erase, [.tmp 2], 1⟩
def GD (P : Pg) (x : Int) (K : (List UInt8) → Unit → Prop) : Prop :=
 (((cond (decide (x < (0 : Int))) true (decide (x > (2147483647 : Int)))) = true → K ([] : List UInt8) ()) ∧ ((cond (decide (x < (0 : Int))) true (decide (x > (2147483647 : Int)))) = false → Fn P "strconv.Itoa" D4 x (fun (d1 : (List UInt8)) (e2 : Unit) => K d1 ())))
theorem Jw {P : Pg} (h : Has P Dq) {x : DP BE.ps} {K : DP BE.rs → DP (ptrs BE.ps) → Prop} (hw : GD P x K) : Fn P "mergelens/scan.Format" BE x K :=
 FC (c := ET) h rfl rfl (by kernel_rfl) (Eq.mpr (show E4 P Dq BE ET x K = _ by kernel_rfl) hw)
def Eo : B1 :=
 (.seq (.region [o1 2 (.asg (.c (.string ⟨#[]⟩)))]) (.seq (.frame (rg [] 2 37) [] false (.join [.sl 2 false .str .leaf] (.block 0 (.seq (.region [im 4 0, o1 5 (.bin .eql 4 (.c (.int
 .u8 34))), im 6 5, gf 7 6 (.mv 0), gf 8 6 (.bin .eql 7 (.c (.int .u8 92))), o1 9 (.pick 6 kT 8), ia 3 9]) (.cond 3 (.seq (.region [im 10 0, o1 11 (.conv .ofInt 10), o1 12 (.bin
 .add (.c (.string ⟨#[92]⟩)) 11), ia 2 12]) .ret) (.seq (.region [im 14 0, o1 15 (.bin .eql 14 (.c (.int .u8 10))), ia 13 15]) (.cond 13 (.seq (.region [o1 2 (.asg (.c (.string
 ⟨#[92, 110]⟩)))]) .ret) (.seq (.region [im 17 0, o1 18 (.bin .eql 17 (.c (.int .u8 9))), ia 16 18]) (.cond 16 (.seq (.region [o1 2 (.asg (.c (.string ⟨#[92, 116]⟩)))]) .ret) (.seq
 (.region [im 20 0, o1 21 (.bin .lss 20 (.c (.int .u8 32))), im 22 21, gf 23 22 (.mv 0), gf 24 22 (.bin .gtr 23 (.c (.int .u8 126))), o1 25 (.pick 22 kT 24), ia 19 25]) (.cond 19
 (.seq (.region [im 26 0, o1 27 (.bin .shr 26 (.c (.int .u64 6))), o1 28 (.bin .add (.c (.int .u8 48)) 27), im 29 0, o1 30 (.bin .shr 29 (.c (.int .u64 3))), o1 31 (.bin .and 30 (.c
 (.int .u8 7))), o1 32 (.bin .add (.c (.int .u8 48)) 31), im 33 0, o1 34 (.bin .and 33 (.c (.int .u8 7))), o1 35 (.bin .add (.c (.int .u8 48)) 34), oT ⟨some 36, .buildSl 1 [(.int
 .u8 0)] 3 [(0, 28), (1, 32), (2, 35)], none⟩ (some ((.int .u8), .leaf)), o1 37 (.conv .bytesToStr 36), o1 38 (.bin .add (.c (.string ⟨#[92]⟩)) 37), ia 2 38]) .ret) .skip)))))))))))
 (.seq (.region [im 39 0, o1 40 (.conv .ofInt 39), ia 2 40]) .ret)))
def CP : AFn := ⟨ "mergelens/scan.escaped", Eo.erase, [.tmp 2], 1⟩
def FJ (P : Pg) (x : Int) (K : (List UInt8) → Unit → Prop) : Prop :=
 BI (D := (List UInt8)) (fun J1 => (((cond (x == (34 : Int)) true (x == (92 : Int))) = true → (List.length ([92] : List UInt8) + List.length (O6 x) ≤ 9223372036854775807) ∧
 K (([92] : List UInt8) ++ (O6 x)) ()) ∧ ((cond (x == (34 : Int)) true (x == (92 : Int))) = false → (((x == (10 : Int)) = true → K ([92, 110] : List UInt8) ()) ∧ ((x == (10 : Int)) = false → (((x == (9 : Int)) = true → K ([92, 116] : List UInt8) ()) ∧ ((x == (9 : Int)) = false → (((cond (decide (x < (32 : Int))) true (decide (x > (126 : Int)))) = true → (0 ≤ (6 : Int)) ∧
 (0 ≤ (3 : Int)) ∧
 (List.length ([92] : List UInt8) + List.length (strOf ([(u8.wrap ((48 : Int) + (Int.fdiv x (2 ^ (min (Int.toNat (6 : Int)) u8.bits))))), (u8.wrap ((48 : Int) + (u8.wrap ((BitVec.toNat (BitVec.ofInt u8.bits (Int.fdiv x (2 ^ (min (Int.toNat (3 : Int)) u8.bits))) &&& BitVec.ofInt u8.bits (7 : Int)) : Nat) : Int)))), (u8.wrap ((48 : Int) + (u8.wrap ((BitVec.toNat (BitVec.ofInt u8.bits x &&& BitVec.ofInt u8.bits (7 : Int)) : Nat) : Int))))] : List Int)) ≤ 9223372036854775807) ∧
 K (([92] : List UInt8) ++ (strOf ([(u8.wrap ((48 : Int) + (Int.fdiv x (2 ^ (min (Int.toNat (6 : Int)) u8.bits))))), (u8.wrap ((48 : Int) + (u8.wrap ((BitVec.toNat (BitVec.ofInt u8.bits (Int.fdiv x (2 ^ (min (Int.toNat (3 : Int)) u8.bits))) &&& BitVec.ofInt u8.bits (7 : Int)) : Nat) : Int)))), (u8.wrap ((48 : Int) + (u8.wrap ((BitVec.toNat (BitVec.ofInt u8.bits x &&& BitVec.ofInt u8.bits (7 : Int)) : Nat) : Int))))] : List Int))) ()) ∧ ((cond (decide (x < (32 : Int))) true (decide (x > (126 : Int)))) = false → J1 ([] : List UInt8)))))))))) (fun d2 => K (O6 x) ())
theorem IW {P : Pg} (h : Has P CP) {x : DP BK.ps} {K : DP BK.rs → DP (ptrs BK.ps) → Prop} (hw : FJ P x K) : Fn P "mergelens/scan.escaped" BK x K :=
 FC (c := Eo) h rfl rfl (by kernel_rfl) (Eq.mpr (show E4 P CP BK Eo x K = _ by kernel_rfl) hw)
end Go.VS
