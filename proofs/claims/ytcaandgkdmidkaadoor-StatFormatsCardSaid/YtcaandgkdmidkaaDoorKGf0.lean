/- Functions of the program: typed code, and what it says, lifted. -/
import Derived.Test.YtcaandgkdmidkaaDoorKTxSig
import Derived.KernelRfl
set_option linter.unusedVariables false
set_option linter.unusedSimpArgs false
set_option maxRecDepth 8000
namespace Go.VS
open IntKind
def Io : B1 :=
 (.seq (.region [ia 4 (kI 0)]) (.seq (.region [im 5 0, o1 6 (.conv (.toInt .u64) 5), im 7 1, o1 8 (.conv (.toInt .u64) 7), o1 9 (.bin .rem 6 8), o1 10 (.conv (.toInt .i64) 9), ia 4
 10]) .ret))
def Gg : AFn := ⟨ zS3, Io.erase, [.tmp 4], 2⟩
def KL (P : Pg) (x : (Int × Int)) (K : Int → Unit → Prop) : Prop :=
 ((u64.wrap x.2) ≠ 0) ∧
 K (i64.wrap (Int.tmod (u64.wrap x.1) (u64.wrap x.2))) ()
theorem NJ {P : Pg} (h : Has P Gg) {x : DP Bg.ps} {K : DP Bg.rs → DP (ptrs Bg.ps) → Prop} (hw : KL P x K) : Fn P zS3 Bg x K :=
 FC (c := Io) h rfl rfl (by kernel_rfl) (Eq.mpr (show E4 P Gg Bg Io x K = _ by kernel_rfl) hw)
def EU : B1 :=
 (.seq (.region [o1 2 (.asg kF)]) (.seq (.region [im 3 0, o1 4 (.bin .geq 3 (kI 0)), im 5 4, gt 6 5 (.mv 0), gt 7 5 (.bin .leq 6 (kI 2147483647)), o1 8 (.pick 5 7 kF), ia 2 8])
 .ret))
def Dr : AFn := ⟨ zS4, EU.erase, [.tmp 2], 1⟩
def GF (P : Pg) (x : Int) (K : Bool → Unit → Prop) : Prop :=
 K (cond (decide (x ≥ (0 : Int))) (decide (x ≤ (2147483647 : Int))) false) ()
theorem Jx {P : Pg} (h : Has P Dr) {x : DP AD.ps} {K : DP AD.rs → DP (ptrs AD.ps) → Prop} (hw : GF P x K) : Fn P zS4 AD x K :=
 FC (c := EU) h rfl rfl (by kernel_rfl) (Eq.mpr (show E4 P Dr AD EU x K = _ by kernel_rfl) hw)
def Ft : B1 :=
 (.seq (.region [ia 4 (kI 0)]) (.seq (.seq (.region [im 5 0, o1 6 (.bin .eql 5 (kI 0))]) (.cond 6 (.seq (.region [ia 4 (kI 0)]) .ret) .skip)) (.seq (.region [im 7 0, ld 8 1, o1 9
 (.bin .sub 8 (kI 1)), o1 10 (.bin .mul 7 9), ld 11 2, o1 12 (.bin .quo 10 11), o1 13 (.bin .add (kI 1) 12), ia 4 13]) .ret)))
def DJ : AFn := ⟨ UF, Ft.erase, [.tmp 4], 3⟩
def He (P : Pg) (x : (Int × (Int × Int))) (K : Int → (Int × Int) → Prop) : Prop :=
 (((x.1 == (0 : Int)) = true → K (0 : Int) x.2) ∧ ((x.1 == (0 : Int)) = false → (x.2.2 ≠ 0) ∧
 K (i64.wrap ((1 : Int) + (i64.wrap (Int.tdiv (i64.wrap (x.1 * (i64.wrap (x.2.1 - (1 : Int))))) x.2.2)))) x.2))
theorem Kw {P : Pg} (h : Has P DJ) {x : DP Bl.ps} {K : DP Bl.rs → DP (ptrs Bl.ps) → Prop} (hw : He P x K) : Fn P UF Bl x K :=
 FC (c := Ft) h rfl rfl (by kernel_rfl) (Eq.mpr (show E4 P DJ Bl Ft x K = _ by kernel_rfl) hw)
def G6 : B1 :=
 (.seq (.region [o1 6 (.box 2), o1 7 (.box 3), ia 8 (kI 0), ia 9 (kI 0)]) (.seq (.seq (.region [ld 13 6, ld 14 7, o1 15 (.bin .leq 13 14)]) (.cond 15 (.seq (.region [im 16 0, im 17
 1, ia 8 16, ia 9 17]) .ret) .skip)) (.seq (.region [o1 18 (.mkf (UF, false) [7, 6]), ia 10 18]) (.seq (.region [im 19 10, im 20 0, im 21 1, o1 22 (.bin .add 20
 21), oS ⟨some 23, .callv 19 [22], none⟩ Bl, ia 11 23]) (.seq (.seq (.region [im 24 0, o1 25 (.bin .gtr 24 (kI 0)), im 26 25, gt 27 26 (.mv 1), gt 28 26 (.bin .gtr 27 (kI
 0)), o1 29 (.pick 26 28 kF)]) (.frame [11, 30, 31] [] false (.join [.si 11] (.cond 29 (.region [im 30 11, o1 31 (.mm true 30 (kI 2)), ia 11 31]) .skip)))) (.seq (.region [im 32 10,
 im 33 0, im 34 1, o1 35 (.mm false 33 34), oS ⟨some 36, .callv 32 [35], none⟩ Bl, ia 12 36]) (.seq (.seq (.region [im 37 0, im 38 1, o1 39 (.bin .leq 37 38)]) (.cond 39
 (.seq (.region [im 40 12, im 41 11, im 42 12, o1 43 (.bin .sub 41 42), ia 8 40, ia 9 43]) .ret) .skip)) (.seq (.region [im 44 11, im 45 12, o1 46 (.bin .sub 44 45), im 47 12, ia 8
 46, ia 9 47]) .ret))))))))
def Fg : AFn := ⟨ VT, G6.erase, [.tmp 8, .tmp 9], 4⟩
def Jf (P : Pg) (x : Change) (K : (Int × Int) → Unit → Prop) : Prop :=
 (((decide (x.2.2.1 ≤ x.2.2.2)) = true → K (x.1, x.2.1) ()) ∧ ((decide (x.2.2.1 ≤ x.2.2.2)) = false → Fn P UF Bl ((i64.wrap (x.1 + x.2.1)), (x.2.2.2, x.2.2.1)) (fun (d1 : Int) (e2 : (Int × Int)) => BI (D := Int) (fun J3 => (((cond (decide (x.1 > (0 : Int))) (decide (x.2.1 > (0 : Int))) false) = true → J3 (if (2 : Int) > d1 then (2 : Int) else d1)) ∧ ((cond (decide (x.1 > (0 : Int))) (decide (x.2.1 > (0 : Int))) false) = false → J3 d1))) (fun d4 => Fn P UF Bl ((if x.2.1 < x.1 then x.2.1 else x.1), e2) (fun (d5 : Int) (e6 : (Int × Int)) => (((decide (x.1 ≤ x.2.1)) = true → K (d5, (i64.wrap (d4 - d5))) ()) ∧ ((decide (x.1 ≤ x.2.1)) = false → K ((i64.wrap (d4 - d5)), d5) ())))))))
theorem Mw {P : Pg} (h : Has P Fg) {x : DP BQ.ps} {K : DP BQ.rs → DP (ptrs BQ.ps) → Prop} (hw : Jf P x K) : Fn P VT BQ x K :=
 FC (c := G6) h rfl rfl (by kernel_rfl) (Eq.mpr (show E4 P Fg BQ G6 x K = _ by kernel_rfl) hw)
def G5 : B1 :=
 (.seq (.region [ia 8 (kI 0), ia 9 (kI 0), ia 10 (kI 0)]) (.seq (.seq (.region [im 13 3, o1 14 (.bin .lss 13 (kI 2)), im 15 14, gf 16 15 (.mv 3), gf 17 15 (.bin .gtr 16 (kI 1000)),
 o1 18 (.pick 15 kT 17), im 19 18, gf 20 19 (.mv 0), oS ⟨some 21, .call zS4 [20], some (19, false)⟩ AD, gf 22 19 (.un .not 21), o1 23 (.pick 19 kT
 22), im 24 23, gf 25 24 (.mv 1), oS ⟨some 26, .call zS4 [25], some (24, false)⟩ AD, gf 27 24 (.un .not 26), o1 28 (.pick 24 kT 27), im 29 28, gf 30
 29 (.mv 2), oS ⟨some 31, .call zS4 [30], some (29, false)⟩ AD, gf 32 29 (.un .not 31), o1 33 (.pick 29 kT 32), im 34 33, gf 35 34 (.mv 2), gf 36 34
 (.mv 0), gf 37 34 (.mv 1), gf 38 34 (.bin .add 36 37), gf 39 34 (.bin .lss 35 38), o1 40 (.pick 34 kT 39)]) (.cond 40 (.seq (.region [ia 8 (kI 0), ia 9 (kI 0), ia 10 (kI 3)]) .ret)
 .skip)) (.seq (.region [im 42 0, im 43 1, im 44 2, im 45 3, oS ⟨some 46, .call VT [42, 43, 44, 45], none⟩ BQ, im 41 46, o1 47 (.ext 41 0), o1 48 (.ext 41
 1), ia 11 47, ia 12 48]) (.seq (.region [im 49 11, im 50 12, ia 8 49, ia 9 50, ia 10 (kI 0)]) .ret))))
def Ff : AFn := ⟨ VN, G5.erase, [.tmp 8, .tmp 9, .tmp 10], 4⟩
def Je (P : Pg) (x : Change) (K : (Int × (Int × Int)) → Unit → Prop) : Prop :=
 BI (D := Bool) (fun J1 => (((cond (decide (x.2.2.2 < (2 : Int))) true (decide (x.2.2.2 > (1000 : Int)))) = false → Fn P zS4 AD x.1 (fun (d2 : Bool) _ => J1 d2)) ∧ (((cond (decide (x.2.2.2 < (2 : Int))) true (decide (x.2.2.2 > (1000 : Int)))) = true → J1 false) ∧ True))) (fun d3 => BI (D := Bool) (fun J4 => (((cond (cond (decide (x.2.2.2 < (2 : Int))) true (decide (x.2.2.2 > (1000 : Int)))) true (!d3)) = false → Fn P zS4 AD x.2.1 (fun (d5 : Bool) _ => J4 d5)) ∧ (((cond (cond (decide (x.2.2.2 < (2 : Int))) true (decide (x.2.2.2 > (1000 : Int)))) true (!d3)) = true → J4 false) ∧ True))) (fun d6 => BI (D := Bool) (fun J7 => (((cond (cond (cond (decide (x.2.2.2 < (2 : Int))) true (decide (x.2.2.2 > (1000 : Int)))) true (!d3)) true (!d6)) = false → Fn P zS4 AD x.2.2.1 (fun (d8 : Bool) _ => J7 d8)) ∧ (((cond (cond (cond (decide (x.2.2.2 < (2 : Int))) true (decide (x.2.2.2 > (1000 : Int)))) true (!d3)) true (!d6)) = true → J7 false) ∧ True))) (fun d9 => (((cond (cond (cond (cond (cond (decide (x.2.2.2 < (2 : Int))) true (decide (x.2.2.2 > (1000 : Int)))) true (!d3)) true (!d6)) true (!d9)) true (decide (x.2.2.1 < (i64.wrap (x.1 + x.2.1))))) = true → K ((0 : Int), ((0 : Int), (3 : Int))) ()) ∧ ((cond (cond (cond (cond (cond (decide (x.2.2.2 < (2 : Int))) true (decide (x.2.2.2 > (1000 : Int)))) true (!d3)) true (!d6)) true (!d9)) true (decide (x.2.2.1 < (i64.wrap (x.1 + x.2.1))))) = false → Fn P VT BQ x (fun (d10 : (Int × Int)) (e11 : Unit) => K (d10.1, (d10.2, (0 : Int))) ()))))))
theorem Mv {P : Pg} (h : Has P Ff) {x : DP Bh.ps} {K : DP Bh.rs → DP (ptrs Bh.ps) → Prop} (hw : Je P x K) : Fn P VN Bh x K :=
 FC (c := G5) h rfl rfl (by kernel_rfl) (Eq.mpr (show E4 P Ff Bh G5 x K = _ by kernel_rfl) hw)
def ER : B1 :=
 (.seq (.region [o1 0 (.asg kF)]) (.seq (.region [oS ⟨some 7, .call VN [(kI 60), (kI 40), (kI 100), (kI 10)], none⟩ Bh, im 6 7, o1 8 (.ext 6 0), o1 9 (.ext
 6 1), o1 10 (.ext 6 2), ia 1 8, ia 2 9, ia 3 10]) (.seq (.region [o1 12 (.build [(.string ⟨#[]⟩), (.int .i64 0), (.int .i64 0)] [(0, 1, (.c (.string ⟨#[120]⟩))), (1, 1, (kI 1)),
 (2, 1, (kI 2))]), oT ⟨some 13, .buildSl 3 [(.string ⟨#[]⟩), (.int .i64 0), (.int .i64 0)] 1 [(0, 12)], none⟩ (some (FA, .leaf)), oS ⟨some 14, .call zS6 [13,
 (kI 10)], none⟩ Dt, im 11 14, o1 15 (.ext 11 0), o1 16 (.ext 11 1), ia 4 15, ia 5 16]) (.seq (.region [im 17 3, o1 18 (.bin .eql 17 (kI 0)), im 19 18, gt 20 19 (.mv 5),
 gt 21 19 (.bin .eql 20 (kI 0)), o1 22 (.pick 19 21 kF), im 23 22, gt 24 23 (.mv 1), gt 25 23 (.bin .eql 24 (kI 6)), o1 26 (.pick 23 25 kF), im 27 26, gt 28 27 (.mv 2), gt 29 27
 (.bin .eql 28 (kI 4)), o1 30 (.pick 27 29 kF), im 31 30, gt 32 31 (.mv 4), o0 ⟨some 33, .bin .eql 32 (.c (.string ⟨#[32, 120, 32, 124, 32, 51, 32, 43, 45, 45, 10, 32, 49, 32, 102,
 105, 108, 101, 115, 44, 32, 49, 32, 97, 100, 100, 101, 100, 44, 32, 50, 32, 114, 101, 109, 111, 118, 101, 100, 10]⟩)), some (31, true)⟩, o1 34 (.pick 31 33 kF), ia 0 34]) .ret))))
def Dn : AFn := ⟨ zS5, ER.erase, [.tmp 0], 0⟩
def GB (P : Pg) (x : Unit) (K : Bool → Unit → Prop) : Prop :=
 Fn P VN Bh ((60 : Int), ((40 : Int), ((100 : Int), (10 : Int)))) (fun (d1 : (Int × (Int × Int))) (e2 : Unit) => Fn P zS6 Dt (([(([120] : List UInt8), ((1 : Int), (2 : Int)))] : List Stat), (10 : Int)) (fun (d3 : ((List UInt8) × Int)) (e4 : Unit) => K (cond (cond (cond (cond (d1.2.2 == (0 : Int)) (d3.2 == (0 : Int)) false) (d1.1 == (6 : Int)) false) (d1.2.1 == (4 : Int)) false) (d3.1 == ([32, 120, 32, 124, 32, 51, 32, 43, 45, 45, 10, 32, 49, 32, 102, 105, 108, 101, 115, 44, 32, 49, 32, 97, 100, 100, 101, 100, 44, 32, 50, 32, 114, 101, 109, 111, 118, 101, 100, 10] : List UInt8)) false) ()))
theorem Ju {P : Pg} (h : Has P Dn) {x : DP Bk.ps} {K : DP Bk.rs → DP (ptrs Bk.ps) → Prop} (hw : GB P x K) : Fn P zS5 Bk x K :=
 FC (c := ER) h rfl rfl (by kernel_rfl) (Eq.mpr (show E4 P Dn Bk ER x K = _ by kernel_rfl) hw)
def TP : B1 :=
 (.seq (.region [o1 2 (.asg (.c (.string ⟨#[]⟩)))]) (.seq (.region [oT ⟨some 3, .buildSl 1 [(.string ⟨#[]⟩)] 10 [(0, (.c (.string ⟨#[97]⟩))), (1, (.c (.string ⟨#[98]⟩))), (2, (.c
 (.string ⟨#[99]⟩))), (3, (.c (.string ⟨#[97, 98]⟩))), (4, (.c (.string ⟨#[98, 97]⟩))), (5, (.c (.string ⟨#[]⟩))), (6, (.c (.string ⟨#[97, 97]⟩))), (7, (.c (.string ⟨#[98, 32,
 97]⟩))), (8, (.c (.string ⟨#[120, 43, 121]⟩))), (9, (.c (.string ⟨#[92]⟩)))], none⟩ (some (.str, .leaf)), im 4 0, oS ⟨some 5, .call zS3 [4, (kI 10)], none⟩
 Bg, o1 6 (.ixA 1 3 5), ld 7 6, ia 2 7]) .ret))
def TH : AFn := ⟨ VU, TP.erase, [.tmp 2], 1⟩
abbrev TJ : List (List UInt8) := ([([97] : List UInt8), ([98] : List UInt8), ([99] : List UInt8), ([97, 98] : List UInt8), ([98, 97] : List UInt8), ([] : List UInt8), ([97, 97] : List UInt8), ([98, 32, 97] : List UInt8), ([120, 43, 121] : List UInt8), ([92] : List UInt8)] : List (List UInt8))
def TY (P : Pg) (x : Int) (K : (List UInt8) → Unit → Prop) : Prop :=
 Fn P zS3 Bg (x, (10 : Int)) (fun (d1 : Int) (e2 : Unit) => (0 ≤ d1 ∧ d1 < ((List.length TJ : Nat) : Int)) ∧
 (d1.toNat < List.length TJ) ∧
 K (List.getD TJ d1.toNat []) ())
theorem Uh {P : Pg} (h : Has P TH) {x : DP Ty.ps} {K : DP Ty.rs → DP (ptrs Ty.ps) → Prop} (hw : TY P x K) : Fn P VU Ty x K :=
 FC (c := TP) h rfl rfl (by kernel_rfl) (Eq.mpr (show E4 P TH Ty TP x K = _ by kernel_rfl) hw)
def T5 : B1 :=
 (.seq (.region [ia 4 (kI 0)]) (.seq (.region [im 6 1, o1 7 (.bin .add 6 (kI 1)), o1 8 (.conv (.toInt .u64) 7), o1 9 (.bin .mul 8 (.c (.int .u64 11400714819323198485))), ia 5 9])
 (.seq (.seq (.region [im 10 0, o1 11 (.lenK 10), o1 12 (.bin .gtr 11 (kI 0))]) (.frame (rg [5] 13 10) [] false (.join [.sl 5 false (.int .u64) .leaf] (.cond 12 (.region [im 13 5,
 im 14 0, im 15 1, im 16 0, o1 17 (.lenK 16), o1 18 (.bin .rem 15 17), o1 19 (.ixA 1 14 18), ld 20 19, o1 21 (.conv (.toInt .u64) 20), o1 22 (.bin .xor 13 21), ia 5 22]) .skip))))
 (.seq (.region [im 23 5, im 24 5, o1 25 (.bin .shr 24 (.c (.int .u64 31))), o1 26 (.bin .xor 23 25), o1 27 (.bin .mul 26 (.c (.int .u64 13787848793156543929))), ia 5 27]) (.seq
 (.region [im 28 5, im 29 5, o1 30 (.bin .shr 29 (.c (.int .u64 29))), o1 31 (.bin .xor 28 30), o1 32 (.bin .shr 31 (.c (.int .u64 1))), o1 33 (.conv (.toInt .i64) 32), ia 4 33])
 .ret)))))
def TQ : AFn := ⟨ zS7, T5.erase, [.tmp 4], 2⟩
def Ue (P : Pg) (x : ((List Int) × Int)) (K : Int → Unit → Prop) : Prop :=
 BI (D := Int) (fun J1 => (((decide ((x.1.length : Int) > (0 : Int))) = true → ((x.1.length : Int) ≠ 0) ∧
 (0 ≤ (Int.tmod x.2 (x.1.length : Int)) ∧ (Int.tmod x.2 (x.1.length : Int)) < (x.1.length : Int)) ∧
 ((Int.toNat (Int.tmod x.2 (x.1.length : Int))) < x.1.length) ∧
 J1 (u64.wrap ((BitVec.toNat (BitVec.ofInt u64.bits (u64.wrap ((u64.wrap (i64.wrap (x.2 + (1 : Int)))) * (11400714819323198485 : Int))) ^^^ BitVec.ofInt u64.bits (u64.wrap (List.getD x.1 (Int.toNat (Int.tmod x.2 (x.1.length : Int))) (0 : Int)))) : Nat) : Int))) ∧ ((decide ((x.1.length : Int) > (0 : Int))) = false → J1 (u64.wrap ((u64.wrap (i64.wrap (x.2 + (1 : Int)))) * (11400714819323198485 : Int)))))) (fun d2 => (0 ≤ (31 : Int)) ∧
 (0 ≤ (29 : Int)) ∧
 (0 ≤ (1 : Int)) ∧
 K (i64.wrap (Int.fdiv (u64.wrap ((BitVec.toNat (BitVec.ofInt u64.bits (u64.wrap ((u64.wrap ((BitVec.toNat (BitVec.ofInt u64.bits d2 ^^^ BitVec.ofInt u64.bits (Int.fdiv d2 (2 ^ (min (Int.toNat (31 : Int)) u64.bits)))) : Nat) : Int)) * (13787848793156543929 : Int))) ^^^ BitVec.ofInt u64.bits (Int.fdiv (u64.wrap ((u64.wrap ((BitVec.toNat (BitVec.ofInt u64.bits d2 ^^^ BitVec.ofInt u64.bits (Int.fdiv d2 (2 ^ (min (Int.toNat (31 : Int)) u64.bits)))) : Nat) : Int)) * (13787848793156543929 : Int))) (2 ^ (min (Int.toNat (29 : Int)) u64.bits)))) : Nat) : Int)) (2 ^ (min (Int.toNat (1 : Int)) u64.bits)))) ())
theorem Uu {P : Pg} (h : Has P TQ) {x : DP Tx.ps} {K : DP Tx.rs → DP (ptrs Tx.ps) → Prop} (hw : Ue P x K) : Fn P zS7 Tx x K :=
 FC (c := T5) h rfl rfl (by kernel_rfl) (Eq.mpr (show E4 P TQ Tx T5 x K = _ by kernel_rfl) hw)
def ES : B1 :=
 (.seq (.region [ia 6 (kI 0)]) (.seq (.seq (.region [im 7 0, o1 8 (.bin .eql 7 (kI 0))]) (.cond 8 (.seq (.region [ia 6 (kI 0)]) .ret) .skip)) (.seq (.region [im 9 0, im 10 2, o1 11
 (.bin .sub 10 (kI 1)), o1 12 (.bin .mul 9 11), im 13 1, o1 14 (.bin .quo 12 13), o1 15 (.bin .add (kI 1) 14), ia 6 15]) .ret)))
def Dp : AFn := ⟨ zS9, ES.erase, [.tmp 6], 3⟩
def GC (P : Pg) (x : (Int × (Int × Int))) (K : Int → Unit → Prop) : Prop :=
 (((x.1 == (0 : Int)) = true → K (0 : Int) ()) ∧ ((x.1 == (0 : Int)) = false → (x.2.1 ≠ 0) ∧
 K (i64.wrap ((1 : Int) + (i64.wrap (Int.tdiv (i64.wrap (x.1 * (i64.wrap (x.2.2 - (1 : Int))))) x.2.1)))) ()))
theorem Jv {P : Pg} (h : Has P Dp) {x : DP A6.ps} {K : DP A6.rs → DP (ptrs A6.ps) → Prop} (hw : GC P x K) : Fn P zS9 A6 x K :=
 FC (c := ES) h rfl rfl (by kernel_rfl) (Eq.mpr (show E4 P Dp A6 ES x K = _ by kernel_rfl) hw)
def Ga : B1 :=
 (.seq (.region [ia 8 (kI 0), ia 9 (kI 0), ia 10 (kI 0)]) (.seq (.seq (.region [im 13 3, o1 14 (.bin .lss 13 (kI 2)), im 15 14, gf 16 15 (.mv 3), gf 17 15 (.bin .gtr 16 (kI 1000)),
 o1 18 (.pick 15 kT 17), im 19 18, gf 20 19 (.mv 0), gf 21 19 (.bin .lss 20 (kI 0)), o1 22 (.pick 19 kT 21), im 23 22, gf 24 23 (.mv 1), gf 25 23 (.bin .lss 24 (kI 0)), o1 26 (.pick
 23 kT 25), im 27 26, gf 28 27 (.mv 2), gf 29 27 (.bin .lss 28 (kI 0)), o1 30 (.pick 27 kT 29), im 31 30, gf 32 31 (.mv 2), gf 33 31 (.bin .gtr 32 (kI 2147483647)), o1 34 (.pick 31
 kT 33), im 35 34, gf 36 35 (.mv 0), gf 37 35 (.mv 2), gf 38 35 (.bin .gtr 36 37), o1 39 (.pick 35 kT 38), im 40 39, gf 41 40 (.mv 1), gf 42 40 (.mv 2), gf 43 40 (.mv 0), gf 44 40
 (.bin .sub 42 43), gf 45 40 (.bin .gtr 41 44), o1 46 (.pick 40 kT 45)]) (.cond 46 (.seq (.region [ia 8 (kI 0), ia 9 (kI 0), ia 10 (kI 3)]) .ret) .skip)) (.seq (.seq (.region [im 47
 2, im 48 3, o1 49 (.bin .leq 47 48)]) (.cond 49 (.seq (.region [im 50 0, im 51 1, ia 8 50, ia 9 51, ia 10 (kI 0)]) .ret) .skip)) (.seq (.region [im 52 0, im 53 1, o1 54 (.bin .add
 52 53), im 55 2, im 56 3, oS ⟨some 57, .call zS9 [54, 55, 56], none⟩ A6, ia 11 57]) (.seq (.seq (.region [im 58 0, o1 59 (.bin .gtr 58 (kI
 0)), im 60 59, gt 61 60 (.mv 1), gt 62 60 (.bin .gtr 61 (kI 0)), o1 63 (.pick 60 62 kF), im 64 63, gt 65 64 (.mv 11), gt 66 64 (.bin .lss 65 (kI 2)), o1 67 (.pick 64 66 kF)])
 (.frame [11] [] false (.join [.si 11] (.cond 67 (.region [ia 11 (kI 2)]) .skip)))) (.seq (.region [im 68 0, im 69 1, o1 70 (.mm false 68 69), im 71 2, im 72 3, oS ⟨some 73, .call
 zS9 [70, 71, 72], none⟩ A6, ia 12 73]) (.seq (.seq (.region [im 74 0, im 75 1, o1 76 (.bin .leq 74 75)]) (.cond 76 (.seq (.region [im 77 12,
 im 78 11, im 79 12, o1 80 (.bin .sub 78 79), ia 8 77, ia 9 80, ia 10 (kI 0)]) .ret) .skip)) (.seq (.region [im 81 11, im 82 12, o1 83 (.bin .sub 81 82), im 84 12, ia 8 83, ia 9 84,
 ia 10 (kI 0)]) .ret))))))))
def Ey : AFn := ⟨ UC, Ga.erase, [.tmp 8, .tmp 9, .tmp 10], 4⟩
def Iv (P : Pg) (x : Change) (K : (Int × (Int × Int)) → Unit → Prop) : Prop :=
 (((cond (cond (cond (cond (cond (cond (cond (decide (x.2.2.2 < (2 : Int))) true (decide (x.2.2.2 > (1000 : Int)))) true (decide (x.1 < (0 : Int)))) true (decide (x.2.1 < (0 : Int)))) true (decide (x.2.2.1 < (0 : Int)))) true (decide (x.2.2.1 > (2147483647 : Int)))) true (decide (x.1 > x.2.2.1))) true (decide (x.2.1 > (i64.wrap (x.2.2.1 - x.1))))) = true → K ((0 : Int), ((0 : Int), (3 : Int))) ()) ∧ ((cond (cond (cond (cond (cond (cond (cond (decide (x.2.2.2 < (2 : Int))) true (decide (x.2.2.2 > (1000 : Int)))) true (decide (x.1 < (0 : Int)))) true (decide (x.2.1 < (0 : Int)))) true (decide (x.2.2.1 < (0 : Int)))) true (decide (x.2.2.1 > (2147483647 : Int)))) true (decide (x.1 > x.2.2.1))) true (decide (x.2.1 > (i64.wrap (x.2.2.1 - x.1))))) = false → (((decide (x.2.2.1 ≤ x.2.2.2)) = true → K (x.1, (x.2.1, (0 : Int))) ()) ∧ ((decide (x.2.2.1 ≤ x.2.2.2)) = false → Fn P zS9 A6 ((i64.wrap (x.1 + x.2.1)), x.2.2) (fun (d1 : Int) (e2 : Unit) => BI (D := Int) (fun J3 => (((cond (cond (decide (x.1 > (0 : Int))) (decide (x.2.1 > (0 : Int))) false) (decide (d1 < (2 : Int))) false) = true → J3 (2 : Int)) ∧ ((cond (cond (decide (x.1 > (0 : Int))) (decide (x.2.1 > (0 : Int))) false) (decide (d1 < (2 : Int))) false) = false → J3 d1))) (fun d4 => Fn P zS9 A6 ((if x.2.1 < x.1 then x.2.1 else x.1), x.2.2) (fun (d5 : Int) (e6 : Unit) => (((decide (x.1 ≤ x.2.1)) = true → K (d5, ((i64.wrap (d4 - d5)), (0 : Int))) ()) ∧ ((decide (x.1 ≤ x.2.1)) = false → K ((i64.wrap (d4 - d5)), (d5, (0 : Int))) ())))))))))
theorem LK {P : Pg} (h : Has P Ey) {x : DP Bm.ps} {K : DP Bm.rs → DP (ptrs Bm.ps) → Prop} (hw : Iv P x K) : Fn P UC Bm x K :=
 FC (c := Ga) h rfl rfl (by kernel_rfl) (Eq.mpr (show E4 P Ey Bm Ga x K = _ by kernel_rfl) hw)
def U8 : B1 :=
 (.seq (.region [ia 2 (kI 0), ia 3 (kI 0), o1 4 (.asg kF)]) (.seq (.region [ia 5 (kI 0), ia 6 (kI 0)]) (.seq (.seq (.region [ia 7 (kI 0)]) (.frame (rg [] 2 54) [] false (.join [.si
 2, .si 3, .sl 4 false .bool .leaf, .si 5, .si 6] (.block 0 (.loop [.si 2, .si 3, .sl 4 false .bool .leaf, .si 5, .si 6, .si 7] (.seq (.seq (.region [im 10 7, im 11 0, o1 12 (.lenK
 11), o1 13 (.bin .lss 10 12)]) (.cond 13 .skip (.exit 0))) (.seq (.frame (rg [2, 3, 4, 5, 6, 8, 9] 16 40) [] false (.join [.si 2, .si 3, .sl 4 false .bool .leaf, .si 5, .si 6]
 (.block 1 (.seq (.frame (rg [8, 9] 16 10) [] false (.join [.si 8, .si 9] (.draw [(.first (im 16 0) (.first (im 17 7) (.first (o1 18 (.ixA 3 16 17)) (.first (fa 19 1 18) (.first (ld
 20 19) (.first (im 21 0) (.first (im 22 7) (.first (o1 23 (.ixA 3 21 22)) (.first (fa 24 2 23) (.alt (ld 25 24) (.alt (ia 8 20) (.alt (ia 9 25) .done .stop) .stop) (.alt (ia 8 20)
 (.first (ld 25 24) (.alt (ia 9 25) .done .stop)) .stop)))))))))))]))) (.seq (.seq (.region [im 26 8, o1 27 (.bin .lss 26 (kI 0)), im 28 27, gf 29 28 (.mv 9), gf 30 28 (.bin .lss 29
 (kI 0)), o1 31 (.pick 28 kT 30), im 32 31, gf 33 32 (.mv 8), gf 34 32 (.mv 5), gf 35 32 (.bin .sub (kI 2147483647) 34), gf 36 32 (.mv 6), gf 37 32 (.bin .sub 35 36), gf 38 32 (.bin
 .gtr 33 37), o1 39 (.pick 32 kT 38), im 40 39, gf 41 40 (.mv 9), gf 42 40 (.mv 5), gf 43 40 (.bin .sub (kI 2147483647) 42), gf 44 40 (.mv 6), gf 45 40 (.bin .sub 43 44), gf 46 40
 (.mv 8), gf 47 40 (.bin .sub 45 46), gf 48 40 (.bin .gtr 41 47), o1 49 (.pick 40 kT 48)]) (.cond 49 (.seq (.region [ia 2 (kI 0), ia 3 (kI 0), o1 4 (.asg kF)]) .ret) .skip))
 (.region [im 50 5, im 51 8, o1 52 (.bin .add 50 51), im 53 6, im 54 9, o1 55 (.bin .add 53 54), ia 5 52, ia 6 55])))))) (.region [im 14 7, o1 15 (.bin .add 14 (kI 1)), ia 7
 15])))))))) (.seq (.region [im 56 5, im 57 6, ia 2 56, ia 3 57, o1 4 (.asg kT)]) .ret))))
def UZ : AFn := ⟨ VV, U8.erase, [.tmp 2, .tmp 3, .tmp 4], 1⟩
def Vh (P : Pg) (x : (List Stat)) (K : (Int × (Int × Bool)) → Unit → Prop) : Prop :=
 BI (D := (Int × (Int × (Bool × (Int × Int))))) (fun J1 => Mb (D := (Int × (Int × (Bool × (Int × (Int × Int)))))) ((0 : Int), ((0 : Int), (false, ((0 : Int), ((0 : Int), (0 : Int)))))) (fun d3 J4 => (((decide (d3.2.2.2.2.2 < (x.length : Int))) = true → BI (D := (Int × (Int × (Bool × (Int × Int))))) (fun J5 => BI (D := (Int × Int)) (fun J7 => (0 ≤ d3.2.2.2.2.2 ∧ d3.2.2.2.2.2 < (x.length : Int)) ∧
 (d3.2.2.2.2.2.toNat < x.length) ∧
 (0 ≤ d3.2.2.2.2.2 ∧ d3.2.2.2.2.2 < (x.length : Int)) ∧
 ((d3.2.2.2.2.2.toNat < x.length) ∧
 ((J7 (List.getD x d3.2.2.2.2.2.toNat FH).2) ∧ True) ∧ True) ∧ (((d3.2.2.2.2.2.toNat < x.length) ∧
 (J7 (List.getD x d3.2.2.2.2.2.toNat FH).2) ∧ True) ∧ True)) (fun d8 => (((cond (cond (cond (decide (d8.1 < (0 : Int))) true (decide (d8.2 < (0 : Int)))) true (decide (d8.1 > (i64.wrap ((i64.wrap ((2147483647 : Int) - d3.2.2.2.1)) - d3.2.2.2.2.1))))) true (decide (d8.2 > (i64.wrap ((i64.wrap ((i64.wrap ((2147483647 : Int) - d3.2.2.2.1)) - d3.2.2.2.2.1)) - d8.1))))) = true → K ((0 : Int), ((0 : Int), false)) ()) ∧ ((cond (cond (cond (decide (d8.1 < (0 : Int))) true (decide (d8.2 < (0 : Int)))) true (decide (d8.1 > (i64.wrap ((i64.wrap ((2147483647 : Int) - d3.2.2.2.1)) - d3.2.2.2.2.1))))) true (decide (d8.2 > (i64.wrap ((i64.wrap ((i64.wrap ((2147483647 : Int) - d3.2.2.2.1)) - d3.2.2.2.2.1)) - d8.1))))) = false → J5 (d3.1, (d3.2.1, (d3.2.2.1, ((i64.wrap (d3.2.2.2.1 + d8.1)), (i64.wrap (d3.2.2.2.2.1 + d8.2)))))))))) (fun d6 => J4 (d6.1, (d6.2.1, (d6.2.2.1, (d6.2.2.2.1, (d6.2.2.2.2, (i64.wrap (d3.2.2.2.2.2 + (1 : Int)))))))))) ∧ ((decide (d3.2.2.2.2.2 < (x.length : Int))) = false → J1 (d3.1, (d3.2.1, (d3.2.2.1, (d3.2.2.2.1, d3.2.2.2.2.1)))))))) (fun d2 => K (d2.2.2.2.1, (d2.2.2.2.2, true)) ())
theorem Vs {P : Pg} (h : Has P UZ) {x : DP UO.ps} {K : DP UO.rs → DP (ptrs UO.ps) → Prop} (hw : Vh P x K) : Fn P VV UO x K :=
 FC (c := U8) h rfl rfl (by kernel_rfl) (Eq.mpr (show E4 P UZ UO U8 x K = _ by kernel_rfl) hw)
def U4 : B1 :=
 (.seq (.region [o1 2 (.asg kF)]) (.seq (.region [im 3 0, o1 4 (.bin .geq 3 (.c (.int .u8 33))), im 5 4, gt 6 5 (.mv 0), gt 7 5 (.bin .leq 6 (.c (.int .u8 126))), o1 8 (.pick 5 7
 kF), im 9 8, gt 10 9 (.mv 0), gt 11 9 (.bin .neq 10 (.c (.int .u8 34))), o1 12 (.pick 9 11 kF), im 13 12, gt 14 13 (.mv 0), gt 15 13 (.bin .neq 14 (.c (.int .u8 92))), o1 16 (.pick
 13 15 kF), ia 2 16]) .ret))
def UU : AFn := ⟨ VW, U4.erase, [.tmp 2], 1⟩
def Ve (P : Pg) (x : Int) (K : Bool → Unit → Prop) : Prop :=
 K (cond (cond (cond (decide (x ≥ (33 : Int))) (decide (x ≤ (126 : Int))) false) (x != (34 : Int)) false) (x != (92 : Int)) false) ()
theorem Vm {P : Pg} (h : Has P UU) {x : DP UN.ps} {K : DP UN.rs → DP (ptrs UN.ps) → Prop} (hw : Ve P x K) : Fn P VW UN x K :=
 FC (c := U4) h rfl rfl (by kernel_rfl) (Eq.mpr (show E4 P UU UN U4 x K = _ by kernel_rfl) hw)
def U5 : B1 :=
 (.seq (.region [o1 2 (.asg (.c (.string ⟨#[]⟩)))]) (.seq (.region [im 7 0, o1 8 (.bin .neq 7 (.c (.string ⟨#[]⟩))), ia 3 8]) (.seq (.region [o1 4 (.asg (.c (.string ⟨#[34]⟩)))])
 (.seq (.seq (.region [ia 5 (kI 0)]) (.frame (rg [3, 4, 5, 6] 9 78) [] false (.join [.sl 3 false .bool .leaf, .sl 4 false .str .leaf] (.block 0 (.loop [.sl 3 false .bool .leaf, .sl
 4 false .str .leaf, .si 5] (.seq (.seq (.region [im 9 5, im 10 0, o1 11 (.MJ 10), o1 12 (.bin .lss 9 11)]) (.cond 12 .skip (.exit 0))) (.seq (.frame (rg [3, 4, 6] 15 72) [] false
 (.join [.sl 3 false .bool .leaf, .sl 4 false .str .leaf] (.block 1 (.seq (.region [im 15 0, im 16 5, o1 17 (.ixS 15 16), ia 6 17]) (.seq (.region [im 18 3, im 19 18, gt 20 19 (.mv
 6), oS ⟨some 21, .call VW [20], some (19, true)⟩ UN, o1 22 (.pick 19 21 kF), ia 3 22]) (.frame (rg [4] 23 64) [] false (.join [.sl 4 false
 .str .leaf] (.block 2 (.seq (.region [im 31 6, o1 32 (.bin .eql 31 (.c (.int .u8 34))), im 33 32, gf 34 33 (.mv 6), gf 35 33 (.bin .eql 34 (.c (.int .u8 92))), o1 36 (.pick 33 kT
 35), ia 30 36]) (.frame (rg [4, 23, 24, 25, 26, 27, 28, 29] 37 50) [] false (.join [.sl 4 false .str .leaf] (.cond 30 (.region [im 37 4, o1 38 (.bin .add 37 (.c (.string
 ⟨#[92]⟩))), im 39 0, im 40 5, im 41 5, o1 42 (.bin .add 41 (kI 1)), o1 43 (.slS 39 (some 40) (some 42)), o1 44 (.bin .add 38 43), ia 4 44]) (.seq (.region [im 46 6, o1 47 (.bin
 .eql 46 (.c (.int .u8 10))), ia 45 47]) (.frame (rg [4, 23, 24, 25, 26, 27, 28, 29] 48 39) [] false (.join [.sl 4 false .str .leaf] (.cond 45 (.region [im 48 4, o1 49 (.bin .add 48
 (.c (.string ⟨#[92, 110]⟩))), ia 4 49]) (.seq (.region [im 51 6, o1 52 (.bin .eql 51 (.c (.int .u8 9))), ia 50 52]) (.frame (rg [4, 23, 24, 25, 26, 27, 28, 29] 53 34) [] false
 (.join [.sl 4 false .str .leaf] (.cond 50 (.region [im 53 4, o1 54 (.bin .add 53 (.c (.string ⟨#[92, 116]⟩))), ia 4 54]) (.seq (.region [im 56 6, o1 57 (.bin .lss 56 (.c (.int .u8
 32))), im 58 57, gf 59 58 (.mv 6), gf 60 58 (.bin .gtr 59 (.c (.int .u8 126))), o1 61 (.pick 58 kT 60), ia 55 61]) (.frame (rg [4, 23, 24, 25, 26, 27, 28, 29] 62 25) [] false
 (.join [.sl 4 false .str .leaf] (.cond 55 (.frame (rg [4] 62 25) [] false (.join [.sl 4 false .str .leaf] (.draw [(.first (im 62 4) (.first (o1 63 (.bin .add 62 (.c (.string
 ⟨#[92]⟩)))) (.first (im 64 6) (.first (o1 65 (.bin .quo 64 (.c (.int .u8 64)))) (.first (im 66 6) (.first (o1 67 (.bin .quo 66 (.c (.int .u8 64)))) (.first (o1 68 (.bin .add 67 (.c
 (.int .u8 1)))) (.first (o1 69 (.slS (.c (.string ⟨#[48, 49, 50, 51, 52, 53, 54, 55]⟩)) (some 65) (some 68))) (.first (o1 70 (.bin .add 63 69)) (.first (im 71 6) (.first (o1 72
 (.bin .quo 71 (.c (.int .u8 8)))) (.first (o1 73 (.bin .rem 72 (.c (.int .u8 8)))) (.first (im 74 6) (.first (o1 75 (.bin .quo 74 (.c (.int .u8 8)))) (.first (o1 76 (.bin .rem 75
 (.c (.int .u8 8)))) (.first (o1 77 (.bin .add 76 (.c (.int .u8 1)))) (.first (o1 78 (.slS (.c (.string ⟨#[48, 49, 50, 51, 52, 53, 54, 55]⟩)) (some 73) (some 77))) (.first (o1 79
 (.bin .add 70 78)) (.first (im 80 6) (.first (o1 81 (.bin .rem 80 (.c (.int .u8 8)))) (.first (im 82 6) (.first (o1 83 (.bin .rem 82 (.c (.int .u8 8)))) (.first (o1 84 (.bin .add
 83 (.c (.int .u8 1)))) (.first (o1 85 (.slS (.c (.string ⟨#[48, 49, 50, 51, 52, 53, 54, 55]⟩)) (some 81) (some 84))) (.first (o1 86 (.bin .add 79 85)) (.alt (ia 4 86) .done
 .stop))))))))))))))))))))))))))]))) (.region [im 23 4, im 24 0, im 25 5, im 26 5, o1 27 (.bin .add 26 (kI 1)), o1 28 (.slS 24 (some 25) (some 27)), o1 29 (.bin .add 23 28), ia 4
 29]))))))))))))))))))))))))) (.region [im 13 5, o1 14 (.bin .add 13 (kI 1)), ia 5 14])))))))) (.seq (.seq (.region [im 87 3]) (.cond 87 (.seq (.region [im 88 0, ia 2 88]) .ret)
 .skip)) (.seq (.region [im 89 4, o1 90 (.bin .add 89 (.c (.string ⟨#[34]⟩))), ia 2 90]) .ret))))))
def UW : AFn := ⟨ zS2, U5.erase, [.tmp 2], 1⟩
def Vf (P : Pg) (x : (List UInt8)) (K : (List UInt8) → Unit → Prop) : Prop :=
 BI (D := (Bool × (List UInt8))) (fun J1 => Mb (D := (Bool × ((List UInt8) × Int))) ((!(x == ([] : List UInt8))), (([34] : List UInt8), (0 : Int))) (fun d3 J4 => (((decide (d3.2.2 < (x.length : Int))) = true → BI (D := (Bool × (List UInt8))) (fun J5 => (0 ≤ d3.2.2 ∧ d3.2.2 < (x.length : Int)) ∧
 BI (D := Bool) (fun J7 => ((d3.1 = true → Fn P VW UN ((x.getD d3.2.2.toNat 0).toNat : Int) (fun (d8 : Bool) _ => J7 d8)) ∧ ((d3.1 = false → J7 false) ∧ True))) (fun d9 => BI (D := (List UInt8)) (fun J10 => BI (D := (List UInt8)) (fun J12 => (((cond (((x.getD d3.2.2.toNat 0).toNat : Int) == (34 : Int)) true (((x.getD d3.2.2.toNat 0).toNat : Int) == (92 : Int))) = true → (d3.2.1.length + List.length ([92] : List UInt8) ≤ 9223372036854775807) ∧
 (0 ≤ d3.2.2 ∧ d3.2.2 ≤ (i64.wrap (d3.2.2 + (1 : Int))) ∧ (i64.wrap (d3.2.2 + (1 : Int))) ≤ (x.length : Int)) ∧
 (List.length (d3.2.1 ++ ([92] : List UInt8)) + List.length (List.drop d3.2.2.toNat (List.take (Int.toNat (i64.wrap (d3.2.2 + (1 : Int)))) x)) ≤ 9223372036854775807) ∧
 J12 ((d3.2.1 ++ ([92] : List UInt8)) ++ (List.drop d3.2.2.toNat (List.take (Int.toNat (i64.wrap (d3.2.2 + (1 : Int)))) x)))) ∧ ((cond (((x.getD d3.2.2.toNat 0).toNat : Int) == (34 : Int)) true (((x.getD d3.2.2.toNat 0).toNat : Int) == (92 : Int))) = false → BI (D := (List UInt8)) (fun J14 => (((((x.getD d3.2.2.toNat 0).toNat : Int) == (10 : Int)) = true → (d3.2.1.length + List.length ([92, 110] : List UInt8) ≤ 9223372036854775807) ∧
 J14 (d3.2.1 ++ ([92, 110] : List UInt8))) ∧ ((((x.getD d3.2.2.toNat 0).toNat : Int) == (10 : Int)) = false → BI (D := (List UInt8)) (fun J16 => (((((x.getD d3.2.2.toNat 0).toNat : Int) == (9 : Int)) = true → (d3.2.1.length + List.length ([92, 116] : List UInt8) ≤ 9223372036854775807) ∧
 J16 (d3.2.1 ++ ([92, 116] : List UInt8))) ∧ ((((x.getD d3.2.2.toNat 0).toNat : Int) == (9 : Int)) = false → BI (D := (List UInt8)) (fun J18 => (((cond (decide (((x.getD d3.2.2.toNat 0).toNat : Int) < (32 : Int))) true (decide (((x.getD d3.2.2.toNat 0).toNat : Int) > (126 : Int)))) = true → BI (D := (List UInt8)) (fun J20 => (d3.2.1.length + List.length ([92] : List UInt8) ≤ 9223372036854775807) ∧
 ((64 : Int) ≠ 0) ∧
 ((64 : Int) ≠ 0) ∧
 (0 ≤ (u8.wrap (Int.tdiv ((x.getD d3.2.2.toNat 0).toNat : Int) (64 : Int))) ∧ (u8.wrap (Int.tdiv ((x.getD d3.2.2.toNat 0).toNat : Int) (64 : Int))) ≤ (u8.wrap ((u8.wrap (Int.tdiv ((x.getD d3.2.2.toNat 0).toNat : Int) (64 : Int))) + (1 : Int))) ∧ (u8.wrap ((u8.wrap (Int.tdiv ((x.getD d3.2.2.toNat 0).toNat : Int) (64 : Int))) + (1 : Int))) ≤ ((List.length ([48, 49, 50, 51, 52, 53, 54, 55] : List UInt8) : Nat) : Int)) ∧
 (List.length (d3.2.1 ++ ([92] : List UInt8)) + List.length (List.drop (Int.toNat (u8.wrap (Int.tdiv ((x.getD d3.2.2.toNat 0).toNat : Int) (64 : Int)))) (List.take (Int.toNat (u8.wrap ((u8.wrap (Int.tdiv ((x.getD d3.2.2.toNat 0).toNat : Int) (64 : Int))) + (1 : Int)))) ([48, 49, 50, 51, 52, 53, 54, 55] : List UInt8))) ≤ 9223372036854775807) ∧
 ((8 : Int) ≠ 0) ∧
 ((8 : Int) ≠ 0) ∧
 ((8 : Int) ≠ 0) ∧
 ((8 : Int) ≠ 0) ∧
 (0 ≤ (Int.tmod (u8.wrap (Int.tdiv ((x.getD d3.2.2.toNat 0).toNat : Int) (8 : Int))) (8 : Int)) ∧ (Int.tmod (u8.wrap (Int.tdiv ((x.getD d3.2.2.toNat 0).toNat : Int) (8 : Int))) (8 : Int)) ≤ (u8.wrap ((Int.tmod (u8.wrap (Int.tdiv ((x.getD d3.2.2.toNat 0).toNat : Int) (8 : Int))) (8 : Int)) + (1 : Int))) ∧ (u8.wrap ((Int.tmod (u8.wrap (Int.tdiv ((x.getD d3.2.2.toNat 0).toNat : Int) (8 : Int))) (8 : Int)) + (1 : Int))) ≤ ((List.length ([48, 49, 50, 51, 52, 53, 54, 55] : List UInt8) : Nat) : Int)) ∧
 (List.length ((d3.2.1 ++ ([92] : List UInt8)) ++ (List.drop (Int.toNat (u8.wrap (Int.tdiv ((x.getD d3.2.2.toNat 0).toNat : Int) (64 : Int)))) (List.take (Int.toNat (u8.wrap ((u8.wrap (Int.tdiv ((x.getD d3.2.2.toNat 0).toNat : Int) (64 : Int))) + (1 : Int)))) ([48, 49, 50, 51, 52, 53, 54, 55] : List UInt8)))) + List.length (List.drop (Int.toNat (Int.tmod (u8.wrap (Int.tdiv ((x.getD d3.2.2.toNat 0).toNat : Int) (8 : Int))) (8 : Int))) (List.take (Int.toNat (u8.wrap ((Int.tmod (u8.wrap (Int.tdiv ((x.getD d3.2.2.toNat 0).toNat : Int) (8 : Int))) (8 : Int)) + (1 : Int)))) ([48, 49, 50, 51, 52, 53, 54, 55] : List UInt8))) ≤ 9223372036854775807) ∧
 ((8 : Int) ≠ 0) ∧
 ((8 : Int) ≠ 0) ∧
 (0 ≤ (Int.tmod ((x.getD d3.2.2.toNat 0).toNat : Int) (8 : Int)) ∧ (Int.tmod ((x.getD d3.2.2.toNat 0).toNat : Int) (8 : Int)) ≤ (u8.wrap ((Int.tmod ((x.getD d3.2.2.toNat 0).toNat : Int) (8 : Int)) + (1 : Int))) ∧ (u8.wrap ((Int.tmod ((x.getD d3.2.2.toNat 0).toNat : Int) (8 : Int)) + (1 : Int))) ≤ ((List.length ([48, 49, 50, 51, 52, 53, 54, 55] : List UInt8) : Nat) : Int)) ∧
 (List.length (((d3.2.1 ++ ([92] : List UInt8)) ++ (List.drop (Int.toNat (u8.wrap (Int.tdiv ((x.getD d3.2.2.toNat 0).toNat : Int) (64 : Int)))) (List.take (Int.toNat (u8.wrap ((u8.wrap (Int.tdiv ((x.getD d3.2.2.toNat 0).toNat : Int) (64 : Int))) + (1 : Int)))) ([48, 49, 50, 51, 52, 53, 54, 55] : List UInt8)))) ++ (List.drop (Int.toNat (Int.tmod (u8.wrap (Int.tdiv ((x.getD d3.2.2.toNat 0).toNat : Int) (8 : Int))) (8 : Int))) (List.take (Int.toNat (u8.wrap ((Int.tmod (u8.wrap (Int.tdiv ((x.getD d3.2.2.toNat 0).toNat : Int) (8 : Int))) (8 : Int)) + (1 : Int)))) ([48, 49, 50, 51, 52, 53, 54, 55] : List UInt8)))) + List.length (List.drop (Int.toNat (Int.tmod ((x.getD d3.2.2.toNat 0).toNat : Int) (8 : Int))) (List.take (Int.toNat (u8.wrap ((Int.tmod ((x.getD d3.2.2.toNat 0).toNat : Int) (8 : Int)) + (1 : Int)))) ([48, 49, 50, 51, 52, 53, 54, 55] : List UInt8))) ≤ 9223372036854775807) ∧
 (J20 ((((d3.2.1 ++ ([92] : List UInt8)) ++ (List.drop (Int.toNat (u8.wrap (Int.tdiv ((x.getD d3.2.2.toNat 0).toNat : Int) (64 : Int)))) (List.take (Int.toNat (u8.wrap ((u8.wrap (Int.tdiv ((x.getD d3.2.2.toNat 0).toNat : Int) (64 : Int))) + (1 : Int)))) ([48, 49, 50, 51, 52, 53, 54, 55] : List UInt8)))) ++ (List.drop (Int.toNat (Int.tmod (u8.wrap (Int.tdiv ((x.getD d3.2.2.toNat 0).toNat : Int) (8 : Int))) (8 : Int))) (List.take (Int.toNat (u8.wrap ((Int.tmod (u8.wrap (Int.tdiv ((x.getD d3.2.2.toNat 0).toNat : Int) (8 : Int))) (8 : Int)) + (1 : Int)))) ([48, 49, 50, 51, 52, 53, 54, 55] : List UInt8)))) ++ (List.drop (Int.toNat (Int.tmod ((x.getD d3.2.2.toNat 0).toNat : Int) (8 : Int))) (List.take (Int.toNat (u8.wrap ((Int.tmod ((x.getD d3.2.2.toNat 0).toNat : Int) (8 : Int)) + (1 : Int)))) ([48, 49, 50, 51, 52, 53, 54, 55] : List UInt8))))) ∧ True) (fun d21 => J18 d21)) ∧ ((cond (decide (((x.getD d3.2.2.toNat 0).toNat : Int) < (32 : Int))) true (decide (((x.getD d3.2.2.toNat 0).toNat : Int) > (126 : Int)))) = false → (0 ≤ d3.2.2 ∧ d3.2.2 ≤ (i64.wrap (d3.2.2 + (1 : Int))) ∧ (i64.wrap (d3.2.2 + (1 : Int))) ≤ (x.length : Int)) ∧
 (d3.2.1.length + List.length (List.drop d3.2.2.toNat (List.take (Int.toNat (i64.wrap (d3.2.2 + (1 : Int)))) x)) ≤ 9223372036854775807) ∧
 J18 (d3.2.1 ++ (List.drop d3.2.2.toNat (List.take (Int.toNat (i64.wrap (d3.2.2 + (1 : Int)))) x)))))) (fun d19 => J16 d19)))) (fun d17 => J14 d17)))) (fun d15 => J12 d15)))) (fun d13 => J10 d13)) (fun d11 => J5 ((cond d3.1 d9 false), d11)))) (fun d6 => J4 (d6.1, (d6.2, (i64.wrap (d3.2.2 + (1 : Int))))))) ∧ ((decide (d3.2.2 < (x.length : Int))) = false → J1 (d3.1, d3.2.1))))) (fun d2 => ((d2.1 = true → K x ()) ∧ (d2.1 = false → (d2.2.length + List.length ([34] : List UInt8) ≤ 9223372036854775807) ∧
 K (d2.2 ++ ([34] : List UInt8)) ())))
theorem Vn {P : Pg} (h : Has P UW) {x : DP UK.ps} {K : DP UK.rs → DP (ptrs UK.ps) → Prop} (hw : Vf P x K) : Fn P zS2 UK x K :=
 FC (c := U5) h rfl rfl (by kernel_rfl) (Eq.mpr (show E4 P UW UK U5 x K = _ by kernel_rfl) hw)
def U1 : B1 :=
 (.seq (.region [o1 2 (.asg (.c (.string ⟨#[]⟩)))]) (.seq (.seq (.region [im 3 0, o1 4 (.bin .lss 3 (kI 0)), im 5 4, gf 6 5 (.mv 0), gf 7 5 (.bin .gtr 6 (kI 2147483647)), o1 8
 (.pick 5 kT 7)]) (.cond 8 (.seq (.region [o1 2 (.asg (.c (.string ⟨#[]⟩)))]) .ret) .skip)) (.seq (.seq (.region [im 9 0, o1 10 (.bin .lss 9 (kI 10))]) (.cond 10 (.seq (.region [im
 11 0, im 12 0, o1 13 (.bin .add 12 (kI 1)), o1 14 (.slS (.c (.string ⟨#[48, 49, 50, 51, 52, 53, 54, 55, 56, 57]⟩)) (some 11) (some 13)), ia 2 14]) .ret) .skip)) (.seq (.frame (rg
 [2] 15 10) [] false (.join [.sl 2 false .str .leaf] (.draw [(.first (im 15 0) (.first (o1 16 (.bin .quo 15 (kI 10))) (.first (im 18 0) (.first (o1 19 (.bin .rem 18 (kI 10)))
 (.first (im 20 0) (.first (o1 21 (.bin .rem 20 (kI 10))) (.first (o1 22 (.bin .add 21 (kI 1))) (.first (o1 23 (.slS (.c (.string ⟨#[48, 49, 50, 51, 52, 53, 54, 55, 56, 57]⟩)) (some
 19) (some 22))) (.alt (oS ⟨some 17, .call zS1 [16], none⟩ UJ) (.first (o1 24 (.bin .add 17 23)) (.alt (ia 2 24) .done .stop))
 .stop)))))))))]))) .ret))))
def UR : AFn := ⟨ zS1, U1.erase, [.tmp 2], 1⟩
def Va (P : Pg) (x : Int) (K : (List UInt8) → Unit → Prop) : Prop :=
 (((cond (decide (x < (0 : Int))) true (decide (x > (2147483647 : Int)))) = true → K ([] : List UInt8) ()) ∧ ((cond (decide (x < (0 : Int))) true (decide (x > (2147483647 : Int)))) = false → (((decide (x < (10 : Int))) = true → (0 ≤ x ∧ x ≤ (i64.wrap (x + (1 : Int))) ∧ (i64.wrap (x + (1 : Int))) ≤ ((List.length ([48, 49, 50, 51, 52, 53, 54, 55, 56, 57] : List UInt8) : Nat) : Int)) ∧
 K (List.drop x.toNat (List.take (Int.toNat (i64.wrap (x + (1 : Int)))) ([48, 49, 50, 51, 52, 53, 54, 55, 56, 57] : List UInt8))) ()) ∧ ((decide (x < (10 : Int))) = false → BI (D := (List UInt8)) (fun J1 => ((10 : Int) ≠ 0) ∧
 ((10 : Int) ≠ 0) ∧
 ((10 : Int) ≠ 0) ∧
 (0 ≤ (Int.tmod x (10 : Int)) ∧ (Int.tmod x (10 : Int)) ≤ (i64.wrap ((Int.tmod x (10 : Int)) + (1 : Int))) ∧ (i64.wrap ((Int.tmod x (10 : Int)) + (1 : Int))) ≤ ((List.length ([48, 49, 50, 51, 52, 53, 54, 55, 56, 57] : List UInt8) : Nat) : Int)) ∧
 (Fn P zS1 UJ (i64.wrap (Int.tdiv x (10 : Int))) (fun (d3 : (List UInt8)) (e4 : Unit) => (d3.length + List.length (List.drop (Int.toNat (Int.tmod x (10 : Int))) (List.take (Int.toNat (i64.wrap ((Int.tmod x (10 : Int)) + (1 : Int)))) ([48, 49, 50, 51, 52, 53, 54, 55, 56, 57] : List UInt8))) ≤ 9223372036854775807) ∧
 (J1 (d3 ++ (List.drop (Int.toNat (Int.tmod x (10 : Int))) (List.take (Int.toNat (i64.wrap ((Int.tmod x (10 : Int)) + (1 : Int)))) ([48, 49, 50, 51, 52, 53, 54, 55, 56, 57] : List UInt8))))) ∧ True)) ∧ True) (fun d2 => K d2 ())))))
theorem Vj {P : Pg} (h : Has P UR) {x : DP UJ.ps} {K : DP UJ.rs → DP (ptrs UJ.ps) → Prop} (hw : Va P x K) : Fn P zS1 UJ x K :=
 FC (c := U1) h rfl rfl (by kernel_rfl) (Eq.mpr (show E4 P UR UJ U1 x K = _ by kernel_rfl) hw)
def U6 : B1 :=
 (.seq (.region [o1 4 (.asg (.c (.string ⟨#[]⟩)))]) (.seq (.region [o1 5 (.asg (.c (.string ⟨#[]⟩)))]) (.seq (.seq (.region [ia 6 (kI 0)]) (.frame (rg [] 5 10) [] false (.join [.sl
 5 false .str .leaf] (.block 0 (.loop [.sl 5 false .str .leaf, .si 6] (.seq (.seq (.region [im 7 6, im 8 0, o1 9 (.bin .lss 7 8)]) (.cond 9 .skip (.exit 0))) (.seq (.frame [5, 12,
 13, 14] [] false (.join [.sl 5 false .str .leaf] (.block 1 (.region [im 12 5, im 13 1, o1 14 (.bin .add 12 13), ia 5 14])))) (.region [im 10 6, o1 11 (.bin .add 10 (kI 1)), ia 6
 11])))))))) (.seq (.region [im 15 5, ia 4 15]) .ret))))
def UX : AFn := ⟨ zS0, U6.erase, [.tmp 4], 2⟩
def Vg (P : Pg) (x : (Int × (List UInt8))) (K : (List UInt8) → Unit → Prop) : Prop :=
 BI (D := (List UInt8)) (fun J1 => Mb (D := ((List UInt8) × Int)) (([] : List UInt8), (0 : Int)) (fun d3 J4 => (((decide (d3.2 < x.1)) = true → BI (D := (List UInt8)) (fun J5 => (d3.1.length + x.2.length ≤ 9223372036854775807) ∧
 J5 (d3.1 ++ x.2)) (fun d6 => J4 (d6, (i64.wrap (d3.2 + (1 : Int)))))) ∧ ((decide (d3.2 < x.1)) = false → J1 d3.1)))) (fun d2 => K d2 ())
theorem Vo {P : Pg} (h : Has P UX) {x : DP UI.ps} {K : DP UI.rs → DP (ptrs UI.ps) → Prop} (hw : Vg P x K) : Fn P zS0 UI x K :=
 FC (c := U6) h rfl rfl (by kernel_rfl) (Eq.mpr (show E4 P UX UI U6 x K = _ by kernel_rfl) hw)
def U2 : B1 :=
 (.seq (.region [o1 4 (.asg (.c (.string ⟨#[]⟩))), ia 5 (kI 0)]) (.seq (.region [im 18 0, oS ⟨some 19, .call VV [18], none⟩ UO, im 17 19, o1
 20 (.ext 17 0), o1 21 (.ext 17 1), o1 22 (.ext 17 2), ia 6 20, ia 7 21, ia 8 22]) (.seq (.seq (.region [im 23 1, o1 24 (.bin .lss 23 (kI 2)), im 25 24, gf 26 25 (.mv 1), gf 27 25
 (.bin .gtr 26 (kI 1000)), o1 28 (.pick 25 kT 27), im 29 28, gf 30 29 (.mv 8), gf 31 29 (.un .not 30), o1 32 (.pick 29 kT 31)]) (.cond 32 (.seq (.region [o1 4 (.asg (.c (.string
 ⟨#[]⟩))), ia 5 (kI 3)]) .ret) .skip)) (.seq (.region [ia 9 (kI 0)]) (.seq (.seq (.region [ia 10 (kI 0)]) (.frame (rg [9, 10] 33 19) [] false (.join [.si 9] (.block 0 (.loop [.si 9,
 .si 10] (.seq (.seq (.region [im 33 10, im 34 0, o1 35 (.lenK 34), o1 36 (.bin .lss 33 35)]) (.cond 36 .skip (.exit 0))) (.seq (.frame (rg [9] 39 13) [] false (.join [.si 9]
 (.block 1 (.frame (rg [9] 39 13) [] false (.join [.si 9] (.draw [(.first (im 39 9) (.first (im 40 0) (.first (im 41 10) (.first (o1 42 (.ixA 3 40 41)) (.first (fa 43 1 42) (.first
 (ld 44 43) (.first (im 45 0) (.first (im 46 10) (.first (o1 47 (.ixA 3 45 46)) (.first (fa 48 2 47) (.first (ld 49 48) (.first (o1 50 (.bin .add 44 49)) (.first (o1 51 (.mm true 39
 50)) (.alt (ia 9 51) .done .stop))))))))))))))])))))) (.region [im 37 10, o1 38 (.bin .add 37 (kI 1)), ia 10 38])))))))) (.seq (.region [o1 11 (.asg (.c (.slice none 0 0)))]) (.seq
 (.seq (.region [ia 12 (kI 0)]) (.frame (rg [11, 12, 13, 14, 15] 52 55) [] false (.join [.sl 11 false (.sl .str) tO] (.block 2 (.loop [.sl 11 false (.sl .str) tO, .si 12] (.seq
 (.seq (.region [im 52 12, im 53 0, o1 54 (.lenK 53), o1 55 (.bin .lss 52 54)]) (.cond 55 .skip (.exit 2))) (.seq (.frame (rg [11, 13, 14, 15] 58 49) [] false (.join [.sl 11 false
 (.sl .str) tO] (.block 3 (.seq (.frame (rg [13, 14, 15] 58 17) [] false (.join [.si 13, .si 14] (.draw [(.first (im 59 0) (.first (im 60 12) (.first (o1 61 (.ixA 3 59 60)) (.first
 (fa 62 1 61) (.first (ld 63 62) (.first (im 64 0) (.first (im 65 12) (.first (o1 66 (.ixA 3 64 65)) (.first (fa 67 2 66) (.first (ld 68 67) (.first (im 69 9) (.first (im 70 1)
 (.alt (oS ⟨some 71, .call UC [63, 68, 69, 70], none⟩ Bm) (.first (im 58 71) (.alt (o1 72 (.ext 58 0)) (.alt (o1 73 (.ext 58 1)) (.alt (o1 74
 (.ext 58 2)) (.alt (ia 13 72) (.alt (ia 14 73) (.alt (ia 15 74) .done .stop) .stop) .stop) (.alt (ia 13 72) (.alt (o1 74 (.ext 58 2)) (.alt (ia 14 73) (.alt (ia 15 74) .done .stop)
 .stop) (.alt (ia 14 73) (.alt (o1 74 (.ext 58 2)) (.alt (ia 15 74) .done .stop) .stop) .stop)) .stop)) (.alt (o1 74 (.ext 58 2)) (.alt (o1 73 (.ext 58 1)) (.alt (ia 13 72) (.alt
 (ia 14 73) (.alt (ia 15 74) .done .stop) .stop) .stop) (.alt (ia 13 72) (.alt (o1 73 (.ext 58 1)) (.alt (ia 14 73) (.alt (ia 15 74) .done .stop) .stop) .stop) .stop)) (.alt (ia 13
 72) (.alt (o1 73 (.ext 58 1)) (.alt (o1 74 (.ext 58 2)) (.alt (ia 14 73) (.alt (ia 15 74) .done .stop) .stop) (.alt (ia 14 73) (.alt (o1 74 (.ext 58 2)) (.alt (ia 15 74) .done
 .stop) .stop) .stop)) (.alt (o1 74 (.ext 58 2)) (.alt (o1 73 (.ext 58 1)) (.alt (ia 14 73) (.alt (ia 15 74) .done .stop) .stop) .stop) .stop)) .stop))) (.alt (o1 73 (.ext 58 1))
 (.alt (o1 72 (.ext 58 0)) (.alt (o1 74 (.ext 58 2)) (.alt (ia 13 72) (.alt (ia 14 73) (.alt (ia 15 74) .done .stop) .stop) .stop) (.alt (ia 13 72) (.alt (o1 74 (.ext 58 2)) (.alt
 (ia 14 73) (.alt (ia 15 74) .done .stop) .stop) (.alt (ia 14 73) (.alt (o1 74 (.ext 58 2)) (.alt (ia 15 74) .done .stop) .stop) .stop)) .stop)) (.alt (o1 74 (.ext 58 2)) (.alt (o1
 72 (.ext 58 0)) (.alt (ia 13 72) (.alt (ia 14 73) (.alt (ia 15 74) .done .stop) .stop) .stop) .stop) .stop)) (.alt (o1 74 (.ext 58 2)) (.alt (o1 72 (.ext 58 0)) (.alt (o1 73 (.ext
 58 1)) (.alt (ia 13 72) (.alt (ia 14 73) (.alt (ia 15 74) .done .stop) .stop) .stop) (.alt (ia 13 72) (.alt (o1 73 (.ext 58 1)) (.alt (ia 14 73) (.alt (ia 15 74) .done .stop)
 .stop) .stop) .stop)) (.alt (o1 73 (.ext 58 1)) (.alt (o1 72 (.ext 58 0)) (.alt (ia 13 72) (.alt (ia 14 73) (.alt (ia 15 74) .done .stop) .stop) .stop) .stop) .stop)) .stop))))
 .stop)))))))))))))]))) (.frame (rg [11] 75 32) [] false (.join [.sl 11 false (.sl .str) tO] (.draw [(.first (im 75 11) (.first (im 76 0) (.first (im 77 12) (.first (o1 78 (.ixA 3
 76 77)) (.first (fa 79 0 78) (.first (im 84 0) (.first (im 85 12) (.first (o1 86 (.ixA 3 84 85)) (.first (fa 87 1 86) (.first (im 89 0) (.first (im 90 12) (.first (o1 91 (.ixA 3 89
 90)) (.first (fa 92 2 91) (.first (im 98 13) (.first (im 101 14) (.alt (ld 80 79) (.alt (oS ⟨some 81, .call zS2 [80], none⟩ UK) (.first (o1
 82 (.bin .add (.c (.string ⟨#[32]⟩)) 81)) (.first (o1 83 (.bin .add 82 (.c (.string ⟨#[32, 124, 32]⟩)))) (.alt (ld 88 87) (.alt (ld 93 92) (.first (o1 94 (.bin .add 88 93)) (.alt
 (oS ⟨some 95, .call zS1 [94], none⟩ UJ) (.first (o1 96 (.bin .add 83 95)) (.first (o1 97 (.bin .add 96 (.c (.string ⟨#[32]⟩)))) (.alt (oS
 ⟨some 99, .call zS0 [98, (.c (.string ⟨#[43]⟩))], none⟩ UI) (.first (o1 100 (.bin .add 97 99)) (.alt (oS ⟨some 102, .call
 zS0 [101, (.c (.string ⟨#[45]⟩))], none⟩ UI) (.first (o1 103 (.bin .add 100 102)) (.first (o1 104 (.bin .add 103 (.c (.string ⟨#[10]⟩))))
 (.alt (oT ⟨some 105, .buildSl 1 [(.string ⟨#[]⟩)] 1 [(0, 104)], none⟩ (some (.str, .leaf))) (.alt (oT ⟨some 106, .app 1 16 75 105, none⟩ (some (.str, .leaf))) (.alt (ia 11 106)
 .done .stop) .stop) .stop))) .stop)) .stop))) .stop)) .stop) (.alt (ld 93 92) (.alt (ld 88 87) (.first (o1 94 (.bin .add 88 93)) (.alt (oS ⟨some 95, .call
 zS1 [94], none⟩ UJ) (.first (o1 96 (.bin .add 83 95)) (.first (o1 97 (.bin .add 96 (.c (.string ⟨#[32]⟩)))) (.alt (oS ⟨some 99, .call
 zS0 [98, (.c (.string ⟨#[43]⟩))], none⟩ UI) (.first (o1 100 (.bin .add 97 99)) (.alt (oS ⟨some 102, .call zS0
 [101, (.c (.string ⟨#[45]⟩))], none⟩ UI) (.first (o1 103 (.bin .add 100 102)) (.first (o1 104 (.bin .add 103 (.c (.string ⟨#[10]⟩)))) (.alt (oT ⟨some 105, .buildSl 1
 [(.string ⟨#[]⟩)] 1 [(0, 104)], none⟩ (some (.str, .leaf))) (.alt (oT ⟨some 106, .app 1 16 75 105, none⟩ (some (.str, .leaf))) (.alt (ia 11 106) .done .stop) .stop) .stop)))
 .stop)) .stop))) .stop)) .stop) .stop)))) (.alt (ld 88 87) (.alt (oS ⟨some 81, .call zS2 [80], none⟩ UK) (.first (o1 82 (.bin .add (.c
 (.string ⟨#[32]⟩)) 81)) (.first (o1 83 (.bin .add 82 (.c (.string ⟨#[32, 124, 32]⟩)))) (.alt (ld 93 92) (.first (o1 94 (.bin .add 88 93)) (.alt (oS ⟨some 95, .call
 zS1 [94], none⟩ UJ) (.first (o1 96 (.bin .add 83 95)) (.first (o1 97 (.bin .add 96 (.c (.string ⟨#[32]⟩)))) (.alt (oS ⟨some 99, .call
 zS0 [98, (.c (.string ⟨#[43]⟩))], none⟩ UI) (.first (o1 100 (.bin .add 97 99)) (.alt (oS ⟨some 102, .call zS0
 [101, (.c (.string ⟨#[45]⟩))], none⟩ UI) (.first (o1 103 (.bin .add 100 102)) (.first (o1 104 (.bin .add 103 (.c (.string ⟨#[10]⟩)))) (.alt (oT ⟨some 105, .buildSl 1
 [(.string ⟨#[]⟩)] 1 [(0, 104)], none⟩ (some (.str, .leaf))) (.alt (oT ⟨some 106, .app 1 16 75 105, none⟩ (some (.str, .leaf))) (.alt (ia 11 106) .done .stop) .stop) .stop)))
 .stop)) .stop))) .stop)) .stop))) (.alt (ld 93 92) (.first (o1 94 (.bin .add 88 93)) (.alt (oS ⟨some 81, .call zS2 [80], none⟩ UK) (.first
 (o1 82 (.bin .add (.c (.string ⟨#[32]⟩)) 81)) (.first (o1 83 (.bin .add 82 (.c (.string ⟨#[32, 124, 32]⟩)))) (.alt (oS ⟨some 95, .call zS1 [94], none⟩
 UJ) (.first (o1 96 (.bin .add 83 95)) (.first (o1 97 (.bin .add 96 (.c (.string ⟨#[32]⟩)))) (.alt (oS ⟨some 99, .call zS0 [98, (.c (.string
 ⟨#[43]⟩))], none⟩ UI) (.first (o1 100 (.bin .add 97 99)) (.alt (oS ⟨some 102, .call zS0 [101, (.c (.string ⟨#[45]⟩))], none⟩ UI)
 (.first (o1 103 (.bin .add 100 102)) (.first (o1 104 (.bin .add 103 (.c (.string ⟨#[10]⟩)))) (.alt (oT ⟨some 105, .buildSl 1 [(.string ⟨#[]⟩)] 1 [(0, 104)], none⟩ (some (.str,
 .leaf))) (.alt (oT ⟨some 106, .app 1 16 75 105, none⟩ (some (.str, .leaf))) (.alt (ia 11 106) .done .stop) .stop) .stop))) .stop)) .stop))) .stop))) .stop)) .stop)) (.alt (ld 93
 92) (.alt (oS ⟨some 81, .call zS2 [80], none⟩ UK) (.first (o1 82 (.bin .add (.c (.string ⟨#[32]⟩)) 81)) (.first (o1 83 (.bin .add 82 (.c
 (.string ⟨#[32, 124, 32]⟩)))) (.alt (ld 88 87) (.first (o1 94 (.bin .add 88 93)) (.alt (oS ⟨some 95, .call zS1 [94], none⟩ UJ) (.first (o1
 96 (.bin .add 83 95)) (.first (o1 97 (.bin .add 96 (.c (.string ⟨#[32]⟩)))) (.alt (oS ⟨some 99, .call zS0 [98, (.c (.string ⟨#[43]⟩))], none⟩
 UI) (.first (o1 100 (.bin .add 97 99)) (.alt (oS ⟨some 102, .call zS0 [101, (.c (.string ⟨#[45]⟩))], none⟩ UI) (.first (o1 103
 (.bin .add 100 102)) (.first (o1 104 (.bin .add 103 (.c (.string ⟨#[10]⟩)))) (.alt (oT ⟨some 105, .buildSl 1 [(.string ⟨#[]⟩)] 1 [(0, 104)], none⟩ (some (.str, .leaf))) (.alt (oT
 ⟨some 106, .app 1 16 75 105, none⟩ (some (.str, .leaf))) (.alt (ia 11 106) .done .stop) .stop) .stop))) .stop)) .stop))) .stop)) .stop))) (.alt (ld 88 87) (.first (o1 94 (.bin .add
 88 93)) (.alt (oS ⟨some 81, .call zS2 [80], none⟩ UK) (.first (o1 82 (.bin .add (.c (.string ⟨#[32]⟩)) 81)) (.first (o1 83 (.bin .add 82 (.c
 (.string ⟨#[32, 124, 32]⟩)))) (.alt (oS ⟨some 95, .call zS1 [94], none⟩ UJ) (.first (o1 96 (.bin .add 83 95)) (.first (o1 97 (.bin .add 96
 (.c (.string ⟨#[32]⟩)))) (.alt (oS ⟨some 99, .call zS0 [98, (.c (.string ⟨#[43]⟩))], none⟩ UI) (.first (o1 100 (.bin .add 97 99)) (.alt (oS
 ⟨some 102, .call zS0 [101, (.c (.string ⟨#[45]⟩))], none⟩ UI) (.first (o1 103 (.bin .add 100 102)) (.first (o1 104 (.bin .add 103 (.c
 (.string ⟨#[10]⟩)))) (.alt (oT ⟨some 105, .buildSl 1 [(.string ⟨#[]⟩)] 1 [(0, 104)], none⟩ (some (.str, .leaf))) (.alt (oT ⟨some 106, .app 1 16 75 105, none⟩ (some (.str, .leaf)))
 (.alt (ia 11 106) .done .stop) .stop) .stop))) .stop)) .stop))) .stop))) .stop)) .stop)) .stop))) (.alt (ld 88 87) (.alt (ld 80 79) (.alt (oS ⟨some 81, .call
 zS2 [80], none⟩ UK) (.first (o1 82 (.bin .add (.c (.string ⟨#[32]⟩)) 81)) (.first (o1 83 (.bin .add 82 (.c (.string ⟨#[32, 124, 32]⟩))))
 (.alt (ld 93 92) (.first (o1 94 (.bin .add 88 93)) (.alt (oS ⟨some 95, .call zS1 [94], none⟩ UJ) (.first (o1 96 (.bin .add 83 95)) (.first
 (o1 97 (.bin .add 96 (.c (.string ⟨#[32]⟩)))) (.alt (oS ⟨some 99, .call zS0 [98, (.c (.string ⟨#[43]⟩))], none⟩ UI) (.first (o1 100 (.bin
 .add 97 99)) (.alt (oS ⟨some 102, .call zS0 [101, (.c (.string ⟨#[45]⟩))], none⟩ UI) (.first (o1 103 (.bin .add 100 102)) (.first (o1 104
 (.bin .add 103 (.c (.string ⟨#[10]⟩)))) (.alt (oT ⟨some 105, .buildSl 1 [(.string ⟨#[]⟩)] 1 [(0, 104)], none⟩ (some (.str, .leaf))) (.alt (oT ⟨some 106, .app 1 16 75 105, none⟩
 (some (.str, .leaf))) (.alt (ia 11 106) .done .stop) .stop) .stop))) .stop)) .stop))) .stop)) .stop))) (.alt (ld 93 92) (.first (o1 94 (.bin .add 88 93)) (.alt (oS ⟨some 81, .call
 zS2 [80], none⟩ UK) (.first (o1 82 (.bin .add (.c (.string ⟨#[32]⟩)) 81)) (.first (o1 83 (.bin .add 82 (.c (.string ⟨#[32, 124, 32]⟩))))
 (.alt (oS ⟨some 95, .call zS1 [94], none⟩ UJ) (.first (o1 96 (.bin .add 83 95)) (.first (o1 97 (.bin .add 96 (.c (.string ⟨#[32]⟩))))
 (.alt (oS ⟨some 99, .call zS0 [98, (.c (.string ⟨#[43]⟩))], none⟩ UI) (.first (o1 100 (.bin .add 97 99)) (.alt (oS ⟨some 102, .call
 zS0 [101, (.c (.string ⟨#[45]⟩))], none⟩ UI) (.first (o1 103 (.bin .add 100 102)) (.first (o1 104 (.bin .add 103 (.c (.string ⟨#[10]⟩))))
 (.alt (oT ⟨some 105, .buildSl 1 [(.string ⟨#[]⟩)] 1 [(0, 104)], none⟩ (some (.str, .leaf))) (.alt (oT ⟨some 106, .app 1 16 75 105, none⟩ (some (.str, .leaf))) (.alt (ia 11 106)
 .done .stop) .stop) .stop))) .stop)) .stop))) .stop))) .stop)) .stop)) (.alt (ld 93 92) (.first (o1 94 (.bin .add 88 93)) (.alt (ld 80 79) (.alt (oS ⟨some 81, .call
 zS2 [80], none⟩ UK) (.first (o1 82 (.bin .add (.c (.string ⟨#[32]⟩)) 81)) (.first (o1 83 (.bin .add 82 (.c (.string ⟨#[32, 124, 32]⟩))))
 (.alt (oS ⟨some 95, .call zS1 [94], none⟩ UJ) (.first (o1 96 (.bin .add 83 95)) (.first (o1 97 (.bin .add 96 (.c (.string ⟨#[32]⟩))))
 (.alt (oS ⟨some 99, .call zS0 [98, (.c (.string ⟨#[43]⟩))], none⟩ UI) (.first (o1 100 (.bin .add 97 99)) (.alt (oS ⟨some 102, .call
 zS0 [101, (.c (.string ⟨#[45]⟩))], none⟩ UI) (.first (o1 103 (.bin .add 100 102)) (.first (o1 104 (.bin .add 103 (.c (.string ⟨#[10]⟩))))
 (.alt (oT ⟨some 105, .buildSl 1 [(.string ⟨#[]⟩)] 1 [(0, 104)], none⟩ (some (.str, .leaf))) (.alt (oT ⟨some 106, .app 1 16 75 105, none⟩ (some (.str, .leaf))) (.alt (ia 11 106)
 .done .stop) .stop) .stop))) .stop)) .stop))) .stop))) .stop) .stop)) .stop)) (.alt (ld 93 92) (.alt (ld 80 79) (.alt (oS ⟨some 81, .call zS2 [80],
 none⟩ UK) (.first (o1 82 (.bin .add (.c (.string ⟨#[32]⟩)) 81)) (.first (o1 83 (.bin .add 82 (.c (.string ⟨#[32, 124, 32]⟩)))) (.alt (ld 88 87) (.first (o1 94 (.bin .add
 88 93)) (.alt (oS ⟨some 95, .call zS1 [94], none⟩ UJ) (.first (o1 96 (.bin .add 83 95)) (.first (o1 97 (.bin .add 96 (.c (.string
 ⟨#[32]⟩)))) (.alt (oS ⟨some 99, .call zS0 [98, (.c (.string ⟨#[43]⟩))], none⟩ UI) (.first (o1 100 (.bin .add 97 99)) (.alt (oS ⟨some 102,
 .call zS0 [101, (.c (.string ⟨#[45]⟩))], none⟩ UI) (.first (o1 103 (.bin .add 100 102)) (.first (o1 104 (.bin .add 103 (.c (.string
 ⟨#[10]⟩)))) (.alt (oT ⟨some 105, .buildSl 1 [(.string ⟨#[]⟩)] 1 [(0, 104)], none⟩ (some (.str, .leaf))) (.alt (oT ⟨some 106, .app 1 16 75 105, none⟩ (some (.str, .leaf))) (.alt (ia
 11 106) .done .stop) .stop) .stop))) .stop)) .stop))) .stop)) .stop))) (.alt (ld 88 87) (.first (o1 94 (.bin .add 88 93)) (.alt (oS ⟨some 81, .call zS2
 [80], none⟩ UK) (.first (o1 82 (.bin .add (.c (.string ⟨#[32]⟩)) 81)) (.first (o1 83 (.bin .add 82 (.c (.string ⟨#[32, 124, 32]⟩)))) (.alt (oS ⟨some 95, .call
 zS1 [94], none⟩ UJ) (.first (o1 96 (.bin .add 83 95)) (.first (o1 97 (.bin .add 96 (.c (.string ⟨#[32]⟩)))) (.alt (oS ⟨some 99, .call
 zS0 [98, (.c (.string ⟨#[43]⟩))], none⟩ UI) (.first (o1 100 (.bin .add 97 99)) (.alt (oS ⟨some 102, .call zS0
 [101, (.c (.string ⟨#[45]⟩))], none⟩ UI) (.first (o1 103 (.bin .add 100 102)) (.first (o1 104 (.bin .add 103 (.c (.string ⟨#[10]⟩)))) (.alt (oT ⟨some 105, .buildSl 1
 [(.string ⟨#[]⟩)] 1 [(0, 104)], none⟩ (some (.str, .leaf))) (.alt (oT ⟨some 106, .app 1 16 75 105, none⟩ (some (.str, .leaf))) (.alt (ia 11 106) .done .stop) .stop) .stop)))
 .stop)) .stop))) .stop))) .stop)) .stop)) (.alt (ld 88 87) (.first (o1 94 (.bin .add 88 93)) (.alt (ld 80 79) (.alt (oS ⟨some 81, .call zS2 [80], none⟩
 UK) (.first (o1 82 (.bin .add (.c (.string ⟨#[32]⟩)) 81)) (.first (o1 83 (.bin .add 82 (.c (.string ⟨#[32, 124, 32]⟩)))) (.alt (oS ⟨some 95, .call
 zS1 [94], none⟩ UJ) (.first (o1 96 (.bin .add 83 95)) (.first (o1 97 (.bin .add 96 (.c (.string ⟨#[32]⟩)))) (.alt (oS ⟨some 99, .call
 zS0 [98, (.c (.string ⟨#[43]⟩))], none⟩ UI) (.first (o1 100 (.bin .add 97 99)) (.alt (oS ⟨some 102, .call zS0
 [101, (.c (.string ⟨#[45]⟩))], none⟩ UI) (.first (o1 103 (.bin .add 100 102)) (.first (o1 104 (.bin .add 103 (.c (.string ⟨#[10]⟩)))) (.alt (oT ⟨some 105, .buildSl 1
 [(.string ⟨#[]⟩)] 1 [(0, 104)], none⟩ (some (.str, .leaf))) (.alt (oT ⟨some 106, .app 1 16 75 105, none⟩ (some (.str, .leaf))) (.alt (ia 11 106) .done .stop) .stop) .stop)))
 .stop)) .stop))) .stop))) .stop) .stop)) .stop)) .stop))))))))))))))))))]))))))) (.region [im 56 12, o1 57 (.bin .add 56 (kI 1)), ia 12 57])))))))) (.seq (.region [im 107 11, im
 108 0, o1 109 (.lenK 108), oS ⟨some 110, .call zS1 [109], none⟩ UJ, o1 111 (.bin .add (.c (.string ⟨#[32]⟩)) 110), o1 112 (.bin .add 111
 (.c (.string ⟨#[32, 102, 105, 108, 101, 115, 44, 32]⟩))), im 113 6, oS ⟨some 114, .call zS1 [113], none⟩ UJ, o1 115 (.bin .add 112 114),
 o1 116 (.bin .add 115 (.c (.string ⟨#[32, 97, 100, 100, 101, 100, 44, 32]⟩))), im 117 7, oS ⟨some 118, .call zS1 [117], none⟩ UJ, o1 119
 (.bin .add 116 118), o1 120 (.bin .add 119 (.c (.string ⟨#[32, 114, 101, 109, 111, 118, 101, 100, 10]⟩))), oT ⟨some 121, .buildSl 1 [(.string ⟨#[]⟩)] 1 [(0, 120)], none⟩ (some
 (.str, .leaf)), oT ⟨some 122, .app 1 16 107 121, none⟩ (some (.str, .leaf)), ia 11 122]) (.seq (.region [im 123 11, oS ⟨some 124, .call V4 [123], none⟩
 U3, ia 16 124]) (.seq (.seq (.region [im 125 16, o1 126 (.MJ 125), o1 127 (.bin .gtr 126 (kI 16777216))]) (.cond 127 (.seq (.region [o1 4 (.asg (.c (.string ⟨#[]⟩))), ia
 5 (kI 1)]) .ret) .skip)) (.seq (.region [im 128 16, ia 4 128, ia 5 (kI 0)]) .ret)))))))))))
def US : AFn := ⟨ zS8, U2.erase, [.tmp 4, .tmp 5], 2⟩
def Vb (P : Pg) (x : ((List Stat) × Int)) (K : ((List UInt8) × Int) → Unit → Prop) : Prop :=
 Fn P VV UO x.1 (fun (d1 : (Int × (Int × Bool))) (e2 : Unit) => (((cond (cond (decide (x.2 < (2 : Int))) true (decide (x.2 > (1000 : Int)))) true (!d1.2.2)) = true → K (([] : List UInt8), (3 : Int)) ()) ∧ ((cond (cond (decide (x.2 < (2 : Int))) true (decide (x.2 > (1000 : Int)))) true (!d1.2.2)) = false → BI (D := Int) (fun J3 => Mb (D := (Int × Int)) ((0 : Int), (0 : Int)) (fun d5 J6 => (((decide (d5.2 < (x.1.length : Int))) = true → BI (D := Int) (fun J7 => BI (D := Int) (fun J9 => (0 ≤ d5.2 ∧ d5.2 < (x.1.length : Int)) ∧
 (d5.2.toNat < x.1.length) ∧
 (0 ≤ d5.2 ∧ d5.2 < (x.1.length : Int)) ∧
 (d5.2.toNat < x.1.length) ∧
 (J9 (if (i64.wrap ((List.getD x.1 d5.2.toNat FH).2.1 + (List.getD x.1 d5.2.toNat FH).2.2)) > d5.1 then (i64.wrap ((List.getD x.1 d5.2.toNat FH).2.1 + (List.getD x.1 d5.2.toNat FH).2.2)) else d5.1)) ∧ True) (fun d10 => J7 d10)) (fun d8 => J6 (d8, (i64.wrap (d5.2 + (1 : Int)))))) ∧ ((decide (d5.2 < (x.1.length : Int))) = false → J3 d5.1)))) (fun d4 => BI (D := (List (List UInt8))) (fun J11 => Mb (D := ((List (List UInt8)) × Int)) ([], (0 : Int)) (fun d13 J14 => (((decide (d13.2 < (x.1.length : Int))) = true → BI (D := (List (List UInt8))) (fun J15 => BI (D := (Int × Int)) (fun J17 => (0 ≤ d13.2 ∧ d13.2 < (x.1.length : Int)) ∧
 (d13.2.toNat < x.1.length) ∧
 (0 ≤ d13.2 ∧ d13.2 < (x.1.length : Int)) ∧
 (d13.2.toNat < x.1.length) ∧
 (Fn P UC Bm ((List.getD x.1 d13.2.toNat FH).2.1, ((List.getD x.1 d13.2.toNat FH).2.2, (d4, x.2))) (fun (d19 : (Int × (Int × Int))) (e20 : Unit) => ((((((J17 (d19.1, d19.2.1)) ∧ True) ∧ True) ∧ True) ∧ (((((J17 (d19.1, d19.2.1)) ∧ True) ∧ True) ∧ ((((J17 (d19.1, d19.2.1)) ∧ True) ∧ True) ∧ True)) ∧ True)) ∧ ((((((J17 (d19.1, d19.2.1)) ∧ True) ∧ True) ∧ True) ∧ (((((J17 (d19.1, d19.2.1)) ∧ True) ∧ True) ∧ True) ∧ True)) ∧ ((((((J17 (d19.1, d19.2.1)) ∧ True) ∧ True) ∧ ((((J17 (d19.1, d19.2.1)) ∧ True) ∧ True) ∧ True)) ∧ (((((J17 (d19.1, d19.2.1)) ∧ True) ∧ True) ∧ True) ∧ True)) ∧ True))) ∧ (((((((J17 (d19.1, d19.2.1)) ∧ True) ∧ True) ∧ True) ∧ (((((J17 (d19.1, d19.2.1)) ∧ True) ∧ True) ∧ ((((J17 (d19.1, d19.2.1)) ∧ True) ∧ True) ∧ True)) ∧ True)) ∧ ((((((J17 (d19.1, d19.2.1)) ∧ True) ∧ True) ∧ True) ∧ True) ∧ True)) ∧ (((((((J17 (d19.1, d19.2.1)) ∧ True) ∧ True) ∧ True) ∧ (((((J17 (d19.1, d19.2.1)) ∧ True) ∧ True) ∧ True) ∧ True)) ∧ ((((((J17 (d19.1, d19.2.1)) ∧ True) ∧ True) ∧ True) ∧ True) ∧ True)) ∧ True)))) ∧ True) (fun d18 => BI (D := (List (List UInt8))) (fun J21 => (0 ≤ d13.2 ∧ d13.2 < (x.1.length : Int)) ∧
 (0 ≤ d13.2 ∧ d13.2 < (x.1.length : Int)) ∧
 (0 ≤ d13.2 ∧ d13.2 < (x.1.length : Int)) ∧
 ((d13.2.toNat < x.1.length) ∧
 (Fn P zS2 UK (List.getD x.1 d13.2.toNat FH).1 (fun (d23 : (List UInt8)) (e24 : Unit) => (List.length ([32] : List UInt8) + d23.length ≤ 9223372036854775807) ∧
 (List.length (([32] : List UInt8) ++ d23) + List.length ([32, 124, 32] : List UInt8) ≤ 9223372036854775807) ∧
 ((d13.2.toNat < x.1.length) ∧
 ((d13.2.toNat < x.1.length) ∧
 (Fn P zS1 UJ (i64.wrap ((List.getD x.1 d13.2.toNat FH).2.1 + (List.getD x.1 d13.2.toNat FH).2.2)) (fun (d25 : (List UInt8)) (e26 : Unit) => (List.length ((([32] : List UInt8) ++ d23) ++ ([32, 124, 32] : List UInt8)) + d25.length ≤ 9223372036854775807) ∧
 (List.length (((([32] : List UInt8) ++ d23) ++ ([32, 124, 32] : List UInt8)) ++ d25) + List.length ([32] : List UInt8) ≤ 9223372036854775807) ∧
 (Fn P zS0 UI (d18.1, ([43] : List UInt8)) (fun (d27 : (List UInt8)) (e28 : Unit) => (List.length ((((([32] : List UInt8) ++ d23) ++ ([32, 124, 32] : List UInt8)) ++ d25) ++ ([32] : List UInt8)) + d27.length ≤ 9223372036854775807) ∧
 (Fn P zS0 UI (d18.2, ([45] : List UInt8)) (fun (d29 : (List UInt8)) (e30 : Unit) => (List.length (((((([32] : List UInt8) ++ d23) ++ ([32, 124, 32] : List UInt8)) ++ d25) ++ ([32] : List UInt8)) ++ d27) + d29.length ≤ 9223372036854775807) ∧
 (List.length ((((((([32] : List UInt8) ++ d23) ++ ([32, 124, 32] : List UInt8)) ++ d25) ++ ([32] : List UInt8)) ++ d27) ++ d29) + List.length ([10] : List UInt8) ≤ 9223372036854775807) ∧
 ((((d13.1.length + List.length ([(((((((([32] : List UInt8) ++ d23) ++ ([32, 124, 32] : List UInt8)) ++ d25) ++ ([32] : List UInt8)) ++ d27) ++ d29) ++ ([10] : List UInt8))] : List (List UInt8))) * 16 ≤ 140737488355328) ∧
 (J21 (d13.1 ++ ([(((((((([32] : List UInt8) ++ d23) ++ ([32, 124, 32] : List UInt8)) ++ d25) ++ ([32] : List UInt8)) ++ d27) ++ d29) ++ ([10] : List UInt8))] : List (List UInt8)))) ∧ True) ∧ True) ∧ True)) ∧ True)) ∧ True)) ∧ True) ∧ True) ∧ (((d13.2.toNat < x.1.length) ∧
 ((d13.2.toNat < x.1.length) ∧
 (Fn P zS1 UJ (i64.wrap ((List.getD x.1 d13.2.toNat FH).2.1 + (List.getD x.1 d13.2.toNat FH).2.2)) (fun (d31 : (List UInt8)) (e32 : Unit) => (List.length ((([32] : List UInt8) ++ d23) ++ ([32, 124, 32] : List UInt8)) + d31.length ≤ 9223372036854775807) ∧
 (List.length (((([32] : List UInt8) ++ d23) ++ ([32, 124, 32] : List UInt8)) ++ d31) + List.length ([32] : List UInt8) ≤ 9223372036854775807) ∧
 (Fn P zS0 UI (d18.1, ([43] : List UInt8)) (fun (d33 : (List UInt8)) (e34 : Unit) => (List.length ((((([32] : List UInt8) ++ d23) ++ ([32, 124, 32] : List UInt8)) ++ d31) ++ ([32] : List UInt8)) + d33.length ≤ 9223372036854775807) ∧
 (Fn P zS0 UI (d18.2, ([45] : List UInt8)) (fun (d35 : (List UInt8)) (e36 : Unit) => (List.length (((((([32] : List UInt8) ++ d23) ++ ([32, 124, 32] : List UInt8)) ++ d31) ++ ([32] : List UInt8)) ++ d33) + d35.length ≤ 9223372036854775807) ∧
 (List.length ((((((([32] : List UInt8) ++ d23) ++ ([32, 124, 32] : List UInt8)) ++ d31) ++ ([32] : List UInt8)) ++ d33) ++ d35) + List.length ([10] : List UInt8) ≤ 9223372036854775807) ∧
 ((((d13.1.length + List.length ([(((((((([32] : List UInt8) ++ d23) ++ ([32, 124, 32] : List UInt8)) ++ d31) ++ ([32] : List UInt8)) ++ d33) ++ d35) ++ ([10] : List UInt8))] : List (List UInt8))) * 16 ≤ 140737488355328) ∧
 (J21 (d13.1 ++ ([(((((((([32] : List UInt8) ++ d23) ++ ([32, 124, 32] : List UInt8)) ++ d31) ++ ([32] : List UInt8)) ++ d33) ++ d35) ++ ([10] : List UInt8))] : List (List UInt8)))) ∧ True) ∧ True) ∧ True)) ∧ True)) ∧ True)) ∧ True) ∧ True) ∧ True))) ∧ (((d13.2.toNat < x.1.length) ∧
 (Fn P zS2 UK (List.getD x.1 d13.2.toNat FH).1 (fun (d37 : (List UInt8)) (e38 : Unit) => (List.length ([32] : List UInt8) + d37.length ≤ 9223372036854775807) ∧
 (List.length (([32] : List UInt8) ++ d37) + List.length ([32, 124, 32] : List UInt8) ≤ 9223372036854775807) ∧
 ((d13.2.toNat < x.1.length) ∧
 (Fn P zS1 UJ (i64.wrap ((List.getD x.1 d13.2.toNat FH).2.1 + (List.getD x.1 d13.2.toNat FH).2.2)) (fun (d39 : (List UInt8)) (e40 : Unit) => (List.length ((([32] : List UInt8) ++ d37) ++ ([32, 124, 32] : List UInt8)) + d39.length ≤ 9223372036854775807) ∧
 (List.length (((([32] : List UInt8) ++ d37) ++ ([32, 124, 32] : List UInt8)) ++ d39) + List.length ([32] : List UInt8) ≤ 9223372036854775807) ∧
 (Fn P zS0 UI (d18.1, ([43] : List UInt8)) (fun (d41 : (List UInt8)) (e42 : Unit) => (List.length ((((([32] : List UInt8) ++ d37) ++ ([32, 124, 32] : List UInt8)) ++ d39) ++ ([32] : List UInt8)) + d41.length ≤ 9223372036854775807) ∧
 (Fn P zS0 UI (d18.2, ([45] : List UInt8)) (fun (d43 : (List UInt8)) (e44 : Unit) => (List.length (((((([32] : List UInt8) ++ d37) ++ ([32, 124, 32] : List UInt8)) ++ d39) ++ ([32] : List UInt8)) ++ d41) + d43.length ≤ 9223372036854775807) ∧
 (List.length ((((((([32] : List UInt8) ++ d37) ++ ([32, 124, 32] : List UInt8)) ++ d39) ++ ([32] : List UInt8)) ++ d41) ++ d43) + List.length ([10] : List UInt8) ≤ 9223372036854775807) ∧
 ((((d13.1.length + List.length ([(((((((([32] : List UInt8) ++ d37) ++ ([32, 124, 32] : List UInt8)) ++ d39) ++ ([32] : List UInt8)) ++ d41) ++ d43) ++ ([10] : List UInt8))] : List (List UInt8))) * 16 ≤ 140737488355328) ∧
 (J21 (d13.1 ++ ([(((((((([32] : List UInt8) ++ d37) ++ ([32, 124, 32] : List UInt8)) ++ d39) ++ ([32] : List UInt8)) ++ d41) ++ d43) ++ ([10] : List UInt8))] : List (List UInt8)))) ∧ True) ∧ True) ∧ True)) ∧ True)) ∧ True)) ∧ True) ∧ True)) ∧ (((d13.2.toNat < x.1.length) ∧
 (Fn P zS2 UK (List.getD x.1 d13.2.toNat FH).1 (fun (d45 : (List UInt8)) (e46 : Unit) => (List.length ([32] : List UInt8) + d45.length ≤ 9223372036854775807) ∧
 (List.length (([32] : List UInt8) ++ d45) + List.length ([32, 124, 32] : List UInt8) ≤ 9223372036854775807) ∧
 (Fn P zS1 UJ (i64.wrap ((List.getD x.1 d13.2.toNat FH).2.1 + (List.getD x.1 d13.2.toNat FH).2.2)) (fun (d47 : (List UInt8)) (e48 : Unit) => (List.length ((([32] : List UInt8) ++ d45) ++ ([32, 124, 32] : List UInt8)) + d47.length ≤ 9223372036854775807) ∧
 (List.length (((([32] : List UInt8) ++ d45) ++ ([32, 124, 32] : List UInt8)) ++ d47) + List.length ([32] : List UInt8) ≤ 9223372036854775807) ∧
 (Fn P zS0 UI (d18.1, ([43] : List UInt8)) (fun (d49 : (List UInt8)) (e50 : Unit) => (List.length ((((([32] : List UInt8) ++ d45) ++ ([32, 124, 32] : List UInt8)) ++ d47) ++ ([32] : List UInt8)) + d49.length ≤ 9223372036854775807) ∧
 (Fn P zS0 UI (d18.2, ([45] : List UInt8)) (fun (d51 : (List UInt8)) (e52 : Unit) => (List.length (((((([32] : List UInt8) ++ d45) ++ ([32, 124, 32] : List UInt8)) ++ d47) ++ ([32] : List UInt8)) ++ d49) + d51.length ≤ 9223372036854775807) ∧
 (List.length ((((((([32] : List UInt8) ++ d45) ++ ([32, 124, 32] : List UInt8)) ++ d47) ++ ([32] : List UInt8)) ++ d49) ++ d51) + List.length ([10] : List UInt8) ≤ 9223372036854775807) ∧
 ((((d13.1.length + List.length ([(((((((([32] : List UInt8) ++ d45) ++ ([32, 124, 32] : List UInt8)) ++ d47) ++ ([32] : List UInt8)) ++ d49) ++ d51) ++ ([10] : List UInt8))] : List (List UInt8))) * 16 ≤ 140737488355328) ∧
 (J21 (d13.1 ++ ([(((((((([32] : List UInt8) ++ d45) ++ ([32, 124, 32] : List UInt8)) ++ d47) ++ ([32] : List UInt8)) ++ d49) ++ d51) ++ ([10] : List UInt8))] : List (List UInt8)))) ∧ True) ∧ True) ∧ True)) ∧ True)) ∧ True)) ∧ True)) ∧ True) ∧ True)) ∧ (((d13.2.toNat < x.1.length) ∧
 (Fn P zS2 UK (List.getD x.1 d13.2.toNat FH).1 (fun (d53 : (List UInt8)) (e54 : Unit) => (List.length ([32] : List UInt8) + d53.length ≤ 9223372036854775807) ∧
 (List.length (([32] : List UInt8) ++ d53) + List.length ([32, 124, 32] : List UInt8) ≤ 9223372036854775807) ∧
 ((d13.2.toNat < x.1.length) ∧
 (Fn P zS1 UJ (i64.wrap ((List.getD x.1 d13.2.toNat FH).2.1 + (List.getD x.1 d13.2.toNat FH).2.2)) (fun (d55 : (List UInt8)) (e56 : Unit) => (List.length ((([32] : List UInt8) ++ d53) ++ ([32, 124, 32] : List UInt8)) + d55.length ≤ 9223372036854775807) ∧
 (List.length (((([32] : List UInt8) ++ d53) ++ ([32, 124, 32] : List UInt8)) ++ d55) + List.length ([32] : List UInt8) ≤ 9223372036854775807) ∧
 (Fn P zS0 UI (d18.1, ([43] : List UInt8)) (fun (d57 : (List UInt8)) (e58 : Unit) => (List.length ((((([32] : List UInt8) ++ d53) ++ ([32, 124, 32] : List UInt8)) ++ d55) ++ ([32] : List UInt8)) + d57.length ≤ 9223372036854775807) ∧
 (Fn P zS0 UI (d18.2, ([45] : List UInt8)) (fun (d59 : (List UInt8)) (e60 : Unit) => (List.length (((((([32] : List UInt8) ++ d53) ++ ([32, 124, 32] : List UInt8)) ++ d55) ++ ([32] : List UInt8)) ++ d57) + d59.length ≤ 9223372036854775807) ∧
 (List.length ((((((([32] : List UInt8) ++ d53) ++ ([32, 124, 32] : List UInt8)) ++ d55) ++ ([32] : List UInt8)) ++ d57) ++ d59) + List.length ([10] : List UInt8) ≤ 9223372036854775807) ∧
 ((((d13.1.length + List.length ([(((((((([32] : List UInt8) ++ d53) ++ ([32, 124, 32] : List UInt8)) ++ d55) ++ ([32] : List UInt8)) ++ d57) ++ d59) ++ ([10] : List UInt8))] : List (List UInt8))) * 16 ≤ 140737488355328) ∧
 (J21 (d13.1 ++ ([(((((((([32] : List UInt8) ++ d53) ++ ([32, 124, 32] : List UInt8)) ++ d55) ++ ([32] : List UInt8)) ++ d57) ++ d59) ++ ([10] : List UInt8))] : List (List UInt8)))) ∧ True) ∧ True) ∧ True)) ∧ True)) ∧ True)) ∧ True) ∧ True)) ∧ (((d13.2.toNat < x.1.length) ∧
 (Fn P zS2 UK (List.getD x.1 d13.2.toNat FH).1 (fun (d61 : (List UInt8)) (e62 : Unit) => (List.length ([32] : List UInt8) + d61.length ≤ 9223372036854775807) ∧
 (List.length (([32] : List UInt8) ++ d61) + List.length ([32, 124, 32] : List UInt8) ≤ 9223372036854775807) ∧
 (Fn P zS1 UJ (i64.wrap ((List.getD x.1 d13.2.toNat FH).2.1 + (List.getD x.1 d13.2.toNat FH).2.2)) (fun (d63 : (List UInt8)) (e64 : Unit) => (List.length ((([32] : List UInt8) ++ d61) ++ ([32, 124, 32] : List UInt8)) + d63.length ≤ 9223372036854775807) ∧
 (List.length (((([32] : List UInt8) ++ d61) ++ ([32, 124, 32] : List UInt8)) ++ d63) + List.length ([32] : List UInt8) ≤ 9223372036854775807) ∧
 (Fn P zS0 UI (d18.1, ([43] : List UInt8)) (fun (d65 : (List UInt8)) (e66 : Unit) => (List.length ((((([32] : List UInt8) ++ d61) ++ ([32, 124, 32] : List UInt8)) ++ d63) ++ ([32] : List UInt8)) + d65.length ≤ 9223372036854775807) ∧
 (Fn P zS0 UI (d18.2, ([45] : List UInt8)) (fun (d67 : (List UInt8)) (e68 : Unit) => (List.length (((((([32] : List UInt8) ++ d61) ++ ([32, 124, 32] : List UInt8)) ++ d63) ++ ([32] : List UInt8)) ++ d65) + d67.length ≤ 9223372036854775807) ∧
 (List.length ((((((([32] : List UInt8) ++ d61) ++ ([32, 124, 32] : List UInt8)) ++ d63) ++ ([32] : List UInt8)) ++ d65) ++ d67) + List.length ([10] : List UInt8) ≤ 9223372036854775807) ∧
 ((((d13.1.length + List.length ([(((((((([32] : List UInt8) ++ d61) ++ ([32, 124, 32] : List UInt8)) ++ d63) ++ ([32] : List UInt8)) ++ d65) ++ d67) ++ ([10] : List UInt8))] : List (List UInt8))) * 16 ≤ 140737488355328) ∧
 (J21 (d13.1 ++ ([(((((((([32] : List UInt8) ++ d61) ++ ([32, 124, 32] : List UInt8)) ++ d63) ++ ([32] : List UInt8)) ++ d65) ++ d67) ++ ([10] : List UInt8))] : List (List UInt8)))) ∧ True) ∧ True) ∧ True)) ∧ True)) ∧ True)) ∧ True)) ∧ True) ∧ True)) ∧ True))) ∧ (((d13.2.toNat < x.1.length) ∧
 ((d13.2.toNat < x.1.length) ∧
 (Fn P zS2 UK (List.getD x.1 d13.2.toNat FH).1 (fun (d69 : (List UInt8)) (e70 : Unit) => (List.length ([32] : List UInt8) + d69.length ≤ 9223372036854775807) ∧
 (List.length (([32] : List UInt8) ++ d69) + List.length ([32, 124, 32] : List UInt8) ≤ 9223372036854775807) ∧
 ((d13.2.toNat < x.1.length) ∧
 (Fn P zS1 UJ (i64.wrap ((List.getD x.1 d13.2.toNat FH).2.1 + (List.getD x.1 d13.2.toNat FH).2.2)) (fun (d71 : (List UInt8)) (e72 : Unit) => (List.length ((([32] : List UInt8) ++ d69) ++ ([32, 124, 32] : List UInt8)) + d71.length ≤ 9223372036854775807) ∧
 (List.length (((([32] : List UInt8) ++ d69) ++ ([32, 124, 32] : List UInt8)) ++ d71) + List.length ([32] : List UInt8) ≤ 9223372036854775807) ∧
 (Fn P zS0 UI (d18.1, ([43] : List UInt8)) (fun (d73 : (List UInt8)) (e74 : Unit) => (List.length ((((([32] : List UInt8) ++ d69) ++ ([32, 124, 32] : List UInt8)) ++ d71) ++ ([32] : List UInt8)) + d73.length ≤ 9223372036854775807) ∧
 (Fn P zS0 UI (d18.2, ([45] : List UInt8)) (fun (d75 : (List UInt8)) (e76 : Unit) => (List.length (((((([32] : List UInt8) ++ d69) ++ ([32, 124, 32] : List UInt8)) ++ d71) ++ ([32] : List UInt8)) ++ d73) + d75.length ≤ 9223372036854775807) ∧
 (List.length ((((((([32] : List UInt8) ++ d69) ++ ([32, 124, 32] : List UInt8)) ++ d71) ++ ([32] : List UInt8)) ++ d73) ++ d75) + List.length ([10] : List UInt8) ≤ 9223372036854775807) ∧
 ((((d13.1.length + List.length ([(((((((([32] : List UInt8) ++ d69) ++ ([32, 124, 32] : List UInt8)) ++ d71) ++ ([32] : List UInt8)) ++ d73) ++ d75) ++ ([10] : List UInt8))] : List (List UInt8))) * 16 ≤ 140737488355328) ∧
 (J21 (d13.1 ++ ([(((((((([32] : List UInt8) ++ d69) ++ ([32, 124, 32] : List UInt8)) ++ d71) ++ ([32] : List UInt8)) ++ d73) ++ d75) ++ ([10] : List UInt8))] : List (List UInt8)))) ∧ True) ∧ True) ∧ True)) ∧ True)) ∧ True)) ∧ True) ∧ True)) ∧ (((d13.2.toNat < x.1.length) ∧
 (Fn P zS2 UK (List.getD x.1 d13.2.toNat FH).1 (fun (d77 : (List UInt8)) (e78 : Unit) => (List.length ([32] : List UInt8) + d77.length ≤ 9223372036854775807) ∧
 (List.length (([32] : List UInt8) ++ d77) + List.length ([32, 124, 32] : List UInt8) ≤ 9223372036854775807) ∧
 (Fn P zS1 UJ (i64.wrap ((List.getD x.1 d13.2.toNat FH).2.1 + (List.getD x.1 d13.2.toNat FH).2.2)) (fun (d79 : (List UInt8)) (e80 : Unit) => (List.length ((([32] : List UInt8) ++ d77) ++ ([32, 124, 32] : List UInt8)) + d79.length ≤ 9223372036854775807) ∧
 (List.length (((([32] : List UInt8) ++ d77) ++ ([32, 124, 32] : List UInt8)) ++ d79) + List.length ([32] : List UInt8) ≤ 9223372036854775807) ∧
 (Fn P zS0 UI (d18.1, ([43] : List UInt8)) (fun (d81 : (List UInt8)) (e82 : Unit) => (List.length ((((([32] : List UInt8) ++ d77) ++ ([32, 124, 32] : List UInt8)) ++ d79) ++ ([32] : List UInt8)) + d81.length ≤ 9223372036854775807) ∧
 (Fn P zS0 UI (d18.2, ([45] : List UInt8)) (fun (d83 : (List UInt8)) (e84 : Unit) => (List.length (((((([32] : List UInt8) ++ d77) ++ ([32, 124, 32] : List UInt8)) ++ d79) ++ ([32] : List UInt8)) ++ d81) + d83.length ≤ 9223372036854775807) ∧
 (List.length ((((((([32] : List UInt8) ++ d77) ++ ([32, 124, 32] : List UInt8)) ++ d79) ++ ([32] : List UInt8)) ++ d81) ++ d83) + List.length ([10] : List UInt8) ≤ 9223372036854775807) ∧
 ((((d13.1.length + List.length ([(((((((([32] : List UInt8) ++ d77) ++ ([32, 124, 32] : List UInt8)) ++ d79) ++ ([32] : List UInt8)) ++ d81) ++ d83) ++ ([10] : List UInt8))] : List (List UInt8))) * 16 ≤ 140737488355328) ∧
 (J21 (d13.1 ++ ([(((((((([32] : List UInt8) ++ d77) ++ ([32, 124, 32] : List UInt8)) ++ d79) ++ ([32] : List UInt8)) ++ d81) ++ d83) ++ ([10] : List UInt8))] : List (List UInt8)))) ∧ True) ∧ True) ∧ True)) ∧ True)) ∧ True)) ∧ True)) ∧ True) ∧ True)) ∧ (((d13.2.toNat < x.1.length) ∧
 ((d13.2.toNat < x.1.length) ∧
 (Fn P zS2 UK (List.getD x.1 d13.2.toNat FH).1 (fun (d85 : (List UInt8)) (e86 : Unit) => (List.length ([32] : List UInt8) + d85.length ≤ 9223372036854775807) ∧
 (List.length (([32] : List UInt8) ++ d85) + List.length ([32, 124, 32] : List UInt8) ≤ 9223372036854775807) ∧
 (Fn P zS1 UJ (i64.wrap ((List.getD x.1 d13.2.toNat FH).2.1 + (List.getD x.1 d13.2.toNat FH).2.2)) (fun (d87 : (List UInt8)) (e88 : Unit) => (List.length ((([32] : List UInt8) ++ d85) ++ ([32, 124, 32] : List UInt8)) + d87.length ≤ 9223372036854775807) ∧
 (List.length (((([32] : List UInt8) ++ d85) ++ ([32, 124, 32] : List UInt8)) ++ d87) + List.length ([32] : List UInt8) ≤ 9223372036854775807) ∧
 (Fn P zS0 UI (d18.1, ([43] : List UInt8)) (fun (d89 : (List UInt8)) (e90 : Unit) => (List.length ((((([32] : List UInt8) ++ d85) ++ ([32, 124, 32] : List UInt8)) ++ d87) ++ ([32] : List UInt8)) + d89.length ≤ 9223372036854775807) ∧
 (Fn P zS0 UI (d18.2, ([45] : List UInt8)) (fun (d91 : (List UInt8)) (e92 : Unit) => (List.length (((((([32] : List UInt8) ++ d85) ++ ([32, 124, 32] : List UInt8)) ++ d87) ++ ([32] : List UInt8)) ++ d89) + d91.length ≤ 9223372036854775807) ∧
 (List.length ((((((([32] : List UInt8) ++ d85) ++ ([32, 124, 32] : List UInt8)) ++ d87) ++ ([32] : List UInt8)) ++ d89) ++ d91) + List.length ([10] : List UInt8) ≤ 9223372036854775807) ∧
 ((((d13.1.length + List.length ([(((((((([32] : List UInt8) ++ d85) ++ ([32, 124, 32] : List UInt8)) ++ d87) ++ ([32] : List UInt8)) ++ d89) ++ d91) ++ ([10] : List UInt8))] : List (List UInt8))) * 16 ≤ 140737488355328) ∧
 (J21 (d13.1 ++ ([(((((((([32] : List UInt8) ++ d85) ++ ([32, 124, 32] : List UInt8)) ++ d87) ++ ([32] : List UInt8)) ++ d89) ++ d91) ++ ([10] : List UInt8))] : List (List UInt8)))) ∧ True) ∧ True) ∧ True)) ∧ True)) ∧ True)) ∧ True)) ∧ True) ∧ True) ∧ True)) ∧ (((d13.2.toNat < x.1.length) ∧
 ((d13.2.toNat < x.1.length) ∧
 (Fn P zS2 UK (List.getD x.1 d13.2.toNat FH).1 (fun (d93 : (List UInt8)) (e94 : Unit) => (List.length ([32] : List UInt8) + d93.length ≤ 9223372036854775807) ∧
 (List.length (([32] : List UInt8) ++ d93) + List.length ([32, 124, 32] : List UInt8) ≤ 9223372036854775807) ∧
 ((d13.2.toNat < x.1.length) ∧
 (Fn P zS1 UJ (i64.wrap ((List.getD x.1 d13.2.toNat FH).2.1 + (List.getD x.1 d13.2.toNat FH).2.2)) (fun (d95 : (List UInt8)) (e96 : Unit) => (List.length ((([32] : List UInt8) ++ d93) ++ ([32, 124, 32] : List UInt8)) + d95.length ≤ 9223372036854775807) ∧
 (List.length (((([32] : List UInt8) ++ d93) ++ ([32, 124, 32] : List UInt8)) ++ d95) + List.length ([32] : List UInt8) ≤ 9223372036854775807) ∧
 (Fn P zS0 UI (d18.1, ([43] : List UInt8)) (fun (d97 : (List UInt8)) (e98 : Unit) => (List.length ((((([32] : List UInt8) ++ d93) ++ ([32, 124, 32] : List UInt8)) ++ d95) ++ ([32] : List UInt8)) + d97.length ≤ 9223372036854775807) ∧
 (Fn P zS0 UI (d18.2, ([45] : List UInt8)) (fun (d99 : (List UInt8)) (e100 : Unit) => (List.length (((((([32] : List UInt8) ++ d93) ++ ([32, 124, 32] : List UInt8)) ++ d95) ++ ([32] : List UInt8)) ++ d97) + d99.length ≤ 9223372036854775807) ∧
 (List.length ((((((([32] : List UInt8) ++ d93) ++ ([32, 124, 32] : List UInt8)) ++ d95) ++ ([32] : List UInt8)) ++ d97) ++ d99) + List.length ([10] : List UInt8) ≤ 9223372036854775807) ∧
 ((((d13.1.length + List.length ([(((((((([32] : List UInt8) ++ d93) ++ ([32, 124, 32] : List UInt8)) ++ d95) ++ ([32] : List UInt8)) ++ d97) ++ d99) ++ ([10] : List UInt8))] : List (List UInt8))) * 16 ≤ 140737488355328) ∧
 (J21 (d13.1 ++ ([(((((((([32] : List UInt8) ++ d93) ++ ([32, 124, 32] : List UInt8)) ++ d95) ++ ([32] : List UInt8)) ++ d97) ++ d99) ++ ([10] : List UInt8))] : List (List UInt8)))) ∧ True) ∧ True) ∧ True)) ∧ True)) ∧ True)) ∧ True) ∧ True)) ∧ (((d13.2.toNat < x.1.length) ∧
 (Fn P zS2 UK (List.getD x.1 d13.2.toNat FH).1 (fun (d101 : (List UInt8)) (e102 : Unit) => (List.length ([32] : List UInt8) + d101.length ≤ 9223372036854775807) ∧
 (List.length (([32] : List UInt8) ++ d101) + List.length ([32, 124, 32] : List UInt8) ≤ 9223372036854775807) ∧
 (Fn P zS1 UJ (i64.wrap ((List.getD x.1 d13.2.toNat FH).2.1 + (List.getD x.1 d13.2.toNat FH).2.2)) (fun (d103 : (List UInt8)) (e104 : Unit) => (List.length ((([32] : List UInt8) ++ d101) ++ ([32, 124, 32] : List UInt8)) + d103.length ≤ 9223372036854775807) ∧
 (List.length (((([32] : List UInt8) ++ d101) ++ ([32, 124, 32] : List UInt8)) ++ d103) + List.length ([32] : List UInt8) ≤ 9223372036854775807) ∧
 (Fn P zS0 UI (d18.1, ([43] : List UInt8)) (fun (d105 : (List UInt8)) (e106 : Unit) => (List.length ((((([32] : List UInt8) ++ d101) ++ ([32, 124, 32] : List UInt8)) ++ d103) ++ ([32] : List UInt8)) + d105.length ≤ 9223372036854775807) ∧
 (Fn P zS0 UI (d18.2, ([45] : List UInt8)) (fun (d107 : (List UInt8)) (e108 : Unit) => (List.length (((((([32] : List UInt8) ++ d101) ++ ([32, 124, 32] : List UInt8)) ++ d103) ++ ([32] : List UInt8)) ++ d105) + d107.length ≤ 9223372036854775807) ∧
 (List.length ((((((([32] : List UInt8) ++ d101) ++ ([32, 124, 32] : List UInt8)) ++ d103) ++ ([32] : List UInt8)) ++ d105) ++ d107) + List.length ([10] : List UInt8) ≤ 9223372036854775807) ∧
 ((((d13.1.length + List.length ([(((((((([32] : List UInt8) ++ d101) ++ ([32, 124, 32] : List UInt8)) ++ d103) ++ ([32] : List UInt8)) ++ d105) ++ d107) ++ ([10] : List UInt8))] : List (List UInt8))) * 16 ≤ 140737488355328) ∧
 (J21 (d13.1 ++ ([(((((((([32] : List UInt8) ++ d101) ++ ([32, 124, 32] : List UInt8)) ++ d103) ++ ([32] : List UInt8)) ++ d105) ++ d107) ++ ([10] : List UInt8))] : List (List UInt8)))) ∧ True) ∧ True) ∧ True)) ∧ True)) ∧ True)) ∧ True)) ∧ True) ∧ True)) ∧ (((d13.2.toNat < x.1.length) ∧
 ((d13.2.toNat < x.1.length) ∧
 (Fn P zS2 UK (List.getD x.1 d13.2.toNat FH).1 (fun (d109 : (List UInt8)) (e110 : Unit) => (List.length ([32] : List UInt8) + d109.length ≤ 9223372036854775807) ∧
 (List.length (([32] : List UInt8) ++ d109) + List.length ([32, 124, 32] : List UInt8) ≤ 9223372036854775807) ∧
 (Fn P zS1 UJ (i64.wrap ((List.getD x.1 d13.2.toNat FH).2.1 + (List.getD x.1 d13.2.toNat FH).2.2)) (fun (d111 : (List UInt8)) (e112 : Unit) => (List.length ((([32] : List UInt8) ++ d109) ++ ([32, 124, 32] : List UInt8)) + d111.length ≤ 9223372036854775807) ∧
 (List.length (((([32] : List UInt8) ++ d109) ++ ([32, 124, 32] : List UInt8)) ++ d111) + List.length ([32] : List UInt8) ≤ 9223372036854775807) ∧
 (Fn P zS0 UI (d18.1, ([43] : List UInt8)) (fun (d113 : (List UInt8)) (e114 : Unit) => (List.length ((((([32] : List UInt8) ++ d109) ++ ([32, 124, 32] : List UInt8)) ++ d111) ++ ([32] : List UInt8)) + d113.length ≤ 9223372036854775807) ∧
 (Fn P zS0 UI (d18.2, ([45] : List UInt8)) (fun (d115 : (List UInt8)) (e116 : Unit) => (List.length (((((([32] : List UInt8) ++ d109) ++ ([32, 124, 32] : List UInt8)) ++ d111) ++ ([32] : List UInt8)) ++ d113) + d115.length ≤ 9223372036854775807) ∧
 (List.length ((((((([32] : List UInt8) ++ d109) ++ ([32, 124, 32] : List UInt8)) ++ d111) ++ ([32] : List UInt8)) ++ d113) ++ d115) + List.length ([10] : List UInt8) ≤ 9223372036854775807) ∧
 ((((d13.1.length + List.length ([(((((((([32] : List UInt8) ++ d109) ++ ([32, 124, 32] : List UInt8)) ++ d111) ++ ([32] : List UInt8)) ++ d113) ++ d115) ++ ([10] : List UInt8))] : List (List UInt8))) * 16 ≤ 140737488355328) ∧
 (J21 (d13.1 ++ ([(((((((([32] : List UInt8) ++ d109) ++ ([32, 124, 32] : List UInt8)) ++ d111) ++ ([32] : List UInt8)) ++ d113) ++ d115) ++ ([10] : List UInt8))] : List (List UInt8)))) ∧ True) ∧ True) ∧ True)) ∧ True)) ∧ True)) ∧ True)) ∧ True) ∧ True) ∧ True)) ∧ True))) (fun d22 => J15 d22))) (fun d16 => J14 (d16, (i64.wrap (d13.2 + (1 : Int)))))) ∧ ((decide (d13.2 < (x.1.length : Int))) = false → J11 d13.1)))) (fun d12 => Fn P zS1 UJ (x.1.length : Int) (fun (d117 : (List UInt8)) (e118 : Unit) => (List.length ([32] : List UInt8) + d117.length ≤ 9223372036854775807) ∧
 (List.length (([32] : List UInt8) ++ d117) + List.length ([32, 102, 105, 108, 101, 115, 44, 32] : List UInt8) ≤ 9223372036854775807) ∧
 Fn P zS1 UJ d1.1 (fun (d119 : (List UInt8)) (e120 : Unit) => (List.length ((([32] : List UInt8) ++ d117) ++ ([32, 102, 105, 108, 101, 115, 44, 32] : List UInt8)) + d119.length ≤ 9223372036854775807) ∧
 (List.length (((([32] : List UInt8) ++ d117) ++ ([32, 102, 105, 108, 101, 115, 44, 32] : List UInt8)) ++ d119) + List.length ([32, 97, 100, 100, 101, 100, 44, 32] : List UInt8) ≤ 9223372036854775807) ∧
 Fn P zS1 UJ d1.2.1 (fun (d121 : (List UInt8)) (e122 : Unit) => (List.length ((((([32] : List UInt8) ++ d117) ++ ([32, 102, 105, 108, 101, 115, 44, 32] : List UInt8)) ++ d119) ++ ([32, 97, 100, 100, 101, 100, 44, 32] : List UInt8)) + d121.length ≤ 9223372036854775807) ∧
 (List.length (((((([32] : List UInt8) ++ d117) ++ ([32, 102, 105, 108, 101, 115, 44, 32] : List UInt8)) ++ d119) ++ ([32, 97, 100, 100, 101, 100, 44, 32] : List UInt8)) ++ d121) + List.length ([32, 114, 101, 109, 111, 118, 101, 100, 10] : List UInt8) ≤ 9223372036854775807) ∧
 ((d12.length + List.length ([((((((([32] : List UInt8) ++ d117) ++ ([32, 102, 105, 108, 101, 115, 44, 32] : List UInt8)) ++ d119) ++ ([32, 97, 100, 100, 101, 100, 44, 32] : List UInt8)) ++ d121) ++ ([32, 114, 101, 109, 111, 118, 101, 100, 10] : List UInt8))] : List (List UInt8))) * 16 ≤ 140737488355328) ∧
 Fn P V4 U3 (d12 ++ ([((((((([32] : List UInt8) ++ d117) ++ ([32, 102, 105, 108, 101, 115, 44, 32] : List UInt8)) ++ d119) ++ ([32, 97, 100, 100, 101, 100, 44, 32] : List UInt8)) ++ d121) ++ ([32, 114, 101, 109, 111, 118, 101, 100, 10] : List UInt8))] : List (List UInt8))) (fun (d123 : (List UInt8)) (e124 : Unit) => (((decide ((d123.length : Int) > (16777216 : Int))) = true → K (([] : List UInt8), (1 : Int)) ()) ∧ ((decide ((d123.length : Int) > (16777216 : Int))) = false → K (d123, (0 : Int)) ())))))))))))
theorem Vk {P : Pg} (h : Has P US) {x : DP UM.ps} {K : DP UM.rs → DP (ptrs UM.ps) → Prop} (hw : Vb P x K) : Fn P zS8 UM x K :=
 FC (c := U2) h rfl rfl (by kernel_rfl) (Eq.mpr (show E4 P US UM U2 x K = _ by kernel_rfl) hw)
def UQ : B1 :=
 (.seq (.region [o1 8 (.asg kF)]) (.seq (.seq (.region [im 20 0, o1 21 (.lenK 20), o1 22 (.bin .gtr 21 (kI 8))]) (.cond 22 (.seq (.region [oS ⟨some 23, .call
 zS5 [], none⟩ Bk, ia 8 23]) .ret) .skip)) (.seq (.seq (.region [ia 9 (kI 0)]) (.frame (rg [8, 9] 24 14) [] false (.join [.sl 8 false .bool
 .leaf] (.block 0 (.loop [.sl 8 false .bool .leaf, .si 9] (.seq (.seq (.region [im 24 9, im 25 0, o1 26 (.lenK 25), o1 27 (.bin .lss 24 26)]) (.cond 27 .skip (.exit 0))) (.seq
 (.frame (rg [8] 30 8) [] false (.join [.sl 8 false .bool .leaf] (.block 1 (.seq (.region [im 30 0, im 31 9, o1 32 (.ixA 3 30 31), fa 33 0 32, ld 34 33, o1 35 (.MJ 34), o1 36
 (.bin .gtr 35 (kI 60))]) (.cond 36 (.seq (.region [oS ⟨some 37, .call zS5 [], none⟩ Bk, ia 8 37]) .ret) .skip))))) (.region [im 28 9, o1 29
 (.bin .add 28 (kI 1)), ia 9 29])))))))) (.seq (.region [o1 10 (.asg (.c (.slice none 0 0)))]) (.seq (.seq (.region [ia 11 (kI 0)]) (.frame (rg [10, 11] 38 23) [] false (.join [.sl
 10 false (.sl FA) tO] (.block 2 (.loop [.sl 10 false (.sl FA) tO, .si 11] (.seq (.seq (.region [im 38 11, im 39 3, oS ⟨some 40, .call zS3 [39, (kI
 6)], none⟩ Bg, o1 41 (.bin .lss 38 40)]) (.cond 41 .skip (.exit 2))) (.seq (.frame (rg [10] 44 17) [] false (.join [.sl 10 false (.sl FA) tO] (.block 3 (.region [im 44
 10, im 45 11, oS ⟨some 46, .call VU [45], none⟩ Ty, im 47 2, im 48 11, o1 49 (.bin .mul (kI 2) 48), oS ⟨some 50, .call
 zS7 [47, 49], none⟩ Tx, oS ⟨some 51, .call zS3 [50, (kI 50)], none⟩ Bg, im 52 2, im 53 11, o1 54 (.bin .mul (kI 2)
 53), o1 55 (.bin .add 54 (kI 1)), oS ⟨some 56, .call zS7 [52, 55], none⟩ Tx, oS ⟨some 57, .call zS3 [56, (kI 30)], none⟩
 Bg, o1 58 (.build [(.string ⟨#[]⟩), (.int .i64 0), (.int .i64 0)] [(0, 1, 46), (1, 1, 51), (2, 1, 57)]), oT ⟨some 59, .buildSl 3 [(.string ⟨#[]⟩), (.int .i64 0), (.int .i64
 0)] 1 [(0, 58)], none⟩ (some (FA, .leaf)), oT ⟨some 60, .app 3 32 44 59, none⟩ (some (FA, .leaf)), ia 10 60])))) (.region [im 42 11, o1 43 (.bin .add 42 (kI 1)), ia 11
 43])))))))) (.seq (.region [im 62 0, im 63 1, oS ⟨some 64, .call zS6 [62, 63], none⟩ Dt, im 61 64, o1 65 (.ext 61 0), o1 66 (.ext 61 1), ia 12 65, ia
 13 66]) (.seq (.region [im 68 0, im 69 1, oS ⟨some 70, .call zS8 [68, 69], none⟩ UM, im 67 70, o1 71 (.ext 67 0), o1 72 (.ext 67 1), ia 14
 71, ia 15 72]) (.seq (.region [im 74 10, im 75 1, oS ⟨some 76, .call zS3 [75, (kI 60)], none⟩ Bg, o1 77 (.bin .add (kI 2) 76), oS ⟨some 78, .call
 zS6 [74, 77], none⟩ Dt, im 73 78, o1 79 (.ext 73 0), o1 80 (.ext 73 1), ia 16 79, ia 17 80]) (.seq (.region [im 82 10, im 83 1, oS ⟨some 84, .call
 zS3 [83, (kI 60)], none⟩ Bg, o1 85 (.bin .add (kI 2) 84), oS ⟨some 86, .call zS8 [82, 85], none⟩ UM, im 81
 86, o1 87 (.ext 81 0), o1 88 (.ext 81 1), ia 18 87, ia 19 88]) (.seq (.region [im 89 12, im 90 14, o1 91 (.bin .eql 89 90), im 92 91, gt 93 92 (.mv 13), gt 94 92 (.mv 15), gt 95 92
 (.bin .eql 93 94), o1 96 (.pick 92 95 kF), im 97 96, gt 98 97 (.mv 16), gt 99 97 (.mv 18), gt 100 97 (.bin .eql 98 99), o1 101 (.pick 97 100 kF), im 102 101, gt 103 102 (.mv 17),
 gt 104 102 (.mv 19), gt 105 102 (.bin .eql 103 104), o1 106 (.pick 102 105 kF), im 107 106, oS ⟨some 108, .call zS5 [], some (107, true)⟩
 Bk, o1 109 (.pick 107 108 kF), ia 8 109]) .ret))))))))))
def UP : AFn := ⟨ V5, UQ.erase, [.tmp 8], 4⟩
def UY (P : Pg) (x : ((List Stat) × (Int × ((List Int) × Int)))) (K : Bool → Unit → Prop) : Prop :=
 (((decide ((x.1.length : Int) > (8 : Int))) = true → Fn P zS5 Bk () (fun (d1 : Bool) (e2 : Unit) => K d1 ())) ∧ ((decide ((x.1.length : Int) > (8 : Int))) = false → BI (D := Bool) (fun J3 => Mb (D := (Bool × Int)) (false, (0 : Int)) (fun d5 J6 => (((decide (d5.2 < (x.1.length : Int))) = true → BI (D := Bool) (fun J7 => (0 ≤ d5.2 ∧ d5.2 < (x.1.length : Int)) ∧
 (d5.2.toNat < x.1.length) ∧
 (((decide (((List.length (List.getD x.1 d5.2.toNat FH).1 : Nat) : Int) > (60 : Int))) = true → Fn P zS5 Bk () (fun (d9 : Bool) (e10 : Unit) => K d9 ())) ∧ ((decide (((List.length (List.getD x.1 d5.2.toNat FH).1 : Nat) : Int) > (60 : Int))) = false → J7 d5.1))) (fun d8 => J6 (d8, (i64.wrap (d5.2 + (1 : Int)))))) ∧ ((decide (d5.2 < (x.1.length : Int))) = false → J3 d5.1)))) (fun d4 => BI (D := (List Stat)) (fun J11 => Mb (D := ((List Stat) × Int)) ([], (0 : Int)) (fun d13 J14 => Fn P zS3 Bg (x.2.2.2, (6 : Int)) (fun (d15 : Int) (e16 : Unit) => (((decide (d13.2 < d15)) = true → BI (D := (List Stat)) (fun J17 => Fn P VU Ty d13.2 (fun (d19 : (List UInt8)) (e20 : Unit) => Fn P zS7 Tx (x.2.2.1, (i64.wrap ((2 : Int) * d13.2))) (fun (d21 : Int) (e22 : Unit) => Fn P zS3 Bg (d21, (50 : Int)) (fun (d23 : Int) (e24 : Unit) => Fn P zS7 Tx (x.2.2.1, (i64.wrap ((i64.wrap ((2 : Int) * d13.2)) + (1 : Int)))) (fun (d25 : Int) (e26 : Unit) => Fn P zS3 Bg (d25, (30 : Int)) (fun (d27 : Int) (e28 : Unit) => ((d13.1.length + List.length ([(d19, (d23, d27))] : List Stat)) * 32 ≤ 140737488355328) ∧
 J17 (d13.1 ++ ([(d19, (d23, d27))] : List Stat)))))))) (fun d18 => J14 (d18, (i64.wrap (d13.2 + (1 : Int)))))) ∧ ((decide (d13.2 < d15)) = false → J11 d13.1))))) (fun d12 => Fn P zS6 Dt (x.1, x.2.1) (fun (d29 : ((List UInt8) × Int)) (e30 : Unit) => Fn P zS8 UM (x.1, x.2.1) (fun (d31 : ((List UInt8) × Int)) (e32 : Unit) => Fn P zS3 Bg (x.2.1, (60 : Int)) (fun (d33 : Int) (e34 : Unit) => Fn P zS6 Dt (d12, (i64.wrap ((2 : Int) + d33))) (fun (d35 : ((List UInt8) × Int)) (e36 : Unit) => Fn P zS3 Bg (x.2.1, (60 : Int)) (fun (d37 : Int) (e38 : Unit) => Fn P zS8 UM (d12, (i64.wrap ((2 : Int) + d37))) (fun (d39 : ((List UInt8) × Int)) (e40 : Unit) => BI (D := Bool) (fun J41 => (((cond (cond (cond (d29.1 == d31.1) (d29.2 == d31.2) false) (d35.1 == d39.1) false) (d35.2 == d39.2) false) = true → Fn P zS5 Bk () (fun (d42 : Bool) _ => J41 d42)) ∧ (((cond (cond (cond (d29.1 == d31.1) (d29.2 == d31.2) false) (d35.1 == d39.1) false) (d35.2 == d39.2) false) = false → J41 false) ∧ True))) (fun d43 => K (cond (cond (cond (cond (d29.1 == d31.1) (d29.2 == d31.2) false) (d35.1 == d39.1) false) (d35.2 == d39.2) false) d43 false) ())))))))))))
theorem Vc {P : Pg} (h : Has P UP) {x : DP UL.ps} {K : DP UL.rs → DP (ptrs UL.ps) → Prop} (hw : UY P x K) : Fn P V5 UL x K :=
 FC (c := UQ) h rfl rfl (by kernel_rfl) (Eq.mpr (show E4 P UP UL UQ x K = _ by kernel_rfl) hw)
def EV : B1 :=
 (.seq (.region [ia 2 (kI 0), ia 3 (kI 0), ia 4 (kI 0), o1 5 (.asg kF)]) (.seq (.seq (.region [im 8 0, o1 9 (.lenK 8), o1 10 (.mv (kI 0))]) (.frame (rg [2, 3, 4, 5, 7] 10 35) [1007]
 false (.join [.si 2, .si 3, .si 4, .sl 5 false .bool .leaf] (.block 0 (.loop [.si 2, .si 3, .si 4, .sl 5 false .bool .leaf, .si 10] (.seq (.region [o1 11 (.bin .lss 10 9)]) (.seq
 (.cond 11 .skip (.exit 0)) (.seq (.frame (rg [2, 3, 4, 5, 7] 12 32) [1007] false (.join [.si 2, .si 3, .si 4, .sl 5 false .bool .leaf] (.block 1 (.seq (.region [o1 12 (.ixA 3 8
 10), o1 13 (.load true 3 12), o1 7 (.alloc [(.string ⟨#[]⟩), (.int .i64 0), (.int .i64 0)]), o0 ⟨none, .store 3 7 13, none⟩]) (.seq (.seq (.region [fa 14 1 7, ld 15 14, oS ⟨some
 16, .call zS4 [15], none⟩ AD, o1 17 (.un .not 16), im 18 17, gf 19 18 (.fAddr 2 7), gf 20 18 (.load false 1 19), oS ⟨some 21, .call
 zS4 [20], some (18, false)⟩ AD, gf 22 18 (.un .not 21), o1 23 (.pick 18 kT 22)]) (.cond 23 (.seq (.region [ia 2 (kI 0), ia 3 (kI 0), ia 4 (kI 0), o1
 5 (.asg kF)]) .ret) .skip)) (.seq (.region [im 24 2, fa 25 1 7, ld 26 25, o1 27 (.bin .add 24 26), ia 2 27]) (.seq (.region [im 28 3, fa 29 2 7, ld 30 29, o1 31 (.bin .add 28 30),
 ia 3 31]) (.seq (.seq (.region [im 32 2, im 33 3, o1 34 (.bin .add 32 33), oS ⟨some 35, .call zS4 [34], none⟩ AD, o1 36 (.un .not 35)]) (.cond 36
 (.seq (.region [ia 2 (kI 0), ia 3 (kI 0), ia 4 (kI 0), o1 5 (.asg kF)]) .ret) .skip)) (.region [im 37 4, fa 38 1 7, ld 39 38, fa 40 2 7, ld 41 40, o1 42 (.bin .add 39 41), o1 43
 (.mm true 37 42), ia 4 43]))))))))) (.region [o1 44 (.bin .add 10 (kI 1)), im 10 44]))))))))) (.seq (.region [im 45 2, im 46 3, im 47 4, ia 2 45, ia 3 46, ia 4 47, o1 5 (.asg kT)])
 .ret)))
def Ds : AFn := ⟨ "mergelens/stat.totals", EV.erase, [.tmp 2, .tmp 3, .tmp 4, .tmp 5], 1⟩
def GG (P : Pg) (x : (List Stat)) (K : (Int × (Int × (Int × Bool))) → Unit → Prop) : Prop :=
 BI (D := (Int × (Int × (Int × Bool)))) (fun J1 => Mb (D := (Int × (Int × (Int × (Bool × Int))))) ((0 : Int), ((0 : Int), ((0 : Int), (false, (0 : Int))))) (fun d3 J4 => (((decide (d3.2.2.2.2 < (x.length : Int))) = true → BI (D := (Int × (Int × (Int × Bool)))) (fun J5 => (0 ≤ d3.2.2.2.2 ∧ d3.2.2.2.2 < (x.length : Int)) ∧
 (d3.2.2.2.2.toNat < x.length) ∧
 Fn P zS4 AD (List.getD x d3.2.2.2.2.toNat FH).2.1 (fun (d7 : Bool) (e8 : Unit) => BI (D := Bool) (fun J9 => (((!d7) = false → Fn P zS4 AD (List.getD x d3.2.2.2.2.toNat FH).2.2 (fun (d10 : Bool) _ => J9 d10)) ∧ (((!d7) = true → J9 false) ∧ True))) (fun d11 => (((cond (!d7) true (!d11)) = true → K ((0 : Int), ((0 : Int), ((0 : Int), false))) ()) ∧ ((cond (!d7) true (!d11)) = false → Fn P zS4 AD (i64.wrap ((i64.wrap (d3.1 + (List.getD x d3.2.2.2.2.toNat FH).2.1)) + (i64.wrap (d3.2.1 + (List.getD x d3.2.2.2.2.toNat FH).2.2)))) (fun (d12 : Bool) (e13 : Unit) => (((!d12) = true → K ((0 : Int), ((0 : Int), ((0 : Int), false))) ()) ∧ ((!d12) = false → J5 ((i64.wrap (d3.1 + (List.getD x d3.2.2.2.2.toNat FH).2.1)), ((i64.wrap (d3.2.1 + (List.getD x d3.2.2.2.2.toNat FH).2.2)), ((if (i64.wrap ((List.getD x d3.2.2.2.2.toNat FH).2.1 + (List.getD x d3.2.2.2.2.toNat FH).2.2)) > d3.2.2.1 then (i64.wrap ((List.getD x d3.2.2.2.2.toNat FH).2.1 + (List.getD x d3.2.2.2.2.toNat FH).2.2)) else d3.2.2.1), d3.2.2.2.1))))))))))) (fun d6 => J4 (d6.1, (d6.2.1, (d6.2.2.1, (d6.2.2.2, (i64.wrap (d3.2.2.2.2 + (1 : Int))))))))) ∧ ((decide (d3.2.2.2.2 < (x.length : Int))) = false → J1 (d3.1, (d3.2.1, (d3.2.2.1, d3.2.2.2.1))))))) (fun d2 => K (d2.1, (d2.2.1, (d2.2.2.1, true))) ())
theorem Jy {P : Pg} (h : Has P Ds) {x : DP BF.ps} {K : DP BF.rs → DP (ptrs BF.ps) → Prop} (hw : GG P x K) : Fn P "mergelens/stat.totals" BF x K :=
 FC (c := EV) h rfl rfl (by kernel_rfl) (Eq.mpr (show E4 P Ds BF EV x K = _ by kernel_rfl) hw)
def ET : B1 :=
 (.seq (.region [o1 2 (.asg (.c (.string ⟨#[]⟩)))]) (.seq (.seq (.region [im 3 0, o1 4 (.bin .lss 3 (kI 0)), im 5 4, gf 6 5 (.mv 0), gf 7 5 (.bin .gtr 6 (kI 2147483647)), o1 8
 (.pick 5 kT 7)]) (.cond 8 (.seq (.region [o1 2 (.asg (.c (.string ⟨#[]⟩)))]) .ret) .skip)) (.seq (.region [im 9 0, oS ⟨some 10, .call "strconv.Itoa" [9], none⟩ D4, ia 2
 10]) .ret)))
def Dq : AFn := ⟨ "mergelens/scan.Format", ET.erase, [.tmp 2], 1⟩
def GD (P : Pg) (x : Int) (K : (List UInt8) → Unit → Prop) : Prop :=
 (((cond (decide (x < (0 : Int))) true (decide (x > (2147483647 : Int)))) = true → K ([] : List UInt8) ()) ∧ ((cond (decide (x < (0 : Int))) true (decide (x > (2147483647 : Int)))) = false → Fn P "strconv.Itoa" D4 x (fun (d1 : (List UInt8)) (e2 : Unit) => K d1 ())))
theorem Jw {P : Pg} (h : Has P Dq) {x : DP BE.ps} {K : DP BE.rs → DP (ptrs BE.ps) → Prop} (hw : GD P x K) : Fn P "mergelens/scan.Format" BE x K :=
 FC (c := ET) h rfl rfl (by kernel_rfl) (Eq.mpr (show E4 P Dq BE ET x K = _ by kernel_rfl) hw)
def Eo : B1 :=
 (.seq (.region [o1 2 (.asg (.c (.string ⟨#[]⟩)))]) (.seq (.frame (rg [] 2 37) [] false (.join [.sl 2 false .str .leaf] (.block 0 (.seq (.region [im 4 0, o1 5 (.bin .eql 4 (.c (.int
 .u8 34))), im 6 5, gf 7 6 (.mv 0), gf 8 6 (.bin .eql 7 (.c (.int .u8 92))), o1 9 (.pick 6 kT 8), ia 3 9]) (.cond 3 (.seq (.region [im 10 0, o1 11 (.conv .ofInt 10), o1 12 (.bin
 .add (.c (.string ⟨#[92]⟩)) 11), ia 2 12]) .ret) (.seq (.region [im 14 0, o1 15 (.bin .eql 14 (.c (.int .u8 10))), ia 13 15]) (.cond 13 (.seq (.region [o1 2 (.asg (.c (.string
 ⟨#[92, 110]⟩)))]) .ret) (.seq (.region [im 17 0, o1 18 (.bin .eql 17 (.c (.int .u8 9))), ia 16 18]) (.cond 16 (.seq (.region [o1 2 (.asg (.c (.string ⟨#[92, 116]⟩)))]) .ret) (.seq
 (.region [im 20 0, o1 21 (.bin .lss 20 (.c (.int .u8 32))), im 22 21, gf 23 22 (.mv 0), gf 24 22 (.bin .gtr 23 (.c (.int .u8 126))), o1 25 (.pick 22 kT 24), ia 19 25]) (.cond 19
 (.seq (.region [im 26 0, o1 27 (.bin .shr 26 (.c (.int .u64 6))), o1 28 (.bin .add (.c (.int .u8 48)) 27), im 29 0, o1 30 (.bin .shr 29 (.c (.int .u64 3))), o1 31 (.bin .and 30 (.c
 (.int .u8 7))), o1 32 (.bin .add (.c (.int .u8 48)) 31), im 33 0, o1 34 (.bin .and 33 (.c (.int .u8 7))), o1 35 (.bin .add (.c (.int .u8 48)) 34), oT ⟨some 36, .buildSl 1 [(.int
 .u8 0)] 3 [(0, 28), (1, 32), (2, 35)], none⟩ (some ((.int .u8), .leaf)), o1 37 (.conv .bytesToStr 36), o1 38 (.bin .add (.c (.string ⟨#[92]⟩)) 37), ia 2 38]) .ret) .skip)))))))))))
 (.seq (.region [im 39 0, o1 40 (.conv .ofInt 39), ia 2 40]) .ret)))
def CP : AFn := ⟨ "mergelens/scan.escaped", Eo.erase, [.tmp 2], 1⟩
def FJ (P : Pg) (x : Int) (K : (List UInt8) → Unit → Prop) : Prop :=
 BI (D := (List UInt8)) (fun J1 => (((cond (x == (34 : Int)) true (x == (92 : Int))) = true → (List.length ([92] : List UInt8) + List.length (O6 x) ≤ 9223372036854775807) ∧
 K (([92] : List UInt8) ++ (O6 x)) ()) ∧ ((cond (x == (34 : Int)) true (x == (92 : Int))) = false → (((x == (10 : Int)) = true → K ([92, 110] : List UInt8) ()) ∧ ((x == (10 : Int)) = false → (((x == (9 : Int)) = true → K ([92, 116] : List UInt8) ()) ∧ ((x == (9 : Int)) = false → (((cond (decide (x < (32 : Int))) true (decide (x > (126 : Int)))) = true → (0 ≤ (6 : Int)) ∧
 (0 ≤ (3 : Int)) ∧
 (List.length ([92] : List UInt8) + List.length (strOf ([(u8.wrap ((48 : Int) + (Int.fdiv x (2 ^ (min (Int.toNat (6 : Int)) u8.bits))))), (u8.wrap ((48 : Int) + (u8.wrap ((BitVec.toNat (BitVec.ofInt u8.bits (Int.fdiv x (2 ^ (min (Int.toNat (3 : Int)) u8.bits))) &&& BitVec.ofInt u8.bits (7 : Int)) : Nat) : Int)))), (u8.wrap ((48 : Int) + (u8.wrap ((BitVec.toNat (BitVec.ofInt u8.bits x &&& BitVec.ofInt u8.bits (7 : Int)) : Nat) : Int))))] : List Int)) ≤ 9223372036854775807) ∧
 K (([92] : List UInt8) ++ (strOf ([(u8.wrap ((48 : Int) + (Int.fdiv x (2 ^ (min (Int.toNat (6 : Int)) u8.bits))))), (u8.wrap ((48 : Int) + (u8.wrap ((BitVec.toNat (BitVec.ofInt u8.bits (Int.fdiv x (2 ^ (min (Int.toNat (3 : Int)) u8.bits))) &&& BitVec.ofInt u8.bits (7 : Int)) : Nat) : Int)))), (u8.wrap ((48 : Int) + (u8.wrap ((BitVec.toNat (BitVec.ofInt u8.bits x &&& BitVec.ofInt u8.bits (7 : Int)) : Nat) : Int))))] : List Int))) ()) ∧ ((cond (decide (x < (32 : Int))) true (decide (x > (126 : Int)))) = false → J1 ([] : List UInt8)))))))))) (fun d2 => K (O6 x) ())
theorem IW {P : Pg} (h : Has P CP) {x : DP BK.ps} {K : DP BK.rs → DP (ptrs BK.ps) → Prop} (hw : FJ P x K) : Fn P "mergelens/scan.escaped" BK x K :=
 FC (c := Eo) h rfl rfl (by kernel_rfl) (Eq.mpr (show E4 P CP BK Eo x K = _ by kernel_rfl) hw)
end Go.VS
