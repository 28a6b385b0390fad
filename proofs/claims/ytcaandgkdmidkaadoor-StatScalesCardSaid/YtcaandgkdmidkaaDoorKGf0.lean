/- Functions of the program: typed code, and what it says, lifted. -/
import Derived.Test.YtcaandgkdmidkaaDoorKTxSig
import Derived.KernelRfl
set_option linter.unusedVariables false
set_option linter.unusedSimpArgs false
set_option maxRecDepth 8000
namespace Go.VS
open IntKind
def EU : B1 :=
 (.seq (.region [o1 2 (.asg kF)]) (.seq (.region [im 3 0, o1 4 (.bin .geq 3 (kI 0)), im 5 4, gt 6 5 (.mv 0), gt 7 5 (.bin .leq 6 (kI 2147483647)), o1 8 (.pick 5 7 kF), ia 2 8])
 .ret))
def Dr : AFn := ⟨ zS0, EU.erase, [.tmp 2], 1⟩
def GF (P : Pg) (x : Int) (K : Bool → Unit → Prop) : Prop :=
 K (cond (decide (x ≥ (0 : Int))) (decide (x ≤ (2147483647 : Int))) false) ()
theorem Jx {P : Pg} (h : Has P Dr) {x : DP AD.ps} {K : DP AD.rs → DP (ptrs AD.ps) → Prop} (hw : GF P x K) : Fn P zS0 AD x K :=
 FC (c := EU) h rfl rfl (by kernel_rfl) (Eq.mpr (show E4 P Dr AD EU x K = _ by kernel_rfl) hw)
def Ft : B1 :=
 (.seq (.region [ia 4 (kI 0)]) (.seq (.seq (.region [im 5 0, o1 6 (.bin .eql 5 (kI 0))]) (.cond 6 (.seq (.region [ia 4 (kI 0)]) .ret) .skip)) (.seq (.region [im 7 0, ld 8 1, o1 9
 (.bin .sub 8 (kI 1)), o1 10 (.bin .mul 7 9), ld 11 2, o1 12 (.bin .quo 10 11), o1 13 (.bin .add (kI 1) 12), ia 4 13]) .ret)))
def DJ : AFn := ⟨ zS4, Ft.erase, [.tmp 4], 3⟩
def He (P : Pg) (x : (Int × (Int × Int))) (K : Int → (Int × Int) → Prop) : Prop :=
 (((x.1 == (0 : Int)) = true → K (0 : Int) x.2) ∧ ((x.1 == (0 : Int)) = false → (x.2.2 ≠ 0) ∧
 K (i64.wrap ((1 : Int) + (i64.wrap (Int.tdiv (i64.wrap (x.1 * (i64.wrap (x.2.1 - (1 : Int))))) x.2.2)))) x.2))
theorem Kw {P : Pg} (h : Has P DJ) {x : DP Bl.ps} {K : DP Bl.rs → DP (ptrs Bl.ps) → Prop} (hw : He P x K) : Fn P zS4 Bl x K :=
 FC (c := Ft) h rfl rfl (by kernel_rfl) (Eq.mpr (show E4 P DJ Bl Ft x K = _ by kernel_rfl) hw)
def G6 : B1 :=
 (.seq (.region [o1 6 (.box 2), o1 7 (.box 3), ia 8 (kI 0), ia 9 (kI 0)]) (.seq (.seq (.region [ld 13 6, ld 14 7, o1 15 (.bin .leq 13 14)]) (.cond 15 (.seq (.region [im 16 0, im 17
 1, ia 8 16, ia 9 17]) .ret) .skip)) (.seq (.region [o1 18 (.mkf (zS4, false) [7, 6]), ia 10 18]) (.seq (.region [im 19 10, im 20 0, im 21 1, o1 22 (.bin .add 20
 21), oS ⟨some 23, .callv 19 [22], none⟩ Bl, ia 11 23]) (.seq (.seq (.region [im 24 0, o1 25 (.bin .gtr 24 (kI 0)), im 26 25, gt 27 26 (.mv 1), gt 28 26 (.bin .gtr 27 (kI
 0)), o1 29 (.pick 26 28 kF)]) (.frame [11, 30, 31] [] false (.join [.si 11] (.cond 29 (.region [im 30 11, o1 31 (.mm true 30 (kI 2)), ia 11 31]) .skip)))) (.seq (.region [im 32 10,
 im 33 0, im 34 1, o1 35 (.mm false 33 34), oS ⟨some 36, .callv 32 [35], none⟩ Bl, ia 12 36]) (.seq (.seq (.region [im 37 0, im 38 1, o1 39 (.bin .leq 37 38)]) (.cond 39
 (.seq (.region [im 40 12, im 41 11, im 42 12, o1 43 (.bin .sub 41 42), ia 8 40, ia 9 43]) .ret) .skip)) (.seq (.region [im 44 11, im 45 12, o1 46 (.bin .sub 44 45), im 47 12, ia 8
 46, ia 9 47]) .ret))))))))
def Fg : AFn := ⟨ zS5, G6.erase, [.tmp 8, .tmp 9], 4⟩
def Jf (P : Pg) (x : Change) (K : (Int × Int) → Unit → Prop) : Prop :=
 (((decide (x.2.2.1 ≤ x.2.2.2)) = true → K (x.1, x.2.1) ()) ∧ ((decide (x.2.2.1 ≤ x.2.2.2)) = false → Fn P zS4 Bl ((i64.wrap (x.1 + x.2.1)), (x.2.2.2, x.2.2.1)) (fun (d1 : Int) (e2 : (Int × Int)) => BI (D := Int) (fun J3 => (((cond (decide (x.1 > (0 : Int))) (decide (x.2.1 > (0 : Int))) false) = true → J3 (if (2 : Int) > d1 then (2 : Int) else d1)) ∧ ((cond (decide (x.1 > (0 : Int))) (decide (x.2.1 > (0 : Int))) false) = false → J3 d1))) (fun d4 => Fn P zS4 Bl ((if x.2.1 < x.1 then x.2.1 else x.1), e2) (fun (d5 : Int) (e6 : (Int × Int)) => (((decide (x.1 ≤ x.2.1)) = true → K (d5, (i64.wrap (d4 - d5))) ()) ∧ ((decide (x.1 ≤ x.2.1)) = false → K ((i64.wrap (d4 - d5)), d5) ())))))))
theorem Mw {P : Pg} (h : Has P Fg) {x : DP BQ.ps} {K : DP BQ.rs → DP (ptrs BQ.ps) → Prop} (hw : Jf P x K) : Fn P zS5 BQ x K :=
 FC (c := G6) h rfl rfl (by kernel_rfl) (Eq.mpr (show E4 P Fg BQ G6 x K = _ by kernel_rfl) hw)
def G5 : B1 :=
 (.seq (.region [ia 8 (kI 0), ia 9 (kI 0), ia 10 (kI 0)]) (.seq (.seq (.region [im 13 3, o1 14 (.bin .lss 13 (kI 2)), im 15 14, gf 16 15 (.mv 3), gf 17 15 (.bin .gtr 16 (kI 1000)),
 o1 18 (.pick 15 kT 17), im 19 18, gf 20 19 (.mv 0), oS ⟨some 21, .call zS0 [20], some (19, false)⟩ AD, gf 22 19 (.un .not 21), o1 23 (.pick 19 kT
 22), im 24 23, gf 25 24 (.mv 1), oS ⟨some 26, .call zS0 [25], some (24, false)⟩ AD, gf 27 24 (.un .not 26), o1 28 (.pick 24 kT 27), im 29 28, gf 30
 29 (.mv 2), oS ⟨some 31, .call zS0 [30], some (29, false)⟩ AD, gf 32 29 (.un .not 31), o1 33 (.pick 29 kT 32), im 34 33, gf 35 34 (.mv 2), gf 36 34
 (.mv 0), gf 37 34 (.mv 1), gf 38 34 (.bin .add 36 37), gf 39 34 (.bin .lss 35 38), o1 40 (.pick 34 kT 39)]) (.cond 40 (.seq (.region [ia 8 (kI 0), ia 9 (kI 0), ia 10 (kI 3)]) .ret)
 .skip)) (.seq (.region [im 42 0, im 43 1, im 44 2, im 45 3, oS ⟨some 46, .call zS5 [42, 43, 44, 45], none⟩ BQ, im 41 46, o1 47 (.ext 41 0), o1 48 (.ext 41
 1), ia 11 47, ia 12 48]) (.seq (.region [im 49 11, im 50 12, ia 8 49, ia 9 50, ia 10 (kI 0)]) .ret))))
def Ff : AFn := ⟨ zS2, G5.erase, [.tmp 8, .tmp 9, .tmp 10], 4⟩
def Je (P : Pg) (x : Change) (K : (Int × (Int × Int)) → Unit → Prop) : Prop :=
 BI (D := Bool) (fun J1 => (((cond (decide (x.2.2.2 < (2 : Int))) true (decide (x.2.2.2 > (1000 : Int)))) = false → Fn P zS0 AD x.1 (fun (d2 : Bool) _ => J1 d2)) ∧ (((cond (decide (x.2.2.2 < (2 : Int))) true (decide (x.2.2.2 > (1000 : Int)))) = true → J1 false) ∧ True))) (fun d3 => BI (D := Bool) (fun J4 => (((cond (cond (decide (x.2.2.2 < (2 : Int))) true (decide (x.2.2.2 > (1000 : Int)))) true (!d3)) = false → Fn P zS0 AD x.2.1 (fun (d5 : Bool) _ => J4 d5)) ∧ (((cond (cond (decide (x.2.2.2 < (2 : Int))) true (decide (x.2.2.2 > (1000 : Int)))) true (!d3)) = true → J4 false) ∧ True))) (fun d6 => BI (D := Bool) (fun J7 => (((cond (cond (cond (decide (x.2.2.2 < (2 : Int))) true (decide (x.2.2.2 > (1000 : Int)))) true (!d3)) true (!d6)) = false → Fn P zS0 AD x.2.2.1 (fun (d8 : Bool) _ => J7 d8)) ∧ (((cond (cond (cond (decide (x.2.2.2 < (2 : Int))) true (decide (x.2.2.2 > (1000 : Int)))) true (!d3)) true (!d6)) = true → J7 false) ∧ True))) (fun d9 => (((cond (cond (cond (cond (cond (decide (x.2.2.2 < (2 : Int))) true (decide (x.2.2.2 > (1000 : Int)))) true (!d3)) true (!d6)) true (!d9)) true (decide (x.2.2.1 < (i64.wrap (x.1 + x.2.1))))) = true → K ((0 : Int), ((0 : Int), (3 : Int))) ()) ∧ ((cond (cond (cond (cond (cond (decide (x.2.2.2 < (2 : Int))) true (decide (x.2.2.2 > (1000 : Int)))) true (!d3)) true (!d6)) true (!d9)) true (decide (x.2.2.1 < (i64.wrap (x.1 + x.2.1))))) = false → Fn P zS5 BQ x (fun (d10 : (Int × Int)) (e11 : Unit) => K (d10.1, (d10.2, (0 : Int))) ()))))))
theorem Mv {P : Pg} (h : Has P Ff) {x : DP Bh.ps} {K : DP Bh.rs → DP (ptrs Bh.ps) → Prop} (hw : Je P x K) : Fn P zS2 Bh x K :=
 FC (c := G5) h rfl rfl (by kernel_rfl) (Eq.mpr (show E4 P Ff Bh G5 x K = _ by kernel_rfl) hw)
def Io : B1 :=
 (.seq (.region [ia 4 (kI 0)]) (.seq (.region [im 5 0, o1 6 (.conv (.toInt .u64) 5), im 7 1, o1 8 (.conv (.toInt .u64) 7), o1 9 (.bin .rem 6 8), o1 10 (.conv (.toInt .i64) 9), ia 4
 10]) .ret))
def Gg : AFn := ⟨ zS1, Io.erase, [.tmp 4], 2⟩
def KL (P : Pg) (x : (Int × Int)) (K : Int → Unit → Prop) : Prop :=
 ((u64.wrap x.2) ≠ 0) ∧
 K (i64.wrap (Int.tmod (u64.wrap x.1) (u64.wrap x.2))) ()
theorem NJ {P : Pg} (h : Has P Gg) {x : DP Bg.ps} {K : DP Bg.rs → DP (ptrs Bg.ps) → Prop} (hw : KL P x K) : Fn P zS1 Bg x K :=
 FC (c := Io) h rfl rfl (by kernel_rfl) (Eq.mpr (show E4 P Gg Bg Io x K = _ by kernel_rfl) hw)
def ER : B1 :=
 (.seq (.region [o1 0 (.asg kF)]) (.seq (.region [oS ⟨some 7, .call zS2 [(kI 60), (kI 40), (kI 100), (kI 10)], none⟩ Bh, im 6 7, o1 8 (.ext 6 0), o1 9 (.ext
 6 1), o1 10 (.ext 6 2), ia 1 8, ia 2 9, ia 3 10]) (.seq (.region [o1 12 (.build [(.string ⟨#[]⟩), (.int .i64 0), (.int .i64 0)] [(0, 1, (.c (.string ⟨#[120]⟩))), (1, 1, (kI 1)),
 (2, 1, (kI 2))]), oT ⟨some 13, .buildSl 3 [(.string ⟨#[]⟩), (.int .i64 0), (.int .i64 0)] 1 [(0, 12)], none⟩ (some (FA, .leaf)), oS ⟨some 14, .call "mergelens/stat.Format" [13,
 (kI 10)], none⟩ Dt, im 11 14, o1 15 (.ext 11 0), o1 16 (.ext 11 1), ia 4 15, ia 5 16]) (.seq (.region [im 17 3, o1 18 (.bin .eql 17 (kI 0)), im 19 18, gt 20 19 (.mv 5),
 gt 21 19 (.bin .eql 20 (kI 0)), o1 22 (.pick 19 21 kF), im 23 22, gt 24 23 (.mv 1), gt 25 23 (.bin .eql 24 (kI 6)), o1 26 (.pick 23 25 kF), im 27 26, gt 28 27 (.mv 2), gt 29 27
 (.bin .eql 28 (kI 4)), o1 30 (.pick 27 29 kF), im 31 30, gt 32 31 (.mv 4), o0 ⟨some 33, .bin .eql 32 (.c (.string ⟨#[32, 120, 32, 124, 32, 51, 32, 43, 45, 45, 10, 32, 49, 32, 102,
 105, 108, 101, 115, 44, 32, 49, 32, 97, 100, 100, 101, 100, 44, 32, 50, 32, 114, 101, 109, 111, 118, 101, 100, 10]⟩)), some (31, true)⟩, o1 34 (.pick 31 33 kF), ia 0 34]) .ret))))
def Dn : AFn := ⟨ zS3, ER.erase, [.tmp 0], 0⟩
def GB (P : Pg) (x : Unit) (K : Bool → Unit → Prop) : Prop :=
 Fn P zS2 Bh ((60 : Int), ((40 : Int), ((100 : Int), (10 : Int)))) (fun (d1 : (Int × (Int × Int))) (e2 : Unit) => Fn P "mergelens/stat.Format" Dt (([(([120] : List UInt8), ((1 : Int), (2 : Int)))] : List Stat), (10 : Int)) (fun (d3 : ((List UInt8) × Int)) (e4 : Unit) => K (cond (cond (cond (cond (d1.2.2 == (0 : Int)) (d3.2 == (0 : Int)) false) (d1.1 == (6 : Int)) false) (d1.2.1 == (4 : Int)) false) (d3.1 == ([32, 120, 32, 124, 32, 51, 32, 43, 45, 45, 10, 32, 49, 32, 102, 105, 108, 101, 115, 44, 32, 49, 32, 97, 100, 100, 101, 100, 44, 32, 50, 32, 114, 101, 109, 111, 118, 101, 100, 10] : List UInt8)) false) ()))
theorem Ju {P : Pg} (h : Has P Dn) {x : DP Bk.ps} {K : DP Bk.rs → DP (ptrs Bk.ps) → Prop} (hw : GB P x K) : Fn P zS3 Bk x K :=
 FC (c := ER) h rfl rfl (by kernel_rfl) (Eq.mpr (show E4 P Dn Bk ER x K = _ by kernel_rfl) hw)
def Tj : B1 :=
 (.seq (.region [o1 8 (.asg kF)]) (.seq (.region [im 15 0, oS ⟨some 16, .call zS1 [15, (kI 5000)], none⟩ Bg, im 17 1, oS ⟨some 18, .call
 zS1 [17, (kI 5000)], none⟩ Bg, ia 9 16, ia 10 18]) (.seq (.region [im 19 9, im 20 10, o1 21 (.bin .add 19 20), im 22 2, oS ⟨some 23, .call
 zS1 [22, (kI 100000)], none⟩ Bg, o1 24 (.bin .add 21 23), im 25 3, oS ⟨some 26, .call zS1 [25, (kI 100)], none⟩ Bg,
 o1 27 (.bin .add (kI 2) 26), ia 11 24, ia 3 27]) (.seq (.region [im 29 9, im 30 10, im 31 11, im 32 3, oS ⟨some 33, .call zS2 [29, 30, 31, 32], none⟩ Bh,
 im 28 33, o1 34 (.ext 28 0), o1 35 (.ext 28 1), o1 36 (.ext 28 2), ia 12 34, ia 13 35, ia 14 36]) (.seq (.seq (.region [im 37 14, o1 38 (.bin .neq 37 (kI 0))]) (.cond 38 (.seq
 (.region [o1 8 (.asg kF)]) .ret) .skip)) (.seq (.seq (.region [im 39 11, im 40 3, o1 41 (.bin .leq 39 40)]) (.cond 41 (.seq (.region [im 42 12, im 43 9, o1 44 (.bin .eql 42 43), im
 45 44, gt 46 45 (.mv 13), gt 47 45 (.mv 10), gt 48 45 (.bin .eql 46 47), o1 49 (.pick 45 48 kF), im 50 49, oS ⟨some 51, .call zS3 [], some (50, true)⟩
 Bk, o1 52 (.pick 50 51 kF), ia 8 52]) .ret) .skip)) (.seq (.region [im 53 12, im 54 13, o1 55 (.bin .add 53 54), im 56 3, o1 57 (.bin .leq 55 56), im 58 57, gt 59 58
 (.mv 12), gt 60 58 (.bin .gtr 59 (kI 0)), gt 61 58 (.mv 9), gt 62 58 (.bin .gtr 61 (kI 0)), gt 63 58 (.eqB false 60 62), o1 64 (.pick 58 63 kF), im 65 64, gt 66 65 (.mv 13), gt 67
 65 (.bin .gtr 66 (kI 0)), gt 68 65 (.mv 10), gt 69 65 (.bin .gtr 68 (kI 0)), gt 70 65 (.eqB false 67 69), o1 71 (.pick 65 70 kF), im 72 71, gt 73 72 (.mv 12), gt 74 72 (.bin .geq
 73 (kI 0)), o1 75 (.pick 72 74 kF), im 76 75, gt 77 76 (.mv 13), gt 78 76 (.bin .geq 77 (kI 0)), o1 79 (.pick 76 78 kF), im 80 79, oS ⟨some 81, .call
 zS3 [], some (80, true)⟩ Bk, o1 82 (.pick 80 81 kF), ia 8 82]) .ret)))))))
def Ti : AFn := ⟨ zS6, Tj.erase, [.tmp 8], 4⟩
def Tk (P : Pg) (x : Change) (K : Bool → Unit → Prop) : Prop :=
 Fn P zS1 Bg (x.1, (5000 : Int)) (fun (d1 : Int) (e2 : Unit) => Fn P zS1 Bg (x.2.1, (5000 : Int)) (fun (d3 : Int) (e4 : Unit) => Fn P zS1 Bg (x.2.2.1, (100000 : Int)) (fun (d5 : Int) (e6 : Unit) => Fn P zS1 Bg (x.2.2.2, (100 : Int)) (fun (d7 : Int) (e8 : Unit) => Fn P zS2 Bh (d1, (d3, ((i64.wrap ((i64.wrap (d1 + d3)) + d5)), (i64.wrap ((2 : Int) + d7))))) (fun (d9 : (Int × (Int × Int))) (e10 : Unit) => (((d9.2.2 != (0 : Int)) = true → K false ()) ∧ ((d9.2.2 != (0 : Int)) = false → (((decide ((i64.wrap ((i64.wrap (d1 + d3)) + d5)) ≤ (i64.wrap ((2 : Int) + d7)))) = true → BI (D := Bool) (fun J11 => (((cond (d9.1 == d1) (d9.2.1 == d3) false) = true → Fn P zS3 Bk () (fun (d12 : Bool) _ => J11 d12)) ∧ (((cond (d9.1 == d1) (d9.2.1 == d3) false) = false → J11 false) ∧ True))) (fun d13 => K (cond (cond (d9.1 == d1) (d9.2.1 == d3) false) d13 false) ())) ∧ ((decide ((i64.wrap ((i64.wrap (d1 + d3)) + d5)) ≤ (i64.wrap ((2 : Int) + d7)))) = false → BI (D := Bool) (fun J14 => (((cond (cond (cond (cond (decide ((i64.wrap (d9.1 + d9.2.1)) ≤ (i64.wrap ((2 : Int) + d7)))) ((decide (d9.1 > (0 : Int))) == (decide (d1 > (0 : Int)))) false) ((decide (d9.2.1 > (0 : Int))) == (decide (d3 > (0 : Int)))) false) (decide (d9.1 ≥ (0 : Int))) false) (decide (d9.2.1 ≥ (0 : Int))) false) = true → Fn P zS3 Bk () (fun (d15 : Bool) _ => J14 d15)) ∧ (((cond (cond (cond (cond (decide ((i64.wrap (d9.1 + d9.2.1)) ≤ (i64.wrap ((2 : Int) + d7)))) ((decide (d9.1 > (0 : Int))) == (decide (d1 > (0 : Int)))) false) ((decide (d9.2.1 > (0 : Int))) == (decide (d3 > (0 : Int)))) false) (decide (d9.1 ≥ (0 : Int))) false) (decide (d9.2.1 ≥ (0 : Int))) false) = false → J14 false) ∧ True))) (fun d16 => K (cond (cond (cond (cond (cond (decide ((i64.wrap (d9.1 + d9.2.1)) ≤ (i64.wrap ((2 : Int) + d7)))) ((decide (d9.1 > (0 : Int))) == (decide (d1 > (0 : Int)))) false) ((decide (d9.2.1 > (0 : Int))) == (decide (d3 > (0 : Int)))) false) (decide (d9.1 ≥ (0 : Int))) false) (decide (d9.2.1 ≥ (0 : Int))) false) d16 false) ()))))))))))
theorem Tm {P : Pg} (h : Has P Ti) {x : DP Th.ps} {K : DP Th.rs → DP (ptrs Th.ps) → Prop} (hw : Tk P x K) : Fn P zS6 Th x K :=
 FC (c := Tj) h rfl rfl (by kernel_rfl) (Eq.mpr (show E4 P Ti Th Tj x K = _ by kernel_rfl) hw)
def EV : B1 :=
 (.seq (.region [ia 2 (kI 0), ia 3 (kI 0), ia 4 (kI 0), o1 5 (.asg kF)]) (.seq (.seq (.region [im 8 0, o1 9 (.lenK 8), o1 10 (.mv (kI 0))]) (.frame (rg [2, 3, 4, 5, 7] 10 35) [1007]
 false (.join [.si 2, .si 3, .si 4, .sl 5 false .bool .leaf] (.block 0 (.loop [.si 2, .si 3, .si 4, .sl 5 false .bool .leaf, .si 10] (.seq (.region [o1 11 (.bin .lss 10 9)]) (.seq
 (.cond 11 .skip (.exit 0)) (.seq (.frame (rg [2, 3, 4, 5, 7] 12 32) [1007] false (.join [.si 2, .si 3, .si 4, .sl 5 false .bool .leaf] (.block 1 (.seq (.region [o1 12 (.ixA 3 8
 10), o1 13 (.load true 3 12), o1 7 (.alloc [(.string ⟨#[]⟩), (.int .i64 0), (.int .i64 0)]), o0 ⟨none, .store 3 7 13, none⟩]) (.seq (.seq (.region [fa 14 1 7, ld 15 14, oS ⟨some
 16, .call zS0 [15], none⟩ AD, o1 17 (.un .not 16), im 18 17, gf 19 18 (.fAddr 2 7), gf 20 18 (.load false 1 19), oS ⟨some 21, .call
 zS0 [20], some (18, false)⟩ AD, gf 22 18 (.un .not 21), o1 23 (.pick 18 kT 22)]) (.cond 23 (.seq (.region [ia 2 (kI 0), ia 3 (kI 0), ia 4 (kI 0), o1
 5 (.asg kF)]) .ret) .skip)) (.seq (.region [im 24 2, fa 25 1 7, ld 26 25, o1 27 (.bin .add 24 26), ia 2 27]) (.seq (.region [im 28 3, fa 29 2 7, ld 30 29, o1 31 (.bin .add 28 30),
 ia 3 31]) (.seq (.seq (.region [im 32 2, im 33 3, o1 34 (.bin .add 32 33), oS ⟨some 35, .call zS0 [34], none⟩ AD, o1 36 (.un .not 35)]) (.cond 36
 (.seq (.region [ia 2 (kI 0), ia 3 (kI 0), ia 4 (kI 0), o1 5 (.asg kF)]) .ret) .skip)) (.region [im 37 4, fa 38 1 7, ld 39 38, fa 40 2 7, ld 41 40, o1 42 (.bin .add 39 41), o1 43
 (.mm true 37 42), ia 4 43]))))))))) (.region [o1 44 (.bin .add 10 (kI 1)), im 10 44]))))))))) (.seq (.region [im 45 2, im 46 3, im 47 4, ia 2 45, ia 3 46, ia 4 47, o1 5 (.asg kT)])
 .ret)))
def Ds : AFn := ⟨ "mergelens/stat.totals", EV.erase, [.tmp 2, .tmp 3, .tmp 4, .tmp 5], 1⟩
def GG (P : Pg) (x : (List Stat)) (K : (Int × (Int × (Int × Bool))) → Unit → Prop) : Prop :=
 BI (D := (Int × (Int × (Int × Bool)))) (fun J1 => Mb (D := (Int × (Int × (Int × (Bool × Int))))) ((0 : Int), ((0 : Int), ((0 : Int), (false, (0 : Int))))) (fun d3 J4 => (((decide (d3.2.2.2.2 < (x.length : Int))) = true → BI (D := (Int × (Int × (Int × Bool)))) (fun J5 => (0 ≤ d3.2.2.2.2 ∧ d3.2.2.2.2 < (x.length : Int)) ∧
 (d3.2.2.2.2.toNat < x.length) ∧
 Fn P zS0 AD (List.getD x d3.2.2.2.2.toNat FH).2.1 (fun (d7 : Bool) (e8 : Unit) => BI (D := Bool) (fun J9 => (((!d7) = false → Fn P zS0 AD (List.getD x d3.2.2.2.2.toNat FH).2.2 (fun (d10 : Bool) _ => J9 d10)) ∧ (((!d7) = true → J9 false) ∧ True))) (fun d11 => (((cond (!d7) true (!d11)) = true → K ((0 : Int), ((0 : Int), ((0 : Int), false))) ()) ∧ ((cond (!d7) true (!d11)) = false → Fn P zS0 AD (i64.wrap ((i64.wrap (d3.1 + (List.getD x d3.2.2.2.2.toNat FH).2.1)) + (i64.wrap (d3.2.1 + (List.getD x d3.2.2.2.2.toNat FH).2.2)))) (fun (d12 : Bool) (e13 : Unit) => (((!d12) = true → K ((0 : Int), ((0 : Int), ((0 : Int), false))) ()) ∧ ((!d12) = false → J5 ((i64.wrap (d3.1 + (List.getD x d3.2.2.2.2.toNat FH).2.1)), ((i64.wrap (d3.2.1 + (List.getD x d3.2.2.2.2.toNat FH).2.2)), ((if (i64.wrap ((List.getD x d3.2.2.2.2.toNat FH).2.1 + (List.getD x d3.2.2.2.2.toNat FH).2.2)) > d3.2.2.1 then (i64.wrap ((List.getD x d3.2.2.2.2.toNat FH).2.1 + (List.getD x d3.2.2.2.2.toNat FH).2.2)) else d3.2.2.1), d3.2.2.2.1))))))))))) (fun d6 => J4 (d6.1, (d6.2.1, (d6.2.2.1, (d6.2.2.2, (i64.wrap (d3.2.2.2.2 + (1 : Int))))))))) ∧ ((decide (d3.2.2.2.2 < (x.length : Int))) = false → J1 (d3.1, (d3.2.1, (d3.2.2.1, d3.2.2.2.1))))))) (fun d2 => K (d2.1, (d2.2.1, (d2.2.2.1, true))) ())
theorem Jy {P : Pg} (h : Has P Ds) {x : DP BF.ps} {K : DP BF.rs → DP (ptrs BF.ps) → Prop} (hw : GG P x K) : Fn P "mergelens/stat.totals" BF x K :=
 FC (c := EV) h rfl rfl (by kernel_rfl) (Eq.mpr (show E4 P Ds BF EV x K = _ by kernel_rfl) hw)
def ET : B1 :=
 (.seq (.region [o1 2 (.asg (.c (.string ⟨#[]⟩)))]) (.seq (.seq (.region [im 3 0, o1 4 (.bin .lss 3 (kI 0)), im 5 4, gf 6 5 (.mv 0), gf 7 5 (.bin .gtr 6 (kI 2147483647)), o1 8
 (.pick 5 kT 7)]) (.cond 8 (.seq (.region [o1 2 (.asg (.c (.string ⟨#[]⟩)))]) .ret) .skip)) (.seq (.region [im 9 0, oS ⟨some 10, .call "strconv.Itoa" [9], none⟩ D4, ia 2
 10]) .ret)))
def Dq : AFn := ⟨ "mergelens/scan.Format", ET.erase, [.tmp 2], 1⟩
def GD (P : Pg) (x : Int) (K : (List UInt8) → Unit → Prop) : Prop :=
 (((cond (decide (x < (0 : Int))) true (decide (x > (2147483647 : Int)))) = true → K ([] : List UInt8) ()) ∧ ((cond (decide (x < (0 : Int))) true (decide (x > (2147483647 : Int)))) = false → Fn P "strconv.Itoa" D4 x (fun (d1 : (List UInt8)) (e2 : Unit) => K d1 ())))
theorem Jw {P : Pg} (h : Has P Dq) {x : DP BE.ps} {K : DP BE.rs → DP (ptrs BE.ps) → Prop} (hw : GD P x K) : Fn P "mergelens/scan.Format" BE x K :=
 FC (c := ET) h rfl rfl (by kernel_rfl) (Eq.mpr (show E4 P Dq BE ET x K = _ by kernel_rfl) hw)
def Eo : B1 :=
 (.seq (.region [o1 2 (.asg (.c (.string ⟨#[]⟩)))]) (.seq (.frame (rg [] 2 37) [] false (.join [.sl 2 false .str .leaf] (.block 0 (.seq (.region [im 4 0, o1 5 (.bin .eql 4 (.c (.int
 .u8 34))), im 6 5, gf 7 6 (.mv 0), gf 8 6 (.bin .eql 7 (.c (.int .u8 92))), o1 9 (.pick 6 kT 8), ia 3 9]) (.cond 3 (.seq (.region [im 10 0, o1 11 (.conv .ofInt 10), o1 12 (.bin
 .add (.c (.string ⟨#[92]⟩)) 11), ia 2 12]) .ret) (.seq (.region [im 14 0, o1 15 (.bin .eql 14 (.c (.int .u8 10))), ia 13 15]) (.cond 13 (.seq (.region [o1 2 (.asg (.c (.string
 ⟨#[92, 110]⟩)))]) .ret) (.seq (.region [im 17 0, o1 18 (.bin .eql 17 (.c (.int .u8 9))), ia 16 18]) (.cond 16 (.seq (.region [o1 2 (.asg (.c (.string ⟨#[92, 116]⟩)))]) .ret) (.seq
 (.region [im 20 0, o1 21 (.bin .lss 20 (.c (.int .u8 32))), im 22 21, gf 23 22 (.mv 0), gf 24 22 (.bin .gtr 23 (.c (.int .u8 126))), o1 25 (.pick 22 kT 24), ia 19 25]) (.cond 19
 (.seq (.region [im 26 0, o1 27 (.bin .shr 26 (.c (.int .u64 6))), o1 28 (.bin .add (.c (.int .u8 48)) 27), im 29 0, o1 30 (.bin .shr 29 (.c (.int .u64 3))), o1 31 (.bin .and 30 (.c
 (.int .u8 7))), o1 32 (.bin .add (.c (.int .u8 48)) 31), im 33 0, o1 34 (.bin .and 33 (.c (.int .u8 7))), o1 35 (.bin .add (.c (.int .u8 48)) 34), oT ⟨some 36, .buildSl 1 [(.int
 .u8 0)] 3 [(0, 28), (1, 32), (2, 35)], none⟩ (some ((.int .u8), .leaf)), o1 37 (.conv .bytesToStr 36), o1 38 (.bin .add (.c (.string ⟨#[92]⟩)) 37), ia 2 38]) .ret) .skip)))))))))))
 (.seq (.region [im 39 0, o1 40 (.conv .ofInt 39), ia 2 40]) .ret)))
def CP : AFn := ⟨ "mergelens/scan.escaped", Eo.erase, [.tmp 2], 1⟩
def FJ (P : Pg) (x : Int) (K : (List UInt8) → Unit → Prop) : Prop :=
 BI (D := (List UInt8)) (fun J1 => (((cond (x == (34 : Int)) true (x == (92 : Int))) = true → (List.length ([92] : List UInt8) + List.length (O6 x) ≤ 9223372036854775807) ∧
 K (([92] : List UInt8) ++ (O6 x)) ()) ∧ ((cond (x == (34 : Int)) true (x == (92 : Int))) = false → (((x == (10 : Int)) = true → K ([92, 110] : List UInt8) ()) ∧ ((x == (10 : Int)) = false → (((x == (9 : Int)) = true → K ([92, 116] : List UInt8) ()) ∧ ((x == (9 : Int)) = false → (((cond (decide (x < (32 : Int))) true (decide (x > (126 : Int)))) = true → (0 ≤ (6 : Int)) ∧
 (0 ≤ (3 : Int)) ∧
 (List.length ([92] : List UInt8) + List.length (strOf ([(u8.wrap ((48 : Int) + (Int.fdiv x (2 ^ (min (Int.toNat (6 : Int)) u8.bits))))), (u8.wrap ((48 : Int) + (u8.wrap ((BitVec.toNat (BitVec.ofInt u8.bits (Int.fdiv x (2 ^ (min (Int.toNat (3 : Int)) u8.bits))) &&& BitVec.ofInt u8.bits (7 : Int)) : Nat) : Int)))), (u8.wrap ((48 : Int) + (u8.wrap ((BitVec.toNat (BitVec.ofInt u8.bits x &&& BitVec.ofInt u8.bits (7 : Int)) : Nat) : Int))))] : List Int)) ≤ 9223372036854775807) ∧
 K (([92] : List UInt8) ++ (strOf ([(u8.wrap ((48 : Int) + (Int.fdiv x (2 ^ (min (Int.toNat (6 : Int)) u8.bits))))), (u8.wrap ((48 : Int) + (u8.wrap ((BitVec.toNat (BitVec.ofInt u8.bits (Int.fdiv x (2 ^ (min (Int.toNat (3 : Int)) u8.bits))) &&& BitVec.ofInt u8.bits (7 : Int)) : Nat) : Int)))), (u8.wrap ((48 : Int) + (u8.wrap ((BitVec.toNat (BitVec.ofInt u8.bits x &&& BitVec.ofInt u8.bits (7 : Int)) : Nat) : Int))))] : List Int))) ()) ∧ ((cond (decide (x < (32 : Int))) true (decide (x > (126 : Int)))) = false → J1 ([] : List UInt8)))))))))) (fun d2 => K (O6 x) ())
theorem IW {P : Pg} (h : Has P CP) {x : DP BK.ps} {K : DP BK.rs → DP (ptrs BK.ps) → Prop} (hw : FJ P x K) : Fn P "mergelens/scan.escaped" BK x K :=
 FC (c := Eo) h rfl rfl (by kernel_rfl) (Eq.mpr (show E4 P CP BK Eo x K = _ by kernel_rfl) hw)
end Go.VS
