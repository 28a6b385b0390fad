/- Functions of the program: typed code, and what it says, lifted. -/
import Derived.Test.YtbandpkgjepklaaDoorKTxSig
import Derived.KernelRfl
set_option linter.unusedVariables false
set_option linter.unusedSimpArgs false
namespace Go.VS
open IntKind
def t_scan_digit : TCode :=
 (.seq (.region [o1 4 (.asg kF)]) (.seq (.region [im 5 1, im 6 0, o1 7 (.lenS 6), o1 8 (.bin .lss 5 7), im 9 8, gt 10 9 (.mv 0), gt 11 9 (.mv 1), gt 12 9 (.ixS 10 11), gt 13 9 (.bin
 .geq 12 (.c (.int .u8 48))), o1 14 (.pick 9 13 kF), im 15 14, gt 16 15 (.mv 0), gt 17 15 (.mv 1), gt 18 15 (.ixS 16 17), gt 19 15 (.bin .leq 18 (.c (.int .u8 57))), o1 20 (.pick 15
 19 kF), ia 4 20]) .ret))
def F_scan_digit : AFn := ⟨ "mergelens/scan.digit", t_scan_digit.erase, [.tmp 4], 2⟩
def W_scan_digit (P : Program) (x : ((List UInt8) × Int)) (K : Bool → Unit → Prop) : Prop :=
 (((decide (x.2 < (x.1.length : Int))) = true → 0 ≤ x.2 ∧ x.2 < (x.1.length : Int))) ∧
 (((cond (decide (x.2 < (x.1.length : Int))) (decide (((x.1.getD x.2.toNat 0).toNat : Int) ≥ (48 : Int))) false) = true → 0 ≤ x.2 ∧ x.2 < (x.1.length : Int))) ∧
 K (cond (cond (decide (x.2 < (x.1.length : Int))) (decide (((x.1.getD x.2.toNat 0).toNat : Int) ≥ (48 : Int))) false) (decide (((x.1.getD x.2.toNat 0).toNat : Int) ≤ (57 : Int))) false) ()
theorem fn_scan_digit {P} (h : Has P F_scan_digit) {x K} (hw : W_scan_digit P x K) : Fn P "mergelens/scan.digit" S_scan_digit x K :=
 fn_of (c := t_scan_digit) h rfl rfl (by kernel_rfl) (Eq.mpr (show liftT P F_scan_digit S_scan_digit t_scan_digit x K = _ by kernel_rfl) hw)
def t_scan_Number : TCode :=
 (.seq (.region [ia 4 (kI 0), ia 5 (kI 0), o1 6 (.asg kF)]) (.seq (.seq (.region [im 9 1, o1 10 (.bin .lss 9 (kI 0)), im 11 10, gf 12 11 (.mv 0), gf 13 11 (.mv 1), oS ⟨some 14,
 .call "mergelens/scan.digit" [12, 13], some (11, false)⟩ S_scan_digit, gf 15 11 (.un .not 14), o1 16 (.pick 11 kT 15)]) (.cond 16 (.seq (.region [ia 4 (kI 0), ia 5 (kI 0), o1 6
 (.asg kF)]) .ret) .skip)) (.seq (.region [im 17 1, ia 7 (kI 0), ia 8 17]) (.seq (.frame (rg [7, 8] 18 14) [] false (.join [.si 7, .si 8] (.block 0 (.loop [.si 7, .si 8] (.seq (.seq
 (.region [im 18 0, im 19 8, oS ⟨some 20, .call "mergelens/scan.digit" [18, 19], none⟩ S_scan_digit]) (.cond 20 .skip (.exit 0))) (.seq (.frame (rg [7] 23 9) [] false (.join [.si 7]
 (.block 1 (.region [im 23 7, o1 24 (.bin .mul (kI 10) 23), im 25 0, im 26 8, o1 27 (.ixS 25 26), o1 28 (.bin .sub 27 (.c (.int .u8 48))), o1 29 (.conv (.toInt .i64) 28), o1 30
 (.bin .add 24 29), o1 31 (.mm false 30 (kI 2147483648)), ia 7 31])))) (.region [im 21 8, o1 22 (.bin .add 21 (kI 1)), ia 8 22]))))))) (.seq (.seq (.region [im 32 7, o1 33 (.bin
 .gtr 32 (kI 2147483647)), im 34 33, gf 35 34 (.mv 0), gf 36 34 (.mv 1), gf 37 34 (.ixS 35 36), gf 38 34 (.bin .eql 37 (.c (.int .u8 48))), gf 39 34 (.mv 38), gt 40 39 (.mv 8), gt
 41 39 (.mv 1), gt 42 39 (.bin .add 41 (kI 1)), gt 43 39 (.bin .gtr 40 42), gf 44 34 (.pick 39 43 kF), o1 45 (.pick 34 kT 44)]) (.cond 45 (.seq (.region [ia 4 (kI 0), ia 5 (kI 0),
 o1 6 (.asg kF)]) .ret) .skip)) (.seq (.region [im 46 7, im 47 8, ia 4 46, ia 5 47, o1 6 (.asg kT)]) .ret))))))
def F_scan_Number : AFn := ⟨ "mergelens/scan.Number", t_scan_Number.erase, [.tmp 4, .tmp 5, .tmp 6], 2⟩
def W_scan_Number (P : Program) (x : ((List UInt8) × Int)) (K : (Int × (Int × Bool)) → Unit → Prop) : Prop :=
 JoinW (D := Bool) (fun J1 => (((decide (x.2 < (0 : Int))) = false → Fn P "mergelens/scan.digit" S_scan_digit x (fun (d2 : Bool) _ => J1 d2)) ∧ (((decide (x.2 < (0 : Int))) = true → J1 false) ∧ True))) (fun d3 => (((cond (decide (x.2 < (0 : Int))) true (!d3)) = true → K ((0 : Int), ((0 : Int), false)) ()) ∧ ((cond (decide (x.2 < (0 : Int))) true (!d3)) = false → JoinW (D := (Int × Int)) (fun J4 => LoopW (D := (Int × Int)) ((0 : Int), x.2) (fun d6 J7 => Fn P "mergelens/scan.digit" S_scan_digit (x.1, d6.2) (fun (d8 : Bool) (e9 : Unit) => ((d8 = true → JoinW (D := Int) (fun J10 => (0 ≤ d6.2 ∧ d6.2 < (x.1.length : Int)) ∧
 J10 (if (2147483648 : Int) < (i64.wrap ((i64.wrap ((10 : Int) * d6.1)) + (i64.wrap (u8.wrap (((x.1.getD d6.2.toNat 0).toNat : Int) - (48 : Int)))))) then (2147483648 : Int) else (i64.wrap ((i64.wrap ((10 : Int) * d6.1)) + (i64.wrap (u8.wrap (((x.1.getD d6.2.toNat 0).toNat : Int) - (48 : Int)))))))) (fun d11 => J7 (d11, (i64.wrap (d6.2 + (1 : Int)))))) ∧ (d8 = false → J4 d6))))) (fun d5 => (((decide (d5.1 > (2147483647 : Int))) = false → 0 ≤ x.2 ∧ x.2 < (x.1.length : Int))) ∧
 (((cond (decide (d5.1 > (2147483647 : Int))) true (cond (((x.1.getD x.2.toNat 0).toNat : Int) == (48 : Int)) (decide (d5.2 > (i64.wrap (x.2 + (1 : Int))))) false)) = true → K ((0 : Int), ((0 : Int), false)) ()) ∧ ((cond (decide (d5.1 > (2147483647 : Int))) true (cond (((x.1.getD x.2.toNat 0).toNat : Int) == (48 : Int)) (decide (d5.2 > (i64.wrap (x.2 + (1 : Int))))) false)) = false → K (d5.1, (d5.2, true)) ()))))))
theorem fn_scan_Number {P} (h : Has P F_scan_Number) {x K} (hw : W_scan_Number P x K) : Fn P "mergelens/scan.Number" S_scan_Number x K :=
 fn_of (c := t_scan_Number) h rfl rfl (by kernel_rfl) (Eq.mpr (show liftT P F_scan_Number S_scan_Number t_scan_Number x K = _ by kernel_rfl) hw)
def t_scan_plain : TCode :=
 (.seq (.region [o1 2 (.asg kF)]) (.seq (.region [im 3 0, o1 4 (.bin .geq 3 (.c (.int .u8 33))), im 5 4, gt 6 5 (.mv 0), gt 7 5 (.bin .leq 6 (.c (.int .u8 126))), o1 8 (.pick 5 7
 kF), im 9 8, gt 10 9 (.mv 0), gt 11 9 (.bin .neq 10 (.c (.int .u8 34))), o1 12 (.pick 9 11 kF), im 13 12, gt 14 13 (.mv 0), gt 15 13 (.bin .neq 14 (.c (.int .u8 92))), o1 16 (.pick
 13 15 kF), ia 2 16]) .ret))
def F_scan_plain : AFn := ⟨ "mergelens/scan.plain", t_scan_plain.erase, [.tmp 2], 1⟩
def W_scan_plain (P : Program) (x : Int) (K : Bool → Unit → Prop) : Prop :=
 K (cond (cond (cond (decide (x ≥ (33 : Int))) (decide (x ≤ (126 : Int))) false) (x != (34 : Int)) false) (x != (92 : Int)) false) ()
theorem fn_scan_plain {P} (h : Has P F_scan_plain) {x K} (hw : W_scan_plain P x K) : Fn P "mergelens/scan.plain" S_scan_plain x K :=
 fn_of (c := t_scan_plain) h rfl rfl (by kernel_rfl) (Eq.mpr (show liftT P F_scan_plain S_scan_plain t_scan_plain x K = _ by kernel_rfl) hw)
def t_scan_reader_octal : TCode :=
 (.seq (.region [o1 2 (.asg (.c (.int .u8 0))), o1 3 (.asg kF)]) (.seq (.region [ia 4 (kI 0)]) (.seq (.seq (.region [o1 5 (.mv (kI 0))]) (.frame (rg [] 2 61) [0] false (.join [.sl 2
 false (.int .u8) .leaf, .sl 3 false .bool .leaf, .si 4, .bx 0 (.pair .str bI) .leaf] (.block 0 (.loop [.sl 2 false (.int .u8) .leaf, .sl 3 false .bool .leaf, .si 4, .si 5, .bx 0
 (.pair .str bI) .leaf] (.seq (.region [o1 6 (.bin .lss 5 (kI 3))]) (.seq (.cond 6 .skip (.exit 0)) (.seq (.frame (rg [2, 3, 4] 7 55) [0] false (.join [.sl 2 false (.int .u8) .leaf,
 .sl 3 false .bool .leaf, .si 4, .bx 0 (.pair .str bI) .leaf] (.block 1 (.seq (.seq (.draw [(.first (im 7 0) (.first (o1 8 (.nilc 7)) (.first (fa 9 1 8) (.first (ld 10 9) (.first
 (im 11 0) (.first (o1 12 (.nilc 11)) (.first (fa 13 0 12) (.first (ld 14 13) (.first (o1 15 (.lenS 14)) (.first (o1 16 (.bin .geq 10 15)) (.first (im 17 16) (.first (gf 18 17 (.mv
 0)) (.first (gf 19 17 (.nilc 18)) (.first (gf 20 17 (.fAddr 0 19)) (.first (gf 21 17 (.load false 1 20)) (.first (gf 22 17 (.mv 0)) (.first (gf 23 17 (.nilc 22)) (.first (gf 24 17
 (.fAddr 1 23)) (.first (gf 25 17 (.load false 1 24)) (.first (gf 26 17 (.ixS 21 25)) (.first (gf 27 17 (.bin .lss 26 (.c (.int .u8 48)))) (.first (o1 28 (.pick 17 kT 27)) (.first
 (im 29 28) (.first (gf 30 29 (.mv 0)) (.first (gf 31 29 (.nilc 30)) (.first (gf 32 29 (.fAddr 0 31)) (.first (gf 33 29 (.load false 1 32)) (.first (gf 34 29 (.mv 0)) (.first (gf 35
 29 (.nilc 34)) (.first (gf 36 29 (.fAddr 1 35)) (.first (gf 37 29 (.load false 1 36)) (.first (gf 38 29 (.ixS 33 37)) (.first (gf 39 29 (.bin .gtr 38 (.c (.int .u8 55)))) (.first
 (o1 40 (.pick 29 kT 39)) .done))))))))))))))))))))))))))))))))))]) (.cond 40 (.seq (.region [o1 2 (.asg (.c (.int .u8 0))), o1 3 (.asg kF)]) .ret) .skip)) (.seq (.frame (rg [4] 41
 14) [] false (.join [.si 4] (.draw [(.first (im 41 4) (.first (o1 42 (.bin .mul (kI 8) 41)) (.first (im 43 0) (.first (o1 44 (.nilc 43)) (.first (fa 45 0 44) (.first (ld 46 45)
 (.first (im 47 0) (.first (o1 48 (.nilc 47)) (.first (fa 49 1 48) (.first (ld 50 49) (.first (o1 51 (.ixS 46 50)) (.first (o1 52 (.bin .sub 51 (.c (.int .u8 48)))) (.first (o1 53
 (.conv (.toInt .i64) 52)) (.first (o1 54 (.bin .add 42 53)) (.alt (ia 4 54) .done .stop)))))))))))))))]))) (.region [im 55 0, o1 56 (.nilc 55), fa 57 1 56, ld 58 57, o1 59 (.bin
 .add 58 (kI 1)), o1 60 (.nilc 55), fa 61 1 60, o0 ⟨none, .store 1 61 59, none⟩])))))) (.region [o1 62 (.bin .add 5 (kI 1)), im 5 62]))))))))) (.seq (.region [im 63 4, o1 64 (.conv
 (.toInt .u8) 63), im 65 4, o1 66 (.bin .lss 65 (kI 256)), ia 2 64, ia 3 66]) .ret))))
def F_scan_reader_octal : AFn := ⟨ "(*mergelens/scan.reader).octal", t_scan_reader_octal.erase, [.tmp 2, .tmp 3], 1⟩
def W_scan_reader_octal (P : Program) (x : ((List UInt8) × Int)) (K : (Int × Bool) → ((List UInt8) × Int) → Prop) : Prop :=
 JoinW (D := (Int × (Bool × (Int × ((List UInt8) × Int))))) (fun J1 => LoopW (D := (Int × (Bool × (Int × (Int × ((List UInt8) × Int)))))) ((0 : Int), (false, ((0 : Int), ((0 : Int), x)))) (fun d3 J4 => (((decide (d3.2.2.2.1 < (3 : Int))) = true → JoinW (D := (Int × (Bool × (Int × ((List UInt8) × Int))))) (fun J5 => (((decide (d3.2.2.2.2.2 ≥ (d3.2.2.2.2.1.length : Int))) = false → 0 ≤ d3.2.2.2.2.2 ∧ d3.2.2.2.2.2 < (d3.2.2.2.2.1.length : Int))) ∧
 (((cond (decide (d3.2.2.2.2.2 ≥ (d3.2.2.2.2.1.length : Int))) true (decide (((d3.2.2.2.2.1.getD d3.2.2.2.2.2.toNat 0).toNat : Int) < (48 : Int)))) = false → 0 ≤ d3.2.2.2.2.2 ∧ d3.2.2.2.2.2 < (d3.2.2.2.2.1.length : Int))) ∧
 (((cond (cond (decide (d3.2.2.2.2.2 ≥ (d3.2.2.2.2.1.length : Int))) true (decide (((d3.2.2.2.2.1.getD d3.2.2.2.2.2.toNat 0).toNat : Int) < (48 : Int)))) true (decide (((d3.2.2.2.2.1.getD d3.2.2.2.2.2.toNat 0).toNat : Int) > (55 : Int)))) = true → K ((0 : Int), false) d3.2.2.2.2) ∧ ((cond (cond (decide (d3.2.2.2.2.2 ≥ (d3.2.2.2.2.1.length : Int))) true (decide (((d3.2.2.2.2.1.getD d3.2.2.2.2.2.toNat 0).toNat : Int) < (48 : Int)))) true (decide (((d3.2.2.2.2.1.getD d3.2.2.2.2.2.toNat 0).toNat : Int) > (55 : Int)))) = false → JoinW (D := Int) (fun J7 => (0 ≤ d3.2.2.2.2.2 ∧ d3.2.2.2.2.2 < (d3.2.2.2.2.1.length : Int)) ∧
 (J7 (i64.wrap ((i64.wrap ((8 : Int) * d3.2.2.1)) + (i64.wrap (u8.wrap (((d3.2.2.2.2.1.getD d3.2.2.2.2.2.toNat 0).toNat : Int) - (48 : Int))))))) ∧ True) (fun d8 => J5 (d3.1, (d3.2.1, (d8, (d3.2.2.2.2.1, (i64.wrap (d3.2.2.2.2.2 + (1 : Int))))))))))) (fun d6 => J4 (d6.1, (d6.2.1, (d6.2.2.1, ((i64.wrap (d3.2.2.2.1 + (1 : Int))), d6.2.2.2)))))) ∧ ((decide (d3.2.2.2.1 < (3 : Int))) = false → J1 (d3.1, (d3.2.1, (d3.2.2.1, d3.2.2.2.2))))))) (fun d2 => K ((u8.wrap d2.2.2.1), (decide (d2.2.2.1 < (256 : Int)))) d2.2.2.2)
theorem fn_scan_reader_octal {P} (h : Has P F_scan_reader_octal) {x K} (hw : W_scan_reader_octal P x K) : Fn P "(*mergelens/scan.reader).octal" S_scan_reader_octal x K :=
 fn_of (c := t_scan_reader_octal) h rfl rfl (by kernel_rfl) (Eq.mpr (show liftT P F_scan_reader_octal S_scan_reader_octal t_scan_reader_octal x K = _ by kernel_rfl) hw)
def t_scan_reader_escape : TCode :=
 (.seq (.region [o1 2 (.asg (.c (.int .u8 0))), o1 3 (.asg kF)]) (.seq (.seq (.draw [(.first (im 5 0) (.first (o1 6 (.nilc 5)) (.first (fa 7 1 6) (.first (ld 8 7) (.first (im 9 0)
 (.first (o1 10 (.nilc 9)) (.first (fa 11 0 10) (.first (ld 12 11) (.first (o1 13 (.lenS 12)) (.first (o1 14 (.bin .geq 8 13)) .done))))))))))]) (.cond 14 (.seq (.region [o1 2 (.asg
 (.c (.int .u8 0))), o1 3 (.asg kF)]) .ret) .skip)) (.seq (.seq (.frame (rg [4] 15 9) [] false (.join [.sl 4 false (.int .u8) .leaf] (.draw [(.first (im 15 0) (.first (o1 16 (.nilc
 15)) (.first (fa 17 0 16) (.first (ld 18 17) (.first (im 19 0) (.first (o1 20 (.nilc 19)) (.first (fa 21 1 20) (.first (ld 22 21) (.first (o1 23 (.ixS 18 22)) (.alt (ia 4 23) .done
 .stop))))))))))]))) (.seq (.region [im 24 4]) (.frame (rg [2, 3] 25 29) [0] false (.join [.sl 2 false (.int .u8) .leaf, .sl 3 false .bool .leaf, .bx 0 (.pair .str bI) .leaf]
 (.block 0 (.seq (.seq (.region [o1 26 (.bin .eql 24 (.c (.int .u8 34))), ia 25 26]) (.frame [25, 27] [] false (.join [.sl 25 false .bool .leaf] (.cond 25 .skip (.region [o1 27
 (.bin .eql 24 (.c (.int .u8 92))), ia 25 27]))))) (.cond 25 (.seq (.region [im 28 0, o1 29 (.nilc 28), fa 30 1 29, ld 31 30, o1 32 (.bin .add 31 (kI 1)), o1 33 (.nilc 28), fa 34 1
 33, o0 ⟨none, .store 1 34 32, none⟩]) (.seq (.region [im 35 4, ia 2 35, o1 3 (.asg kT)]) .ret)) (.seq (.region [o1 37 (.bin .eql 24 (.c (.int .u8 110))), ia 36 37]) (.cond 36 (.seq
 (.region [im 38 0, o1 39 (.nilc 38), fa 40 1 39, ld 41 40, o1 42 (.bin .add 41 (kI 1)), o1 43 (.nilc 38), fa 44 1 43, o0 ⟨none, .store 1 44 42, none⟩]) (.seq (.region [o1 2 (.asg
 (.c (.int .u8 10))), o1 3 (.asg kT)]) .ret)) (.seq (.region [o1 46 (.bin .eql 24 (.c (.int .u8 116))), ia 45 46]) (.cond 45 (.seq (.region [im 47 0, o1 48 (.nilc 47), fa 49 1 48,
 ld 50 49, o1 51 (.bin .add 50 (kI 1)), o1 52 (.nilc 47), fa 53 1 52, o0 ⟨none, .store 1 53 51, none⟩]) (.seq (.region [o1 2 (.asg (.c (.int .u8 9))), o1 3 (.asg kT)]) .ret))
 .skip))))))))))) (.seq (.region [im 54 0, oS ⟨some 55, .call "(*mergelens/scan.reader).octal" [54], none⟩ S_scan_reader_octal, o1 56 (.ext 55 0), o1 57 (.ext 55 1), ia 2 56, ia 3
 57]) .ret))))
def F_scan_reader_escape : AFn := ⟨ "(*mergelens/scan.reader).escape", t_scan_reader_escape.erase, [.tmp 2, .tmp 3], 1⟩
def W_scan_reader_escape (P : Program) (x : ((List UInt8) × Int)) (K : (Int × Bool) → ((List UInt8) × Int) → Prop) : Prop :=
 (((decide (x.2 ≥ (x.1.length : Int))) = true → K ((0 : Int), false) x) ∧ ((decide (x.2 ≥ (x.1.length : Int))) = false → JoinW (D := Int) (fun J1 => (0 ≤ x.2 ∧ x.2 < (x.1.length : Int)) ∧
 (J1 ((x.1.getD x.2.toNat 0).toNat : Int)) ∧ True) (fun d2 => JoinW (D := (Int × (Bool × ((List UInt8) × Int)))) (fun J3 => JoinW (D := Bool) (fun J5 => (((d2 == (34 : Int)) = true → J5 (d2 == (34 : Int))) ∧ ((d2 == (34 : Int)) = false → J5 (d2 == (92 : Int))))) (fun d6 => ((d6 = true → K (d2, true) (x.1, (i64.wrap (x.2 + (1 : Int))))) ∧ (d6 = false → (((d2 == (110 : Int)) = true → K ((10 : Int), true) (x.1, (i64.wrap (x.2 + (1 : Int))))) ∧ ((d2 == (110 : Int)) = false → (((d2 == (116 : Int)) = true → K ((9 : Int), true) (x.1, (i64.wrap (x.2 + (1 : Int))))) ∧ ((d2 == (116 : Int)) = false → J3 ((0 : Int), (false, x)))))))))) (fun d4 => Fn P "(*mergelens/scan.reader).octal" S_scan_reader_octal d4.2.2 (fun (d7 : (Int × Bool)) (e8 : ((List UInt8) × Int)) => K d7 e8)))))
theorem fn_scan_reader_escape {P} (h : Has P F_scan_reader_escape) {x K} (hw : W_scan_reader_escape P x K) : Fn P "(*mergelens/scan.reader).escape" S_scan_reader_escape x K :=
 fn_of (c := t_scan_reader_escape) h rfl rfl (by kernel_rfl) (Eq.mpr (show liftT P F_scan_reader_escape S_scan_reader_escape t_scan_reader_escape x K = _ by kernel_rfl) hw)
def t_scan_reader_quoted : TCode :=
 (.seq (.region [o1 2 (.asg (.c (.string ⟨#[]⟩))), o1 3 (.asg kF)]) (.seq (.region [o1 4 (.asg (.c (.slice none 0 0)))]) (.seq (.frame (rg [] 2 48) [0] true (.join [.sl 2 false .str
 .leaf, .sl 3 false .bool .leaf, .bx 0 (.pair .str bI) .leaf] (.block 0 (.loop [.sl 2 false .str .leaf, .sl 3 false .bool .leaf, .sl 4 false (.sl (.int .u8)) tO, .bx 0 (.pair .str
 bI) .leaf] (.seq (.seq (.draw [(.first (im 7 0) (.first (o1 8 (.nilc 7)) (.first (fa 9 1 8) (.first (ld 10 9) (.first (im 11 0) (.first (o1 12 (.nilc 11)) (.first (fa 13 0 12)
 (.first (ld 14 13) (.first (o1 15 (.lenS 14)) (.first (o1 16 (.bin .lss 10 15)) .done))))))))))]) (.cond 16 .skip (.exit 0))) (.frame (rg [2, 3, 4, 5, 6] 17 33) [0] true (.join
 [.sl 2 false .str .leaf, .sl 3 false .bool .leaf, .sl 4 false (.sl (.int .u8)) tO, .bx 0 (.pair .str bI) .leaf] (.block 1 (.seq (.frame (rg [5] 17 9) [] false (.join [.sl 5 false
 (.int .u8) .leaf] (.draw [(.first (im 17 0) (.first (o1 18 (.nilc 17)) (.first (fa 19 0 18) (.first (ld 20 19) (.first (im 21 0) (.first (o1 22 (.nilc 21)) (.first (fa 23 1 22)
 (.first (ld 24 23) (.first (o1 25 (.ixS 20 24)) (.alt (ia 5 25) .done .stop))))))))))]))) (.seq (.region [im 26 0, o1 27 (.nilc 26), fa 28 1 27, ld 29 28, o1 30 (.bin .add 29 (kI
 1)), o1 31 (.nilc 26), fa 32 1 31, o0 ⟨none, .store 1 32 30, none⟩]) (.seq (.seq (.region [im 33 5, o1 34 (.bin .eql 33 (.c (.int .u8 34)))]) (.cond 34 (.seq (.region [im 35 4, o1
 36 (.conv .bytesToStr 35), ia 2 36, o1 3 (.asg kT)]) .ret) .skip)) (.seq (.seq (.region [im 37 5, o1 38 (.bin .eql 37 (.c (.int .u8 92)))]) (.frame (rg [2, 3, 5, 6] 39 7) [0] true
 (.join [.sl 2 false .str .leaf, .sl 3 false .bool .leaf, .sl 5 false (.int .u8) .leaf, .bx 0 (.pair .str bI) .leaf] (.cond 38 (.seq (.region [o1 6 (.asg kF)]) (.seq (.region [im 40
 0, oS ⟨some 41, .call "(*mergelens/scan.reader).escape" [40], none⟩ S_scan_reader_escape, im 39 41, o1 42 (.ext 39 0), o1 43 (.ext 39 1), ia 5 42, ia 6 43]) (.seq (.region [im 44
 6, o1 45 (.un .not 44)]) (.cond 45 (.seq (.region [o1 2 (.asg (.c (.string ⟨#[]⟩))), o1 3 (.asg kF)]) .ret) .skip)))) .skip)))) (.region [im 46 4, im 47 5, oT ⟨some 48, .buildSl 1
 [(.int .u8 0)] 1 [(0, 47)], none⟩ (some ((.int .u8), .leaf)), oT ⟨some 49, .app 1 1 46 48, none⟩ (some ((.int .u8), .leaf)), ia 4 49]))))))))))))) (.seq (.region [o1 2 (.asg (.c
 (.string ⟨#[]⟩))), o1 3 (.asg kF)]) .ret))))
def F_scan_reader_quoted : AFn := ⟨ "(*mergelens/scan.reader).quoted", t_scan_reader_quoted.erase, [.tmp 2, .tmp 3], 1⟩
def W_scan_reader_quoted (P : Program) (x : ((List UInt8) × Int)) (K : ((List UInt8) × Bool) → ((List UInt8) × Int) → Prop) : Prop :=
 JoinW (D := ((List UInt8) × (Bool × ((List UInt8) × Int)))) (fun J1 => LoopW (D := ((List UInt8) × (Bool × ((List Int) × ((List UInt8) × Int))))) (([] : List UInt8), (false, ([], x))) (fun d3 J4 => (((decide (d3.2.2.2.2 < (d3.2.2.2.1.length : Int))) = true → JoinW (D := ((List UInt8) × (Bool × ((List Int) × ((List UInt8) × Int))))) (fun J5 => JoinW (D := Int) (fun J7 => (0 ≤ d3.2.2.2.2 ∧ d3.2.2.2.2 < (d3.2.2.2.1.length : Int)) ∧
 (J7 ((d3.2.2.2.1.getD d3.2.2.2.2.toNat 0).toNat : Int)) ∧ True) (fun d8 => (((d8 == (34 : Int)) = true → K ((strOf d3.2.2.1), true) (d3.2.2.2.1, (i64.wrap (d3.2.2.2.2 + (1 : Int))))) ∧ ((d8 == (34 : Int)) = false → JoinW (D := ((List UInt8) × (Bool × (Int × ((List UInt8) × Int))))) (fun J9 => (((d8 == (92 : Int)) = true → Fn P "(*mergelens/scan.reader).escape" S_scan_reader_escape (d3.2.2.2.1, (i64.wrap (d3.2.2.2.2 + (1 : Int)))) (fun (d11 : (Int × Bool)) (e12 : ((List UInt8) × Int)) => (((!d11.2) = true → K (([] : List UInt8), false) e12) ∧ ((!d11.2) = false → J9 (d3.1, (d3.2.1, (d11.1, e12))))))) ∧ ((d8 == (92 : Int)) = false → J9 (d3.1, (d3.2.1, (d8, (d3.2.2.2.1, (i64.wrap (d3.2.2.2.2 + (1 : Int)))))))))) (fun d10 => ((d3.2.2.1.length + List.length ([d10.2.2.1] : List Int)) * 1 ≤ 140737488355328) ∧
 J5 (d10.1, (d10.2.1, ((d3.2.2.1 ++ ([d10.2.2.1] : List Int)), d10.2.2.2)))))))) (fun d6 => J4 d6)) ∧ ((decide (d3.2.2.2.2 < (d3.2.2.2.1.length : Int))) = false → J1 (d3.1, (d3.2.1, d3.2.2.2)))))) (fun d2 => K (([] : List UInt8), false) d2.2.2)
theorem fn_scan_reader_quoted {P} (h : Has P F_scan_reader_quoted) {x K} (hw : W_scan_reader_quoted P x K) : Fn P "(*mergelens/scan.reader).quoted" S_scan_reader_quoted x K :=
 fn_of (c := t_scan_reader_quoted) h rfl rfl (by kernel_rfl) (Eq.mpr (show liftT P F_scan_reader_quoted S_scan_reader_quoted t_scan_reader_quoted x K = _ by kernel_rfl) hw)
def t_scan_reader_word : TCode :=
 (.seq (.region [o1 2 (.asg (.c (.string ⟨#[]⟩))), o1 3 (.asg kF)]) (.seq (.region [im 7 0, o1 8 (.nilc 7), fa 9 1 8, ld 10 9, ia 4 10]) (.seq (.region [o1 5 (.asg (.c (.string
 ⟨#[]⟩)))]) (.seq (.seq (.region [im 11 4, im 12 0, o1 13 (.nilc 12), fa 14 0 13, ld 15 14, o1 16 (.lenS 15), o1 17 (.bin .lss 11 16), im 18 17, gt 19 18 (.mv 0), gt 20 18 (.nilc
 19), gt 21 18 (.fAddr 0 20), gt 22 18 (.load false 1 21), gt 23 18 (.mv 4), gt 24 18 (.ixS 22 23), gt 25 18 (.bin .eql 24 (.c (.int .u8 34))), o1 26 (.pick 18 25 kF)]) (.frame (rg
 [2, 3, 5, 6] 27 53) [0] true (.join [.sl 2 false .str .leaf, .sl 3 false .bool .leaf, .sl 5 false .str .leaf, .bx 0 (.pair .str bI) .leaf] (.cond 26 (.seq (.region [im 27 0, o1 28
 (.nilc 27), fa 29 1 28, ld 30 29, o1 31 (.bin .add 30 (kI 1)), o1 32 (.nilc 27), fa 33 1 32, o0 ⟨none, .store 1 33 31, none⟩]) (.seq (.region [o1 6 (.asg kF)]) (.seq (.region [im
 35 0, oS ⟨some 36, .call "(*mergelens/scan.reader).quoted" [35], none⟩ S_scan_reader_quoted, im 34 36, o1 37 (.ext 34 0), o1 38 (.ext 34 1), ia 5 37, ia 6 38]) (.seq (.region [im
 39 6, o1 40 (.un .not 39)]) (.cond 40 (.seq (.region [o1 2 (.asg (.c (.string ⟨#[]⟩))), o1 3 (.asg kF)]) .ret) .skip))))) (.seq (.frame (rg [] 41 29) [0] false (.join [.bx 0 (.pair
 .str bI) .leaf] (.block 0 (.loop [.bx 0 (.pair .str bI) .leaf] (.seq (.seq (.frame (rg [] 41 22) [] false (.join [.sl 62 false .bool .leaf] (.draw [(.first (im 41 0) (.first (o1 42
 (.nilc 41)) (.first (fa 43 1 42) (.first (ld 44 43) (.first (im 45 0) (.first (o1 46 (.nilc 45)) (.first (fa 47 0 46) (.first (ld 48 47) (.first (o1 49 (.lenS 48)) (.first (o1 50
 (.bin .lss 44 49)) (.first (im 51 50) (.first (gt 52 51 (.mv 0)) (.first (gt 53 51 (.nilc 52)) (.first (gt 54 51 (.fAddr 0 53)) (.first (gt 55 51 (.load false 1 54)) (.first (gt 56
 51 (.mv 0)) (.first (gt 57 51 (.nilc 56)) (.first (gt 58 51 (.fAddr 1 57)) (.first (gt 59 51 (.load false 1 58)) (.first (gt 60 51 (.ixS 55 59)) (.alt (oS ⟨some 61, .call
 "mergelens/scan.plain" [60], some (51, true)⟩ S_scan_plain) (.first (o1 62 (.pick 51 61 kF)) .done) .stop)))))))))))))))))))))]))) (.cond 62 .skip (.exit 0))) (.frame (rg [] 63 7)
 [0] false (.join [.bx 0 (.pair .str bI) .leaf] (.block 1 (.region [im 63 0, o1 64 (.nilc 63), fa 65 1 64, ld 66 65, o1 67 (.bin .add 66 (kI 1)), o1 68 (.nilc 63), fa 69 1 68, o0
 ⟨none, .store 1 69 67, none⟩]))))))))) (.frame (rg [5] 70 10) [] false (.join [.sl 5 false .str .leaf] (.draw [(.first (im 70 0) (.first (o1 71 (.nilc 70)) (.first (fa 72 0 71)
 (.first (ld 73 72) (.first (im 74 4) (.first (im 75 0) (.first (o1 76 (.nilc 75)) (.first (fa 77 1 76) (.first (ld 78 77) (.first (o1 79 (.slS 73 (some 74) (some 78))) (.alt (ia 5
 79) .done .stop)))))))))))])))))))) (.seq (.frame (rg [2, 3] 80 14) [] false (.join [.sl 2 false .str .leaf, .sl 3 false .bool .leaf] (.draw [(.first (im 80 5) (.first (im 81 5)
 (.first (im 83 0) (.first (o1 84 (.nilc 83)) (.first (fa 85 0 84) (.first (im 87 4) (.first (im 88 0) (.first (o1 89 (.nilc 88)) (.first (fa 90 1 89) (.alt (oS ⟨some 82, .call
 "mergelens/scan.Quote" [81], none⟩ S_scan_Quote) (.alt (ld 86 85) (.alt (ld 91 90) (.first (o1 92 (.slS 86 (some 87) (some 91))) (.first (o1 93 (.bin .eql 82 92)) (.alt (ia 2 80)
 (.alt (ia 3 93) .done .stop) .stop))) (.alt (ia 2 80) (.first (ld 91 90) (.first (o1 92 (.slS 86 (some 87) (some 91))) (.first (o1 93 (.bin .eql 82 92)) (.alt (ia 3 93) .done
 .stop)))) .stop)) (.alt (ld 91 90) (.alt (ld 86 85) (.first (o1 92 (.slS 86 (some 87) (some 91))) (.first (o1 93 (.bin .eql 82 92)) (.alt (ia 2 80) (.alt (ia 3 93) .done .stop)
 .stop))) (.alt (ia 2 80) (.first (ld 86 85) (.first (o1 92 (.slS 86 (some 87) (some 91))) (.first (o1 93 (.bin .eql 82 92)) (.alt (ia 3 93) .done .stop)))) .stop)) (.alt (ia 2 80)
 (.first (ld 86 85) (.first (ld 91 90) (.first (o1 92 (.slS 86 (some 87) (some 91))) (.first (o1 93 (.bin .eql 82 92)) (.alt (ia 3 93) .done .stop))))) .stop))) (.alt (ld 86 85)
 (.alt (oS ⟨some 82, .call "mergelens/scan.Quote" [81], none⟩ S_scan_Quote) (.alt (ld 91 90) (.first (o1 92 (.slS 86 (some 87) (some 91))) (.first (o1 93 (.bin .eql 82 92)) (.alt
 (ia 2 80) (.alt (ia 3 93) .done .stop) .stop))) (.alt (ia 2 80) (.first (ld 91 90) (.first (o1 92 (.slS 86 (some 87) (some 91))) (.first (o1 93 (.bin .eql 82 92)) (.alt (ia 3 93)
 .done .stop)))) .stop)) (.alt (ld 91 90) (.first (o1 92 (.slS 86 (some 87) (some 91))) (.alt (oS ⟨some 82, .call "mergelens/scan.Quote" [81], none⟩ S_scan_Quote) (.first (o1 93
 (.bin .eql 82 92)) (.alt (ia 2 80) (.alt (ia 3 93) .done .stop) .stop)) .stop)) .stop)) (.alt (ld 91 90) (.alt (oS ⟨some 82, .call "mergelens/scan.Quote" [81], none⟩ S_scan_Quote)
 (.alt (ld 86 85) (.first (o1 92 (.slS 86 (some 87) (some 91))) (.first (o1 93 (.bin .eql 82 92)) (.alt (ia 2 80) (.alt (ia 3 93) .done .stop) .stop))) (.alt (ia 2 80) (.first (ld
 86 85) (.first (o1 92 (.slS 86 (some 87) (some 91))) (.first (o1 93 (.bin .eql 82 92)) (.alt (ia 3 93) .done .stop)))) .stop)) (.alt (ld 86 85) (.first (o1 92 (.slS 86 (some 87)
 (some 91))) (.alt (oS ⟨some 82, .call "mergelens/scan.Quote" [81], none⟩ S_scan_Quote) (.first (o1 93 (.bin .eql 82 92)) (.alt (ia 2 80) (.alt (ia 3 93) .done .stop) .stop))
 .stop)) .stop)) .stop))))))))))))]))) .ret)))))
def F_scan_reader_word : AFn := ⟨ "(*mergelens/scan.reader).word", t_scan_reader_word.erase, [.tmp 2, .tmp 3], 1⟩
def W_scan_reader_word (P : Program) (x : ((List UInt8) × Int)) (K : ((List UInt8) × Bool) → ((List UInt8) × Int) → Prop) : Prop :=
 (((decide (x.2 < (x.1.length : Int))) = true → 0 ≤ x.2 ∧ x.2 < (x.1.length : Int))) ∧
 JoinW (D := ((List UInt8) × (Bool × ((List UInt8) × ((List UInt8) × Int))))) (fun J1 => (((cond (decide (x.2 < (x.1.length : Int))) (((x.1.getD x.2.toNat 0).toNat : Int) == (34 : Int)) false) = true → Fn P "(*mergelens/scan.reader).quoted" S_scan_reader_quoted (x.1, (i64.wrap (x.2 + (1 : Int)))) (fun (d3 : ((List UInt8) × Bool)) (e4 : ((List UInt8) × Int)) => (((!d3.2) = true → K (([] : List UInt8), false) e4) ∧ ((!d3.2) = false → J1 (([] : List UInt8), (false, (d3.1, e4))))))) ∧ ((cond (decide (x.2 < (x.1.length : Int))) (((x.1.getD x.2.toNat 0).toNat : Int) == (34 : Int)) false) = false → JoinW (D := ((List UInt8) × Int)) (fun J5 => LoopW (D := ((List UInt8) × Int)) x (fun d7 J8 => JoinW (D := Bool) (fun J9 => (((decide (d7.2 < (d7.1.length : Int))) = true → 0 ≤ d7.2 ∧ d7.2 < (d7.1.length : Int))) ∧
 (JoinW (D := Bool) (fun J11 => (((decide (d7.2 < (d7.1.length : Int))) = true → Fn P "mergelens/scan.plain" S_scan_plain ((d7.1.getD d7.2.toNat 0).toNat : Int) (fun (d12 : Bool) _ => J11 d12)) ∧ (((decide (d7.2 < (d7.1.length : Int))) = false → J11 false) ∧ True))) (fun d13 => J9 (cond (decide (d7.2 < (d7.1.length : Int))) d13 false))) ∧ True) (fun d10 => ((d10 = true → JoinW (D := ((List UInt8) × Int)) (fun J14 => J14 (d7.1, (i64.wrap (d7.2 + (1 : Int))))) (fun d15 => J8 d15)) ∧ (d10 = false → J5 d7))))) (fun d6 => JoinW (D := (List UInt8)) (fun J16 => (0 ≤ x.2 ∧ x.2 ≤ d6.2 ∧ d6.2 ≤ (d6.1.length : Int)) ∧
 (J16 (List.drop x.2.toNat (List.take d6.2.toNat d6.1))) ∧ True) (fun d17 => J1 (([] : List UInt8), (false, (d17, d6)))))))) (fun d2 => JoinW (D := ((List UInt8) × Bool)) (fun J18 => (Fn P "mergelens/scan.Quote" S_scan_Quote d2.2.2.1 (fun (d20 : (List UInt8)) (e21 : Unit) => (((0 ≤ x.2 ∧ x.2 ≤ d2.2.2.2.2 ∧ d2.2.2.2.2 ≤ (d2.2.2.2.1.length : Int)) ∧
 ((J18 (d2.2.2.1, (d20 == (List.drop x.2.toNat (List.take d2.2.2.2.2.toNat d2.2.2.2.1))))) ∧ True) ∧ True) ∧ (((0 ≤ x.2 ∧ x.2 ≤ d2.2.2.2.2 ∧ d2.2.2.2.2 ≤ (d2.2.2.2.1.length : Int)) ∧
 (J18 (d2.2.2.1, (d20 == (List.drop x.2.toNat (List.take d2.2.2.2.2.toNat d2.2.2.2.1))))) ∧ True) ∧ True)) ∧ ((((0 ≤ x.2 ∧ x.2 ≤ d2.2.2.2.2 ∧ d2.2.2.2.2 ≤ (d2.2.2.2.1.length : Int)) ∧
 ((J18 (d2.2.2.1, (d20 == (List.drop x.2.toNat (List.take d2.2.2.2.2.toNat d2.2.2.2.1))))) ∧ True) ∧ True) ∧ (((0 ≤ x.2 ∧ x.2 ≤ d2.2.2.2.2 ∧ d2.2.2.2.2 ≤ (d2.2.2.2.1.length : Int)) ∧
 (J18 (d2.2.2.1, (d20 == (List.drop x.2.toNat (List.take d2.2.2.2.2.toNat d2.2.2.2.1))))) ∧ True) ∧ True)) ∧ (((0 ≤ x.2 ∧ x.2 ≤ d2.2.2.2.2 ∧ d2.2.2.2.2 ≤ (d2.2.2.2.1.length : Int)) ∧
 (J18 (d2.2.2.1, (d20 == (List.drop x.2.toNat (List.take d2.2.2.2.2.toNat d2.2.2.2.1))))) ∧ True) ∧ True)))) ∧ (((Fn P "mergelens/scan.Quote" S_scan_Quote d2.2.2.1 (fun (d22 : (List UInt8)) (e23 : Unit) => ((0 ≤ x.2 ∧ x.2 ≤ d2.2.2.2.2 ∧ d2.2.2.2.2 ≤ (d2.2.2.2.1.length : Int)) ∧
 ((J18 (d2.2.2.1, (d22 == (List.drop x.2.toNat (List.take d2.2.2.2.2.toNat d2.2.2.2.1))))) ∧ True) ∧ True) ∧ (((0 ≤ x.2 ∧ x.2 ≤ d2.2.2.2.2 ∧ d2.2.2.2.2 ≤ (d2.2.2.2.1.length : Int)) ∧
 (J18 (d2.2.2.1, (d22 == (List.drop x.2.toNat (List.take d2.2.2.2.2.toNat d2.2.2.2.1))))) ∧ True) ∧ True))) ∧ (((0 ≤ x.2 ∧ x.2 ≤ d2.2.2.2.2 ∧ d2.2.2.2.2 ≤ (d2.2.2.2.1.length : Int)) ∧
 (Fn P "mergelens/scan.Quote" S_scan_Quote d2.2.2.1 (fun (d24 : (List UInt8)) (e25 : Unit) => ((J18 (d2.2.2.1, (d24 == (List.drop x.2.toNat (List.take d2.2.2.2.2.toNat d2.2.2.2.1))))) ∧ True) ∧ True)) ∧ True) ∧ True)) ∧ (((Fn P "mergelens/scan.Quote" S_scan_Quote d2.2.2.1 (fun (d26 : (List UInt8)) (e27 : Unit) => ((0 ≤ x.2 ∧ x.2 ≤ d2.2.2.2.2 ∧ d2.2.2.2.2 ≤ (d2.2.2.2.1.length : Int)) ∧
 ((J18 (d2.2.2.1, (d26 == (List.drop x.2.toNat (List.take d2.2.2.2.2.toNat d2.2.2.2.1))))) ∧ True) ∧ True) ∧ (((0 ≤ x.2 ∧ x.2 ≤ d2.2.2.2.2 ∧ d2.2.2.2.2 ≤ (d2.2.2.2.1.length : Int)) ∧
 (J18 (d2.2.2.1, (d26 == (List.drop x.2.toNat (List.take d2.2.2.2.2.toNat d2.2.2.2.1))))) ∧ True) ∧ True))) ∧ (((0 ≤ x.2 ∧ x.2 ≤ d2.2.2.2.2 ∧ d2.2.2.2.2 ≤ (d2.2.2.2.1.length : Int)) ∧
 (Fn P "mergelens/scan.Quote" S_scan_Quote d2.2.2.1 (fun (d28 : (List UInt8)) (e29 : Unit) => ((J18 (d2.2.2.1, (d28 == (List.drop x.2.toNat (List.take d2.2.2.2.2.toNat d2.2.2.2.1))))) ∧ True) ∧ True)) ∧ True) ∧ True)) ∧ True))) (fun d19 => K d19 d2.2.2.2))
theorem fn_scan_reader_word {P} (h : Has P F_scan_reader_word) {x K} (hw : W_scan_reader_word P x K) : Fn P "(*mergelens/scan.reader).word" S_scan_reader_word x K :=
 fn_of (c := t_scan_reader_word) h rfl rfl (by kernel_rfl) (Eq.mpr (show liftT P F_scan_reader_word S_scan_reader_word t_scan_reader_word x K = _ by kernel_rfl) hw)
def t_scan_Unquote : TCode :=
 (.seq (.region [o1 4 (.asg (.c (.string ⟨#[]⟩))), ia 5 (kI 0), o1 6 (.asg kF)]) (.seq (.seq (.region [im 10 1, o1 11 (.bin .lss 10 (kI 0)), im 12 11, gf 13 12 (.mv 1), gf 14 12
 (.mv 0), gf 15 12 (.lenS 14), gf 16 12 (.bin .gtr 13 15), o1 17 (.pick 12 kT 16)]) (.cond 17 (.seq (.region [o1 4 (.asg (.c (.string ⟨#[]⟩))), ia 5 (kI 0), o1 6 (.asg kF)]) .ret)
 .skip)) (.seq (.region [im 18 0, im 19 1, o1 20 (.build [(.string ⟨#[]⟩), (.int .i64 0)] [(0, 1, 18), (1, 1, 19)]), o1 21 (.box 20), ia 7 21]) (.seq (.region [im 23 7, oS ⟨some 24,
 .call "(*mergelens/scan.reader).word" [23], none⟩ S_scan_reader_word, im 22 24, o1 25 (.ext 22 0), o1 26 (.ext 22 1), ia 8 25, ia 9 26]) (.seq (.seq (.region [im 27 9, o1 28 (.un
 .not 27)]) (.cond 28 (.seq (.region [o1 4 (.asg (.c (.string ⟨#[]⟩))), ia 5 (kI 0), o1 6 (.asg kF)]) .ret) .skip)) (.seq (.frame (rg [4, 5, 6] 29 5) [] false (.join [.sl 4 false
 .str .leaf, .si 5, .sl 6 false .bool .leaf] (.draw [(.first (im 29 8) (.first (im 30 7) (.first (o1 31 (.nilc 30)) (.first (fa 32 1 31) (.alt (ld 33 32) (.alt (ia 4 29) (.alt (ia 5
 33) (.alt (o1 6 (.asg kT)) .done .stop) .stop) .stop) (.alt (ia 4 29) (.first (ld 33 32) (.alt (ia 5 33) (.alt (o1 6 (.asg kT)) .done .stop) .stop)) .stop))))))]))) .ret))))))
def F_scan_Unquote : AFn := ⟨ "mergelens/scan.Unquote", t_scan_Unquote.erase, [.tmp 4, .tmp 5, .tmp 6], 2⟩
def W_scan_Unquote (P : Program) (x : ((List UInt8) × Int)) (K : ((List UInt8) × (Int × Bool)) → Unit → Prop) : Prop :=
 (((cond (decide (x.2 < (0 : Int))) true (decide (x.2 > (x.1.length : Int)))) = true → K (([] : List UInt8), ((0 : Int), false)) ()) ∧ ((cond (decide (x.2 < (0 : Int))) true (decide (x.2 > (x.1.length : Int)))) = false → Fn P "(*mergelens/scan.reader).word" S_scan_reader_word x (fun (d1 : ((List UInt8) × Bool)) (e2 : ((List UInt8) × Int)) => (((!d1.2) = true → K (([] : List UInt8), ((0 : Int), false)) ()) ∧ ((!d1.2) = false → JoinW (D := ((List UInt8) × (Int × Bool))) (fun J3 => ((((J3 (d1.1, (e2.2, true))) ∧ True) ∧ True) ∧ True) ∧ ((((J3 (d1.1, (e2.2, true))) ∧ True) ∧ True) ∧ True)) (fun d4 => K d4 ()))))))
theorem fn_scan_Unquote {P} (h : Has P F_scan_Unquote) {x K} (hw : W_scan_Unquote P x K) : Fn P "mergelens/scan.Unquote" S_scan_Unquote x K :=
 fn_of (c := t_scan_Unquote) h rfl rfl (by kernel_rfl) (Eq.mpr (show liftT P F_scan_Unquote S_scan_Unquote t_scan_Unquote x K = _ by kernel_rfl) hw)
def t_scan_Format : TCode :=
 (.seq (.region [o1 2 (.asg (.c (.string ⟨#[]⟩)))]) (.seq (.seq (.region [im 3 0, o1 4 (.bin .lss 3 (kI 0)), im 5 4, gf 6 5 (.mv 0), gf 7 5 (.bin .gtr 6 (kI 2147483647)), o1 8
 (.pick 5 kT 7)]) (.cond 8 (.seq (.region [o1 2 (.asg (.c (.string ⟨#[]⟩)))]) .ret) .skip)) (.seq (.region [im 9 0, oS ⟨some 10, .call "strconv.Itoa" [9], none⟩ S_strconv_Itoa, ia 2
 10]) .ret)))
def F_scan_Format : AFn := ⟨ "mergelens/scan.Format", t_scan_Format.erase, [.tmp 2], 1⟩
def W_scan_Format (P : Program) (x : Int) (K : (List UInt8) → Unit → Prop) : Prop :=
 (((cond (decide (x < (0 : Int))) true (decide (x > (2147483647 : Int)))) = true → K ([] : List UInt8) ()) ∧ ((cond (decide (x < (0 : Int))) true (decide (x > (2147483647 : Int)))) = false → Fn P "strconv.Itoa" S_strconv_Itoa x (fun (d1 : (List UInt8)) (e2 : Unit) => K d1 ())))
theorem fn_scan_Format {P} (h : Has P F_scan_Format) {x K} (hw : W_scan_Format P x K) : Fn P "mergelens/scan.Format" S_scan_Format x K :=
 fn_of (c := t_scan_Format) h rfl rfl (by kernel_rfl) (Eq.mpr (show liftT P F_scan_Format S_scan_Format t_scan_Format x K = _ by kernel_rfl) hw)
def t_scan_FormatRange : TCode :=
 (.seq (.region [o1 4 (.asg (.c (.string ⟨#[]⟩)))]) (.seq (.seq (.region [im 5 0, o1 6 (.bin .lss 5 (kI 0)), im 7 6, gf 8 7 (.mv 1), gf 9 7 (.bin .lss 8 (kI 0)), o1 10 (.pick 7 kT
 9), im 11 10, gf 12 11 (.mv 0), gf 13 11 (.bin .gtr 12 (kI 2147483647)), o1 14 (.pick 11 kT 13), im 15 14, gf 16 15 (.mv 1), gf 17 15 (.mv 0), gf 18 15 (.bin .sub (kI 2147483647)
 17), gf 19 15 (.bin .gtr 16 18), o1 20 (.pick 15 kT 19)]) (.cond 20 (.seq (.region [o1 4 (.asg (.c (.string ⟨#[]⟩)))]) .ret) .skip)) (.seq (.seq (.region [im 21 1]) (.frame (rg [4]
 22 10) [] false (.join [.sl 4 false .str .leaf] (.block 0 (.seq (.region [o1 23 (.bin .eql 21 (kI 0)), ia 22 23]) (.cond 22 (.seq (.region [im 24 0, oS ⟨some 25, .call
 "mergelens/scan.Format" [24], none⟩ S_scan_Format, o1 26 (.bin .add 25 (.c (.string ⟨#[44, 48]⟩))), ia 4 26]) .ret) (.seq (.region [o1 28 (.bin .eql 21 (kI 1)), ia 27 28]) (.cond
 27 (.seq (.region [im 29 0, o1 30 (.bin .add 29 (kI 1)), oS ⟨some 31, .call "mergelens/scan.Format" [30], none⟩ S_scan_Format, ia 4 31]) .ret) .skip)))))))) (.seq (.region [im 32
 0, o1 33 (.bin .add 32 (kI 1)), oS ⟨some 34, .call "mergelens/scan.Format" [33], none⟩ S_scan_Format, o1 35 (.bin .add 34 (.c (.string ⟨#[44]⟩))), im 36 1, oS ⟨some 37, .call
 "mergelens/scan.Format" [36], none⟩ S_scan_Format, o1 38 (.bin .add 35 37), ia 4 38]) .ret))))
def F_scan_FormatRange : AFn := ⟨ "mergelens/scan.FormatRange", t_scan_FormatRange.erase, [.tmp 4], 2⟩
def W_scan_FormatRange (P : Program) (x : (Int × Int)) (K : (List UInt8) → Unit → Prop) : Prop :=
 (((cond (cond (cond (decide (x.1 < (0 : Int))) true (decide (x.2 < (0 : Int)))) true (decide (x.1 > (2147483647 : Int)))) true (decide (x.2 > (i64.wrap ((2147483647 : Int) - x.1))))) = true → K ([] : List UInt8) ()) ∧ ((cond (cond (cond (decide (x.1 < (0 : Int))) true (decide (x.2 < (0 : Int)))) true (decide (x.1 > (2147483647 : Int)))) true (decide (x.2 > (i64.wrap ((2147483647 : Int) - x.1))))) = false → JoinW (D := (List UInt8)) (fun J1 => (((x.2 == (0 : Int)) = true → Fn P "mergelens/scan.Format" S_scan_Format x.1 (fun (d3 : (List UInt8)) (e4 : Unit) => (d3.length + List.length ([44, 48] : List UInt8) ≤ 9223372036854775807) ∧
 K (d3 ++ ([44, 48] : List UInt8)) ())) ∧ ((x.2 == (0 : Int)) = false → (((x.2 == (1 : Int)) = true → Fn P "mergelens/scan.Format" S_scan_Format (i64.wrap (x.1 + (1 : Int))) (fun (d5 : (List UInt8)) (e6 : Unit) => K d5 ())) ∧ ((x.2 == (1 : Int)) = false → J1 ([] : List UInt8)))))) (fun d2 => Fn P "mergelens/scan.Format" S_scan_Format (i64.wrap (x.1 + (1 : Int))) (fun (d7 : (List UInt8)) (e8 : Unit) => (d7.length + List.length ([44] : List UInt8) ≤ 9223372036854775807) ∧
 Fn P "mergelens/scan.Format" S_scan_Format x.2 (fun (d9 : (List UInt8)) (e10 : Unit) => (List.length (d7 ++ ([44] : List UInt8)) + d9.length ≤ 9223372036854775807) ∧
 K ((d7 ++ ([44] : List UInt8)) ++ d9) ())))))
theorem fn_scan_FormatRange {P} (h : Has P F_scan_FormatRange) {x K} (hw : W_scan_FormatRange P x K) : Fn P "mergelens/scan.FormatRange" S_scan_FormatRange x K :=
 fn_of (c := t_scan_FormatRange) h rfl rfl (by kernel_rfl) (Eq.mpr (show liftT P F_scan_FormatRange S_scan_FormatRange t_scan_FormatRange x K = _ by kernel_rfl) hw)
def t_law01_awake : TCode :=
 (.seq (.region [o1 0 (.asg kF)]) (.seq (.region [oS ⟨some 8, .call "mergelens/scan.Number" [(.c (.string ⟨#[97, 49, 50, 98]⟩)), (kI 1)], none⟩ S_scan_Number, im 7 8, o1 9 (.ext 7
 0), o1 10 (.ext 7 1), o1 11 (.ext 7 2), ia 1 9, ia 2 10, ia 3 11]) (.seq (.region [oS ⟨some 13, .call "mergelens/scan.Quote" [(.c (.string ⟨#[97, 32, 98]⟩))], none⟩ S_scan_Quote,
 oS ⟨some 14, .call "mergelens/scan.Unquote" [13, (kI 0)], none⟩ S_scan_Unquote, im 12 14, o1 15 (.ext 12 0), o1 16 (.ext 12 1), o1 17 (.ext 12 2), ia 4 15, ia 5 16, ia 6 17]) (.seq
 (.region [im 18 3, im 19 18, gt 20 19 (.mv 1), gt 21 19 (.bin .eql 20 (kI 12)), o1 22 (.pick 19 21 kF), im 23 22, gt 24 23 (.mv 2), gt 25 23 (.bin .eql 24 (kI 3)), o1 26 (.pick 23
 25 kF), im 27 26, gt 28 27 (.mv 6), o1 29 (.pick 27 28 kF), im 30 29, gt 31 30 (.mv 4), o0 ⟨some 32, .bin .eql 31 (.c (.string ⟨#[97, 32, 98]⟩)), some (30, true)⟩, o1 33 (.pick 30
 32 kF), im 34 33, gt 35 34 (.mv 5), gt 36 34 (.bin .eql 35 (kI 5)), o1 37 (.pick 34 36 kF), im 38 37, oS ⟨some 39, .call "mergelens/scan.FormatRange" [(kI 4), (kI 0)], some (38,
 true)⟩ S_scan_FormatRange, o0 ⟨some 40, .bin .eql 39 (.c (.string ⟨#[52, 44, 48]⟩)), some (38, true)⟩, o1 41 (.pick 38 40 kF), ia 0 41]) .ret))))
def F_law01_awake : AFn := ⟨ "mergelens/mergelenslaw01.awake", t_law01_awake.erase, [.tmp 0], 0⟩
def W_law01_awake (P : Program) (x : Unit) (K : Bool → Unit → Prop) : Prop :=
 Fn P "mergelens/scan.Number" S_scan_Number (([97, 49, 50, 98] : List UInt8), (1 : Int)) (fun (d1 : (Int × (Int × Bool))) (e2 : Unit) => Fn P "mergelens/scan.Quote" S_scan_Quote ([97, 32, 98] : List UInt8) (fun (d3 : (List UInt8)) (e4 : Unit) => Fn P "mergelens/scan.Unquote" S_scan_Unquote (d3, (0 : Int)) (fun (d5 : ((List UInt8) × (Int × Bool))) (e6 : Unit) => JoinW (D := (List UInt8)) (fun J7 => (((cond (cond (cond (cond (cond d1.2.2 (d1.1 == (12 : Int)) false) (d1.2.1 == (3 : Int)) false) d5.2.2 false) (d5.1 == ([97, 32, 98] : List UInt8)) false) (d5.2.1 == (5 : Int)) false) = true → Fn P "mergelens/scan.FormatRange" S_scan_FormatRange ((4 : Int), (0 : Int)) (fun (d8 : (List UInt8)) _ => J7 d8)) ∧ (((cond (cond (cond (cond (cond d1.2.2 (d1.1 == (12 : Int)) false) (d1.2.1 == (3 : Int)) false) d5.2.2 false) (d5.1 == ([97, 32, 98] : List UInt8)) false) (d5.2.1 == (5 : Int)) false) = false → J7 []) ∧ True))) (fun d9 => K (cond (cond (cond (cond (cond (cond d1.2.2 (d1.1 == (12 : Int)) false) (d1.2.1 == (3 : Int)) false) d5.2.2 false) (d5.1 == ([97, 32, 98] : List UInt8)) false) (d5.2.1 == (5 : Int)) false) (d9 == ([52, 44, 48] : List UInt8)) false) ()))))
theorem fn_law01_awake {P} (h : Has P F_law01_awake) {x K} (hw : W_law01_awake P x K) : Fn P "mergelens/mergelenslaw01.awake" S_law01_awake x K :=
 fn_of (c := t_law01_awake) h rfl rfl (by kernel_rfl) (Eq.mpr (show liftT P F_law01_awake S_law01_awake t_law01_awake x K = _ by kernel_rfl) hw)
def t_ref01_Plain : TCode :=
 (.seq (.region [o1 2 (.asg kF)]) (.seq (.region [im 3 0, o1 4 (.bin .geq 3 (.c (.int .u8 33))), im 5 4, gt 6 5 (.mv 0), gt 7 5 (.bin .leq 6 (.c (.int .u8 126))), o1 8 (.pick 5 7
 kF), im 9 8, gt 10 9 (.mv 0), gt 11 9 (.bin .neq 10 (.c (.int .u8 34))), o1 12 (.pick 9 11 kF), im 13 12, gt 14 13 (.mv 0), gt 15 13 (.bin .neq 14 (.c (.int .u8 92))), o1 16 (.pick
 13 15 kF), ia 2 16]) .ret))
def F_ref01_Plain : AFn := ⟨ "mergelens/mergelensref01.Plain", t_ref01_Plain.erase, [.tmp 2], 1⟩
def W_ref01_Plain (P : Program) (x : Int) (K : Bool → Unit → Prop) : Prop :=
 K (cond (cond (cond (decide (x ≥ (33 : Int))) (decide (x ≤ (126 : Int))) false) (x != (34 : Int)) false) (x != (92 : Int)) false) ()
theorem fn_ref01_Plain {P} (h : Has P F_ref01_Plain) {x K} (hw : W_ref01_Plain P x K) : Fn P "mergelens/mergelensref01.Plain" S_ref01_Plain x K :=
 fn_of (c := t_ref01_Plain) h rfl rfl (by kernel_rfl) (Eq.mpr (show liftT P F_ref01_Plain S_ref01_Plain t_ref01_Plain x K = _ by kernel_rfl) hw)
def t_ref01_Quote : TCode :=
 (.seq (.region [o1 2 (.asg (.c (.string ⟨#[]⟩)))]) (.seq (.region [im 7 0, o1 8 (.bin .neq 7 (.c (.string ⟨#[]⟩))), ia 3 8]) (.seq (.region [o1 4 (.asg (.c (.string ⟨#[34]⟩)))])
 (.seq (.seq (.region [ia 5 (kI 0)]) (.frame (rg [3, 4, 5, 6] 9 78) [] false (.join [.sl 3 false .bool .leaf, .sl 4 false .str .leaf] (.block 0 (.loop [.sl 3 false .bool .leaf, .sl
 4 false .str .leaf, .si 5] (.seq (.seq (.region [im 9 5, im 10 0, o1 11 (.lenS 10), o1 12 (.bin .lss 9 11)]) (.cond 12 .skip (.exit 0))) (.seq (.frame (rg [3, 4, 6] 15 72) [] false
 (.join [.sl 3 false .bool .leaf, .sl 4 false .str .leaf] (.block 1 (.seq (.region [im 15 0, im 16 5, o1 17 (.ixS 15 16), ia 6 17]) (.seq (.region [im 18 3, im 19 18, gt 20 19 (.mv
 6), oS ⟨some 21, .call "mergelens/mergelensref01.Plain" [20], some (19, true)⟩ S_ref01_Plain, o1 22 (.pick 19 21 kF), ia 3 22]) (.frame (rg [4] 23 64) [] false (.join [.sl 4 false
 .str .leaf] (.block 2 (.seq (.region [im 31 6, o1 32 (.bin .eql 31 (.c (.int .u8 34))), im 33 32, gf 34 33 (.mv 6), gf 35 33 (.bin .eql 34 (.c (.int .u8 92))), o1 36 (.pick 33 kT
 35), ia 30 36]) (.frame (rg [4, 23, 24, 25, 26, 27, 28, 29] 37 50) [] false (.join [.sl 4 false .str .leaf] (.cond 30 (.region [im 37 4, o1 38 (.bin .add 37 (.c (.string
 ⟨#[92]⟩))), im 39 0, im 40 5, im 41 5, o1 42 (.bin .add 41 (kI 1)), o1 43 (.slS 39 (some 40) (some 42)), o1 44 (.bin .add 38 43), ia 4 44]) (.seq (.region [im 46 6, o1 47 (.bin
 .eql 46 (.c (.int .u8 10))), ia 45 47]) (.frame (rg [4, 23, 24, 25, 26, 27, 28, 29] 48 39) [] false (.join [.sl 4 false .str .leaf] (.cond 45 (.region [im 48 4, o1 49 (.bin .add 48
 (.c (.string ⟨#[92, 110]⟩))), ia 4 49]) (.seq (.region [im 51 6, o1 52 (.bin .eql 51 (.c (.int .u8 9))), ia 50 52]) (.frame (rg [4, 23, 24, 25, 26, 27, 28, 29] 53 34) [] false
 (.join [.sl 4 false .str .leaf] (.cond 50 (.region [im 53 4, o1 54 (.bin .add 53 (.c (.string ⟨#[92, 116]⟩))), ia 4 54]) (.seq (.region [im 56 6, o1 57 (.bin .lss 56 (.c (.int .u8
 32))), im 58 57, gf 59 58 (.mv 6), gf 60 58 (.bin .gtr 59 (.c (.int .u8 126))), o1 61 (.pick 58 kT 60), ia 55 61]) (.frame (rg [4, 23, 24, 25, 26, 27, 28, 29] 62 25) [] false
 (.join [.sl 4 false .str .leaf] (.cond 55 (.frame (rg [4] 62 25) [] false (.join [.sl 4 false .str .leaf] (.draw [(.first (im 62 4) (.first (o1 63 (.bin .add 62 (.c (.string
 ⟨#[92]⟩)))) (.first (im 64 6) (.first (o1 65 (.bin .quo 64 (.c (.int .u8 64)))) (.first (im 66 6) (.first (o1 67 (.bin .quo 66 (.c (.int .u8 64)))) (.first (o1 68 (.bin .add 67 (.c
 (.int .u8 1)))) (.first (o1 69 (.slS (.c (.string ⟨#[48, 49, 50, 51, 52, 53, 54, 55]⟩)) (some 65) (some 68))) (.first (o1 70 (.bin .add 63 69)) (.first (im 71 6) (.first (o1 72
 (.bin .quo 71 (.c (.int .u8 8)))) (.first (o1 73 (.bin .rem 72 (.c (.int .u8 8)))) (.first (im 74 6) (.first (o1 75 (.bin .quo 74 (.c (.int .u8 8)))) (.first (o1 76 (.bin .rem 75
 (.c (.int .u8 8)))) (.first (o1 77 (.bin .add 76 (.c (.int .u8 1)))) (.first (o1 78 (.slS (.c (.string ⟨#[48, 49, 50, 51, 52, 53, 54, 55]⟩)) (some 73) (some 77))) (.first (o1 79
 (.bin .add 70 78)) (.first (im 80 6) (.first (o1 81 (.bin .rem 80 (.c (.int .u8 8)))) (.first (im 82 6) (.first (o1 83 (.bin .rem 82 (.c (.int .u8 8)))) (.first (o1 84 (.bin .add
 83 (.c (.int .u8 1)))) (.first (o1 85 (.slS (.c (.string ⟨#[48, 49, 50, 51, 52, 53, 54, 55]⟩)) (some 81) (some 84))) (.first (o1 86 (.bin .add 79 85)) (.alt (ia 4 86) .done
 .stop))))))))))))))))))))))))))]))) (.region [im 23 4, im 24 0, im 25 5, im 26 5, o1 27 (.bin .add 26 (kI 1)), o1 28 (.slS 24 (some 25) (some 27)), o1 29 (.bin .add 23 28), ia 4
 29]))))))))))))))))))))))))) (.region [im 13 5, o1 14 (.bin .add 13 (kI 1)), ia 5 14])))))))) (.seq (.seq (.region [im 87 3]) (.cond 87 (.seq (.region [im 88 0, ia 2 88]) .ret)
 .skip)) (.seq (.region [im 89 4, o1 90 (.bin .add 89 (.c (.string ⟨#[34]⟩))), ia 2 90]) .ret))))))
def F_ref01_Quote : AFn := ⟨ "mergelens/mergelensref01.Quote", t_ref01_Quote.erase, [.tmp 2], 1⟩
def W_ref01_Quote (P : Program) (x : (List UInt8)) (K : (List UInt8) → Unit → Prop) : Prop :=
 JoinW (D := (Bool × (List UInt8))) (fun J1 => LoopW (D := (Bool × ((List UInt8) × Int))) ((!(x == ([] : List UInt8))), (([34] : List UInt8), (0 : Int))) (fun d3 J4 => (((decide (d3.2.2 < (x.length : Int))) = true → JoinW (D := (Bool × (List UInt8))) (fun J5 => (0 ≤ d3.2.2 ∧ d3.2.2 < (x.length : Int)) ∧
 JoinW (D := Bool) (fun J7 => ((d3.1 = true → Fn P "mergelens/mergelensref01.Plain" S_ref01_Plain ((x.getD d3.2.2.toNat 0).toNat : Int) (fun (d8 : Bool) _ => J7 d8)) ∧ ((d3.1 = false → J7 false) ∧ True))) (fun d9 => JoinW (D := (List UInt8)) (fun J10 => JoinW (D := (List UInt8)) (fun J12 => (((cond (((x.getD d3.2.2.toNat 0).toNat : Int) == (34 : Int)) true (((x.getD d3.2.2.toNat 0).toNat : Int) == (92 : Int))) = true → (d3.2.1.length + List.length ([92] : List UInt8) ≤ 9223372036854775807) ∧
 (0 ≤ d3.2.2 ∧ d3.2.2 ≤ (i64.wrap (d3.2.2 + (1 : Int))) ∧ (i64.wrap (d3.2.2 + (1 : Int))) ≤ (x.length : Int)) ∧
 (List.length (d3.2.1 ++ ([92] : List UInt8)) + List.length (List.drop d3.2.2.toNat (List.take (Int.toNat (i64.wrap (d3.2.2 + (1 : Int)))) x)) ≤ 9223372036854775807) ∧
 J12 ((d3.2.1 ++ ([92] : List UInt8)) ++ (List.drop d3.2.2.toNat (List.take (Int.toNat (i64.wrap (d3.2.2 + (1 : Int)))) x)))) ∧ ((cond (((x.getD d3.2.2.toNat 0).toNat : Int) == (34 : Int)) true (((x.getD d3.2.2.toNat 0).toNat : Int) == (92 : Int))) = false → JoinW (D := (List UInt8)) (fun J14 => (((((x.getD d3.2.2.toNat 0).toNat : Int) == (10 : Int)) = true → (d3.2.1.length + List.length ([92, 110] : List UInt8) ≤ 9223372036854775807) ∧
 J14 (d3.2.1 ++ ([92, 110] : List UInt8))) ∧ ((((x.getD d3.2.2.toNat 0).toNat : Int) == (10 : Int)) = false → JoinW (D := (List UInt8)) (fun J16 => (((((x.getD d3.2.2.toNat 0).toNat : Int) == (9 : Int)) = true → (d3.2.1.length + List.length ([92, 116] : List UInt8) ≤ 9223372036854775807) ∧
 J16 (d3.2.1 ++ ([92, 116] : List UInt8))) ∧ ((((x.getD d3.2.2.toNat 0).toNat : Int) == (9 : Int)) = false → JoinW (D := (List UInt8)) (fun J18 => (((cond (decide (((x.getD d3.2.2.toNat 0).toNat : Int) < (32 : Int))) true (decide (((x.getD d3.2.2.toNat 0).toNat : Int) > (126 : Int)))) = true → JoinW (D := (List UInt8)) (fun J20 => (d3.2.1.length + List.length ([92] : List UInt8) ≤ 9223372036854775807) ∧
 ((64 : Int) ≠ 0) ∧
 ((64 : Int) ≠ 0) ∧
 (0 ≤ (u8.wrap (Int.tdiv ((x.getD d3.2.2.toNat 0).toNat : Int) (64 : Int))) ∧ (u8.wrap (Int.tdiv ((x.getD d3.2.2.toNat 0).toNat : Int) (64 : Int))) ≤ (u8.wrap ((u8.wrap (Int.tdiv ((x.getD d3.2.2.toNat 0).toNat : Int) (64 : Int))) + (1 : Int))) ∧ (u8.wrap ((u8.wrap (Int.tdiv ((x.getD d3.2.2.toNat 0).toNat : Int) (64 : Int))) + (1 : Int))) ≤ ((List.length ([48, 49, 50, 51, 52, 53, 54, 55] : List UInt8) : Nat) : Int)) ∧
 (List.length (d3.2.1 ++ ([92] : List UInt8)) + List.length (List.drop (Int.toNat (u8.wrap (Int.tdiv ((x.getD d3.2.2.toNat 0).toNat : Int) (64 : Int)))) (List.take (Int.toNat (u8.wrap ((u8.wrap (Int.tdiv ((x.getD d3.2.2.toNat 0).toNat : Int) (64 : Int))) + (1 : Int)))) ([48, 49, 50, 51, 52, 53, 54, 55] : List UInt8))) ≤ 9223372036854775807) ∧
 ((8 : Int) ≠ 0) ∧
 ((8 : Int) ≠ 0) ∧
 ((8 : Int) ≠ 0) ∧
 ((8 : Int) ≠ 0) ∧
 (0 ≤ (Int.tmod (u8.wrap (Int.tdiv ((x.getD d3.2.2.toNat 0).toNat : Int) (8 : Int))) (8 : Int)) ∧ (Int.tmod (u8.wrap (Int.tdiv ((x.getD d3.2.2.toNat 0).toNat : Int) (8 : Int))) (8 : Int)) ≤ (u8.wrap ((Int.tmod (u8.wrap (Int.tdiv ((x.getD d3.2.2.toNat 0).toNat : Int) (8 : Int))) (8 : Int)) + (1 : Int))) ∧ (u8.wrap ((Int.tmod (u8.wrap (Int.tdiv ((x.getD d3.2.2.toNat 0).toNat : Int) (8 : Int))) (8 : Int)) + (1 : Int))) ≤ ((List.length ([48, 49, 50, 51, 52, 53, 54, 55] : List UInt8) : Nat) : Int)) ∧
 (List.length ((d3.2.1 ++ ([92] : List UInt8)) ++ (List.drop (Int.toNat (u8.wrap (Int.tdiv ((x.getD d3.2.2.toNat 0).toNat : Int) (64 : Int)))) (List.take (Int.toNat (u8.wrap ((u8.wrap (Int.tdiv ((x.getD d3.2.2.toNat 0).toNat : Int) (64 : Int))) + (1 : Int)))) ([48, 49, 50, 51, 52, 53, 54, 55] : List UInt8)))) + List.length (List.drop (Int.toNat (Int.tmod (u8.wrap (Int.tdiv ((x.getD d3.2.2.toNat 0).toNat : Int) (8 : Int))) (8 : Int))) (List.take (Int.toNat (u8.wrap ((Int.tmod (u8.wrap (Int.tdiv ((x.getD d3.2.2.toNat 0).toNat : Int) (8 : Int))) (8 : Int)) + (1 : Int)))) ([48, 49, 50, 51, 52, 53, 54, 55] : List UInt8))) ≤ 9223372036854775807) ∧
 ((8 : Int) ≠ 0) ∧
 ((8 : Int) ≠ 0) ∧
 (0 ≤ (Int.tmod ((x.getD d3.2.2.toNat 0).toNat : Int) (8 : Int)) ∧ (Int.tmod ((x.getD d3.2.2.toNat 0).toNat : Int) (8 : Int)) ≤ (u8.wrap ((Int.tmod ((x.getD d3.2.2.toNat 0).toNat : Int) (8 : Int)) + (1 : Int))) ∧ (u8.wrap ((Int.tmod ((x.getD d3.2.2.toNat 0).toNat : Int) (8 : Int)) + (1 : Int))) ≤ ((List.length ([48, 49, 50, 51, 52, 53, 54, 55] : List UInt8) : Nat) : Int)) ∧
 (List.length (((d3.2.1 ++ ([92] : List UInt8)) ++ (List.drop (Int.toNat (u8.wrap (Int.tdiv ((x.getD d3.2.2.toNat 0).toNat : Int) (64 : Int)))) (List.take (Int.toNat (u8.wrap ((u8.wrap (Int.tdiv ((x.getD d3.2.2.toNat 0).toNat : Int) (64 : Int))) + (1 : Int)))) ([48, 49, 50, 51, 52, 53, 54, 55] : List UInt8)))) ++ (List.drop (Int.toNat (Int.tmod (u8.wrap (Int.tdiv ((x.getD d3.2.2.toNat 0).toNat : Int) (8 : Int))) (8 : Int))) (List.take (Int.toNat (u8.wrap ((Int.tmod (u8.wrap (Int.tdiv ((x.getD d3.2.2.toNat 0).toNat : Int) (8 : Int))) (8 : Int)) + (1 : Int)))) ([48, 49, 50, 51, 52, 53, 54, 55] : List UInt8)))) + List.length (List.drop (Int.toNat (Int.tmod ((x.getD d3.2.2.toNat 0).toNat : Int) (8 : Int))) (List.take (Int.toNat (u8.wrap ((Int.tmod ((x.getD d3.2.2.toNat 0).toNat : Int) (8 : Int)) + (1 : Int)))) ([48, 49, 50, 51, 52, 53, 54, 55] : List UInt8))) ≤ 9223372036854775807) ∧
 (J20 ((((d3.2.1 ++ ([92] : List UInt8)) ++ (List.drop (Int.toNat (u8.wrap (Int.tdiv ((x.getD d3.2.2.toNat 0).toNat : Int) (64 : Int)))) (List.take (Int.toNat (u8.wrap ((u8.wrap (Int.tdiv ((x.getD d3.2.2.toNat 0).toNat : Int) (64 : Int))) + (1 : Int)))) ([48, 49, 50, 51, 52, 53, 54, 55] : List UInt8)))) ++ (List.drop (Int.toNat (Int.tmod (u8.wrap (Int.tdiv ((x.getD d3.2.2.toNat 0).toNat : Int) (8 : Int))) (8 : Int))) (List.take (Int.toNat (u8.wrap ((Int.tmod (u8.wrap (Int.tdiv ((x.getD d3.2.2.toNat 0).toNat : Int) (8 : Int))) (8 : Int)) + (1 : Int)))) ([48, 49, 50, 51, 52, 53, 54, 55] : List UInt8)))) ++ (List.drop (Int.toNat (Int.tmod ((x.getD d3.2.2.toNat 0).toNat : Int) (8 : Int))) (List.take (Int.toNat (u8.wrap ((Int.tmod ((x.getD d3.2.2.toNat 0).toNat : Int) (8 : Int)) + (1 : Int)))) ([48, 49, 50, 51, 52, 53, 54, 55] : List UInt8))))) ∧ True) (fun d21 => J18 d21)) ∧ ((cond (decide (((x.getD d3.2.2.toNat 0).toNat : Int) < (32 : Int))) true (decide (((x.getD d3.2.2.toNat 0).toNat : Int) > (126 : Int)))) = false → (0 ≤ d3.2.2 ∧ d3.2.2 ≤ (i64.wrap (d3.2.2 + (1 : Int))) ∧ (i64.wrap (d3.2.2 + (1 : Int))) ≤ (x.length : Int)) ∧
 (d3.2.1.length + List.length (List.drop d3.2.2.toNat (List.take (Int.toNat (i64.wrap (d3.2.2 + (1 : Int)))) x)) ≤ 9223372036854775807) ∧
 J18 (d3.2.1 ++ (List.drop d3.2.2.toNat (List.take (Int.toNat (i64.wrap (d3.2.2 + (1 : Int)))) x)))))) (fun d19 => J16 d19)))) (fun d17 => J14 d17)))) (fun d15 => J12 d15)))) (fun d13 => J10 d13)) (fun d11 => J5 ((cond d3.1 d9 false), d11)))) (fun d6 => J4 (d6.1, (d6.2, (i64.wrap (d3.2.2 + (1 : Int))))))) ∧ ((decide (d3.2.2 < (x.length : Int))) = false → J1 (d3.1, d3.2.1))))) (fun d2 => ((d2.1 = true → K x ()) ∧ (d2.1 = false → (d2.2.length + List.length ([34] : List UInt8) ≤ 9223372036854775807) ∧
 K (d2.2 ++ ([34] : List UInt8)) ())))
theorem fn_ref01_Quote {P} (h : Has P F_ref01_Quote) {x K} (hw : W_ref01_Quote P x K) : Fn P "mergelens/mergelensref01.Quote" S_ref01_Quote x K :=
 fn_of (c := t_ref01_Quote) h rfl rfl (by kernel_rfl) (Eq.mpr (show liftT P F_ref01_Quote S_ref01_Quote t_ref01_Quote x K = _ by kernel_rfl) hw)
def t_scan_Words : TCode :=
 (.seq (.region [o1 2 (.asg (.c (.slice none 0 0))), o1 3 (.asg kF)]) (.seq (.seq (.region [im 9 0, o1 10 (.bin .eql 9 (.c (.string ⟨#[]⟩)))]) (.cond 10 (.seq (.region [o1 2 (.asg
 (.c (.slice none 0 0))), o1 3 (.asg kT)]) .ret) .skip)) (.seq (.region [im 11 0, o1 12 (.build [(.string ⟨#[]⟩), (.int .i64 0)] [(0, 1, 11)]), o1 13 (.box 12), ia 4 13]) (.seq
 (.region [im 14 4, o1 15 (.mkf ("(*mergelens/scan.reader).word", true) [14]), ia 5 15]) (.seq (.region [o1 6 (.asg (.c (.slice none 0 0)))]) (.frame (rg [2, 3, 6, 7, 8] 16 33)
 [1013] true (.block 0 (.loop [.sl 2 false (.sl .str) tO, .sl 3 false .bool .leaf, .sl 6 false (.sl .str) tO, .bx 1013 (.pair .str bI) .leaf] (.frame (rg [2, 3, 6, 7, 8] 16 33)
 [1013] true (.join [.sl 2 false (.sl .str) tO, .sl 3 false .bool .leaf, .sl 6 false (.sl .str) tO, .bx 1013 (.pair .str bI) .leaf] (.block 1 (.seq (.region [im 17 5, oS ⟨some 18,
 .callv 17 [], none⟩ S_scan_reader_word, im 16 18, o1 19 (.ext 16 0), o1 20 (.ext 16 1), ia 7 19, ia 8 20]) (.seq (.seq (.region [im 21 8, o1 22 (.un .not 21)]) (.cond 22 (.seq
 (.region [o1 2 (.asg (.c (.slice none 0 0))), o1 3 (.asg kF)]) .ret) .skip)) (.seq (.region [im 23 6, im 24 7, oT ⟨some 25, .buildSl 1 [(.string ⟨#[]⟩)] 1 [(0, 24)], none⟩ (some
 (.str, .leaf)), oT ⟨some 26, .app 1 16 23 25, none⟩ (some (.str, .leaf)), ia 6 26]) (.seq (.seq (.region [im 27 4, o1 28 (.nilc 27), fa 29 1 28, ld 30 29, im 31 0, o1 32 (.lenS
 31), o1 33 (.bin .eql 30 32)]) (.cond 33 (.seq (.region [im 34 6, ia 2 34, o1 3 (.asg kT)]) .ret) .skip)) (.seq (.seq (.region [im 35 0, im 36 4, o1 37 (.nilc 36), fa 38 1 37, ld
 39 38, o1 40 (.ixS 35 39), o1 41 (.bin .neq 40 (.c (.int .u8 32)))]) (.cond 41 (.seq (.region [o1 2 (.asg (.c (.slice none 0 0))), o1 3 (.asg kF)]) .ret) .skip)) (.region [im 42 4,
 o1 43 (.nilc 42), fa 44 1 43, ld 45 44, o1 46 (.bin .add 45 (kI 1)), o1 47 (.nilc 42), fa 48 1 47, o0 ⟨none, .store 1 48 46, none⟩])))))))))))))))))
def F_scan_Words : AFn := ⟨ "mergelens/scan.Words", t_scan_Words.erase, [.tmp 2, .tmp 3], 1⟩
def W_scan_Words (P : Program) (x : (List UInt8)) (K : ((List (List UInt8)) × Bool) → Unit → Prop) : Prop :=
 (((x == ([] : List UInt8)) = true → K ([], true) ()) ∧ ((x == ([] : List UInt8)) = false → LoopW (D := ((List (List UInt8)) × (Bool × ((List (List UInt8)) × ((List UInt8) × Int))))) ([], (false, ([], (x, (0 : Int))))) (fun d1 J2 => JoinW (D := ((List (List UInt8)) × (Bool × ((List (List UInt8)) × ((List UInt8) × Int))))) (fun J3 => Fn P "(*mergelens/scan.reader).word" S_scan_reader_word d1.2.2.2 (fun (d5 : ((List UInt8) × Bool)) (e6 : ((List UInt8) × Int)) => (((!d5.2) = true → K ([], false) ()) ∧ ((!d5.2) = false → ((d1.2.2.1.length + List.length ([d5.1] : List (List UInt8))) * 16 ≤ 140737488355328) ∧
 (((e6.2 == (x.length : Int)) = true → K ((d1.2.2.1 ++ ([d5.1] : List (List UInt8))), true) ()) ∧ ((e6.2 == (x.length : Int)) = false → (0 ≤ e6.2 ∧ e6.2 < (x.length : Int)) ∧
 (((((x.getD e6.2.toNat 0).toNat : Int) != (32 : Int)) = true → K ([], false) ()) ∧ ((((x.getD e6.2.toNat 0).toNat : Int) != (32 : Int)) = false → J3 (d1.1, (d1.2.1, ((d1.2.2.1 ++ ([d5.1] : List (List UInt8))), (e6.1, (i64.wrap (e6.2 + (1 : Int))))))))))))))) (fun d4 => J2 d4))))
theorem fn_scan_Words {P} (h : Has P F_scan_Words) {x K} (hw : W_scan_Words P x K) : Fn P "mergelens/scan.Words" S_scan_Words x K :=
 fn_of (c := t_scan_Words) h rfl rfl (by kernel_rfl) (Eq.mpr (show liftT P F_scan_Words S_scan_Words t_scan_Words x K = _ by kernel_rfl) hw)
def t_ref01_octal : TCode :=
 (.seq (.region [o1 4 (.asg (.c (.int .u8 0))), o1 5 (.asg kF)]) (.seq (.region [ia 6 (kI 0)]) (.seq (.seq (.region [im 8 1, ia 7 8]) (.frame (rg [4, 5, 6, 7] 9 30) [] false (.join
 [.sl 4 false (.int .u8) .leaf, .sl 5 false .bool .leaf, .si 6] (.block 0 (.loop [.sl 4 false (.int .u8) .leaf, .sl 5 false .bool .leaf, .si 6, .si 7] (.seq (.seq (.region [im 9 7,
 im 10 1, o1 11 (.bin .add 10 (kI 3)), o1 12 (.bin .lss 9 11)]) (.cond 12 .skip (.exit 0))) (.seq (.frame (rg [4, 5, 6] 15 24) [] false (.join [.sl 4 false (.int .u8) .leaf, .sl 5
 false .bool .leaf, .si 6] (.block 1 (.seq (.seq (.region [im 15 7, im 16 0, o1 17 (.lenS 16), o1 18 (.bin .geq 15 17), im 19 18, gf 20 19 (.mv 0), gf 21 19 (.mv 7), gf 22 19 (.ixS
 20 21), gf 23 19 (.bin .lss 22 (.c (.int .u8 48))), o1 24 (.pick 19 kT 23), im 25 24, gf 26 25 (.mv 0), gf 27 25 (.mv 7), gf 28 25 (.ixS 26 27), gf 29 25 (.bin .gtr 28 (.c (.int
 .u8 55))), o1 30 (.pick 25 kT 29)]) (.cond 30 (.seq (.region [o1 4 (.asg (.c (.int .u8 0))), o1 5 (.asg kF)]) .ret) .skip)) (.region [im 31 6, o1 32 (.bin .mul (kI 8) 31), im 33 0,
 im 34 7, o1 35 (.ixS 33 34), o1 36 (.bin .sub 35 (.c (.int .u8 48))), o1 37 (.conv (.toInt .i64) 36), o1 38 (.bin .add 32 37), ia 6 38]))))) (.region [im 13 7, o1 14 (.bin .add 13
 (kI 1)), ia 7 14])))))))) (.seq (.region [im 39 6, o1 40 (.conv (.toInt .u8) 39), im 41 6, o1 42 (.bin .lss 41 (kI 256)), ia 4 40, ia 5 42]) .ret))))
def F_ref01_octal : AFn := ⟨ "mergelens/mergelensref01.octal", t_ref01_octal.erase, [.tmp 4, .tmp 5], 2⟩
def W_ref01_octal (P : Program) (x : ((List UInt8) × Int)) (K : (Int × Bool) → Unit → Prop) : Prop :=
 JoinW (D := (Int × (Bool × Int))) (fun J1 => LoopW (D := (Int × (Bool × (Int × Int)))) ((0 : Int), (false, ((0 : Int), x.2))) (fun d3 J4 => (((decide (d3.2.2.2 < (i64.wrap (x.2 + (3 : Int))))) = true → JoinW (D := (Int × (Bool × Int))) (fun J5 => (((decide (d3.2.2.2 ≥ (x.1.length : Int))) = false → 0 ≤ d3.2.2.2 ∧ d3.2.2.2 < (x.1.length : Int))) ∧
 (((cond (decide (d3.2.2.2 ≥ (x.1.length : Int))) true (decide (((x.1.getD d3.2.2.2.toNat 0).toNat : Int) < (48 : Int)))) = false → 0 ≤ d3.2.2.2 ∧ d3.2.2.2 < (x.1.length : Int))) ∧
 (((cond (cond (decide (d3.2.2.2 ≥ (x.1.length : Int))) true (decide (((x.1.getD d3.2.2.2.toNat 0).toNat : Int) < (48 : Int)))) true (decide (((x.1.getD d3.2.2.2.toNat 0).toNat : Int) > (55 : Int)))) = true → K ((0 : Int), false) ()) ∧ ((cond (cond (decide (d3.2.2.2 ≥ (x.1.length : Int))) true (decide (((x.1.getD d3.2.2.2.toNat 0).toNat : Int) < (48 : Int)))) true (decide (((x.1.getD d3.2.2.2.toNat 0).toNat : Int) > (55 : Int)))) = false → (0 ≤ d3.2.2.2 ∧ d3.2.2.2 < (x.1.length : Int)) ∧
 J5 (d3.1, (d3.2.1, (i64.wrap ((i64.wrap ((8 : Int) * d3.2.2.1)) + (i64.wrap (u8.wrap (((x.1.getD d3.2.2.2.toNat 0).toNat : Int) - (48 : Int))))))))))) (fun d6 => J4 (d6.1, (d6.2.1, (d6.2.2, (i64.wrap (d3.2.2.2 + (1 : Int)))))))) ∧ ((decide (d3.2.2.2 < (i64.wrap (x.2 + (3 : Int))))) = false → J1 (d3.1, (d3.2.1, d3.2.2.1)))))) (fun d2 => K ((u8.wrap d2.2.2), (decide (d2.2.2 < (256 : Int)))) ())
theorem fn_ref01_octal {P} (h : Has P F_ref01_octal) {x K} (hw : W_ref01_octal P x K) : Fn P "mergelens/mergelensref01.octal" S_ref01_octal x K :=
 fn_of (c := t_ref01_octal) h rfl rfl (by kernel_rfl) (Eq.mpr (show liftT P F_ref01_octal S_ref01_octal t_ref01_octal x K = _ by kernel_rfl) hw)
def t_ref01_Unquote : TCode :=
 (.seq (.region [o1 4 (.asg (.c (.string ⟨#[]⟩))), ia 5 (kI 0), o1 6 (.asg kF)]) (.seq (.seq (.region [im 11 1, o1 12 (.bin .lss 11 (kI 0)), im 13 12, gf 14 13 (.mv 1), gf 15 13
 (.mv 0), gf 16 13 (.lenS 15), gf 17 13 (.bin .geq 14 16), o1 18 (.pick 13 kT 17)]) (.cond 18 (.seq (.region [o1 4 (.asg (.c (.string ⟨#[]⟩))), ia 5 (kI 0), o1 6 (.asg kF)]) .ret)
 .skip)) (.seq (.region [im 19 1, ia 7 19]) (.seq (.seq (.region [im 20 0, im 21 1, o1 22 (.ixS 20 21), o1 23 (.bin .neq 22 (.c (.int .u8 34)))]) (.cond 23 (.seq (.frame (rg [7] 24
 12) [] false (.join [.si 7] (.block 0 (.loop [.si 7] (.seq (.seq (.region [im 24 7, im 25 0, o1 26 (.lenS 25), o1 27 (.bin .lss 24 26), im 28 27, gt 29 28 (.mv 0), gt 30 28 (.mv
 7), gt 31 28 (.ixS 29 30), oS ⟨some 32, .call "mergelens/mergelensref01.Plain" [31], some (28, true)⟩ S_ref01_Plain, o1 33 (.pick 28 32 kF)]) (.cond 33 .skip (.exit 0))) (.frame
 [7, 34, 35] [] false (.join [.si 7] (.block 1 (.region [im 34 7, o1 35 (.bin .add 34 (kI 1)), ia 7 35]))))))))) (.seq (.seq (.region [im 36 7, im 37 1, o1 38 (.bin .eql 36 37)])
 (.cond 38 (.seq (.region [o1 4 (.asg (.c (.string ⟨#[]⟩))), ia 5 (kI 0), o1 6 (.asg kF)]) .ret) .skip)) (.seq (.region [im 39 0, im 40 1, im 41 7, o1 42 (.slS 39 (some 40) (some
 41)), im 43 7, ia 4 42, ia 5 43, o1 6 (.asg kT)]) .ret))) .skip)) (.seq (.region [o1 8 (.asg (.c (.slice none 0 0)))]) (.seq (.region [im 44 7, o1 45 (.bin .add 44 (kI 1)), ia 7
 45]) (.seq (.frame (rg [4, 5, 6, 7, 8, 9, 10] 46 72) [] false (.join [.sl 4 false .str .leaf, .si 5, .sl 6 false .bool .leaf, .si 7, .sl 8 false (.sl (.int .u8)) tO] (.block 2
 (.loop [.sl 4 false .str .leaf, .si 5, .sl 6 false .bool .leaf, .si 7, .sl 8 false (.sl (.int .u8)) tO] (.seq (.seq (.region [im 46 7, im 47 0, o1 48 (.lenS 47), o1 49 (.bin .lss
 46 48), im 50 49, gt 51 50 (.mv 0), gt 52 50 (.mv 7), gt 53 50 (.ixS 51 52), gt 54 50 (.bin .neq 53 (.c (.int .u8 34))), o1 55 (.pick 50 54 kF)]) (.cond 55 .skip (.exit 2)))
 (.frame (rg [4, 5, 6, 7, 8, 9, 10] 56 62) [] false (.join [.sl 4 false .str .leaf, .si 5, .sl 6 false .bool .leaf, .si 7, .sl 8 false (.sl (.int .u8)) tO] (.block 3 (.seq (.seq
 (.region [im 56 0, im 57 7, o1 58 (.ixS 56 57), o1 59 (.bin .neq 58 (.c (.int .u8 92)))]) (.cond 59 (.seq (.region [im 60 8, im 61 0, im 62 7, o1 63 (.ixS 61 62), oT ⟨some 64,
 .buildSl 1 [(.int .u8 0)] 1 [(0, 63)], none⟩ (some ((.int .u8), .leaf)), oT ⟨some 65, .app 1 1 60 64, none⟩ (some ((.int .u8), .leaf)), ia 8 65]) (.seq (.region [im 66 7, o1 67
 (.bin .add 66 (kI 1)), ia 7 67]) (.exit 3))) .skip)) (.seq (.seq (.region [im 68 7, o1 69 (.bin .add 68 (kI 1)), im 70 0, o1 71 (.lenS 70), o1 72 (.bin .eql 69 71)]) (.cond 72
 (.seq (.region [o1 4 (.asg (.c (.string ⟨#[]⟩))), ia 5 (kI 0), o1 6 (.asg kF)]) .ret) .skip)) (.seq (.region [im 73 0, im 74 7, o1 75 (.bin .add 74 (kI 1)), o1 76 (.ixS 73 75)])
 (.frame (rg [4, 5, 6, 7, 8, 9, 10] 77 41) [] false (.join [.sl 4 false .str .leaf, .si 5, .sl 6 false .bool .leaf, .si 7, .sl 8 false (.sl (.int .u8)) tO] (.block 4 (.seq (.seq
 (.region [o1 93 (.bin .eql 76 (.c (.int .u8 34))), ia 92 93]) (.frame [92, 94] [] false (.join [.sl 92 false .bool .leaf] (.cond 92 .skip (.region [o1 94 (.bin .eql 76 (.c (.int
 .u8 92))), ia 92 94]))))) (.frame (rg [4, 5, 6, 7, 8, 9, 10, 77, 78, 79, 80, 81, 82, 83, 84, 85, 86, 87, 88, 89, 90, 91] 95 23) [] false (.join [.sl 4 false .str .leaf, .si 5, .sl
 6 false .bool .leaf, .si 7, .sl 8 false (.sl (.int .u8)) tO] (.cond 92 (.seq (.region [im 95 8, im 96 0, im 97 7, o1 98 (.bin .add 97 (kI 1)), o1 99 (.ixS 96 98), oT ⟨some 100,
 .buildSl 1 [(.int .u8 0)] 1 [(0, 99)], none⟩ (some ((.int .u8), .leaf)), oT ⟨some 101, .app 1 1 95 100, none⟩ (some ((.int .u8), .leaf)), ia 8 101]) (.region [im 102 7, o1 103
 (.bin .add 102 (kI 2)), ia 7 103])) (.seq (.region [o1 105 (.bin .eql 76 (.c (.int .u8 110))), ia 104 105]) (.frame (rg [4, 5, 6, 7, 8, 9, 10, 77, 78, 79, 80, 81, 82, 83, 84, 85,
 86, 87, 88, 89, 90, 91] 106 12) [] false (.join [.sl 4 false .str .leaf, .si 5, .sl 6 false .bool .leaf, .si 7, .sl 8 false (.sl (.int .u8)) tO] (.cond 104 (.seq (.region [im 106
 8, oT ⟨some 107, .buildSl 1 [(.int .u8 0)] 1 [(0, (.c (.int .u8 10)))], none⟩ (some ((.int .u8), .leaf)), oT ⟨some 108, .app 1 1 106 107, none⟩ (some ((.int .u8), .leaf)), ia 8
 108]) (.region [im 109 7, o1 110 (.bin .add 109 (kI 2)), ia 7 110])) (.seq (.region [o1 112 (.bin .eql 76 (.c (.int .u8 116))), ia 111 112]) (.frame (rg [4, 5, 6, 7, 8, 9, 10, 77,
 78, 79, 80, 81, 82, 83, 84, 85, 86, 87, 88, 89, 90, 91] 113 5) [] false (.join [.sl 4 false .str .leaf, .si 5, .sl 6 false .bool .leaf, .si 7, .sl 8 false (.sl (.int .u8)) tO]
 (.cond 111 (.seq (.region [im 113 8, oT ⟨some 114, .buildSl 1 [(.int .u8 0)] 1 [(0, (.c (.int .u8 9)))], none⟩ (some ((.int .u8), .leaf)), oT ⟨some 115, .app 1 1 113 114, none⟩
 (some ((.int .u8), .leaf)), ia 8 115]) (.region [im 116 7, o1 117 (.bin .add 116 (kI 2)), ia 7 117])) (.seq (.region [im 78 0, im 79 7, o1 80 (.bin .add 79 (kI 1)), oS ⟨some 81,
 .call "mergelens/mergelensref01.octal" [78, 80], none⟩ S_ref01_octal, im 77 81, o1 82 (.ext 77 0), o1 83 (.ext 77 1), ia 9 82, ia 10 83]) (.seq (.seq (.region [im 84 10, o1 85 (.un
 .not 84)]) (.cond 85 (.seq (.region [o1 4 (.asg (.c (.string ⟨#[]⟩))), ia 5 (kI 0), o1 6 (.asg kF)]) .ret) .skip)) (.seq (.region [im 86 8, im 87 9, oT ⟨some 88, .buildSl 1 [(.int
 .u8 0)] 1 [(0, 87)], none⟩ (some ((.int .u8), .leaf)), oT ⟨some 89, .app 1 1 86 88, none⟩ (some ((.int .u8), .leaf)), ia 8 89]) (.region [im 90 7, o1 91 (.bin .add 90 (kI 4)), ia 7
 91])))))))))))))))))))))))))))))) (.seq (.seq (.frame (rg [] 118 15) [] false (.join [.sl 132 false .bool .leaf] (.draw [(.first (im 118 7) (.first (im 119 0) (.first (o1 120
 (.lenS 119)) (.first (o1 121 (.bin .geq 118 120)) (.first (im 122 121) (.first (gf 123 122 (.mv 8)) (.first (gf 124 122 (.conv .bytesToStr 123)) (.first (gf 126 122 (.mv 0))
 (.first (gf 127 122 (.mv 1)) (.first (gf 128 122 (.mv 7)) (.first (gf 129 122 (.bin .add 128 (kI 1))) (.first (gf 130 122 (.slS 126 (some 127) (some 129))) (.alt (oS ⟨some 125,
 .call "mergelens/mergelensref01.Quote" [124], some (122, false)⟩ S_ref01_Quote) (.first (gf 131 122 (.bin .neq 125 130)) (.first (o1 132 (.pick 122 kT 131)) .done))
 .stop)))))))))))))]))) (.cond 132 (.seq (.region [o1 4 (.asg (.c (.string ⟨#[]⟩))), ia 5 (kI 0), o1 6 (.asg kF)]) .ret) .skip)) (.seq (.region [im 133 8, o1 134 (.conv .bytesToStr
 133), im 135 7, o1 136 (.bin .add 135 (kI 1)), ia 4 134, ia 5 136, o1 6 (.asg kT)]) .ret)))))))))
def F_ref01_Unquote : AFn := ⟨ "mergelens/mergelensref01.Unquote", t_ref01_Unquote.erase, [.tmp 4, .tmp 5, .tmp 6], 2⟩
def W_ref01_Unquote (P : Program) (x : ((List UInt8) × Int)) (K : ((List UInt8) × (Int × Bool)) → Unit → Prop) : Prop :=
 (((cond (decide (x.2 < (0 : Int))) true (decide (x.2 ≥ (x.1.length : Int)))) = true → K (([] : List UInt8), ((0 : Int), false)) ()) ∧ ((cond (decide (x.2 < (0 : Int))) true (decide (x.2 ≥ (x.1.length : Int)))) = false → (0 ≤ x.2 ∧ x.2 < (x.1.length : Int)) ∧
 (((((x.1.getD x.2.toNat 0).toNat : Int) != (34 : Int)) = true → JoinW (D := Int) (fun J1 => LoopW (D := Int) x.2 (fun d3 J4 => (((decide (d3 < (x.1.length : Int))) = true → 0 ≤ d3 ∧ d3 < (x.1.length : Int))) ∧
 JoinW (D := Bool) (fun J5 => (((decide (d3 < (x.1.length : Int))) = true → Fn P "mergelens/mergelensref01.Plain" S_ref01_Plain ((x.1.getD d3.toNat 0).toNat : Int) (fun (d6 : Bool) _ => J5 d6)) ∧ (((decide (d3 < (x.1.length : Int))) = false → J5 false) ∧ True))) (fun d7 => (((cond (decide (d3 < (x.1.length : Int))) d7 false) = true → JoinW (D := Int) (fun J8 => J8 (i64.wrap (d3 + (1 : Int)))) (fun d9 => J4 d9)) ∧ ((cond (decide (d3 < (x.1.length : Int))) d7 false) = false → J1 d3))))) (fun d2 => (((d2 == x.2) = true → K (([] : List UInt8), ((0 : Int), false)) ()) ∧ ((d2 == x.2) = false → (0 ≤ x.2 ∧ x.2 ≤ d2 ∧ d2 ≤ (x.1.length : Int)) ∧
 K ((List.drop x.2.toNat (List.take d2.toNat x.1)), (d2, true)) ())))) ∧ ((((x.1.getD x.2.toNat 0).toNat : Int) != (34 : Int)) = false → JoinW (D := ((List UInt8) × (Int × (Bool × (Int × (List Int)))))) (fun J10 => LoopW (D := ((List UInt8) × (Int × (Bool × (Int × (List Int)))))) (([] : List UInt8), ((0 : Int), (false, ((i64.wrap (x.2 + (1 : Int))), [])))) (fun d12 J13 => (((decide (d12.2.2.2.1 < (x.1.length : Int))) = true → 0 ≤ d12.2.2.2.1 ∧ d12.2.2.2.1 < (x.1.length : Int))) ∧
 (((cond (decide (d12.2.2.2.1 < (x.1.length : Int))) (((x.1.getD d12.2.2.2.1.toNat 0).toNat : Int) != (34 : Int)) false) = true → JoinW (D := ((List UInt8) × (Int × (Bool × (Int × (List Int)))))) (fun J14 => (0 ≤ d12.2.2.2.1 ∧ d12.2.2.2.1 < (x.1.length : Int)) ∧
 (((((x.1.getD d12.2.2.2.1.toNat 0).toNat : Int) != (92 : Int)) = true → (0 ≤ d12.2.2.2.1 ∧ d12.2.2.2.1 < (x.1.length : Int)) ∧
 ((d12.2.2.2.2.length + List.length ([((x.1.getD d12.2.2.2.1.toNat 0).toNat : Int)] : List Int)) * 1 ≤ 140737488355328) ∧
 J14 (d12.1, (d12.2.1, (d12.2.2.1, ((i64.wrap (d12.2.2.2.1 + (1 : Int))), (d12.2.2.2.2 ++ ([((x.1.getD d12.2.2.2.1.toNat 0).toNat : Int)] : List Int))))))) ∧ ((((x.1.getD d12.2.2.2.1.toNat 0).toNat : Int) != (92 : Int)) = false → ((((i64.wrap (d12.2.2.2.1 + (1 : Int))) == (x.1.length : Int)) = true → K (([] : List UInt8), ((0 : Int), false)) ()) ∧ (((i64.wrap (d12.2.2.2.1 + (1 : Int))) == (x.1.length : Int)) = false → (0 ≤ (i64.wrap (d12.2.2.2.1 + (1 : Int))) ∧ (i64.wrap (d12.2.2.2.1 + (1 : Int))) < (x.1.length : Int)) ∧
 JoinW (D := ((List UInt8) × (Int × (Bool × (Int × (List Int)))))) (fun J16 => JoinW (D := Bool) (fun J18 => (((((UInt8.toNat (List.getD x.1 (Int.toNat (i64.wrap (d12.2.2.2.1 + (1 : Int)))) 0) : Nat) : Int) == (34 : Int)) = true → J18 (((UInt8.toNat (List.getD x.1 (Int.toNat (i64.wrap (d12.2.2.2.1 + (1 : Int)))) 0) : Nat) : Int) == (34 : Int))) ∧ ((((UInt8.toNat (List.getD x.1 (Int.toNat (i64.wrap (d12.2.2.2.1 + (1 : Int)))) 0) : Nat) : Int) == (34 : Int)) = false → J18 (((UInt8.toNat (List.getD x.1 (Int.toNat (i64.wrap (d12.2.2.2.1 + (1 : Int)))) 0) : Nat) : Int) == (92 : Int))))) (fun d19 => JoinW (D := ((List UInt8) × (Int × (Bool × (Int × (List Int)))))) (fun J20 => ((d19 = true → (0 ≤ (i64.wrap (d12.2.2.2.1 + (1 : Int))) ∧ (i64.wrap (d12.2.2.2.1 + (1 : Int))) < (x.1.length : Int)) ∧
 ((d12.2.2.2.2.length + List.length ([((UInt8.toNat (List.getD x.1 (Int.toNat (i64.wrap (d12.2.2.2.1 + (1 : Int)))) 0) : Nat) : Int)] : List Int)) * 1 ≤ 140737488355328) ∧
 J20 (d12.1, (d12.2.1, (d12.2.2.1, ((i64.wrap (d12.2.2.2.1 + (2 : Int))), (d12.2.2.2.2 ++ ([((UInt8.toNat (List.getD x.1 (Int.toNat (i64.wrap (d12.2.2.2.1 + (1 : Int)))) 0) : Nat) : Int)] : List Int))))))) ∧ (d19 = false → JoinW (D := ((List UInt8) × (Int × (Bool × (Int × (List Int)))))) (fun J22 => (((((UInt8.toNat (List.getD x.1 (Int.toNat (i64.wrap (d12.2.2.2.1 + (1 : Int)))) 0) : Nat) : Int) == (110 : Int)) = true → ((d12.2.2.2.2.length + List.length ([(10 : Int)] : List Int)) * 1 ≤ 140737488355328) ∧
 J22 (d12.1, (d12.2.1, (d12.2.2.1, ((i64.wrap (d12.2.2.2.1 + (2 : Int))), (d12.2.2.2.2 ++ ([(10 : Int)] : List Int))))))) ∧ ((((UInt8.toNat (List.getD x.1 (Int.toNat (i64.wrap (d12.2.2.2.1 + (1 : Int)))) 0) : Nat) : Int) == (110 : Int)) = false → JoinW (D := ((List UInt8) × (Int × (Bool × (Int × (List Int)))))) (fun J24 => (((((UInt8.toNat (List.getD x.1 (Int.toNat (i64.wrap (d12.2.2.2.1 + (1 : Int)))) 0) : Nat) : Int) == (116 : Int)) = true → ((d12.2.2.2.2.length + List.length ([(9 : Int)] : List Int)) * 1 ≤ 140737488355328) ∧
 J24 (d12.1, (d12.2.1, (d12.2.2.1, ((i64.wrap (d12.2.2.2.1 + (2 : Int))), (d12.2.2.2.2 ++ ([(9 : Int)] : List Int))))))) ∧ ((((UInt8.toNat (List.getD x.1 (Int.toNat (i64.wrap (d12.2.2.2.1 + (1 : Int)))) 0) : Nat) : Int) == (116 : Int)) = false → Fn P "mergelens/mergelensref01.octal" S_ref01_octal (x.1, (i64.wrap (d12.2.2.2.1 + (1 : Int)))) (fun (d26 : (Int × Bool)) (e27 : Unit) => (((!d26.2) = true → K (([] : List UInt8), ((0 : Int), false)) ()) ∧ ((!d26.2) = false → ((d12.2.2.2.2.length + List.length ([d26.1] : List Int)) * 1 ≤ 140737488355328) ∧
 J24 (d12.1, (d12.2.1, (d12.2.2.1, ((i64.wrap (d12.2.2.2.1 + (4 : Int))), (d12.2.2.2.2 ++ ([d26.1] : List Int)))))))))))) (fun d25 => J22 d25)))) (fun d23 => J20 d23)))) (fun d21 => J16 d21))) (fun d17 => J14 d17)))))) (fun d15 => J13 d15)) ∧ ((cond (decide (d12.2.2.2.1 < (x.1.length : Int))) (((x.1.getD d12.2.2.2.1.toNat 0).toNat : Int) != (34 : Int)) false) = false → J10 d12)))) (fun d11 => JoinW (D := Bool) (fun J28 => (((decide (d11.2.2.2.1 ≥ (x.1.length : Int))) = false → 0 ≤ x.2 ∧ x.2 ≤ (i64.wrap (d11.2.2.2.1 + (1 : Int))) ∧ (i64.wrap (d11.2.2.2.1 + (1 : Int))) ≤ (x.1.length : Int))) ∧
 (JoinW (D := (List UInt8)) (fun J30 => (((decide (d11.2.2.2.1 ≥ (x.1.length : Int))) = false → Fn P "mergelens/mergelensref01.Quote" S_ref01_Quote (strOf d11.2.2.2.2) (fun (d31 : (List UInt8)) _ => J30 d31)) ∧ (((decide (d11.2.2.2.1 ≥ (x.1.length : Int))) = true → J30 []) ∧ True))) (fun d32 => J28 (cond (decide (d11.2.2.2.1 ≥ (x.1.length : Int))) true (!(d32 == (List.drop x.2.toNat (List.take (Int.toNat (i64.wrap (d11.2.2.2.1 + (1 : Int)))) x.1))))))) ∧ True) (fun d29 => ((d29 = true → K (([] : List UInt8), ((0 : Int), false)) ()) ∧ (d29 = false → K ((strOf d11.2.2.2.2), ((i64.wrap (d11.2.2.2.1 + (1 : Int))), true)) ()))))))))
theorem fn_ref01_Unquote {P} (h : Has P F_ref01_Unquote) {x K} (hw : W_ref01_Unquote P x K) : Fn P "mergelens/mergelensref01.Unquote" S_ref01_Unquote x K :=
 fn_of (c := t_ref01_Unquote) h rfl rfl (by kernel_rfl) (Eq.mpr (show liftT P F_ref01_Unquote S_ref01_Unquote t_ref01_Unquote x K = _ by kernel_rfl) hw)
def t_ref01_Words : TCode :=
 (.seq (.region [o1 2 (.asg (.c (.slice none 0 0))), o1 3 (.asg kF)]) (.seq (.region [o1 4 (.asg (.c (.slice none 0 0)))]) (.seq (.region [ia 5 (kI 0)]) (.seq (.frame (rg [] 2 40)
 [] false (.join [.sl 2 false (.sl .str) tO, .sl 3 false .bool .leaf] (.block 0 (.loop [.sl 2 false (.sl .str) tO, .sl 3 false .bool .leaf, .sl 4 false (.sl .str) tO, .si 5] (.seq
 (.seq (.region [im 9 5, im 10 0, o1 11 (.lenS 10), o1 12 (.bin .lss 9 11), im 13 12, gf 14 13 (.mv 4), gf 15 13 (.lenK 14), gf 16 13 (.bin .gtr 15 (kI 0)), o1 17 (.pick 13 kT 16)])
 (.cond 17 .skip (.exit 0))) (.frame (rg [2, 3, 4, 5, 6, 7, 8] 18 24) [] false (.join [.sl 2 false (.sl .str) tO, .sl 3 false .bool .leaf, .sl 4 false (.sl .str) tO, .si 5] (.block
 1 (.seq (.region [im 19 0, im 20 5, oS ⟨some 21, .call "mergelens/mergelensref01.Unquote" [19, 20], none⟩ S_ref01_Unquote, im 18 21, o1 22 (.ext 18 0), o1 23 (.ext 18 1), o1 24
 (.ext 18 2), ia 6 22, ia 7 23, ia 8 24]) (.seq (.seq (.region [im 25 8, o1 26 (.un .not 25)]) (.cond 26 (.seq (.region [o1 2 (.asg (.c (.slice none 0 0))), o1 3 (.asg kF)]) .ret)
 .skip)) (.seq (.region [im 27 4, im 28 6, oT ⟨some 29, .buildSl 1 [(.string ⟨#[]⟩)] 1 [(0, 28)], none⟩ (some (.str, .leaf)), oT ⟨some 30, .app 1 16 27 29, none⟩ (some (.str,
 .leaf)), ia 4 30]) (.seq (.seq (.region [im 31 7, im 32 0, o1 33 (.lenS 32), o1 34 (.bin .eql 31 33)]) (.cond 34 (.seq (.region [im 35 4, ia 2 35, o1 3 (.asg kT)]) .ret) .skip))
 (.seq (.seq (.region [im 36 0, im 37 7, o1 38 (.ixS 36 37), o1 39 (.bin .neq 38 (.c (.int .u8 32)))]) (.cond 39 (.seq (.region [o1 2 (.asg (.c (.slice none 0 0))), o1 3 (.asg kF)])
 .ret) .skip)) (.region [im 40 7, o1 41 (.bin .add 40 (kI 1)), ia 5 41])))))))))))))) (.seq (.region [o1 2 (.asg (.c (.slice none 0 0))), o1 3 (.asg kT)]) .ret)))))
def F_ref01_Words : AFn := ⟨ "mergelens/mergelensref01.Words", t_ref01_Words.erase, [.tmp 2, .tmp 3], 1⟩
def W_ref01_Words (P : Program) (x : (List UInt8)) (K : ((List (List UInt8)) × Bool) → Unit → Prop) : Prop :=
 JoinW (D := ((List (List UInt8)) × Bool)) (fun J1 => LoopW (D := ((List (List UInt8)) × (Bool × ((List (List UInt8)) × Int)))) ([], (false, ([], (0 : Int)))) (fun d3 J4 => (((cond (decide (d3.2.2.2 < (x.length : Int))) true (decide ((d3.2.2.1.length : Int) > (0 : Int)))) = true → JoinW (D := ((List (List UInt8)) × (Bool × ((List (List UInt8)) × Int)))) (fun J5 => Fn P "mergelens/mergelensref01.Unquote" S_ref01_Unquote (x, d3.2.2.2) (fun (d7 : ((List UInt8) × (Int × Bool))) (e8 : Unit) => (((!d7.2.2) = true → K ([], false) ()) ∧ ((!d7.2.2) = false → ((d3.2.2.1.length + List.length ([d7.1] : List (List UInt8))) * 16 ≤ 140737488355328) ∧
 (((d7.2.1 == (x.length : Int)) = true → K ((d3.2.2.1 ++ ([d7.1] : List (List UInt8))), true) ()) ∧ ((d7.2.1 == (x.length : Int)) = false → (0 ≤ d7.2.1 ∧ d7.2.1 < (x.length : Int)) ∧
 (((((x.getD d7.2.1.toNat 0).toNat : Int) != (32 : Int)) = true → K ([], false) ()) ∧ ((((x.getD d7.2.1.toNat 0).toNat : Int) != (32 : Int)) = false → J5 (d3.1, (d3.2.1, ((d3.2.2.1 ++ ([d7.1] : List (List UInt8))), (i64.wrap (d7.2.1 + (1 : Int)))))))))))))) (fun d6 => J4 d6)) ∧ ((cond (decide (d3.2.2.2 < (x.length : Int))) true (decide ((d3.2.2.1.length : Int) > (0 : Int)))) = false → J1 (d3.1, d3.2.1))))) (fun d2 => K ([], true) ())
theorem fn_ref01_Words {P} (h : Has P F_ref01_Words) {x K} (hw : W_ref01_Words P x K) : Fn P "mergelens/mergelensref01.Words" S_ref01_Words x K :=
 fn_of (c := t_ref01_Words) h rfl rfl (by kernel_rfl) (Eq.mpr (show liftT P F_ref01_Words S_ref01_Words t_ref01_Words x K = _ by kernel_rfl) hw)
def t_gen_Strings : TCode :=
 (.seq (.region [o1 4 (.asg kF)]) (.seq (.seq (.region [im 6 0, o1 7 (.lenK 6), im 8 1, o1 9 (.lenK 8), o1 10 (.bin .neq 7 9)]) (.cond 10 (.seq (.region [o1 4 (.asg kF)]) .ret)
 .skip)) (.seq (.seq (.region [ia 5 (kI 0)]) (.frame (rg [4, 5] 11 15) [] false (.join [.sl 4 false .bool .leaf] (.block 0 (.loop [.sl 4 false .bool .leaf, .si 5] (.seq (.seq
 (.region [im 11 5, im 12 0, o1 13 (.lenK 12), o1 14 (.bin .lss 11 13)]) (.cond 14 .skip (.exit 0))) (.seq (.frame (rg [4] 17 9) [] false (.join [.sl 4 false .bool .leaf] (.block 1
 (.seq (.draw [(.first (im 17 0) (.first (im 18 5) (.first (o1 19 (.ixA 1 17 18)) (.first (ld 20 19) (.first (im 21 1) (.first (im 22 5) (.first (o1 23 (.ixA 1 21 22)) (.first (ld
 24 23) (.first (o1 25 (.bin .neq 20 24)) .done)))))))))]) (.cond 25 (.seq (.region [o1 4 (.asg kF)]) .ret) .skip))))) (.region [im 15 5, o1 16 (.bin .add 15 (kI 1)), ia 5
 16])))))))) (.seq (.region [o1 4 (.asg kT)]) .ret))))
def F_gen_Strings : AFn := ⟨ "mergelens/mergelensgen.Strings", t_gen_Strings.erase, [.tmp 4], 2⟩
def W_gen_Strings (P : Program) (x : ((List (List UInt8)) × (List (List UInt8)))) (K : Bool → Unit → Prop) : Prop :=
 ((((x.1.length : Int) != (x.2.length : Int)) = true → K false ()) ∧ (((x.1.length : Int) != (x.2.length : Int)) = false → JoinW (D := Bool) (fun J1 => LoopW (D := (Bool × Int)) (false, (0 : Int)) (fun d3 J4 => (((decide (d3.2 < (x.1.length : Int))) = true → JoinW (D := Bool) (fun J5 => (0 ≤ d3.2 ∧ d3.2 < (x.1.length : Int)) ∧
 (d3.2.toNat < x.1.length) ∧
 (0 ≤ d3.2 ∧ d3.2 < (x.2.length : Int)) ∧
 (d3.2.toNat < x.2.length) ∧
 (((!((List.getD x.1 d3.2.toNat []) == (List.getD x.2 d3.2.toNat []))) = true → K false ()) ∧ ((!((List.getD x.1 d3.2.toNat []) == (List.getD x.2 d3.2.toNat []))) = false → J5 d3.1))) (fun d6 => J4 (d6, (i64.wrap (d3.2 + (1 : Int)))))) ∧ ((decide (d3.2 < (x.1.length : Int))) = false → J1 d3.1)))) (fun d2 => K true ())))
theorem fn_gen_Strings {P} (h : Has P F_gen_Strings) {x K} (hw : W_gen_Strings P x K) : Fn P "mergelens/mergelensgen.Strings" S_gen_Strings x K :=
 fn_of (c := t_gen_Strings) h rfl rfl (by kernel_rfl) (Eq.mpr (show liftT P F_gen_Strings S_gen_Strings t_gen_Strings x K = _ by kernel_rfl) hw)
def t_law01_ScanWords : TCode :=
 (.seq (.region [o1 4 (.asg kF)]) (.seq (.seq (.region [im 13 0, o1 14 (.lenS 13), o1 15 (.bin .gtr 14 (kI 60)), im 16 15, gf 17 16 (.mv 1), gf 18 16 (.lenK 17), gf 19 16 (.bin .gtr
 18 (kI 5)), o1 20 (.pick 16 kT 19)]) (.cond 20 (.seq (.region [oS ⟨some 21, .call "mergelens/mergelenslaw01.awake" [], none⟩ S_law01_awake, ia 4 21]) .ret) .skip)) (.seq (.region
 [o1 5 (.asg (.c (.string ⟨#[]⟩)))]) (.seq (.seq (.region [ia 6 (kI 0)]) (.frame (rg [4, 5, 6] 22 24) [] false (.join [.sl 4 false .bool .leaf, .sl 5 false .str .leaf] (.block 0
 (.loop [.sl 4 false .bool .leaf, .sl 5 false .str .leaf, .si 6] (.seq (.seq (.region [im 22 6, im 23 1, o1 24 (.lenK 23), o1 25 (.bin .lss 22 24)]) (.cond 25 .skip (.exit 0)))
 (.seq (.frame (rg [4, 5] 28 18) [] false (.join [.sl 4 false .bool .leaf, .sl 5 false .str .leaf] (.block 1 (.seq (.seq (.region [im 28 1, im 29 6, o1 30 (.ixA 1 28 29), ld 31 30,
 o1 32 (.lenS 31), o1 33 (.bin .gtr 32 (kI 30))]) (.cond 33 (.seq (.region [oS ⟨some 34, .call "mergelens/mergelenslaw01.awake" [], none⟩ S_law01_awake, ia 4 34]) .ret) .skip))
 (.seq (.seq (.region [im 35 6, o1 36 (.bin .gtr 35 (kI 0))]) (.frame [5, 37, 38] [] false (.join [.sl 5 false .str .leaf] (.cond 36 (.region [im 37 5, o1 38 (.bin .add 37 (.c
 (.string ⟨#[32]⟩))), ia 5 38]) .skip)))) (.region [im 39 5, im 40 1, im 41 6, o1 42 (.ixA 1 40 41), ld 43 42, oS ⟨some 44, .call "mergelens/mergelensref01.Quote" [43], none⟩
 S_ref01_Quote, o1 45 (.bin .add 39 44), ia 5 45])))))) (.region [im 26 6, o1 27 (.bin .add 26 (kI 1)), ia 6 27])))))))) (.seq (.region [im 47 0, oS ⟨some 48, .call
 "mergelens/scan.Words" [47], none⟩ S_scan_Words, im 46 48, o1 49 (.ext 46 0), o1 50 (.ext 46 1), ia 7 49, ia 8 50]) (.seq (.region [im 52 0, oS ⟨some 53, .call
 "mergelens/mergelensref01.Words" [52], none⟩ S_ref01_Words, im 51 53, o1 54 (.ext 51 0), o1 55 (.ext 51 1), ia 9 54, ia 10 55]) (.seq (.region [im 57 5, oS ⟨some 58, .call
 "mergelens/scan.Words" [57], none⟩ S_scan_Words, im 56 58, o1 59 (.ext 56 0), o1 60 (.ext 56 1), ia 11 59, ia 12 60]) (.seq (.region [im 61 7, im 62 9, oS ⟨some 63, .call
 "mergelens/mergelensgen.Strings" [61, 62], none⟩ S_gen_Strings, im 64 63, gt 65 64 (.mv 8), gt 66 64 (.mv 10), gt 67 64 (.eqB false 65 66), o1 68 (.pick 64 67 kF), im 69 68, gt 70
 69 (.mv 12), o1 71 (.pick 69 70 kF), im 72 71, gt 73 72 (.mv 11), gt 74 72 (.mv 1), oS ⟨some 75, .call "mergelens/mergelensgen.Strings" [73, 74], some (72, true)⟩ S_gen_Strings, o1
 76 (.pick 72 75 kF), im 77 76, oS ⟨some 78, .call "mergelens/mergelenslaw01.awake" [], some (77, true)⟩ S_law01_awake, o1 79 (.pick 77 78 kF), ia 4 79]) .ret))))))))
def F_law01_ScanWords : AFn := ⟨ "mergelens/mergelenslaw01.ScanWords", t_law01_ScanWords.erase, [.tmp 4], 2⟩
def W_law01_ScanWords (P : Program) (x : ((List UInt8) × (List (List UInt8)))) (K : Bool → Unit → Prop) : Prop :=
 (((cond (decide ((x.1.length : Int) > (60 : Int))) true (decide ((x.2.length : Int) > (5 : Int)))) = true → Fn P "mergelens/mergelenslaw01.awake" S_law01_awake () (fun (d1 : Bool) (e2 : Unit) => K d1 ())) ∧ ((cond (decide ((x.1.length : Int) > (60 : Int))) true (decide ((x.2.length : Int) > (5 : Int)))) = false → JoinW (D := (Bool × (List UInt8))) (fun J3 => LoopW (D := (Bool × ((List UInt8) × Int))) (false, (([] : List UInt8), (0 : Int))) (fun d5 J6 => (((decide (d5.2.2 < (x.2.length : Int))) = true → JoinW (D := (Bool × (List UInt8))) (fun J7 => (0 ≤ d5.2.2 ∧ d5.2.2 < (x.2.length : Int)) ∧
 (d5.2.2.toNat < x.2.length) ∧
 (((decide (((List.length (List.getD x.2 d5.2.2.toNat []) : Nat) : Int) > (30 : Int))) = true → Fn P "mergelens/mergelenslaw01.awake" S_law01_awake () (fun (d9 : Bool) (e10 : Unit) => K d9 ())) ∧ ((decide (((List.length (List.getD x.2 d5.2.2.toNat []) : Nat) : Int) > (30 : Int))) = false → JoinW (D := (List UInt8)) (fun J11 => (((decide (d5.2.2 > (0 : Int))) = true → (d5.2.1.length + List.length ([32] : List UInt8) ≤ 9223372036854775807) ∧
 J11 (d5.2.1 ++ ([32] : List UInt8))) ∧ ((decide (d5.2.2 > (0 : Int))) = false → J11 d5.2.1))) (fun d12 => (0 ≤ d5.2.2 ∧ d5.2.2 < (x.2.length : Int)) ∧
 (d5.2.2.toNat < x.2.length) ∧
 Fn P "mergelens/mergelensref01.Quote" S_ref01_Quote (List.getD x.2 d5.2.2.toNat []) (fun (d13 : (List UInt8)) (e14 : Unit) => (d12.length + d13.length ≤ 9223372036854775807) ∧
 J7 (d5.1, (d12 ++ d13))))))) (fun d8 => J6 (d8.1, (d8.2, (i64.wrap (d5.2.2 + (1 : Int))))))) ∧ ((decide (d5.2.2 < (x.2.length : Int))) = false → J3 (d5.1, d5.2.1))))) (fun d4 => Fn P "mergelens/scan.Words" S_scan_Words x.1 (fun (d15 : ((List (List UInt8)) × Bool)) (e16 : Unit) => Fn P "mergelens/mergelensref01.Words" S_ref01_Words x.1 (fun (d17 : ((List (List UInt8)) × Bool)) (e18 : Unit) => Fn P "mergelens/scan.Words" S_scan_Words d4.2 (fun (d19 : ((List (List UInt8)) × Bool)) (e20 : Unit) => Fn P "mergelens/mergelensgen.Strings" S_gen_Strings (d15.1, d17.1) (fun (d21 : Bool) (e22 : Unit) => JoinW (D := Bool) (fun J23 => (((cond (cond d21 (d15.2 == d17.2) false) d19.2 false) = true → Fn P "mergelens/mergelensgen.Strings" S_gen_Strings (d19.1, x.2) (fun (d24 : Bool) _ => J23 d24)) ∧ (((cond (cond d21 (d15.2 == d17.2) false) d19.2 false) = false → J23 false) ∧ True))) (fun d25 => JoinW (D := Bool) (fun J26 => (((cond (cond (cond d21 (d15.2 == d17.2) false) d19.2 false) d25 false) = true → Fn P "mergelens/mergelenslaw01.awake" S_law01_awake () (fun (d27 : Bool) _ => J26 d27)) ∧ (((cond (cond (cond d21 (d15.2 == d17.2) false) d19.2 false) d25 false) = false → J26 false) ∧ True))) (fun d28 => K (cond (cond (cond (cond d21 (d15.2 == d17.2) false) d19.2 false) d25 false) d28 false) ())))))))))
theorem fn_law01_ScanWords {P} (h : Has P F_law01_ScanWords) {x K} (hw : W_law01_ScanWords P x K) : Fn P "mergelens/mergelenslaw01.ScanWords" S_law01_ScanWords x K :=
 fn_of (c := t_law01_ScanWords) h rfl rfl (by kernel_rfl) (Eq.mpr (show liftT P F_law01_ScanWords S_law01_ScanWords t_law01_ScanWords x K = _ by kernel_rfl) hw)
def t_gen_Mod : TCode :=
 (.seq (.region [ia 4 (kI 0)]) (.seq (.region [im 5 0, o1 6 (.conv (.toInt .u64) 5), im 7 1, o1 8 (.conv (.toInt .u64) 7), o1 9 (.bin .rem 6 8), o1 10 (.conv (.toInt .i64) 9), ia 4
 10]) .ret))
def F_gen_Mod : AFn := ⟨ "mergelens/mergelensgen.Mod", t_gen_Mod.erase, [.tmp 4], 2⟩
def W_gen_Mod (P : Program) (x : (Int × Int)) (K : Int → Unit → Prop) : Prop :=
 ((u64.wrap x.2) ≠ 0) ∧
 K (i64.wrap (Int.tmod (u64.wrap x.1) (u64.wrap x.2))) ()
theorem fn_gen_Mod {P} (h : Has P F_gen_Mod) {x K} (hw : W_gen_Mod P x K) : Fn P "mergelens/mergelensgen.Mod" S_gen_Mod x K :=
 fn_of (c := t_gen_Mod) h rfl rfl (by kernel_rfl) (Eq.mpr (show liftT P F_gen_Mod S_gen_Mod t_gen_Mod x K = _ by kernel_rfl) hw)
def t_scan_escaped : TCode :=
 (.seq (.region [o1 2 (.asg (.c (.string ⟨#[]⟩)))]) (.seq (.frame (rg [] 2 37) [] false (.join [.sl 2 false .str .leaf] (.block 0 (.seq (.region [im 4 0, o1 5 (.bin .eql 4 (.c (.int
 .u8 34))), im 6 5, gf 7 6 (.mv 0), gf 8 6 (.bin .eql 7 (.c (.int .u8 92))), o1 9 (.pick 6 kT 8), ia 3 9]) (.cond 3 (.seq (.region [im 10 0, o1 11 (.conv .ofInt 10), o1 12 (.bin
 .add (.c (.string ⟨#[92]⟩)) 11), ia 2 12]) .ret) (.seq (.region [im 14 0, o1 15 (.bin .eql 14 (.c (.int .u8 10))), ia 13 15]) (.cond 13 (.seq (.region [o1 2 (.asg (.c (.string
 ⟨#[92, 110]⟩)))]) .ret) (.seq (.region [im 17 0, o1 18 (.bin .eql 17 (.c (.int .u8 9))), ia 16 18]) (.cond 16 (.seq (.region [o1 2 (.asg (.c (.string ⟨#[92, 116]⟩)))]) .ret) (.seq
 (.region [im 20 0, o1 21 (.bin .lss 20 (.c (.int .u8 32))), im 22 21, gf 23 22 (.mv 0), gf 24 22 (.bin .gtr 23 (.c (.int .u8 126))), o1 25 (.pick 22 kT 24), ia 19 25]) (.cond 19
 (.seq (.region [im 26 0, o1 27 (.bin .shr 26 (.c (.int .u64 6))), o1 28 (.bin .add (.c (.int .u8 48)) 27), im 29 0, o1 30 (.bin .shr 29 (.c (.int .u64 3))), o1 31 (.bin .and 30 (.c
 (.int .u8 7))), o1 32 (.bin .add (.c (.int .u8 48)) 31), im 33 0, o1 34 (.bin .and 33 (.c (.int .u8 7))), o1 35 (.bin .add (.c (.int .u8 48)) 34), oT ⟨some 36, .buildSl 1 [(.int
 .u8 0)] 3 [(0, 28), (1, 32), (2, 35)], none⟩ (some ((.int .u8), .leaf)), o1 37 (.conv .bytesToStr 36), o1 38 (.bin .add (.c (.string ⟨#[92]⟩)) 37), ia 2 38]) .ret) .skip)))))))))))
 (.seq (.region [im 39 0, o1 40 (.conv .ofInt 39), ia 2 40]) .ret)))
def F_scan_escaped : AFn := ⟨ "mergelens/scan.escaped", t_scan_escaped.erase, [.tmp 2], 1⟩
def W_scan_escaped (P : Program) (x : Int) (K : (List UInt8) → Unit → Prop) : Prop :=
 JoinW (D := (List UInt8)) (fun J1 => (((cond (x == (34 : Int)) true (x == (92 : Int))) = true → (List.length ([92] : List UInt8) + List.length (encL x) ≤ 9223372036854775807) ∧
 K (([92] : List UInt8) ++ (encL x)) ()) ∧ ((cond (x == (34 : Int)) true (x == (92 : Int))) = false → (((x == (10 : Int)) = true → K ([92, 110] : List UInt8) ()) ∧ ((x == (10 : Int)) = false → (((x == (9 : Int)) = true → K ([92, 116] : List UInt8) ()) ∧ ((x == (9 : Int)) = false → (((cond (decide (x < (32 : Int))) true (decide (x > (126 : Int)))) = true → (0 ≤ (6 : Int)) ∧
 (0 ≤ (3 : Int)) ∧
 (List.length ([92] : List UInt8) + List.length (strOf ([(u8.wrap ((48 : Int) + (Int.fdiv x (2 ^ (min (Int.toNat (6 : Int)) u8.bits))))), (u8.wrap ((48 : Int) + (u8.wrap ((BitVec.toNat (BitVec.ofInt u8.bits (Int.fdiv x (2 ^ (min (Int.toNat (3 : Int)) u8.bits))) &&& BitVec.ofInt u8.bits (7 : Int)) : Nat) : Int)))), (u8.wrap ((48 : Int) + (u8.wrap ((BitVec.toNat (BitVec.ofInt u8.bits x &&& BitVec.ofInt u8.bits (7 : Int)) : Nat) : Int))))] : List Int)) ≤ 9223372036854775807) ∧
 K (([92] : List UInt8) ++ (strOf ([(u8.wrap ((48 : Int) + (Int.fdiv x (2 ^ (min (Int.toNat (6 : Int)) u8.bits))))), (u8.wrap ((48 : Int) + (u8.wrap ((BitVec.toNat (BitVec.ofInt u8.bits (Int.fdiv x (2 ^ (min (Int.toNat (3 : Int)) u8.bits))) &&& BitVec.ofInt u8.bits (7 : Int)) : Nat) : Int)))), (u8.wrap ((48 : Int) + (u8.wrap ((BitVec.toNat (BitVec.ofInt u8.bits x &&& BitVec.ofInt u8.bits (7 : Int)) : Nat) : Int))))] : List Int))) ()) ∧ ((cond (decide (x < (32 : Int))) true (decide (x > (126 : Int)))) = false → J1 ([] : List UInt8)))))))))) (fun d2 => K (encL x) ())
theorem fn_scan_escaped {P} (h : Has P F_scan_escaped) {x K} (hw : W_scan_escaped P x K) : Fn P "mergelens/scan.escaped" S_scan_escaped x K :=
 fn_of (c := t_scan_escaped) h rfl rfl (by kernel_rfl) (Eq.mpr (show liftT P F_scan_escaped S_scan_escaped t_scan_escaped x K = _ by kernel_rfl) hw)
end Go.VS
