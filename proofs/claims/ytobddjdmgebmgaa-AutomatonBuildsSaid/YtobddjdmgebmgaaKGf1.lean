/- Functions of the program: typed code, and what it says, lifted. -/
import Derived.Test.YtobddjdmgebmgaaKTxSig
import Derived.KernelRfl
set_option linter.unusedVariables false
set_option linter.unusedSimpArgs false
namespace Go.VS
open IntKind
def t_gen_Pattern : TCode :=
 (.seq (.region [o1 4 (.asg (.c (.string ⟨#[]⟩)))]) (.seq (.region [oT ⟨some 9, .buildSl 1 [(.string ⟨#[]⟩)] 14 [(0, (.c (.string ⟨#[97]⟩))), (1, (.c (.string ⟨#[98]⟩))), (2, (.c
 (.string ⟨#[46]⟩))), (3, (.c (.string ⟨#[91, 97, 98, 93]⟩))), (4, (.c (.string ⟨#[91, 94, 97, 93]⟩))), (5, (.c (.string ⟨#[40, 97, 124, 98, 41]⟩))), (6, (.c (.string ⟨#[40, 97, 98,
 41]⟩))), (7, (.c (.string ⟨#[91, 91, 58, 97, 108, 112, 104, 97, 58, 93, 120, 93]⟩))), (8, (.c (.string ⟨#[92, 43]⟩))), (9, (.c (.string ⟨#[40, 41]⟩))), (10, (.c (.string ⟨#[40, 98,
 124, 41]⟩))), (11, (.c (.string ⟨#[91, 97, 45, 99, 93]⟩))), (12, (.c (.string ⟨#[93]⟩))), (13, (.c (.string ⟨#[120]⟩)))], none⟩ (some (.str, .leaf)), ia 5 9]) (.seq (.region [oT
 ⟨some 10, .buildSl 1 [(.string ⟨#[]⟩)] 10 [(0, (.c (.string ⟨#[]⟩))), (1, (.c (.string ⟨#[]⟩))), (2, (.c (.string ⟨#[]⟩))), (3, (.c (.string ⟨#[42]⟩))), (4, (.c (.string
 ⟨#[43]⟩))), (5, (.c (.string ⟨#[63]⟩))), (6, (.c (.string ⟨#[123, 50, 125]⟩))), (7, (.c (.string ⟨#[123, 49, 44, 50, 125]⟩))), (8, (.c (.string ⟨#[123, 48, 44, 49, 125]⟩))), (9,
 (.c (.string ⟨#[123, 50, 44, 125]⟩)))], none⟩ (some (.str, .leaf)), ia 6 10]) (.seq (.region [o1 7 (.asg (.c (.string ⟨#[]⟩)))]) (.seq (.seq (.region [im 11 0, oS ⟨some 12, .call
 "mergelens/mergelensgen.At" [11, (kI 1)], none⟩ S_gen_At, o1 13 (.bin .rem 12 (kI 5)), o1 14 (.bin .eql 13 (kI 0))]) (.frame [7] [] false (.join [.sl 7 false .str .leaf] (.cond 14
 (.region [o1 7 (.asg (.c (.string ⟨#[94]⟩)))]) .skip)))) (.seq (.seq (.region [ia 8 (kI 0)]) (.frame (rg [7, 8] 15 33) [] false (.join [.sl 7 false .str .leaf] (.block 0 (.loop
 [.sl 7 false .str .leaf, .si 8] (.seq (.seq (.region [im 15 8, im 16 1, oS ⟨some 17, .call "mergelens/mergelensgen.Mod" [16, (kI 8)], none⟩ S_gen_Mod, o1 18 (.bin .lss 15 17)])
 (.cond 18 .skip (.exit 0))) (.seq (.frame (rg [7] 21 27) [] false (.join [.sl 7 false .str .leaf] (.block 1 (.seq (.frame (rg [7] 21 19) [] false (.join [.sl 7 false .str .leaf]
 (.draw [(.first (im 21 7) (.first (im 22 5) (.first (im 23 0) (.first (im 24 8) (.first (o1 25 (.bin .add (kI 10) 24)) (.first (im 31 6) (.first (im 32 0) (.first (im 33 8) (.first
 (o1 34 (.bin .add (kI 30) 33)) (.alt (oS ⟨some 26, .call "mergelens/mergelensgen.At" [23, 25], none⟩ S_gen_At) (.alt (oS ⟨some 27, .call "mergelens/mergelensgen.Mod" [26, (kI 14)],
 none⟩ S_gen_Mod) (.first (o1 28 (.ixA 1 22 27)) (.alt (ld 29 28) (.first (o1 30 (.bin .add 21 29)) (.alt (oS ⟨some 35, .call "mergelens/mergelensgen.At" [32, 34], none⟩ S_gen_At)
 (.alt (oS ⟨some 36, .call "mergelens/mergelensgen.Mod" [35, (kI 10)], none⟩ S_gen_Mod) (.first (o1 37 (.ixA 1 31 36)) (.first (ld 38 37) (.first (o1 39 (.bin .add 30 38)) (.alt (ia
 7 39) .done .stop)))) .stop) .stop)) (.alt (oS ⟨some 35, .call "mergelens/mergelensgen.At" [32, 34], none⟩ S_gen_At) (.alt (ld 29 28) (.first (o1 30 (.bin .add 21 29)) (.alt (oS
 ⟨some 36, .call "mergelens/mergelensgen.Mod" [35, (kI 10)], none⟩ S_gen_Mod) (.first (o1 37 (.ixA 1 31 36)) (.first (ld 38 37) (.first (o1 39 (.bin .add 30 38)) (.alt (ia 7 39)
 .done .stop)))) .stop)) (.alt (oS ⟨some 36, .call "mergelens/mergelensgen.Mod" [35, (kI 10)], none⟩ S_gen_Mod) (.first (ld 29 28) (.first (o1 30 (.bin .add 21 29)) (.first (o1 37
 (.ixA 1 31 36)) (.first (ld 38 37) (.first (o1 39 (.bin .add 30 38)) (.alt (ia 7 39) .done .stop)))))) .stop)) .stop))) .stop) .stop))))))))))]))) (.seq (.region [im 40 0, im 41 8,
 o1 42 (.bin .add (kI 50) 41), oS ⟨some 43, .call "mergelens/mergelensgen.At" [40, 42], none⟩ S_gen_At, o1 44 (.bin .rem 43 (kI 6)), o1 45 (.bin .eql 44 (kI 0))]) (.frame [7, 46,
 47] [] false (.join [.sl 7 false .str .leaf] (.cond 45 (.region [im 46 7, o1 47 (.bin .add 46 (.c (.string ⟨#[124]⟩))), ia 7 47]) .skip)))))))) (.region [im 19 8, o1 20 (.bin .add
 19 (kI 1)), ia 8 20])))))))) (.seq (.seq (.region [im 48 0, oS ⟨some 49, .call "mergelens/mergelensgen.At" [48, (kI 2)], none⟩ S_gen_At, o1 50 (.bin .rem 49 (kI 5)), o1 51 (.bin
 .eql 50 (kI 0))]) (.frame [7, 52, 53] [] false (.join [.sl 7 false .str .leaf] (.cond 51 (.region [im 52 7, o1 53 (.bin .add 52 (.c (.string ⟨#[36]⟩))), ia 7 53]) .skip)))) (.seq
 (.region [im 54 7, ia 4 54]) .ret))))))))
def F_gen_Pattern : AFn := ⟨ "mergelens/mergelensgen.Pattern", t_gen_Pattern.erase, [.tmp 4], 2⟩
abbrev q0_gen_Pattern : List (List UInt8) := ([([97] : List UInt8), ([98] : List UInt8), ([46] : List UInt8), ([91, 97, 98, 93] : List UInt8), ([91, 94, 97, 93] : List UInt8), ([40, 97, 124, 98, 41] : List UInt8), ([40, 97, 98, 41] : List UInt8), ([91, 91, 58, 97, 108, 112, 104, 97, 58, 93, 120, 93] : List UInt8), ([92, 43] : List UInt8), ([40, 41] : List UInt8), ([40, 98, 124, 41] : List UInt8), ([91, 97, 45, 99, 93] : List UInt8), ([93] : List UInt8), ([120] : List UInt8)] : List (List UInt8))
abbrev q1_gen_Pattern : List (List UInt8) := ([([] : List UInt8), ([] : List UInt8), ([] : List UInt8), ([42] : List UInt8), ([43] : List UInt8), ([63] : List UInt8), ([123, 50, 125] : List UInt8), ([123, 49, 44, 50, 125] : List UInt8), ([123, 48, 44, 49, 125] : List UInt8), ([123, 50, 44, 125] : List UInt8)] : List (List UInt8))
def W_gen_Pattern (P : Program) (x : ((List Int) × Int)) (K : (List UInt8) → Unit → Prop) : Prop :=
 Fn P "mergelens/mergelensgen.At" S_gen_At (x.1, (1 : Int)) (fun (d1 : Int) (e2 : Unit) => ((5 : Int) ≠ 0) ∧
 JoinW (D := (List UInt8)) (fun J3 => ((((Int.tmod d1 (5 : Int)) == (0 : Int)) = true → J3 ([94] : List UInt8)) ∧ (((Int.tmod d1 (5 : Int)) == (0 : Int)) = false → J3 ([] : List UInt8)))) (fun d4 => JoinW (D := (List UInt8)) (fun J5 => LoopW (D := ((List UInt8) × Int)) (d4, (0 : Int)) (fun d7 J8 => Fn P "mergelens/mergelensgen.Mod" S_gen_Mod (x.2, (8 : Int)) (fun (d9 : Int) (e10 : Unit) => (((decide (d7.2 < d9)) = true → JoinW (D := (List UInt8)) (fun J11 => JoinW (D := (List UInt8)) (fun J13 => (Fn P "mergelens/mergelensgen.At" S_gen_At (x.1, (i64.wrap ((10 : Int) + d7.2))) (fun (d15 : Int) (e16 : Unit) => (Fn P "mergelens/mergelensgen.Mod" S_gen_Mod (d15, (14 : Int)) (fun (d17 : Int) (e18 : Unit) => (0 ≤ d17 ∧ d17 < ((List.length q0_gen_Pattern : Nat) : Int)) ∧
 ((d17.toNat < List.length q0_gen_Pattern) ∧
 (d7.1.length + List.length (List.getD q0_gen_Pattern d17.toNat []) ≤ 9223372036854775807) ∧
 (Fn P "mergelens/mergelensgen.At" S_gen_At (x.1, (i64.wrap ((30 : Int) + d7.2))) (fun (d19 : Int) (e20 : Unit) => (Fn P "mergelens/mergelensgen.Mod" S_gen_Mod (d19, (10 : Int)) (fun (d21 : Int) (e22 : Unit) => (0 ≤ d21 ∧ d21 < ((List.length q1_gen_Pattern : Nat) : Int)) ∧
 (d21.toNat < List.length q1_gen_Pattern) ∧
 (List.length (d7.1 ++ (List.getD q0_gen_Pattern d17.toNat [])) + List.length (List.getD q1_gen_Pattern d21.toNat []) ≤ 9223372036854775807) ∧
 (J13 ((d7.1 ++ (List.getD q0_gen_Pattern d17.toNat [])) ++ (List.getD q1_gen_Pattern d21.toNat []))) ∧ True)) ∧ True)) ∧ True) ∧ ((Fn P "mergelens/mergelensgen.At" S_gen_At (x.1, (i64.wrap ((30 : Int) + d7.2))) (fun (d23 : Int) (e24 : Unit) => ((d17.toNat < List.length q0_gen_Pattern) ∧
 (d7.1.length + List.length (List.getD q0_gen_Pattern d17.toNat []) ≤ 9223372036854775807) ∧
 (Fn P "mergelens/mergelensgen.Mod" S_gen_Mod (d23, (10 : Int)) (fun (d25 : Int) (e26 : Unit) => (0 ≤ d25 ∧ d25 < ((List.length q1_gen_Pattern : Nat) : Int)) ∧
 (d25.toNat < List.length q1_gen_Pattern) ∧
 (List.length (d7.1 ++ (List.getD q0_gen_Pattern d17.toNat [])) + List.length (List.getD q1_gen_Pattern d25.toNat []) ≤ 9223372036854775807) ∧
 (J13 ((d7.1 ++ (List.getD q0_gen_Pattern d17.toNat [])) ++ (List.getD q1_gen_Pattern d25.toNat []))) ∧ True)) ∧ True) ∧ ((Fn P "mergelens/mergelensgen.Mod" S_gen_Mod (d23, (10 : Int)) (fun (d27 : Int) (e28 : Unit) => (d17.toNat < List.length q0_gen_Pattern) ∧
 (d7.1.length + List.length (List.getD q0_gen_Pattern d17.toNat []) ≤ 9223372036854775807) ∧
 (0 ≤ d27 ∧ d27 < ((List.length q1_gen_Pattern : Nat) : Int)) ∧
 (d27.toNat < List.length q1_gen_Pattern) ∧
 (List.length (d7.1 ++ (List.getD q0_gen_Pattern d17.toNat [])) + List.length (List.getD q1_gen_Pattern d27.toNat []) ≤ 9223372036854775807) ∧
 (J13 ((d7.1 ++ (List.getD q0_gen_Pattern d17.toNat [])) ++ (List.getD q1_gen_Pattern d27.toNat []))) ∧ True)) ∧ True))) ∧ True))) ∧ True)) ∧ True) (fun d14 => Fn P "mergelens/mergelensgen.At" S_gen_At (x.1, (i64.wrap ((50 : Int) + d7.2))) (fun (d29 : Int) (e30 : Unit) => ((6 : Int) ≠ 0) ∧
 JoinW (D := (List UInt8)) (fun J31 => ((((Int.tmod d29 (6 : Int)) == (0 : Int)) = true → (d14.length + List.length ([124] : List UInt8) ≤ 9223372036854775807) ∧
 J31 (d14 ++ ([124] : List UInt8))) ∧ (((Int.tmod d29 (6 : Int)) == (0 : Int)) = false → J31 d14))) (fun d32 => J11 d32)))) (fun d12 => J8 (d12, (i64.wrap (d7.2 + (1 : Int)))))) ∧ ((decide (d7.2 < d9)) = false → J5 d7.1))))) (fun d6 => Fn P "mergelens/mergelensgen.At" S_gen_At (x.1, (2 : Int)) (fun (d33 : Int) (e34 : Unit) => ((5 : Int) ≠ 0) ∧
 JoinW (D := (List UInt8)) (fun J35 => ((((Int.tmod d33 (5 : Int)) == (0 : Int)) = true → (d6.length + List.length ([36] : List UInt8) ≤ 9223372036854775807) ∧
 J35 (d6 ++ ([36] : List UInt8))) ∧ (((Int.tmod d33 (5 : Int)) == (0 : Int)) = false → J35 d6))) (fun d36 => K d36 ())))))
theorem fn_gen_Pattern {P} (h : Has P F_gen_Pattern) {x K} (hw : W_gen_Pattern P x K) : Fn P "mergelens/mergelensgen.Pattern" S_gen_Pattern x K :=
 fn_of (c := t_gen_Pattern) h rfl rfl (by kernel_rfl) (Eq.mpr (show liftT P F_gen_Pattern S_gen_Pattern t_gen_Pattern x K = _ by kernel_rfl) hw)
def t_regex_weight : TCode :=
 (.seq (.region [o1 2 (.box 0), ia 4 (kI 0)]) (.seq (.region [ia 5 (kI 0)]) (.seq (.seq (.region [fa 8 7 2, ld 9 8, o1 10 (.lenK 9), o1 11 (.mv (kI 0))]) (.frame (rg [5, 7] 11 12)
 [] false (.join [.si 5] (.block 0 (.loop [.si 5, .si 11] (.seq (.region [o1 12 (.bin .lss 11 10)]) (.seq (.cond 12 .skip (.exit 0)) (.seq (.frame (rg [5, 7] 13 9) [] false (.join
 [.si 5] (.block 1 (.seq (.region [o1 13 (.ixA 1 9 11), ld 14 13, ia 7 14]) (.region [im 15 5, im 16 1, im 17 7, o1 18 (.ixA 1 16 17), ld 19 18, o1 20 (.bin .add 15 19), o1 21 (.mm
 false 20 (kI 4001)), ia 5 21]))))) (.region [o1 22 (.bin .add 11 (kI 1)), im 11 22]))))))))) (.seq (.seq (.region [fa 23 0 2, ld 24 23]) (.frame (rg [4] 25 39) [] false (.join [.si
 4] (.block 2 (.seq (.region [o1 26 (.bin .eql 24 (kI 4)), ia 25 26]) (.cond 25 (.seq (.region [im 27 5, ia 4 27]) .ret) (.seq (.region [o1 29 (.bin .eql 24 (kI 5)), ia 28 29])
 (.cond 28 (.seq (.region [im 30 5, fa 31 7 2, ld 32 31, o1 33 (.lenK 32), o1 34 (.bin .add 30 33), o1 35 (.bin .sub 34 (kI 1)), o1 36 (.mm false 35 (kI 4001)), ia 4 36]) .ret)
 (.seq (.region [o1 38 (.bin .eql 24 (kI 6)), ia 37 38]) (.cond 37 (.seq (.seq (.region [fa 39 6 2, ld 40 39, o1 41 (.bin .lss 40 (kI 0))]) (.cond 41 (.seq (.region [fa 42 5 2, ld
 43 42, im 44 5, o1 45 (.bin .mul 43 44), im 46 5, o1 47 (.bin .add 45 46), o1 48 (.bin .add 47 (kI 1)), o1 49 (.mm false 48 (kI 4001)), ia 4 49]) .ret) .skip)) (.seq (.region [fa
 50 5 2, ld 51 50, im 52 5, o1 53 (.bin .mul 51 52), fa 54 6 2, ld 55 54, fa 56 5 2, ld 57 56, o1 58 (.bin .sub 55 57), im 59 5, o1 60 (.bin .add 59 (kI 1)), o1 61 (.bin .mul 58
 60), o1 62 (.bin .add 53 61), o1 63 (.mm false 62 (kI 4001)), ia 4 63]) .ret)) .skip)))))))))) (.seq (.region [ia 4 (kI 1)]) .ret)))))
def F_regex_weight : AFn := ⟨ "mergelens/regex.weight", t_regex_weight.erase, [.tmp 4], 2⟩
def W_regex_weight (P : Program) (x : (Node × (List Int))) (K : Int → Unit → Prop) : Prop :=
 JoinW (D := Int) (fun J1 => LoopW (D := (Int × Int)) ((0 : Int), (0 : Int)) (fun d3 J4 => (((decide (d3.2 < (x.1.2.2.2.2.length : Int))) = true → JoinW (D := Int) (fun J5 => (0 ≤ d3.2 ∧ d3.2 < (x.1.2.2.2.2.length : Int)) ∧
 (d3.2.toNat < x.1.2.2.2.2.length) ∧
 (0 ≤ (List.getD x.1.2.2.2.2 d3.2.toNat (0 : Int)) ∧ (List.getD x.1.2.2.2.2 d3.2.toNat (0 : Int)) < (x.2.length : Int)) ∧
 ((Int.toNat (List.getD x.1.2.2.2.2 d3.2.toNat (0 : Int))) < x.2.length) ∧
 J5 (if (4001 : Int) < (i64.wrap (d3.1 + (List.getD x.2 (Int.toNat (List.getD x.1.2.2.2.2 d3.2.toNat (0 : Int))) (0 : Int)))) then (4001 : Int) else (i64.wrap (d3.1 + (List.getD x.2 (Int.toNat (List.getD x.1.2.2.2.2 d3.2.toNat (0 : Int))) (0 : Int)))))) (fun d6 => J4 (d6, (i64.wrap (d3.2 + (1 : Int)))))) ∧ ((decide (d3.2 < (x.1.2.2.2.2.length : Int))) = false → J1 d3.1)))) (fun d2 => JoinW (D := Int) (fun J7 => (((x.1.1 == (4 : Int)) = true → K d2 ()) ∧ ((x.1.1 == (4 : Int)) = false → (((x.1.1 == (5 : Int)) = true → K (if (4001 : Int) < (i64.wrap ((i64.wrap (d2 + (x.1.2.2.2.2.length : Int))) - (1 : Int))) then (4001 : Int) else (i64.wrap ((i64.wrap (d2 + (x.1.2.2.2.2.length : Int))) - (1 : Int)))) ()) ∧ ((x.1.1 == (5 : Int)) = false → (((x.1.1 == (6 : Int)) = true → (((decide (x.1.2.2.2.1 < (0 : Int))) = true → K (if (4001 : Int) < (i64.wrap ((i64.wrap ((i64.wrap (x.1.2.2.1 * d2)) + d2)) + (1 : Int))) then (4001 : Int) else (i64.wrap ((i64.wrap ((i64.wrap (x.1.2.2.1 * d2)) + d2)) + (1 : Int)))) ()) ∧ ((decide (x.1.2.2.2.1 < (0 : Int))) = false → K (if (4001 : Int) < (i64.wrap ((i64.wrap (x.1.2.2.1 * d2)) + (i64.wrap ((i64.wrap (x.1.2.2.2.1 - x.1.2.2.1)) * (i64.wrap (d2 + (1 : Int))))))) then (4001 : Int) else (i64.wrap ((i64.wrap (x.1.2.2.1 * d2)) + (i64.wrap ((i64.wrap (x.1.2.2.2.1 - x.1.2.2.1)) * (i64.wrap (d2 + (1 : Int)))))))) ()))) ∧ ((x.1.1 == (6 : Int)) = false → J7 (0 : Int)))))))) (fun d8 => K (1 : Int) ()))
theorem fn_regex_weight {P} (h : Has P F_regex_weight) {x K} (hw : W_regex_weight P x K) : Fn P "mergelens/regex.weight" S_regex_weight x K :=
 fn_of (c := t_regex_weight) h rfl rfl (by kernel_rfl) (Eq.mpr (show liftT P F_regex_weight S_regex_weight t_regex_weight x K = _ by kernel_rfl) hw)
def t_regex_Weights : TCode :=
 (.seq (.region [o1 2 (.asg (.c (.slice none 0 0)))]) (.seq (.region [im 6 0, o1 7 (.lenK 6), oT ⟨some 8, .mkSl 1 8 [(.int .i64 0)] 7 7, none⟩ (some (bI, .leaf)), ia 3 8]) (.seq
 (.seq (.region [im 9 0, o1 10 (.lenK 9), o1 11 (.mv (kI 0))]) (.frame (rg [3, 4, 5] 11 12) [1005] false (.join [.sl 3 false (.sl bI) tO] (.block 0 (.loop [.sl 3 false (.sl bI) tO,
 .si 11] (.seq (.region [o1 12 (.bin .lss 11 10)]) (.seq (.cond 12 .skip (.exit 0)) (.seq (.frame (rg [3, 4, 5] 13 9) [1005] false (.join [.sl 3 false (.sl bI) tO] (.block 1 (.seq
 (.region [im 13 11, o1 14 (.ixA 8 9 11), o1 15 (.load true 8 14), o1 5 (.alloc [(.int .i64 0), (.int .u64 0), (.int .u64 0), (.int .u64 0), (.int .u64 0), (.int .i64 0), (.int .i64
 0), (.slice none 0 0)]), ia 4 13, o0 ⟨none, .store 8 5 15, none⟩]) (.region [im 16 3, im 17 4, o1 18 (.load true 8 5), im 19 3, oS ⟨some 20, .call "mergelens/regex.weight" [18,
 19], none⟩ S_regex_weight, o1 21 (.ixA 1 16 17), o0 ⟨none, .store 1 21 20, none⟩]))))) (.region [o1 22 (.bin .add 11 (kI 1)), im 11 22]))))))))) (.seq (.region [im 23 3, ia 2 23])
 .ret))))
def F_regex_Weights : AFn := ⟨ "mergelens/regex.Weights", t_regex_Weights.erase, [.tmp 2], 1⟩
def W_regex_Weights (P : Program) (x : (List Node)) (K : (List Int) → Unit → Prop) : Prop :=
 (0 ≤ (x.length : Int) ∧ (x.length : Int) ≤ (x.length : Int) ∧ ((8 : Nat) : Int) * (x.length : Int) ≤ 281474976710656) ∧
 JoinW (D := (List Int)) (fun J1 => LoopW (D := ((List Int) × Int)) ((List.replicate (Int.toNat (x.length : Int)) (0 : Int)), (0 : Int)) (fun d3 J4 => (((decide (d3.2 < (x.length : Int))) = true → JoinW (D := (List Int)) (fun J5 => (0 ≤ d3.2 ∧ d3.2 < (x.length : Int)) ∧
 (d3.2.toNat < x.length) ∧
 Fn P "mergelens/regex.weight" S_regex_weight ((List.getD x d3.2.toNat zNode), d3.1) (fun (d7 : Int) (e8 : Unit) => (0 ≤ d3.2 ∧ d3.2 < (d3.1.length : Int)) ∧
 (d3.2.toNat < d3.1.length) ∧
 J5 (List.set d3.1 d3.2.toNat d7))) (fun d6 => J4 (d6, (i64.wrap (d3.2 + (1 : Int)))))) ∧ ((decide (d3.2 < (x.length : Int))) = false → J1 d3.1)))) (fun d2 => K d2 ())
theorem fn_regex_Weights {P} (h : Has P F_regex_Weights) {x K} (hw : W_regex_Weights P x K) : Fn P "mergelens/regex.Weights" S_regex_Weights x K :=
 fn_of (c := t_regex_Weights) h rfl rfl (by kernel_rfl) (Eq.mpr (show liftT P F_regex_Weights S_regex_Weights t_regex_Weights x K = _ by kernel_rfl) hw)
def t_regex_bounded : TCode :=
 (.seq (.region [o1 1 (.box 0), o1 2 (.asg kF)]) (.seq (.region [fa 3 5 1, ld 4 3, o1 5 (.bin .geq 4 (kI 0)), im 6 5, gt 7 6 (.fAddr 5 1), gt 8 6 (.load false 1 7), gt 9 6 (.bin
 .leq 8 (kI 100)), o1 10 (.pick 6 9 kF), im 11 10, gt 12 11 (.fAddr 6 1), gt 13 11 (.load false 1 12), gt 14 11 (.bin .eql 13 (kI (-1))), gt 15 11 (.mv 14), gf 16 15 (.fAddr 6 1),
 gf 17 15 (.load false 1 16), gf 18 15 (.fAddr 5 1), gf 19 15 (.load false 1 18), gf 20 15 (.bin .geq 17 19), gf 21 15 (.mv 20), gt 22 21 (.fAddr 6 1), gt 23 21 (.load false 1 22),
 gt 24 21 (.bin .leq 23 (kI 100)), gf 25 15 (.pick 21 24 kF), gt 26 11 (.pick 15 kT 25), o1 27 (.pick 11 26 kF), ia 2 27]) .ret))
def F_regex_bounded : AFn := ⟨ "mergelens/regex.bounded", t_regex_bounded.erase, [.tmp 2], 1⟩
def W_regex_bounded (P : Program) (x : Node) (K : Bool → Unit → Prop) : Prop :=
 K (cond (cond (decide (x.2.2.1 ≥ (0 : Int))) (decide (x.2.2.1 ≤ (100 : Int))) false) (cond (x.2.2.2.1 == (-1 : Int)) true (cond (decide (x.2.2.2.1 ≥ x.2.2.1)) (decide (x.2.2.2.1 ≤ (100 : Int))) false)) false) ()
theorem fn_regex_bounded {P} (h : Has P F_regex_bounded) {x K} (hw : W_regex_bounded P x K) : Fn P "mergelens/regex.bounded" S_regex_bounded x K :=
 fn_of (c := t_regex_bounded) h rfl rfl (by kernel_rfl) (Eq.mpr (show liftT P F_regex_bounded S_regex_bounded t_regex_bounded x K = _ by kernel_rfl) hw)
def t_regex_fits : TCode :=
 (.seq (.region [o1 2 (.box 0), o1 4 (.asg kF)]) (.seq (.seq (.region [fa 7 7 2, ld 8 7, o1 9 (.lenK 8), o1 10 (.mv (kI 0))]) (.frame (rg [4, 6] 10 12) [] false (.join [.sl 4 false
 .bool .leaf] (.block 0 (.loop [.sl 4 false .bool .leaf, .si 10] (.seq (.region [o1 11 (.bin .lss 10 9)]) (.seq (.cond 11 .skip (.exit 0)) (.seq (.frame (rg [4, 6] 12 9) [] false
 (.join [.sl 4 false .bool .leaf] (.block 1 (.seq (.region [o1 12 (.ixA 1 8 10), ld 13 12, ia 6 13]) (.seq (.region [im 14 6, o1 15 (.bin .lss 14 (kI 0)), im 16 15, gf 17 16 (.mv
 6), gf 18 16 (.mv 1), gf 19 16 (.bin .geq 17 18), o1 20 (.pick 16 kT 19)]) (.cond 20 (.seq (.region [o1 4 (.asg kF)]) .ret) .skip)))))) (.region [o1 21 (.bin .add 10 (kI 1)), im 10
 21]))))))))) (.seq (.seq (.region [fa 22 0 2, ld 23 22]) (.frame (rg [4] 24 26) [] false (.join [.sl 4 false .bool .leaf] (.block 2 (.seq (.seq (.region [o1 25 (.bin .eql 23 (kI
 0)), ia 24 25]) (.frame [24, 26, 27, 28] [] false (.join [.sl 24 false .bool .leaf] (.cond 24 .skip (.seq (.region [o1 26 (.bin .eql 23 (kI 1)), ia 24 26]) (.frame [24, 27, 28] []
 false (.join [.sl 24 false .bool .leaf] (.cond 24 .skip (.seq (.region [o1 27 (.bin .eql 23 (kI 2)), ia 24 27]) (.frame [24, 28] [] false (.join [.sl 24 false .bool .leaf] (.cond
 24 .skip (.region [o1 28 (.bin .eql 23 (kI 3)), ia 24 28]))))))))))))) (.cond 24 (.seq (.region [fa 29 7 2, ld 30 29, o1 31 (.lenK 30), o1 32 (.bin .eql 31 (kI 0)), ia 4 32]) .ret)
 (.seq (.seq (.region [o1 34 (.bin .eql 23 (kI 4)), ia 33 34]) (.frame [33, 35] [] false (.join [.sl 33 false .bool .leaf] (.cond 33 .skip (.region [o1 35 (.bin .eql 23 (kI 5)), ia
 33 35]))))) (.cond 33 (.seq (.region [fa 36 7 2, ld 37 36, o1 38 (.lenK 37), o1 39 (.bin .geq 38 (kI 2)), ia 4 39]) .ret) (.seq (.region [o1 41 (.bin .eql 23 (kI 6)), ia 40 41])
 (.cond 40 (.seq (.region [fa 42 7 2, ld 43 42, o1 44 (.lenK 43), o1 45 (.bin .eql 44 (kI 1)), im 46 45, gt 47 46 (.load true 8 2), oS ⟨some 48, .call "mergelens/regex.bounded"
 [47], some (46, true)⟩ S_regex_bounded, o1 49 (.pick 46 48 kF), ia 4 49]) .ret) .skip)))))))))) (.seq (.region [o1 4 (.asg kF)]) .ret))))
def F_regex_fits : AFn := ⟨ "mergelens/regex.fits", t_regex_fits.erase, [.tmp 4], 2⟩
def W_regex_fits (P : Program) (x : (Node × Int)) (K : Bool → Unit → Prop) : Prop :=
 JoinW (D := Bool) (fun J1 => LoopW (D := (Bool × Int)) (false, (0 : Int)) (fun d3 J4 => (((decide (d3.2 < (x.1.2.2.2.2.length : Int))) = true → JoinW (D := Bool) (fun J5 => (0 ≤ d3.2 ∧ d3.2 < (x.1.2.2.2.2.length : Int)) ∧
 (d3.2.toNat < x.1.2.2.2.2.length) ∧
 (((cond (decide ((List.getD x.1.2.2.2.2 d3.2.toNat (0 : Int)) < (0 : Int))) true (decide ((List.getD x.1.2.2.2.2 d3.2.toNat (0 : Int)) ≥ x.2))) = true → K false ()) ∧ ((cond (decide ((List.getD x.1.2.2.2.2 d3.2.toNat (0 : Int)) < (0 : Int))) true (decide ((List.getD x.1.2.2.2.2 d3.2.toNat (0 : Int)) ≥ x.2))) = false → J5 d3.1))) (fun d6 => J4 (d6, (i64.wrap (d3.2 + (1 : Int)))))) ∧ ((decide (d3.2 < (x.1.2.2.2.2.length : Int))) = false → J1 d3.1)))) (fun d2 => JoinW (D := Bool) (fun J7 => JoinW (D := Bool) (fun J9 => (((x.1.1 == (0 : Int)) = true → J9 (x.1.1 == (0 : Int))) ∧ ((x.1.1 == (0 : Int)) = false → JoinW (D := Bool) (fun J11 => (((x.1.1 == (1 : Int)) = true → J11 (x.1.1 == (1 : Int))) ∧ ((x.1.1 == (1 : Int)) = false → JoinW (D := Bool) (fun J13 => (((x.1.1 == (2 : Int)) = true → J13 (x.1.1 == (2 : Int))) ∧ ((x.1.1 == (2 : Int)) = false → J13 (x.1.1 == (3 : Int))))) (fun d14 => J11 d14)))) (fun d12 => J9 d12)))) (fun d10 => ((d10 = true → K ((x.1.2.2.2.2.length : Int) == (0 : Int)) ()) ∧ (d10 = false → JoinW (D := Bool) (fun J15 => (((x.1.1 == (4 : Int)) = true → J15 (x.1.1 == (4 : Int))) ∧ ((x.1.1 == (4 : Int)) = false → J15 (x.1.1 == (5 : Int))))) (fun d16 => ((d16 = true → K (decide ((x.1.2.2.2.2.length : Int) ≥ (2 : Int))) ()) ∧ (d16 = false → (((x.1.1 == (6 : Int)) = true → JoinW (D := Bool) (fun J17 => ((((x.1.2.2.2.2.length : Int) == (1 : Int)) = true → Fn P "mergelens/regex.bounded" S_regex_bounded x.1 (fun (d18 : Bool) _ => J17 d18)) ∧ ((((x.1.2.2.2.2.length : Int) == (1 : Int)) = false → J17 false) ∧ True))) (fun d19 => K (cond ((x.1.2.2.2.2.length : Int) == (1 : Int)) d19 false) ())) ∧ ((x.1.1 == (6 : Int)) = false → J7 d2))))))))) (fun d8 => K false ()))
theorem fn_regex_fits {P} (h : Has P F_regex_fits) {x K} (hw : W_regex_fits P x K) : Fn P "mergelens/regex.fits" S_regex_fits x K :=
 fn_of (c := t_regex_fits) h rfl rfl (by kernel_rfl) (Eq.mpr (show liftT P F_regex_fits S_regex_fits t_regex_fits x K = _ by kernel_rfl) hw)
def t_regex_Check : TCode :=
 (.seq (.region [ia 2 (kI 0)]) (.seq (.seq (.region [im 5 0, o1 6 (.lenK 5), o1 7 (.bin .eql 6 (kI 0)), im 8 7, gf 9 8 (.mv 0), gf 10 8 (.lenK 9), gf 11 8 (.bin .gtr 10 (kI 4000)),
 o1 12 (.pick 8 kT 11)]) (.cond 12 (.seq (.region [ia 2 (kI 2)]) .ret) .skip)) (.seq (.seq (.region [im 13 0, o1 14 (.lenK 13), o1 15 (.mv (kI 0))]) (.frame (rg [2, 3, 4] 15 10)
 [1004] false (.join [.si 2] (.block 0 (.loop [.si 2, .si 15] (.seq (.region [o1 16 (.bin .lss 15 14)]) (.seq (.cond 16 .skip (.exit 0)) (.seq (.frame (rg [2, 3, 4] 17 7) [1004]
 false (.join [.si 2] (.block 1 (.seq (.region [im 17 15, o1 18 (.ixA 8 13 15), o1 19 (.load true 8 18), o1 4 (.alloc [(.int .i64 0), (.int .u64 0), (.int .u64 0), (.int .u64 0),
 (.int .u64 0), (.int .i64 0), (.int .i64 0), (.slice none 0 0)]), ia 3 17, o0 ⟨none, .store 8 4 19, none⟩]) (.seq (.region [o1 20 (.load true 8 4), im 21 3, oS ⟨some 22, .call
 "mergelens/regex.fits" [20, 21], none⟩ S_regex_fits, o1 23 (.un .not 22)]) (.cond 23 (.seq (.region [ia 2 (kI 2)]) .ret) .skip)))))) (.region [o1 24 (.bin .add 15 (kI 1)), im 15
 24]))))))))) (.seq (.region [ia 2 (kI 0)]) .ret))))
def F_regex_Check : AFn := ⟨ "mergelens/regex.Check", t_regex_Check.erase, [.tmp 2], 1⟩
def W_regex_Check (P : Program) (x : (List Node)) (K : Int → Unit → Prop) : Prop :=
 (((cond ((x.length : Int) == (0 : Int)) true (decide ((x.length : Int) > (4000 : Int)))) = true → K (2 : Int) ()) ∧ ((cond ((x.length : Int) == (0 : Int)) true (decide ((x.length : Int) > (4000 : Int)))) = false → JoinW (D := Int) (fun J1 => LoopW (D := (Int × Int)) ((0 : Int), (0 : Int)) (fun d3 J4 => (((decide (d3.2 < (x.length : Int))) = true → JoinW (D := Int) (fun J5 => (0 ≤ d3.2 ∧ d3.2 < (x.length : Int)) ∧
 (d3.2.toNat < x.length) ∧
 Fn P "mergelens/regex.fits" S_regex_fits ((List.getD x d3.2.toNat zNode), d3.2) (fun (d7 : Bool) (e8 : Unit) => (((!d7) = true → K (2 : Int) ()) ∧ ((!d7) = false → J5 d3.1)))) (fun d6 => J4 (d6, (i64.wrap (d3.2 + (1 : Int)))))) ∧ ((decide (d3.2 < (x.length : Int))) = false → J1 d3.1)))) (fun d2 => K (0 : Int) ())))
theorem fn_regex_Check {P} (h : Has P F_regex_Check) {x K} (hw : W_regex_Check P x K) : Fn P "mergelens/regex.Check" S_regex_Check x K :=
 fn_of (c := t_regex_Check) h rfl rfl (by kernel_rfl) (Eq.mpr (show liftT P F_regex_Check S_regex_Check t_regex_Check x K = _ by kernel_rfl) hw)
def t_regex_Weight : TCode :=
 (.seq (.region [ia 2 (kI 0), ia 3 (kI 0)]) (.seq (.seq (.region [im 5 0, oS ⟨some 6, .call "mergelens/regex.Check" [5], none⟩ S_regex_Check, ia 4 6]) (.seq (.region [im 7 4, o1 8
 (.bin .neq 7 (kI 0))]) (.cond 8 (.seq (.region [im 9 4, ia 2 (kI 0), ia 3 9]) .ret) .skip))) (.seq (.region [im 10 0, oS ⟨some 11, .call "mergelens/regex.Weights" [10], none⟩
 S_regex_Weights, im 12 0, o1 13 (.lenK 12), o1 14 (.bin .sub 13 (kI 1)), o1 15 (.ixA 1 11 14), ld 16 15, ia 2 16, ia 3 (kI 0)]) .ret)))
def F_regex_Weight : AFn := ⟨ "mergelens/regex.Weight", t_regex_Weight.erase, [.tmp 2, .tmp 3], 1⟩
def W_regex_Weight (P : Program) (x : (List Node)) (K : (Int × Int) → Unit → Prop) : Prop :=
 Fn P "mergelens/regex.Check" S_regex_Check x (fun (d1 : Int) (e2 : Unit) => (((d1 != (0 : Int)) = true → K ((0 : Int), d1) ()) ∧ ((d1 != (0 : Int)) = false → Fn P "mergelens/regex.Weights" S_regex_Weights x (fun (d3 : (List Int)) (e4 : Unit) => (0 ≤ (i64.wrap ((x.length : Int) - (1 : Int))) ∧ (i64.wrap ((x.length : Int) - (1 : Int))) < (d3.length : Int)) ∧
 ((Int.toNat (i64.wrap ((x.length : Int) - (1 : Int)))) < d3.length) ∧
 K ((List.getD d3 (Int.toNat (i64.wrap ((x.length : Int) - (1 : Int)))) (0 : Int)), (0 : Int)) ()))))
theorem fn_regex_Weight {P} (h : Has P F_regex_Weight) {x K} (hw : W_regex_Weight P x K) : Fn P "mergelens/regex.Weight" S_regex_Weight x K :=
 fn_of (c := t_regex_Weight) h rfl rfl (by kernel_rfl) (Eq.mpr (show liftT P F_regex_Weight S_regex_Weight t_regex_Weight x K = _ by kernel_rfl) hw)
def t_automaton_builder_add : TCode :=
 (.seq (.region [o1 3 (.box 1), ia 4 (kI 0)]) (.seq (.frame (rg [] 5 10) [0] true (.join [.bx 0 bautomaton_builder (.pair (.node .imm (.pair .leaf (.pair .leaf (.pair .leaf (.pair
 .leaf tM))))) (.pair tO tO))] (.draw [(.first (im 5 0) (.first (im 6 0) (.first (o1 7 (.nilc 6)) (.first (fa 8 2 7) (.first (o1 10 (.load true 7 3)) (.alt (ld 9 8) (.alt (oT ⟨some
 11, .buildSl 7 [(.int .i64 0), (.int .u64 0), (.int .u64 0), (.int .u64 0), (.int .u64 0), (.int .i64 0), (.int .i64 0)] 1 [(0, 10)], none⟩ (some (bState, .leaf))) (.alt (oT ⟨some
 12, .app 7 56 9 11, none⟩ (some (bState, .leaf))) (.first (o1 13 (.nilc 5)) (.first (fa 14 2 13) (.alt (o0 ⟨none, .store 1 14 12, none⟩) .done .stop))) .stop) .stop) (.alt (oT
 ⟨some 11, .buildSl 7 [(.int .i64 0), (.int .u64 0), (.int .u64 0), (.int .u64 0), (.int .u64 0), (.int .i64 0), (.int .i64 0)] 1 [(0, 10)], none⟩ (some (bState, .leaf))) (.first
 (ld 9 8) (.alt (oT ⟨some 12, .app 7 56 9 11, none⟩ (some (bState, .leaf))) (.first (o1 13 (.nilc 5)) (.first (fa 14 2 13) (.alt (o0 ⟨none, .store 1 14 12, none⟩) .done .stop)))
 .stop)) .stop)))))))]))) (.seq (.region [im 15 0, o1 16 (.nilc 15), fa 17 2 16, ld 18 17, o1 19 (.lenK 18), o1 20 (.bin .sub 19 (kI 1)), ia 4 20]) .ret)))
def F_automaton_builder_add : AFn := ⟨ "(*mergelens/automaton.builder).add", t_automaton_builder_add.erase, [.tmp 4], 2⟩
def W_automaton_builder_add (P : Program) (x : (automaton_builder × State)) (K : Int → automaton_builder → Prop) : Prop :=
 JoinW (D := automaton_builder) (fun J1 => (((((x.1.2.2.length + List.length ([x.2] : List State)) * 56 ≤ 140737488355328) ∧
 (J1 (x.1.1, (x.1.2.1, (x.1.2.2 ++ ([x.2] : List State))))) ∧ True) ∧ True) ∧ True) ∧ (((((x.1.2.2.length + List.length ([x.2] : List State)) * 56 ≤ 140737488355328) ∧
 (J1 (x.1.1, (x.1.2.1, (x.1.2.2 ++ ([x.2] : List State))))) ∧ True) ∧ True) ∧ True)) (fun d2 => K (i64.wrap ((d2.2.2.length : Int) - (1 : Int))) d2)
theorem fn_automaton_builder_add {P} (h : Has P F_automaton_builder_add) {x K} (hw : W_automaton_builder_add P x K) : Fn P "(*mergelens/automaton.builder).add" S_automaton_builder_add x K :=
 fn_of (c := t_automaton_builder_add) h rfl rfl (by kernel_rfl) (Eq.mpr (show liftT P F_automaton_builder_add S_automaton_builder_add t_automaton_builder_add x K = _ by kernel_rfl) hw)
def t_automaton_builder_choice : TCode :=
 (.seq (.region [ia 6 (kI 0)]) (.seq (.region [im 10 1, o1 11 (.lenK 10), o1 12 (.bin .sub 11 (kI 1)), ia 7 12]) (.seq (.region [im 13 0, im 14 1, im 15 7, o1 16 (.ixA 1 14 15), ld
 17 16, im 18 2, oS ⟨some 19, .call "(*mergelens/automaton.builder).build" [13, 17, 18], none⟩ S_automaton_builder_build, ia 8 19]) (.seq (.seq (.region [im 20 7, o1 21 (.bin .sub
 20 (kI 1)), ia 9 21]) (.frame (rg [8, 9] 22 15) [0] true (.join [.si 8, .bx 0 bautomaton_builder (.pair (.node .imm (.pair .leaf (.pair .leaf (.pair .leaf (.pair .leaf tM)))))
 (.pair tO tO))] (.block 0 (.loop [.si 8, .si 9, .bx 0 bautomaton_builder (.pair (.node .imm (.pair .leaf (.pair .leaf (.pair .leaf (.pair .leaf tM))))) (.pair tO tO))] (.seq (.seq
 (.region [im 22 9, o1 23 (.bin .geq 22 (kI 0))]) (.cond 23 .skip (.exit 0))) (.seq (.frame (rg [8] 26 11) [0] true (.join [.si 8, .bx 0 bautomaton_builder (.pair (.node .imm (.pair
 .leaf (.pair .leaf (.pair .leaf (.pair .leaf tM))))) (.pair tO tO))] (.block 1 (.region [im 26 0, im 27 0, im 28 1, im 29 9, o1 30 (.ixA 1 28 29), ld 31 30, im 32 2, oS ⟨some 33,
 .call "(*mergelens/automaton.builder).build" [27, 31, 32], none⟩ S_automaton_builder_build, im 34 8, o1 35 (.build [(.int .i64 0), (.int .u64 0), (.int .u64 0), (.int .u64 0),
 (.int .u64 0), (.int .i64 0), (.int .i64 0)] [(0, 1, (kI 1)), (5, 1, 33), (6, 1, 34)]), oS ⟨some 36, .call "(*mergelens/automaton.builder).add" [26, 35], none⟩
 S_automaton_builder_add, ia 8 36])))) (.region [im 24 9, o1 25 (.bin .sub 24 (kI 1)), ia 9 25])))))))) (.seq (.region [im 37 8, ia 6 37]) .ret)))))
def F_automaton_builder_choice : AFn := ⟨ "(*mergelens/automaton.builder).choice", t_automaton_builder_choice.erase, [.tmp 6], 3⟩
def W_automaton_builder_choice (P : Program) (x : (automaton_builder × ((List Int) × Int))) (K : Int → automaton_builder → Prop) : Prop :=
 (0 ≤ (i64.wrap ((x.2.1.length : Int) - (1 : Int))) ∧ (i64.wrap ((x.2.1.length : Int) - (1 : Int))) < (x.2.1.length : Int)) ∧
 ((Int.toNat (i64.wrap ((x.2.1.length : Int) - (1 : Int)))) < x.2.1.length) ∧
 Fn P "(*mergelens/automaton.builder).build" S_automaton_builder_build (x.1, ((List.getD x.2.1 (Int.toNat (i64.wrap ((x.2.1.length : Int) - (1 : Int)))) (0 : Int)), x.2.2)) (fun (d1 : Int) (e2 : automaton_builder) => JoinW (D := (Int × automaton_builder)) (fun J3 => LoopW (D := (Int × (Int × automaton_builder))) (d1, ((i64.wrap ((i64.wrap ((x.2.1.length : Int) - (1 : Int))) - (1 : Int))), e2)) (fun d5 J6 => (((decide (d5.2.1 ≥ (0 : Int))) = true → JoinW (D := (Int × automaton_builder)) (fun J7 => (0 ≤ d5.2.1 ∧ d5.2.1 < (x.2.1.length : Int)) ∧
 (d5.2.1.toNat < x.2.1.length) ∧
 Fn P "(*mergelens/automaton.builder).build" S_automaton_builder_build (d5.2.2, ((List.getD x.2.1 d5.2.1.toNat (0 : Int)), x.2.2)) (fun (d9 : Int) (e10 : automaton_builder) => Fn P "(*mergelens/automaton.builder).add" S_automaton_builder_add (e10, ((1 : Int), (((0 : Int), ((0 : Int), ((0 : Int), (0 : Int)))), (d9, d5.1)))) (fun (d11 : Int) (e12 : automaton_builder) => J7 (d11, e12)))) (fun d8 => J6 (d8.1, ((i64.wrap (d5.2.1 - (1 : Int))), d8.2)))) ∧ ((decide (d5.2.1 ≥ (0 : Int))) = false → J3 (d5.1, d5.2.2))))) (fun d4 => K d4.1 d4.2))
theorem fn_automaton_builder_choice {P} (h : Has P F_automaton_builder_choice) {x K} (hw : W_automaton_builder_choice P x K) : Fn P "(*mergelens/automaton.builder).choice" S_automaton_builder_choice x K :=
 fn_of (c := t_automaton_builder_choice) h rfl rfl (by kernel_rfl) (Eq.mpr (show liftT P F_automaton_builder_choice S_automaton_builder_choice t_automaton_builder_choice x K = _ by kernel_rfl) hw)
def t_automaton_builder_repeat : TCode :=
 (.seq (.region [o1 4 (.box 1), ia 6 (kI 0)]) (.seq (.region [fa 11 7 4, ld 12 11, o1 13 (.ixA 1 12 (kI 0)), ld 14 13, ia 7 14]) (.seq (.seq (.region [fa 15 6 4, ld 16 15, o1 17
 (.bin .lss 16 (kI 0))]) (.frame (rg [2, 8, 9] 18 17) [0] true (.join [.si 2, .bx 0 bautomaton_builder (.pair (.node .imm (.pair .leaf (.pair .leaf (.pair .leaf (.pair .leaf tM)))))
 (.pair tO tO))] (.cond 17 (.seq (.region [im 18 0, im 19 2, o1 20 (.build [(.int .i64 0), (.int .u64 0), (.int .u64 0), (.int .u64 0), (.int .u64 0), (.int .i64 0), (.int .i64 0)]
 [(0, 1, (kI 1)), (6, 1, 19)]), oS ⟨some 21, .call "(*mergelens/automaton.builder).add" [18, 20], none⟩ S_automaton_builder_add, ia 8 21]) (.seq (.region [im 22 0, im 23 7, im 24 8,
 oS ⟨some 25, .call "(*mergelens/automaton.builder).build" [22, 23, 24], none⟩ S_automaton_builder_build, ia 9 25]) (.seq (.region [im 26 0, o1 27 (.nilc 26), fa 28 2 27, ld 29 28,
 im 30 8, im 31 9, o1 32 (.ixA 7 29 30), fa 33 5 32, o0 ⟨none, .store 1 33 31, none⟩]) (.region [im 34 8, ia 2 34])))) .skip)))) (.seq (.region [im 35 2, ia 10 35]) (.seq (.seq
 (.region [fa 36 6 4, ld 37 36, fa 38 5 4, ld 39 38, o1 40 (.bin .sub 37 39), o1 41 (.mv (kI 0))]) (.frame (rg [2] 41 11) [0] true (.join [.si 2, .bx 0 bautomaton_builder (.pair
 (.node .imm (.pair .leaf (.pair .leaf (.pair .leaf (.pair .leaf tM))))) (.pair tO tO))] (.block 0 (.loop [.si 2, .si 41, .bx 0 bautomaton_builder (.pair (.node .imm (.pair .leaf
 (.pair .leaf (.pair .leaf (.pair .leaf tM))))) (.pair tO tO))] (.seq (.region [o1 42 (.bin .lss 41 40)]) (.seq (.cond 42 .skip (.exit 0)) (.seq (.frame (rg [2] 43 8) [0] true
 (.join [.si 2, .bx 0 bautomaton_builder (.pair (.node .imm (.pair .leaf (.pair .leaf (.pair .leaf (.pair .leaf tM))))) (.pair tO tO))] (.block 1 (.region [im 43 0, im 44 0, im 45
 7, im 46 2, oS ⟨some 47, .call "(*mergelens/automaton.builder).build" [44, 45, 46], none⟩ S_automaton_builder_build, im 48 10, o1 49 (.build [(.int .i64 0), (.int .u64 0), (.int
 .u64 0), (.int .u64 0), (.int .u64 0), (.int .i64 0), (.int .i64 0)] [(0, 1, (kI 1)), (5, 1, 47), (6, 1, 48)]), oS ⟨some 50, .call "(*mergelens/automaton.builder).add" [43, 49],
 none⟩ S_automaton_builder_add, ia 2 50])))) (.region [o1 51 (.bin .add 41 (kI 1)), im 41 51]))))))))) (.seq (.seq (.region [fa 52 5 4, ld 53 52, o1 54 (.mv (kI 0))]) (.frame (rg
 [2] 54 7) [0] true (.join [.si 2, .bx 0 bautomaton_builder (.pair (.node .imm (.pair .leaf (.pair .leaf (.pair .leaf (.pair .leaf tM))))) (.pair tO tO))] (.block 2 (.loop [.si 2,
 .si 54, .bx 0 bautomaton_builder (.pair (.node .imm (.pair .leaf (.pair .leaf (.pair .leaf (.pair .leaf tM))))) (.pair tO tO))] (.seq (.region [o1 55 (.bin .lss 54 53)]) (.seq
 (.cond 55 .skip (.exit 2)) (.seq (.frame (rg [2] 56 4) [0] true (.join [.si 2, .bx 0 bautomaton_builder (.pair (.node .imm (.pair .leaf (.pair .leaf (.pair .leaf (.pair .leaf
 tM))))) (.pair tO tO))] (.block 3 (.region [im 56 0, im 57 7, im 58 2, oS ⟨some 59, .call "(*mergelens/automaton.builder).build" [56, 57, 58], none⟩ S_automaton_builder_build, ia 2
 59])))) (.region [o1 60 (.bin .add 54 (kI 1)), im 54 60]))))))))) (.seq (.region [im 61 2, ia 6 61]) .ret)))))))
def F_automaton_builder_repeat : AFn := ⟨ "(*mergelens/automaton.builder).repeat", t_automaton_builder_repeat.erase, [.tmp 6], 3⟩
def W_automaton_builder_repeat (P : Program) (x : (automaton_builder × (Node × Int))) (K : Int → automaton_builder → Prop) : Prop :=
 (0 ≤ (0 : Int) ∧ (0 : Int) < (x.2.1.2.2.2.2.length : Int)) ∧
 ((Int.toNat (0 : Int)) < x.2.1.2.2.2.2.length) ∧
 JoinW (D := (Int × automaton_builder)) (fun J1 => (((decide (x.2.1.2.2.2.1 < (0 : Int))) = true → Fn P "(*mergelens/automaton.builder).add" S_automaton_builder_add (x.1, ((1 : Int), (((0 : Int), ((0 : Int), ((0 : Int), (0 : Int)))), ((0 : Int), x.2.2)))) (fun (d3 : Int) (e4 : automaton_builder) => Fn P "(*mergelens/automaton.builder).build" S_automaton_builder_build (e4, ((List.getD x.2.1.2.2.2.2 (Int.toNat (0 : Int)) (0 : Int)), d3)) (fun (d5 : Int) (e6 : automaton_builder) => (0 ≤ d3 ∧ d3 < (e6.2.2.length : Int)) ∧
 (d3.toNat < e6.2.2.length) ∧
 J1 (d3, (e6.1, (e6.2.1, (List.set e6.2.2 d3.toNat ((List.getD e6.2.2 d3.toNat zState).1, ((List.getD e6.2.2 d3.toNat zState).2.1, (d5, (List.getD e6.2.2 d3.toNat zState).2.2.2)))))))))) ∧ ((decide (x.2.1.2.2.2.1 < (0 : Int))) = false → J1 (x.2.2, x.1)))) (fun d2 => JoinW (D := (Int × automaton_builder)) (fun J7 => LoopW (D := (Int × (Int × automaton_builder))) (d2.1, ((0 : Int), d2.2)) (fun d9 J10 => (((decide (d9.2.1 < (i64.wrap (x.2.1.2.2.2.1 - x.2.1.2.2.1)))) = true → JoinW (D := (Int × automaton_builder)) (fun J11 => Fn P "(*mergelens/automaton.builder).build" S_automaton_builder_build (d9.2.2, ((List.getD x.2.1.2.2.2.2 (Int.toNat (0 : Int)) (0 : Int)), d9.1)) (fun (d13 : Int) (e14 : automaton_builder) => Fn P "(*mergelens/automaton.builder).add" S_automaton_builder_add (e14, ((1 : Int), (((0 : Int), ((0 : Int), ((0 : Int), (0 : Int)))), (d13, d2.1)))) (fun (d15 : Int) (e16 : automaton_builder) => J11 (d15, e16)))) (fun d12 => J10 (d12.1, ((i64.wrap (d9.2.1 + (1 : Int))), d12.2)))) ∧ ((decide (d9.2.1 < (i64.wrap (x.2.1.2.2.2.1 - x.2.1.2.2.1)))) = false → J7 (d9.1, d9.2.2))))) (fun d8 => JoinW (D := (Int × automaton_builder)) (fun J17 => LoopW (D := (Int × (Int × automaton_builder))) (d8.1, ((0 : Int), d8.2)) (fun d19 J20 => (((decide (d19.2.1 < x.2.1.2.2.1)) = true → JoinW (D := (Int × automaton_builder)) (fun J21 => Fn P "(*mergelens/automaton.builder).build" S_automaton_builder_build (d19.2.2, ((List.getD x.2.1.2.2.2.2 (Int.toNat (0 : Int)) (0 : Int)), d19.1)) (fun (d23 : Int) (e24 : automaton_builder) => J21 (d23, e24))) (fun d22 => J20 (d22.1, ((i64.wrap (d19.2.1 + (1 : Int))), d22.2)))) ∧ ((decide (d19.2.1 < x.2.1.2.2.1)) = false → J17 (d19.1, d19.2.2))))) (fun d18 => K d18.1 d18.2)))
theorem fn_automaton_builder_repeat {P} (h : Has P F_automaton_builder_repeat) {x K} (hw : W_automaton_builder_repeat P x K) : Fn P "(*mergelens/automaton.builder).repeat" S_automaton_builder_repeat x K :=
 fn_of (c := t_automaton_builder_repeat) h rfl rfl (by kernel_rfl) (Eq.mpr (show liftT P F_automaton_builder_repeat S_automaton_builder_repeat t_automaton_builder_repeat x K = _ by kernel_rfl) hw)
def t_automaton_builder_build : TCode :=
 (.seq (.region [ia 6 (kI 0)]) (.seq (.seq (.region [im 9 0, o1 10 (.nilc 9), fa 11 1 10, ld 12 11, im 13 1, o1 14 (.ixA 1 12 13), ld 15 14, o1 16 (.bin .eql 15 (kI 0))]) (.cond 16
 (.seq (.region [im 17 2, ia 6 17]) .ret) .skip)) (.seq (.region [im 18 0, o1 19 (.nilc 18), fa 20 0 19, ld 21 20, im 22 1, o1 23 (.ixA 8 21 22), o1 24 (.load true 8 23), o1 7
 (.alloc [(.int .i64 0), (.int .u64 0), (.int .u64 0), (.int .u64 0), (.int .u64 0), (.int .i64 0), (.int .i64 0), (.slice none 0 0)]), o0 ⟨none, .store 8 7 24, none⟩]) (.seq (.seq
 (.region [fa 25 0 7, ld 26 25]) (.frame (rg [2, 6, 8] 27 51) [0] true (.join [.si 2, .si 6, .bx 0 bautomaton_builder (.pair (.node .imm (.pair .leaf (.pair .leaf (.pair .leaf
 (.pair .leaf tM))))) (.pair tO tO))] (.block 0 (.seq (.region [o1 28 (.bin .eql 26 (kI 1)), ia 27 28]) (.cond 27 (.seq (.region [im 29 0, fa 30 1 7, o1 31 (.load true 4 30), im 32
 2, o1 33 (.build [(.int .i64 0), (.int .u64 0), (.int .u64 0), (.int .u64 0), (.int .u64 0), (.int .i64 0), (.int .i64 0)] [(0, 1, (kI 0)), (1, 4, 31), (5, 1, 32)]), oS ⟨some 34,
 .call "(*mergelens/automaton.builder).add" [29, 33], none⟩ S_automaton_builder_add, ia 6 34]) .ret) (.seq (.region [o1 36 (.bin .eql 26 (kI 2)), ia 35 36]) (.cond 35 (.seq (.region
 [im 37 0, im 38 2, o1 39 (.build [(.int .i64 0), (.int .u64 0), (.int .u64 0), (.int .u64 0), (.int .u64 0), (.int .i64 0), (.int .i64 0)] [(0, 1, (kI 2)), (5, 1, 38)]), oS ⟨some
 40, .call "(*mergelens/automaton.builder).add" [37, 39], none⟩ S_automaton_builder_add, ia 6 40]) .ret) (.seq (.region [o1 42 (.bin .eql 26 (kI 3)), ia 41 42]) (.cond 41 (.seq
 (.region [im 43 0, im 44 2, o1 45 (.build [(.int .i64 0), (.int .u64 0), (.int .u64 0), (.int .u64 0), (.int .u64 0), (.int .i64 0), (.int .i64 0)] [(0, 1, (kI 3)), (5, 1, 44)]),
 oS ⟨some 46, .call "(*mergelens/automaton.builder).add" [43, 45], none⟩ S_automaton_builder_add, ia 6 46]) .ret) (.seq (.region [o1 48 (.bin .eql 26 (kI 4)), ia 47 48]) (.frame (rg
 [2, 6, 8] 49 29) [0] true (.join [.si 2, .si 6, .bx 0 bautomaton_builder (.pair (.node .imm (.pair .leaf (.pair .leaf (.pair .leaf (.pair .leaf tM))))) (.pair tO tO))] (.cond 47
 (.seq (.region [fa 49 7 7, ld 50 49, o1 51 (.lenK 50), o1 52 (.bin .sub 51 (kI 1)), ia 8 52]) (.frame (rg [2, 8] 53 12) [0] true (.join [.si 2, .bx 0 bautomaton_builder (.pair
 (.node .imm (.pair .leaf (.pair .leaf (.pair .leaf (.pair .leaf tM))))) (.pair tO tO))] (.block 1 (.loop [.si 2, .si 8, .bx 0 bautomaton_builder (.pair (.node .imm (.pair .leaf
 (.pair .leaf (.pair .leaf (.pair .leaf tM))))) (.pair tO tO))] (.seq (.seq (.region [im 53 8, o1 54 (.bin .geq 53 (kI 0))]) (.cond 54 .skip (.exit 1))) (.seq (.frame (rg [2] 57 8)
 [0] true (.join [.si 2, .bx 0 bautomaton_builder (.pair (.node .imm (.pair .leaf (.pair .leaf (.pair .leaf (.pair .leaf tM))))) (.pair tO tO))] (.block 2 (.region [im 57 0, fa 58 7
 7, ld 59 58, im 60 8, o1 61 (.ixA 1 59 60), ld 62 61, im 63 2, oS ⟨some 64, .call "(*mergelens/automaton.builder).build" [57, 62, 63], none⟩ S_automaton_builder_build, ia 2 64]))))
 (.region [im 55 8, o1 56 (.bin .sub 55 (kI 1)), ia 8 56])))))))) (.seq (.region [o1 66 (.bin .eql 26 (kI 5)), ia 65 66]) (.cond 65 (.seq (.region [im 67 0, fa 68 7 7, ld 69 68, im
 70 2, oS ⟨some 71, .call "(*mergelens/automaton.builder).choice" [67, 69, 70], none⟩ S_automaton_builder_choice, ia 6 71]) .ret) (.seq (.region [o1 73 (.bin .eql 26 (kI 6)), ia 72
 73]) (.cond 72 (.seq (.region [im 74 0, o1 75 (.load true 8 7), im 76 2, oS ⟨some 77, .call "(*mergelens/automaton.builder).repeat" [74, 75, 76], none⟩ S_automaton_builder_repeat,
 ia 6 77]) .ret) .skip)))))))))))))))))) (.seq (.region [im 78 2, ia 6 78]) .ret)))))
def F_automaton_builder_build : AFn := ⟨ "(*mergelens/automaton.builder).build", t_automaton_builder_build.erase, [.tmp 6], 3⟩
def W_automaton_builder_build (P : Program) (x : (automaton_builder × (Int × Int))) (K : Int → automaton_builder → Prop) : Prop :=
 (0 ≤ x.2.1 ∧ x.2.1 < (x.1.2.1.length : Int)) ∧
 (x.2.1.toNat < x.1.2.1.length) ∧
 ((((List.getD x.1.2.1 x.2.1.toNat (0 : Int)) == (0 : Int)) = true → K x.2.2 x.1) ∧ (((List.getD x.1.2.1 x.2.1.toNat (0 : Int)) == (0 : Int)) = false → (0 ≤ x.2.1 ∧ x.2.1 < (x.1.1.length : Int)) ∧
 (x.2.1.toNat < x.1.1.length) ∧
 JoinW (D := (Int × (Int × automaton_builder))) (fun J1 => ((((List.getD x.1.1 x.2.1.toNat zNode).1 == (1 : Int)) = true → Fn P "(*mergelens/automaton.builder).add" S_automaton_builder_add (x.1, ((0 : Int), ((List.getD x.1.1 x.2.1.toNat zNode).2.1, (x.2.2, (0 : Int))))) (fun (d3 : Int) (e4 : automaton_builder) => K d3 e4)) ∧ (((List.getD x.1.1 x.2.1.toNat zNode).1 == (1 : Int)) = false → ((((List.getD x.1.1 x.2.1.toNat zNode).1 == (2 : Int)) = true → Fn P "(*mergelens/automaton.builder).add" S_automaton_builder_add (x.1, ((2 : Int), (((0 : Int), ((0 : Int), ((0 : Int), (0 : Int)))), (x.2.2, (0 : Int))))) (fun (d5 : Int) (e6 : automaton_builder) => K d5 e6)) ∧ (((List.getD x.1.1 x.2.1.toNat zNode).1 == (2 : Int)) = false → ((((List.getD x.1.1 x.2.1.toNat zNode).1 == (3 : Int)) = true → Fn P "(*mergelens/automaton.builder).add" S_automaton_builder_add (x.1, ((3 : Int), (((0 : Int), ((0 : Int), ((0 : Int), (0 : Int)))), (x.2.2, (0 : Int))))) (fun (d7 : Int) (e8 : automaton_builder) => K d7 e8)) ∧ (((List.getD x.1.1 x.2.1.toNat zNode).1 == (3 : Int)) = false → JoinW (D := (Int × (Int × automaton_builder))) (fun J9 => ((((List.getD x.1.1 x.2.1.toNat zNode).1 == (4 : Int)) = true → JoinW (D := (Int × automaton_builder)) (fun J11 => LoopW (D := (Int × (Int × automaton_builder))) (x.2.2, ((i64.wrap (((List.length (List.getD x.1.1 x.2.1.toNat zNode).2.2.2.2 : Nat) : Int) - (1 : Int))), x.1)) (fun d13 J14 => (((decide (d13.2.1 ≥ (0 : Int))) = true → JoinW (D := (Int × automaton_builder)) (fun J15 => (0 ≤ d13.2.1 ∧ d13.2.1 < ((List.length (List.getD x.1.1 x.2.1.toNat zNode).2.2.2.2 : Nat) : Int)) ∧
 (d13.2.1.toNat < List.length (List.getD x.1.1 x.2.1.toNat zNode).2.2.2.2) ∧
 Fn P "(*mergelens/automaton.builder).build" S_automaton_builder_build (d13.2.2, ((List.getD (List.getD x.1.1 x.2.1.toNat zNode).2.2.2.2 d13.2.1.toNat (0 : Int)), d13.1)) (fun (d17 : Int) (e18 : automaton_builder) => J15 (d17, e18))) (fun d16 => J14 (d16.1, ((i64.wrap (d13.2.1 - (1 : Int))), d16.2)))) ∧ ((decide (d13.2.1 ≥ (0 : Int))) = false → J11 (d13.1, d13.2.2))))) (fun d12 => J9 (d12.1, ((0 : Int), d12.2)))) ∧ (((List.getD x.1.1 x.2.1.toNat zNode).1 == (4 : Int)) = false → ((((List.getD x.1.1 x.2.1.toNat zNode).1 == (5 : Int)) = true → Fn P "(*mergelens/automaton.builder).choice" S_automaton_builder_choice (x.1, ((List.getD x.1.1 x.2.1.toNat zNode).2.2.2.2, x.2.2)) (fun (d19 : Int) (e20 : automaton_builder) => K d19 e20)) ∧ (((List.getD x.1.1 x.2.1.toNat zNode).1 == (5 : Int)) = false → ((((List.getD x.1.1 x.2.1.toNat zNode).1 == (6 : Int)) = true → Fn P "(*mergelens/automaton.builder).repeat" S_automaton_builder_repeat (x.1, ((List.getD x.1.1 x.2.1.toNat zNode), x.2.2)) (fun (d21 : Int) (e22 : automaton_builder) => K d21 e22)) ∧ (((List.getD x.1.1 x.2.1.toNat zNode).1 == (6 : Int)) = false → J9 (x.2.2, ((0 : Int), x.1))))))))) (fun d10 => J1 d10)))))))) (fun d2 => K d2.1 d2.2.2)))
theorem fn_automaton_builder_build {P} (h : Has P F_automaton_builder_build) {x K} (hw : W_automaton_builder_build P x K) : Fn P "(*mergelens/automaton.builder).build" S_automaton_builder_build x K :=
 fn_of (c := t_automaton_builder_build) h rfl rfl (by kernel_rfl) (Eq.mpr (show liftT P F_automaton_builder_build S_automaton_builder_build t_automaton_builder_build x K = _ by kernel_rfl) hw)
def t_automaton_Build : TCode :=
 (.seq (.region [o1 2 (.alloc [(.slice none 0 0), (.int .i64 0)]), ia 3 (kI 0)]) (.seq (.region [im 10 0, oS ⟨some 11, .call "mergelens/regex.Weight" [10], none⟩ S_regex_Weight, im
 9 11, o1 12 (.ext 9 0), o1 13 (.ext 9 1), ia 4 12, ia 5 13]) (.seq (.frame (rg [3] 14 9) [1002] false (.join [.si 3, .bx 1002 (.pair (.sl bState) bI) (.pair tO .leaf)] (.block 0
 (.seq (.region [im 15 5, o1 16 (.bin .neq 15 (kI 0)), ia 14 16]) (.cond 14 (.seq (.region [o1 17 (.build [(.slice none 0 0), (.int .i64 0)] []), im 18 5, o0 ⟨none, .store 2 2 17,
 none⟩, ia 3 18]) .ret) (.seq (.region [im 20 4, o1 21 (.bin .gtr 20 (kI 4000)), ia 19 21]) (.cond 19 (.seq (.region [o1 22 (.build [(.slice none 0 0), (.int .i64 0)] []), o0 ⟨none,
 .store 2 2 22, none⟩, ia 3 (kI 1)]) .ret) .skip))))))) (.seq (.region [im 23 0, im 24 0, oS ⟨some 25, .call "mergelens/regex.Weights" [24], none⟩ S_regex_Weights, o1 26 (.build
 [(.slice none 0 0), (.slice none 0 0), (.slice none 0 0)] [(0, 1, 23), (1, 1, 25)]), o1 27 (.box 26), ia 6 27]) (.seq (.region [im 28 6, o1 29 (.build [(.int .i64 0), (.int .u64
 0), (.int .u64 0), (.int .u64 0), (.int .u64 0), (.int .i64 0), (.int .i64 0)] [(0, 1, (kI 4))]), oS ⟨some 30, .call "(*mergelens/automaton.builder).add" [28, 29], none⟩
 S_automaton_builder_add, ia 7 30]) (.seq (.region [im 31 6, im 32 0, o1 33 (.lenK 32), o1 34 (.bin .sub 33 (kI 1)), im 35 7, oS ⟨some 36, .call
 "(*mergelens/automaton.builder).build" [31, 34, 35], none⟩ S_automaton_builder_build, ia 8 36]) (.seq (.region [im 37 6, o1 38 (.nilc 37), fa 39 2 38, ld 40 39, im 41 8, o1 42
 (.build [(.slice none 0 0), (.int .i64 0)] [(0, 1, 40), (1, 1, 41)]), o0 ⟨none, .store 2 2 42, none⟩, ia 3 (kI 0)]) .ret)))))))
def F_automaton_Build : AFn := ⟨ "mergelens/automaton.Build", t_automaton_Build.erase, [.cell 2 true 2, .tmp 3], 1⟩
def W_automaton_Build (P : Program) (x : (List Node)) (K : (((List State) × Int) × Int) → Unit → Prop) : Prop :=
 Fn P "mergelens/regex.Weight" S_regex_Weight x (fun (d1 : (Int × Int)) (e2 : Unit) => JoinW (D := (Int × ((List State) × Int))) (fun J3 => (((d1.2 != (0 : Int)) = true → K (([], (0 : Int)), d1.2) ()) ∧ ((d1.2 != (0 : Int)) = false → (((decide (d1.1 > (4000 : Int))) = true → K (([], (0 : Int)), (1 : Int)) ()) ∧ ((decide (d1.1 > (4000 : Int))) = false → J3 ((0 : Int), ([], (0 : Int)))))))) (fun d4 => Fn P "mergelens/regex.Weights" S_regex_Weights x (fun (d5 : (List Int)) (e6 : Unit) => Fn P "(*mergelens/automaton.builder).add" S_automaton_builder_add ((x, (d5, [])), ((4 : Int), (((0 : Int), ((0 : Int), ((0 : Int), (0 : Int)))), ((0 : Int), (0 : Int))))) (fun (d7 : Int) (e8 : automaton_builder) => Fn P "(*mergelens/automaton.builder).build" S_automaton_builder_build (e8, ((i64.wrap ((x.length : Int) - (1 : Int))), d7)) (fun (d9 : Int) (e10 : automaton_builder) => K ((e10.2.2, d9), (0 : Int)) ())))))
theorem fn_automaton_Build {P} (h : Has P F_automaton_Build) {x K} (hw : W_automaton_Build P x K) : Fn P "mergelens/automaton.Build" S_automaton_Build x K :=
 fn_of (c := t_automaton_Build) h rfl rfl (by kernel_rfl) (Eq.mpr (show liftT P F_automaton_Build S_automaton_Build t_automaton_Build x K = _ by kernel_rfl) hw)
def t_automaton_Check_1 : TCode :=
 (.seq (.region [o1 3 (.asg kF)]) (.seq (.region [im 4 0, o1 5 (.bin .geq 4 (kI 0)), im 6 5, gt 7 6 (.mv 0), gt 8 6 (.load false 1 1), gt 9 6 (.bin .lss 7 8), o1 10 (.pick 6 9 kF),
 ia 3 10]) .ret))
def F_automaton_Check_1 : AFn := ⟨ "mergelens/automaton.Check\x241", t_automaton_Check_1.erase, [.tmp 3], 2⟩
def W_automaton_Check_1 (P : Program) (x : (Int × Int)) (K : Bool → Int → Prop) : Prop :=
 K (cond (decide (x.1 ≥ (0 : Int))) (decide (x.1 < x.2)) false) x.2
theorem fn_automaton_Check_1 {P} (h : Has P F_automaton_Check_1) {x K} (hw : W_automaton_Check_1 P x K) : Fn P "mergelens/automaton.Check\x241" S_automaton_Check_1 x K :=
 fn_of (c := t_automaton_Check_1) h rfl rfl (by kernel_rfl) (Eq.mpr (show liftT P F_automaton_Check_1 S_automaton_Check_1 t_automaton_Check_1 x K = _ by kernel_rfl) hw)
def t_automaton_Check : TCode :=
 (.seq (.region [o1 1 (.box 0), ia 2 (kI 0)]) (.seq (.region [fa 8 0 1, ld 9 8, o1 10 (.lenK 9), o1 3 (.alloc [(.int .i64 0)]), o0 ⟨none, .store 1 3 10, none⟩]) (.seq (.region [o1
 11 (.mkf "mergelens/automaton.Check\x241" [3]), ia 4 11]) (.seq (.seq (.region [ld 12 3, o1 13 (.bin .lss 12 (kI 1)), im 14 13, gf 15 14 (.load false 1 3), gf 16 14 (.bin .gtr 15 (kI
 8000)), o1 17 (.pick 14 kT 16), im 18 17, ⟨⟨some 19, .mv 4, some (18, false)⟩, none, ⟨[], []⟩, false, some 18, true, false⟩, ⟨⟨some 20, .fAddr 1 1, some (18, false)⟩, none, ⟨[],
 []⟩, false, none, true, false⟩, ⟨⟨some 21, .load false 1 20, some (18, false)⟩, none, ⟨[], []⟩, false, none, true, false⟩, ⟨⟨some 22, .callv 19 [21], some (18, false)⟩, none,
 S_automaton_Check_1, false, none, true, true⟩, ⟨⟨some 23, .un .not 22, some (18, false)⟩, none, ⟨[], []⟩, false, none, true, true⟩, o1 24 (.pick 18 kT 23)]) (.cond 24 (.seq
 (.region [ia 2 (kI 2)]) .ret) .skip)) (.seq (.seq (.region [fa 25 0 1, ld 26 25, o1 27 (.lenK 26), o1 28 (.mv (kI 0))]) (.frame (rg [2, 6, 7] 28 28) [1003, 1006] true (.join [.si
 2] (.block 0 (.loop [.si 2, .si 28, .bx 1003 bI .leaf] (.seq (.region [o1 29 (.bin .lss 28 27)]) (.seq (.cond 29 .skip (.exit 0)) (.seq (.frame (rg [2, 6, 7] 30 25) [1003, 1006]
 true (.join [.si 2, .bx 1003 bI .leaf] (.block 1 (.seq (.region [o1 30 (.ixA 7 26 28), o1 31 (.load true 7 30), o1 6 (.alloc [(.int .i64 0), (.int .u64 0), (.int .u64 0), (.int
 .u64 0), (.int .u64 0), (.int .i64 0), (.int .i64 0)]), o0 ⟨none, .store 7 6 31, none⟩]) (.seq (.region [im 32 4, fa 33 5 6, ld 34 33, oS ⟨some 35, .callv 32 [34], none⟩
 S_automaton_Check_1, ia 7 35]) (.seq (.seq (.region [fa 36 0 6, ld 37 36]) (.frame (rg [7] 38 15) [1003] true (.join [.sl 7 false .bool .leaf, .bx 1003 bI .leaf] (.block 2 (.seq
 (.seq (.region [o1 39 (.bin .eql 37 (kI 0)), ia 38 39]) (.frame [38, 40, 41] [] false (.join [.sl 38 false .bool .leaf] (.cond 38 .skip (.seq (.region [o1 40 (.bin .eql 37 (kI 2)),
 ia 38 40]) (.frame [38, 41] [] false (.join [.sl 38 false .bool .leaf] (.cond 38 .skip (.region [o1 41 (.bin .eql 37 (kI 3)), ia 38 41]))))))))) (.frame (rg [7] 42 11) [1003] true
 (.join [.sl 7 false .bool .leaf, .bx 1003 bI .leaf] (.cond 38 .skip (.seq (.region [o1 43 (.bin .eql 37 (kI 1)), ia 42 43]) (.frame (rg [7] 44 9) [1003] true (.join [.sl 7 false
 .bool .leaf, .bx 1003 bI .leaf] (.cond 42 (.region [im 44 7, im 45 44, ⟨⟨some 46, .mv 4, some (45, true)⟩, none, ⟨[], []⟩, false, some 45, true, false⟩, ⟨⟨some 47, .fAddr 6 6, some
 (45, true)⟩, none, ⟨[], []⟩, false, none, true, false⟩, ⟨⟨some 48, .load false 1 47, some (45, true)⟩, none, ⟨[], []⟩, false, none, true, false⟩, ⟨⟨some 49, .callv 46 [48], some
 (45, true)⟩, none, S_automaton_Check_1, false, none, true, true⟩, o1 50 (.pick 45 49 kF), ia 7 50]) (.seq (.region [o1 52 (.bin .eql 37 (kI 4)), ia 51 52]) (.frame [7] [] false
 (.join [.sl 7 false .bool .leaf] (.cond 51 (.region [o1 7 (.asg kT)]) (.region [o1 7 (.asg kF)]))))))))))))))))) (.seq (.region [im 53 7, o1 54 (.un .not 53)]) (.cond 54 (.seq
 (.region [ia 2 (kI 2)]) .ret) .skip)))))))) (.region [o1 55 (.bin .add 28 (kI 1)), im 28 55]))))))))) (.seq (.region [ia 2 (kI 0)]) .ret))))))
def F_automaton_Check : AFn := ⟨ "mergelens/automaton.Check", t_automaton_Check.erase, [.tmp 2], 1⟩
def W_automaton_Check (P : Program) (x : ((List State) × Int)) (K : Int → Unit → Prop) : Prop :=
 (((cond (decide ((x.1.length : Int) < (1 : Int))) true (decide ((x.1.length : Int) > (8000 : Int)))) = true → (((cond true true false) = true → K (2 : Int) ()) ∧ ((cond true true false) = false → JoinW (D := Int) (fun J1 => LoopW (D := (Int × (Int × Int))) ((0 : Int), ((0 : Int), (x.1.length : Int))) (fun d3 J4 => (((decide (d3.2.1 < (x.1.length : Int))) = true → JoinW (D := (Int × Int)) (fun J5 => (0 ≤ d3.2.1 ∧ d3.2.1 < (x.1.length : Int)) ∧
 (d3.2.1.toNat < x.1.length) ∧
 Fn P "mergelens/automaton.Check\x241" S_automaton_Check_1 ((List.getD x.1 d3.2.1.toNat zState).2.2.1, d3.2.2) (fun (d7 : Bool) (e8 : Int) => JoinW (D := (Bool × Int)) (fun J9 => JoinW (D := Bool) (fun J11 => ((((List.getD x.1 d3.2.1.toNat zState).1 == (0 : Int)) = true → J11 ((List.getD x.1 d3.2.1.toNat zState).1 == (0 : Int))) ∧ (((List.getD x.1 d3.2.1.toNat zState).1 == (0 : Int)) = false → JoinW (D := Bool) (fun J13 => ((((List.getD x.1 d3.2.1.toNat zState).1 == (2 : Int)) = true → J13 ((List.getD x.1 d3.2.1.toNat zState).1 == (2 : Int))) ∧ (((List.getD x.1 d3.2.1.toNat zState).1 == (2 : Int)) = false → J13 ((List.getD x.1 d3.2.1.toNat zState).1 == (3 : Int))))) (fun d14 => J11 d14)))) (fun d12 => JoinW (D := (Bool × Int)) (fun J15 => ((d12 = true → J15 (d7, e8)) ∧ (d12 = false → JoinW (D := (Bool × Int)) (fun J17 => ((((List.getD x.1 d3.2.1.toNat zState).1 == (1 : Int)) = true → ((d7 = true → Fn P "mergelens/automaton.Check\x241" S_automaton_Check_1 ((List.getD x.1 d3.2.1.toNat zState).2.2.2, e8) (fun (d19 : Bool) (e20 : Int) => J17 ((cond true d19 false), e20))) ∧ (d7 = false → J17 ((cond false false false), e8)))) ∧ (((List.getD x.1 d3.2.1.toNat zState).1 == (1 : Int)) = false → JoinW (D := Bool) (fun J21 => ((((List.getD x.1 d3.2.1.toNat zState).1 == (4 : Int)) = true → J21 true) ∧ (((List.getD x.1 d3.2.1.toNat zState).1 == (4 : Int)) = false → J21 false))) (fun d22 => J17 (d22, e8))))) (fun d18 => J15 d18)))) (fun d16 => J9 d16))) (fun d10 => (((!d10.1) = true → K (2 : Int) ()) ∧ ((!d10.1) = false → J5 (d3.1, d10.2)))))) (fun d6 => J4 (d6.1, ((i64.wrap (d3.2.1 + (1 : Int))), d6.2)))) ∧ ((decide (d3.2.1 < (x.1.length : Int))) = false → J1 d3.1)))) (fun d2 => K (0 : Int) ())))) ∧ ((cond (decide ((x.1.length : Int) < (1 : Int))) true (decide ((x.1.length : Int) > (8000 : Int)))) = false → Fn P "mergelens/automaton.Check\x241" S_automaton_Check_1 (x.2, (x.1.length : Int)) (fun (d23 : Bool) (e24 : Int) => (((cond false true (!d23)) = true → K (2 : Int) ()) ∧ ((cond false true (!d23)) = false → JoinW (D := Int) (fun J25 => LoopW (D := (Int × (Int × Int))) ((0 : Int), ((0 : Int), e24)) (fun d27 J28 => (((decide (d27.2.1 < (x.1.length : Int))) = true → JoinW (D := (Int × Int)) (fun J29 => (0 ≤ d27.2.1 ∧ d27.2.1 < (x.1.length : Int)) ∧
 (d27.2.1.toNat < x.1.length) ∧
 Fn P "mergelens/automaton.Check\x241" S_automaton_Check_1 ((List.getD x.1 d27.2.1.toNat zState).2.2.1, d27.2.2) (fun (d31 : Bool) (e32 : Int) => JoinW (D := (Bool × Int)) (fun J33 => JoinW (D := Bool) (fun J35 => ((((List.getD x.1 d27.2.1.toNat zState).1 == (0 : Int)) = true → J35 ((List.getD x.1 d27.2.1.toNat zState).1 == (0 : Int))) ∧ (((List.getD x.1 d27.2.1.toNat zState).1 == (0 : Int)) = false → JoinW (D := Bool) (fun J37 => ((((List.getD x.1 d27.2.1.toNat zState).1 == (2 : Int)) = true → J37 ((List.getD x.1 d27.2.1.toNat zState).1 == (2 : Int))) ∧ (((List.getD x.1 d27.2.1.toNat zState).1 == (2 : Int)) = false → J37 ((List.getD x.1 d27.2.1.toNat zState).1 == (3 : Int))))) (fun d38 => J35 d38)))) (fun d36 => JoinW (D := (Bool × Int)) (fun J39 => ((d36 = true → J39 (d31, e32)) ∧ (d36 = false → JoinW (D := (Bool × Int)) (fun J41 => ((((List.getD x.1 d27.2.1.toNat zState).1 == (1 : Int)) = true → ((d31 = true → Fn P "mergelens/automaton.Check\x241" S_automaton_Check_1 ((List.getD x.1 d27.2.1.toNat zState).2.2.2, e32) (fun (d43 : Bool) (e44 : Int) => J41 ((cond true d43 false), e44))) ∧ (d31 = false → J41 ((cond false false false), e32)))) ∧ (((List.getD x.1 d27.2.1.toNat zState).1 == (1 : Int)) = false → JoinW (D := Bool) (fun J45 => ((((List.getD x.1 d27.2.1.toNat zState).1 == (4 : Int)) = true → J45 true) ∧ (((List.getD x.1 d27.2.1.toNat zState).1 == (4 : Int)) = false → J45 false))) (fun d46 => J41 (d46, e32))))) (fun d42 => J39 d42)))) (fun d40 => J33 d40))) (fun d34 => (((!d34.1) = true → K (2 : Int) ()) ∧ ((!d34.1) = false → J29 (d27.1, d34.2)))))) (fun d30 => J28 (d30.1, ((i64.wrap (d27.2.1 + (1 : Int))), d30.2)))) ∧ ((decide (d27.2.1 < (x.1.length : Int))) = false → J25 d27.1)))) (fun d26 => K (0 : Int) ()))))))
theorem fn_automaton_Check {P} (h : Has P F_automaton_Check) {x K} (hw : W_automaton_Check P x K) : Fn P "mergelens/automaton.Check" S_automaton_Check x K :=
 fn_of (c := t_automaton_Check) h rfl rfl (by kernel_rfl) (Eq.mpr (show liftT P F_automaton_Check S_automaton_Check t_automaton_Check x K = _ by kernel_rfl) hw)
def t_ref05_Close : TCode :=
 (.seq (.region [o1 4 (.box 0), o1 8 (.asg (.c (.slice none 0 0)))]) (.seq (.region [oT ⟨some 13, .buildSl 1 [(.bool false)] 0 [], none⟩ (some (.bool, .leaf)), im 14 1, oT ⟨some 15,
 .app 1 1 13 14, none⟩ (some (.bool, .leaf)), ia 9 15]) (.seq (.region [o1 10 (.asg kT)]) (.seq (.frame (rg [9, 10, 11, 12] 16 70) [1012] false (.join [.sl 9 false (.sl .bool) tO]
 (.block 0 (.loop [.sl 9 false (.sl .bool) tO, .sl 10 false .bool .leaf] (.seq (.seq (.region [im 16 10]) (.cond 16 .skip (.exit 0))) (.frame (rg [9, 10, 11, 12] 17 69) [1012] false
 (.join [.sl 9 false (.sl .bool) tO, .sl 10 false .bool .leaf] (.block 1 (.seq (.region [o1 10 (.asg kF)]) (.seq (.region [ia 11 (kI 0)]) (.frame (rg [9, 10, 11, 12] 17 69) [1012]
 false (.join [.sl 9 false (.sl .bool) tO, .sl 10 false .bool .leaf] (.block 2 (.loop [.sl 9 false (.sl .bool) tO, .sl 10 false .bool .leaf, .si 11] (.seq (.seq (.region [im 17 11,
 im 18 9, o1 19 (.lenK 18), o1 20 (.bin .lss 17 19)]) (.cond 20 .skip (.exit 2))) (.seq (.frame (rg [9, 10, 12] 23 63) [1012] false (.join [.sl 9 false (.sl .bool) tO, .sl 10 false
 .bool .leaf] (.block 3 (.seq (.region [fa 23 0 4, ld 24 23, im 25 11, o1 26 (.ixA 7 24 25), o1 27 (.load true 7 26), o1 12 (.alloc [(.int .i64 0), (.int .u64 0), (.int .u64 0),
 (.int .u64 0), (.int .u64 0), (.int .i64 0), (.int .i64 0)]), o0 ⟨none, .store 7 12 27, none⟩]) (.seq (.seq (.region [im 28 9, im 29 11, o1 30 (.ixA 1 28 29), ld 31 30, im 32 31,
 gt 33 32 (.fAddr 0 12), gt 34 32 (.load false 1 33), gt 35 32 (.bin .eql 34 (kI 1)), gt 36 32 (.mv 35), gf 37 36 (.fAddr 0 12), gf 38 36 (.load false 1 37), gf 39 36 (.bin .eql 38
 (kI 2)), gf 40 36 (.mv 39), gt 41 40 (.mv 2), gf 42 36 (.pick 40 41 kF), gt 43 32 (.pick 36 kT 42), gt 44 32 (.mv 43), gf 45 44 (.fAddr 0 12), gf 46 44 (.load false 1 45), gf 47 44
 (.bin .eql 46 (kI 3)), gf 48 44 (.mv 47), gt 49 48 (.mv 3), gf 50 44 (.pick 48 49 kF), gt 51 32 (.pick 44 kT 50), o1 52 (.pick 32 51 kF), im 53 52, gt 54 53 (.mv 9), gt 55 53
 (.fAddr 5 12), gt 56 53 (.load false 1 55), gt 57 53 (.ixA 1 54 56), gt 58 53 (.load false 1 57), gt 59 53 (.un .not 58), o1 60 (.pick 53 59 kF)]) (.frame (rg [9, 10] 61 4) []
 false (.join [.sl 9 false (.sl .bool) tO, .sl 10 false .bool .leaf] (.cond 60 (.seq (.region [im 61 9, fa 62 5 12, ld 63 62, o1 64 (.ixA 1 61 63), o0 ⟨none, .store 1 64 kT, none⟩])
 (.region [o1 10 (.asg kT)])) .skip)))) (.seq (.region [im 65 9, im 66 11, o1 67 (.ixA 1 65 66), ld 68 67, im 69 68, gt 70 69 (.fAddr 0 12), gt 71 69 (.load false 1 70), gt 72 69
 (.bin .eql 71 (kI 1)), o1 73 (.pick 69 72 kF), im 74 73, gt 75 74 (.mv 9), gt 76 74 (.fAddr 6 12), gt 77 74 (.load false 1 76), gt 78 74 (.ixA 1 75 77), gt 79 74 (.load false 1
 78), gt 80 74 (.un .not 79), o1 81 (.pick 74 80 kF)]) (.frame (rg [9, 10] 82 4) [] false (.join [.sl 9 false (.sl .bool) tO, .sl 10 false .bool .leaf] (.cond 81 (.seq (.region [im
 82 9, fa 83 6 12, ld 84 83, o1 85 (.ixA 1 82 84), o0 ⟨none, .store 1 85 kT, none⟩]) (.region [o1 10 (.asg kT)])) .skip))))))))) (.region [im 21 11, o1 22 (.bin .add 21 (kI 1)), ia
 11 22]))))))))))))))))) (.seq (.region [im 86 9, ia 8 86]) .ret)))))
def F_ref05_Close : AFn := ⟨ "mergelens/mergelensref05.Close", t_ref05_Close.erase, [.tmp 8], 4⟩
def W_ref05_Close (P : Program) (x : (((List State) × Int) × ((List Bool) × (Bool × Bool)))) (K : (List Bool) → Unit → Prop) : Prop :=
 ((List.length ([] : List Bool) + x.2.1.length) * 1 ≤ 140737488355328) ∧
 JoinW (D := (List Bool)) (fun J1 => LoopW (D := ((List Bool) × Bool)) ((([] : List Bool) ++ x.2.1), true) (fun d3 J4 => ((d3.2 = true → JoinW (D := ((List Bool) × Bool)) (fun J5 => JoinW (D := ((List Bool) × Bool)) (fun J7 => LoopW (D := ((List Bool) × (Bool × Int))) (d3.1, (false, (0 : Int))) (fun d9 J10 => (((decide (d9.2.2 < (d9.1.length : Int))) = true → JoinW (D := ((List Bool) × Bool)) (fun J11 => (0 ≤ d9.2.2 ∧ d9.2.2 < (x.1.1.length : Int)) ∧
 (d9.2.2.toNat < x.1.1.length) ∧
 (0 ≤ d9.2.2 ∧ d9.2.2 < (d9.1.length : Int)) ∧
 (d9.2.2.toNat < d9.1.length) ∧
 (((cond (List.getD d9.1 d9.2.2.toNat false) (cond (cond ((List.getD x.1.1 d9.2.2.toNat zState).1 == (1 : Int)) true (cond ((List.getD x.1.1 d9.2.2.toNat zState).1 == (2 : Int)) x.2.2.1 false)) true (cond ((List.getD x.1.1 d9.2.2.toNat zState).1 == (3 : Int)) x.2.2.2 false)) false) = true → 0 ≤ (List.getD x.1.1 d9.2.2.toNat zState).2.2.1 ∧ (List.getD x.1.1 d9.2.2.toNat zState).2.2.1 < (d9.1.length : Int))) ∧
 (((cond (List.getD d9.1 d9.2.2.toNat false) (cond (cond ((List.getD x.1.1 d9.2.2.toNat zState).1 == (1 : Int)) true (cond ((List.getD x.1.1 d9.2.2.toNat zState).1 == (2 : Int)) x.2.2.1 false)) true (cond ((List.getD x.1.1 d9.2.2.toNat zState).1 == (3 : Int)) x.2.2.2 false)) false) = true → (Int.toNat (List.getD x.1.1 d9.2.2.toNat zState).2.2.1) < d9.1.length)) ∧
 JoinW (D := ((List Bool) × Bool)) (fun J13 => (((cond (cond (List.getD d9.1 d9.2.2.toNat false) (cond (cond ((List.getD x.1.1 d9.2.2.toNat zState).1 == (1 : Int)) true (cond ((List.getD x.1.1 d9.2.2.toNat zState).1 == (2 : Int)) x.2.2.1 false)) true (cond ((List.getD x.1.1 d9.2.2.toNat zState).1 == (3 : Int)) x.2.2.2 false)) false) (!(List.getD d9.1 (Int.toNat (List.getD x.1.1 d9.2.2.toNat zState).2.2.1) false)) false) = true → (0 ≤ (List.getD x.1.1 d9.2.2.toNat zState).2.2.1 ∧ (List.getD x.1.1 d9.2.2.toNat zState).2.2.1 < (d9.1.length : Int)) ∧
 ((Int.toNat (List.getD x.1.1 d9.2.2.toNat zState).2.2.1) < d9.1.length) ∧
 J13 ((List.set d9.1 (Int.toNat (List.getD x.1.1 d9.2.2.toNat zState).2.2.1) true), true)) ∧ ((cond (cond (List.getD d9.1 d9.2.2.toNat false) (cond (cond ((List.getD x.1.1 d9.2.2.toNat zState).1 == (1 : Int)) true (cond ((List.getD x.1.1 d9.2.2.toNat zState).1 == (2 : Int)) x.2.2.1 false)) true (cond ((List.getD x.1.1 d9.2.2.toNat zState).1 == (3 : Int)) x.2.2.2 false)) false) (!(List.getD d9.1 (Int.toNat (List.getD x.1.1 d9.2.2.toNat zState).2.2.1) false)) false) = false → J13 (d9.1, d9.2.1)))) (fun d14 => (0 ≤ d9.2.2 ∧ d9.2.2 < (d14.1.length : Int)) ∧
 (d9.2.2.toNat < d14.1.length) ∧
 (((cond (List.getD d14.1 d9.2.2.toNat false) ((List.getD x.1.1 d9.2.2.toNat zState).1 == (1 : Int)) false) = true → 0 ≤ (List.getD x.1.1 d9.2.2.toNat zState).2.2.2 ∧ (List.getD x.1.1 d9.2.2.toNat zState).2.2.2 < (d14.1.length : Int))) ∧
 (((cond (List.getD d14.1 d9.2.2.toNat false) ((List.getD x.1.1 d9.2.2.toNat zState).1 == (1 : Int)) false) = true → (Int.toNat (List.getD x.1.1 d9.2.2.toNat zState).2.2.2) < d14.1.length)) ∧
 JoinW (D := ((List Bool) × Bool)) (fun J15 => (((cond (cond (List.getD d14.1 d9.2.2.toNat false) ((List.getD x.1.1 d9.2.2.toNat zState).1 == (1 : Int)) false) (!(List.getD d14.1 (Int.toNat (List.getD x.1.1 d9.2.2.toNat zState).2.2.2) false)) false) = true → (0 ≤ (List.getD x.1.1 d9.2.2.toNat zState).2.2.2 ∧ (List.getD x.1.1 d9.2.2.toNat zState).2.2.2 < (d14.1.length : Int)) ∧
 ((Int.toNat (List.getD x.1.1 d9.2.2.toNat zState).2.2.2) < d14.1.length) ∧
 J15 ((List.set d14.1 (Int.toNat (List.getD x.1.1 d9.2.2.toNat zState).2.2.2) true), true)) ∧ ((cond (cond (List.getD d14.1 d9.2.2.toNat false) ((List.getD x.1.1 d9.2.2.toNat zState).1 == (1 : Int)) false) (!(List.getD d14.1 (Int.toNat (List.getD x.1.1 d9.2.2.toNat zState).2.2.2) false)) false) = false → J15 d14))) (fun d16 => J11 d16))) (fun d12 => J10 (d12.1, (d12.2, (i64.wrap (d9.2.2 + (1 : Int))))))) ∧ ((decide (d9.2.2 < (d9.1.length : Int))) = false → J7 (d9.1, d9.2.1))))) (fun d8 => J5 d8)) (fun d6 => J4 d6)) ∧ (d3.2 = false → J1 d3.1)))) (fun d2 => K d2 ())
theorem fn_ref05_Close {P} (h : Has P F_ref05_Close) {x K} (hw : W_ref05_Close P x K) : Fn P "mergelens/mergelensref05.Close" S_ref05_Close x K :=
 fn_of (c := t_ref05_Close) h rfl rfl (by kernel_rfl) (Eq.mpr (show liftT P F_ref05_Close S_ref05_Close t_ref05_Close x K = _ by kernel_rfl) hw)
def t_ref04_Has : TCode :=
 (.seq (.region [o1 2 (.box 0), o1 4 (.asg kF)]) (.seq (.region [im 5 1, o1 6 (.bin .quo 5 (.c (.int .u8 64))), o1 7 (.ixAr 4 1 2 6), ld 8 7, im 9 1, o1 10 (.bin .rem 9 (.c (.int
 .u8 64))), o1 11 (.bin .shr 8 10), o1 12 (.bin .and 11 (.c (.int .u64 1))), o1 13 (.bin .eql 12 (.c (.int .u64 1))), ia 4 13]) .ret))
def F_ref04_Has : AFn := ⟨ "mergelens/mergelensref04.Has", t_ref04_Has.erase, [.tmp 4], 2⟩
def W_ref04_Has (P : Program) (x : ((Int × (Int × (Int × Int))) × Int)) (K : Bool → Unit → Prop) : Prop :=
 ((64 : Int) ≠ 0) ∧
 (0 ≤ (u8.wrap (Int.tdiv x.2 (64 : Int))) ∧ (u8.wrap (Int.tdiv x.2 (64 : Int))) < ((4 : Nat) : Int)) ∧
 ((Int.toNat (u8.wrap (Int.tdiv x.2 (64 : Int)))) < 4) ∧
 ((64 : Int) ≠ 0) ∧
 (0 ≤ (Int.tmod x.2 (64 : Int))) ∧
 K ((u64.wrap ((BitVec.toNat (BitVec.ofInt u64.bits (Int.fdiv (List.getD [x.1.1, x.1.2.1, x.1.2.2.1, x.1.2.2.2] (Int.toNat (u8.wrap (Int.tdiv x.2 (64 : Int)))) (0 : Int)) (2 ^ (min (Int.toNat (Int.tmod x.2 (64 : Int))) u64.bits))) &&& BitVec.ofInt u64.bits (1 : Int)) : Nat) : Int)) == (1 : Int)) ()
theorem fn_ref04_Has {P} (h : Has P F_ref04_Has) {x K} (hw : W_ref04_Has P x K) : Fn P "mergelens/mergelensref04.Has" S_ref04_Has x K :=
 fn_of (c := t_ref04_Has) h rfl rfl (by kernel_rfl) (Eq.mpr (show liftT P F_ref04_Has S_ref04_Has t_ref04_Has x K = _ by kernel_rfl) hw)
def t_ref05_Ends : TCode :=
 (.seq (.region [o1 3 (.box 0), o1 6 (.asg (.c (.slice none 0 0)))]) (.seq (.region [im 13 1, o1 14 (.lenS 13), o1 15 (.bin .add 14 (kI 1)), oT ⟨some 16, .mkSl 1 1 [(.bool false)]
 15 15, none⟩ (some (.bool, .leaf)), ia 7 16]) (.seq (.region [fa 17 0 3, ld 18 17, o1 19 (.lenK 18), oT ⟨some 20, .mkSl 1 1 [(.bool false)] 19 19, none⟩ (some (.bool, .leaf)), ia 8
 20]) (.seq (.region [im 21 8, fa 22 1 3, ld 23 22, o1 24 (.ixA 1 21 23), o0 ⟨none, .store 1 24 kT, none⟩]) (.seq (.seq (.region [im 25 2, ia 9 25]) (.frame (rg [7, 8, 9, 10, 11,
 12] 26 69) [1012] false (.join [.sl 7 false (.sl .bool) tO] (.block 0 (.loop [.sl 7 false (.sl .bool) tO, .sl 8 false (.sl .bool) tO, .si 9] (.seq (.seq (.region [im 26 9, im 27 1,
 o1 28 (.lenS 27), o1 29 (.bin .leq 26 28)]) (.cond 29 .skip (.exit 0))) (.seq (.frame (rg [7, 8, 10, 11, 12] 32 63) [1012] false (.join [.sl 7 false (.sl .bool) tO, .sl 8 false
 (.sl .bool) tO] (.block 1 (.seq (.region [o1 32 (.load true 2 3), im 33 8, im 34 9, o1 35 (.bin .eql 34 (kI 0)), im 36 9, im 37 1, o1 38 (.lenS 37), o1 39 (.bin .eql 36 38), oS
 ⟨some 40, .call "mergelens/mergelensref05.Close" [32, 33, 35, 39], none⟩ S_ref05_Close, ia 8 40]) (.seq (.region [im 41 8, o1 42 (.lenK 41), oT ⟨some 43, .mkSl 1 1 [(.bool false)]
 42 42, none⟩ (some (.bool, .leaf)), ia 10 43]) (.seq (.seq (.region [ia 11 (kI 0)]) (.frame (rg [7, 10, 11, 12] 44 50) [1012] false (.join [.sl 7 false (.sl .bool) tO, .sl 10 false
 (.sl .bool) tO] (.block 2 (.loop [.sl 7 false (.sl .bool) tO, .sl 10 false (.sl .bool) tO, .si 11] (.seq (.seq (.region [im 44 11, im 45 8, o1 46 (.lenK 45), o1 47 (.bin .lss 44
 46)]) (.cond 47 .skip (.exit 2))) (.seq (.frame (rg [7, 10, 12] 50 44) [1012] false (.join [.sl 7 false (.sl .bool) tO, .sl 10 false (.sl .bool) tO] (.block 3 (.seq (.region [fa 50
 0 3, ld 51 50, im 52 11, o1 53 (.ixA 7 51 52), o1 54 (.load true 7 53), o1 12 (.alloc [(.int .i64 0), (.int .u64 0), (.int .u64 0), (.int .u64 0), (.int .u64 0), (.int .i64 0),
 (.int .i64 0)]), o0 ⟨none, .store 7 12 54, none⟩]) (.seq (.seq (.region [im 55 8, im 56 11, o1 57 (.ixA 1 55 56), ld 58 57, im 59 58, gt 60 59 (.fAddr 0 12), gt 61 59 (.load false
 1 60), gt 62 59 (.bin .eql 61 (kI 4)), o1 63 (.pick 59 62 kF)]) (.frame [7, 64, 65, 66] [] false (.join [.sl 7 false (.sl .bool) tO] (.cond 63 (.region [im 64 7, im 65 9, o1 66
 (.ixA 1 64 65), o0 ⟨none, .store 1 66 kT, none⟩]) .skip)))) (.seq (.frame (rg [] 67 23) [] false (.join [.sl 89 false .bool .leaf] (.draw [(.first (im 67 8) (.first (im 68 11)
 (.first (o1 69 (.ixA 1 67 68)) (.first (ld 70 69) (.first (im 71 70) (.first (gt 72 71 (.fAddr 0 12)) (.first (gt 73 71 (.load false 1 72)) (.first (gt 74 71 (.bin .eql 73 (kI 0)))
 (.first (o1 75 (.pick 71 74 kF)) (.first (im 76 75) (.first (gt 77 76 (.mv 9)) (.first (gt 78 76 (.mv 1)) (.first (gt 79 76 (.lenS 78)) (.first (gt 80 76 (.bin .lss 77 79)) (.first
 (o1 81 (.pick 76 80 kF)) (.first (im 82 81) (.first (gt 83 82 (.fAddr 1 12)) (.first (gt 84 82 (.load true 4 83)) (.first (gt 85 82 (.mv 1)) (.first (gt 86 82 (.mv 9)) (.first (gt
 87 82 (.ixS 85 86)) (.alt (oS ⟨some 88, .call "mergelens/mergelensref04.Has" [84, 87], some (82, true)⟩ S_ref04_Has) (.first (o1 89 (.pick 82 88 kF)) .done)
 .stop))))))))))))))))))))))]))) (.frame (rg [10] 90 4) [] false (.join [.sl 10 false (.sl .bool) tO] (.cond 89 (.region [im 90 10, fa 91 5 12, ld 92 91, o1 93 (.ixA 1 90 92), o0
 ⟨none, .store 1 93 kT, none⟩]) .skip))))))))) (.region [im 48 11, o1 49 (.bin .add 48 (kI 1)), ia 11 49])))))))) (.region [im 94 10, ia 8 94]))))))) (.region [im 30 9, o1 31 (.bin
 .add 30 (kI 1)), ia 9 31])))))))) (.seq (.region [im 95 7, ia 6 95]) .ret))))))
def F_ref05_Ends : AFn := ⟨ "mergelens/mergelensref05.Ends", t_ref05_Ends.erase, [.tmp 6], 3⟩
def W_ref05_Ends (P : Program) (x : (((List State) × Int) × ((List UInt8) × Int))) (K : (List Bool) → Unit → Prop) : Prop :=
 (0 ≤ (i64.wrap ((x.2.1.length : Int) + (1 : Int))) ∧ (i64.wrap ((x.2.1.length : Int) + (1 : Int))) ≤ (i64.wrap ((x.2.1.length : Int) + (1 : Int))) ∧ ((1 : Nat) : Int) * (i64.wrap ((x.2.1.length : Int) + (1 : Int))) ≤ 281474976710656) ∧
 (0 ≤ (x.1.1.length : Int) ∧ (x.1.1.length : Int) ≤ (x.1.1.length : Int) ∧ ((1 : Nat) : Int) * (x.1.1.length : Int) ≤ 281474976710656) ∧
 (0 ≤ x.1.2 ∧ x.1.2 < ((List.length (List.replicate (Int.toNat (x.1.1.length : Int)) false) : Nat) : Int)) ∧
 (x.1.2.toNat < List.length (List.replicate (Int.toNat (x.1.1.length : Int)) false)) ∧
 JoinW (D := (List Bool)) (fun J1 => LoopW (D := ((List Bool) × ((List Bool) × Int))) ((List.replicate (Int.toNat (i64.wrap ((x.2.1.length : Int) + (1 : Int)))) false), ((List.set (List.replicate (Int.toNat (x.1.1.length : Int)) false) x.1.2.toNat true), x.2.2)) (fun d3 J4 => (((decide (d3.2.2 ≤ (x.2.1.length : Int))) = true → JoinW (D := ((List Bool) × (List Bool))) (fun J5 => Fn P "mergelens/mergelensref05.Close" S_ref05_Close (x.1, (d3.2.1, ((d3.2.2 == (0 : Int)), (d3.2.2 == (x.2.1.length : Int))))) (fun (d7 : (List Bool)) (e8 : Unit) => (0 ≤ (d7.length : Int) ∧ (d7.length : Int) ≤ (d7.length : Int) ∧ ((1 : Nat) : Int) * (d7.length : Int) ≤ 281474976710656) ∧
 JoinW (D := ((List Bool) × (List Bool))) (fun J9 => LoopW (D := ((List Bool) × ((List Bool) × Int))) (d3.1, ((List.replicate (Int.toNat (d7.length : Int)) false), (0 : Int))) (fun d11 J12 => (((decide (d11.2.2 < (d7.length : Int))) = true → JoinW (D := ((List Bool) × (List Bool))) (fun J13 => (0 ≤ d11.2.2 ∧ d11.2.2 < (x.1.1.length : Int)) ∧
 (d11.2.2.toNat < x.1.1.length) ∧
 (0 ≤ d11.2.2 ∧ d11.2.2 < (d7.length : Int)) ∧
 (d11.2.2.toNat < d7.length) ∧
 JoinW (D := (List Bool)) (fun J15 => (((cond (List.getD d7 d11.2.2.toNat false) ((List.getD x.1.1 d11.2.2.toNat zState).1 == (4 : Int)) false) = true → (0 ≤ d3.2.2 ∧ d3.2.2 < (d11.1.length : Int)) ∧
 (d3.2.2.toNat < d11.1.length) ∧
 J15 (List.set d11.1 d3.2.2.toNat true)) ∧ ((cond (List.getD d7 d11.2.2.toNat false) ((List.getD x.1.1 d11.2.2.toNat zState).1 == (4 : Int)) false) = false → J15 d11.1))) (fun d16 => JoinW (D := Bool) (fun J17 => (0 ≤ d11.2.2 ∧ d11.2.2 < (d7.length : Int)) ∧
 (d11.2.2.toNat < d7.length) ∧
 (((cond (cond (List.getD d7 d11.2.2.toNat false) ((List.getD x.1.1 d11.2.2.toNat zState).1 == (0 : Int)) false) (decide (d3.2.2 < (x.2.1.length : Int))) false) = true → 0 ≤ d3.2.2 ∧ d3.2.2 < (x.2.1.length : Int))) ∧
 (JoinW (D := Bool) (fun J19 => (((cond (cond (List.getD d7 d11.2.2.toNat false) ((List.getD x.1.1 d11.2.2.toNat zState).1 == (0 : Int)) false) (decide (d3.2.2 < (x.2.1.length : Int))) false) = true → Fn P "mergelens/mergelensref04.Has" S_ref04_Has ((List.getD x.1.1 d11.2.2.toNat zState).2.1, ((x.2.1.getD d3.2.2.toNat 0).toNat : Int)) (fun (d20 : Bool) _ => J19 d20)) ∧ (((cond (cond (List.getD d7 d11.2.2.toNat false) ((List.getD x.1.1 d11.2.2.toNat zState).1 == (0 : Int)) false) (decide (d3.2.2 < (x.2.1.length : Int))) false) = false → J19 false) ∧ True))) (fun d21 => J17 (cond (cond (cond (List.getD d7 d11.2.2.toNat false) ((List.getD x.1.1 d11.2.2.toNat zState).1 == (0 : Int)) false) (decide (d3.2.2 < (x.2.1.length : Int))) false) d21 false))) ∧ True) (fun d18 => JoinW (D := (List Bool)) (fun J22 => ((d18 = true → (0 ≤ (List.getD x.1.1 d11.2.2.toNat zState).2.2.1 ∧ (List.getD x.1.1 d11.2.2.toNat zState).2.2.1 < (d11.2.1.length : Int)) ∧
 ((Int.toNat (List.getD x.1.1 d11.2.2.toNat zState).2.2.1) < d11.2.1.length) ∧
 J22 (List.set d11.2.1 (Int.toNat (List.getD x.1.1 d11.2.2.toNat zState).2.2.1) true)) ∧ (d18 = false → J22 d11.2.1))) (fun d23 => J13 (d16, d23))))) (fun d14 => J12 (d14.1, (d14.2, (i64.wrap (d11.2.2 + (1 : Int))))))) ∧ ((decide (d11.2.2 < (d7.length : Int))) = false → J9 (d11.1, d11.2.1))))) (fun d10 => J5 d10))) (fun d6 => J4 (d6.1, (d6.2, (i64.wrap (d3.2.2 + (1 : Int))))))) ∧ ((decide (d3.2.2 ≤ (x.2.1.length : Int))) = false → J1 d3.1)))) (fun d2 => K d2 ())
theorem fn_ref05_Ends {P} (h : Has P F_ref05_Ends) {x K} (hw : W_ref05_Ends P x K) : Fn P "mergelens/mergelensref05.Ends" S_ref05_Ends x K :=
 fn_of (c := t_ref05_Ends) h rfl rfl (by kernel_rfl) (Eq.mpr (show liftT P F_ref05_Ends S_ref05_Ends t_ref05_Ends x K = _ by kernel_rfl) hw)
def t_law05_awake : TCode :=
 (.seq (.region [o1 0 (.asg kF)]) (.seq (.region [oS ⟨some 7, .call "mergelens/mergelensref04.Parse" [(.c (.string ⟨#[97]⟩))], none⟩ S_ref04_Parse, im 6 7, o1 8 (.ext 6 0), o1 9
 (.ext 6 1), ia 1 8, ia 2 9]) (.seq (.frz [1] (.region [im 11 1, oS ⟨some 12, .call "mergelens/automaton.Build" [11], none⟩ S_automaton_Build, im 10 12, o1 13 (.ext 10 0), o1 14
 (.ext 10 1), o1 3 (.alloc [(.slice none 0 0), (.int .i64 0)]), o0 ⟨none, .store 2 3 13, none⟩, ia 4 14])) (.seq (.seq (.region [im 15 4, o1 16 (.bin .neq 15 (kI 0)), im 17 16, gf
 18 17 (.load true 2 3), oS ⟨some 19, .call "mergelens/mergelensref05.Check" [18], some (17, false)⟩ S_ref05_Check, gf 20 17 (.bin .neq 19 (kI 0)), o1 21 (.pick 17 kT 20)]) (.cond
 21 (.seq (.region [o1 0 (.asg kF)]) .ret) .skip)) (.seq (.region [o1 22 (.load true 2 3), oS ⟨some 23, .call "mergelens/mergelensref05.Ends" [22, (.c (.string ⟨#[97]⟩)), (kI 0)],
 none⟩ S_ref05_Ends, ia 5 23]) (.seq (.region [im 24 5, o1 25 (.ixA 1 24 (kI 1)), ld 26 25, im 27 26, gt 28 27 (.mv 5), gt 29 27 (.ixA 1 28 (kI 0)), gt 30 27 (.load false 1 29), gt
 31 27 (.un .not 30), o1 32 (.pick 27 31 kF), im 33 32, gt 34 33 (.load true 2 3), oS ⟨some 35, .call "mergelens/automaton.Check" [34], some (33, true)⟩ S_automaton_Check, gt 36 33
 (.bin .eql 35 (kI 0)), o1 37 (.pick 33 36 kF), im 38 37, gt 39 38 (.build [(.slice none 0 0), (.int .i64 0)] []), oS ⟨some 40, .call "mergelens/automaton.Check" [39], some (38,
 true)⟩ S_automaton_Check, gt 41 38 (.bin .eql 40 (kI 2)), o1 42 (.pick 38 41 kF), ia 0 42]) .ret))))))
def F_law05_awake : AFn := ⟨ "mergelens/mergelenslaw05.awake", t_law05_awake.erase, [.tmp 0], 0⟩
def W_law05_awake (P : Program) (x : Unit) (K : Bool → Unit → Prop) : Prop :=
 Fn P "mergelens/mergelensref04.Parse" S_ref04_Parse ([97] : List UInt8) (fun (d1 : ((List Node) × Int)) (e2 : Unit) => Fn P "mergelens/automaton.Build" S_automaton_Build d1.1 (fun (d3 : (((List State) × Int) × Int)) (e4 : Unit) => JoinW (D := Int) (fun J5 => (((d3.2 != (0 : Int)) = false → Fn P "mergelens/mergelensref05.Check" S_ref05_Check d3.1 (fun (d6 : Int) _ => J5 d6)) ∧ (((d3.2 != (0 : Int)) = true → J5 (0 : Int)) ∧ True))) (fun d7 => (((cond (d3.2 != (0 : Int)) true (d7 != (0 : Int))) = true → K false ()) ∧ ((cond (d3.2 != (0 : Int)) true (d7 != (0 : Int))) = false → Fn P "mergelens/mergelensref05.Ends" S_ref05_Ends (d3.1, (([97] : List UInt8), (0 : Int))) (fun (d8 : (List Bool)) (e9 : Unit) => (0 ≤ (1 : Int) ∧ (1 : Int) < (d8.length : Int)) ∧
 ((Int.toNat (1 : Int)) < d8.length) ∧
 (((List.getD d8 (Int.toNat (1 : Int)) false) = true → 0 ≤ (0 : Int) ∧ (0 : Int) < (d8.length : Int))) ∧
 (((List.getD d8 (Int.toNat (1 : Int)) false) = true → (Int.toNat (0 : Int)) < d8.length)) ∧
 JoinW (D := Int) (fun J10 => (((cond (List.getD d8 (Int.toNat (1 : Int)) false) (!(List.getD d8 (Int.toNat (0 : Int)) false)) false) = true → Fn P "mergelens/automaton.Check" S_automaton_Check d3.1 (fun (d11 : Int) _ => J10 d11)) ∧ (((cond (List.getD d8 (Int.toNat (1 : Int)) false) (!(List.getD d8 (Int.toNat (0 : Int)) false)) false) = false → J10 (0 : Int)) ∧ True))) (fun d12 => JoinW (D := Int) (fun J13 => (((cond (cond (List.getD d8 (Int.toNat (1 : Int)) false) (!(List.getD d8 (Int.toNat (0 : Int)) false)) false) (d12 == (0 : Int)) false) = true → Fn P "mergelens/automaton.Check" S_automaton_Check ([], (0 : Int)) (fun (d14 : Int) _ => J13 d14)) ∧ (((cond (cond (List.getD d8 (Int.toNat (1 : Int)) false) (!(List.getD d8 (Int.toNat (0 : Int)) false)) false) (d12 == (0 : Int)) false) = false → J13 (0 : Int)) ∧ True))) (fun d15 => K (cond (cond (cond (List.getD d8 (Int.toNat (1 : Int)) false) (!(List.getD d8 (Int.toNat (0 : Int)) false)) false) (d12 == (0 : Int)) false) (d15 == (2 : Int)) false) ()))))))))
theorem fn_law05_awake {P} (h : Has P F_law05_awake) {x K} (hw : W_law05_awake P x K) : Fn P "mergelens/mergelenslaw05.awake" S_law05_awake x K :=
 fn_of (c := t_law05_awake) h rfl rfl (by kernel_rfl) (Eq.mpr (show liftT P F_law05_awake S_law05_awake t_law05_awake x K = _ by kernel_rfl) hw)
def t_law05_short : TCode :=
 (.seq (.region [o1 4 (.asg (.c (.string ⟨#[]⟩)))]) (.seq (.region [im 5 0, im 6 0, o1 7 (.lenS 6), im 8 1, o1 9 (.mm false 7 8), o1 10 (.slS 5 none (some 9)), ia 4 10]) .ret))
def F_law05_short : AFn := ⟨ "mergelens/mergelenslaw05.short", t_law05_short.erase, [.tmp 4], 2⟩
def W_law05_short (P : Program) (x : ((List UInt8) × Int)) (K : (List UInt8) → Unit → Prop) : Prop :=
 (0 ≤ (if x.2 < (x.1.length : Int) then x.2 else (x.1.length : Int)) ∧ (if x.2 < (x.1.length : Int) then x.2 else (x.1.length : Int)) ≤ (x.1.length : Int)) ∧
 K (List.take (Int.toNat (if x.2 < (x.1.length : Int) then x.2 else (x.1.length : Int))) x.1) ()
theorem fn_law05_short {P} (h : Has P F_law05_short) {x K} (hw : W_law05_short P x K) : Fn P "mergelens/mergelenslaw05.short" S_law05_short x K :=
 fn_of (c := t_law05_short) h rfl rfl (by kernel_rfl) (Eq.mpr (show liftT P F_law05_short S_law05_short t_law05_short x K = _ by kernel_rfl) hw)
def t_ref04_Check : TCode :=
 (.seq (.region [ia 2 (kI 0)]) (.seq (.seq (.region [im 7 0, o1 8 (.lenK 7), o1 9 (.bin .eql 8 (kI 0)), im 10 9, gf 11 10 (.mv 0), gf 12 10 (.lenK 11), gf 13 10 (.bin .gtr 12 (kI
 4000)), o1 14 (.pick 10 kT 13)]) (.cond 14 (.seq (.region [ia 2 (kI 2)]) .ret) .skip)) (.seq (.seq (.region [ia 3 (kI 0)]) (.frame (rg [2, 3, 4, 5, 6] 15 90) [1004] false (.join
 [.si 2] (.block 0 (.loop [.si 2, .si 3] (.seq (.seq (.region [im 15 3, im 16 0, o1 17 (.lenK 16), o1 18 (.bin .lss 15 17)]) (.cond 18 .skip (.exit 0))) (.seq (.frame (rg [2, 4, 5,
 6] 21 84) [1004] false (.join [.si 2] (.block 1 (.seq (.region [im 21 0, im 22 3, o1 23 (.ixA 8 21 22), o1 24 (.load true 8 23), o1 4 (.alloc [(.int .i64 0), (.int .u64 0), (.int
 .u64 0), (.int .u64 0), (.int .u64 0), (.int .i64 0), (.int .i64 0), (.slice none 0 0)]), o0 ⟨none, .store 8 4 24, none⟩]) (.seq (.seq (.region [ia 5 (kI 0)]) (.frame (rg [2, 5] 25
 22) [] false (.join [.si 2] (.block 2 (.loop [.si 2, .si 5] (.seq (.seq (.region [im 25 5, fa 26 7 4, ld 27 26, o1 28 (.lenK 27), o1 29 (.bin .lss 25 28)]) (.cond 29 .skip (.exit
 2))) (.seq (.frame (rg [2] 32 15) [] false (.join [.si 2] (.block 3 (.seq (.region [fa 32 7 4, ld 33 32, im 34 5, o1 35 (.ixA 1 33 34), ld 36 35, o1 37 (.bin .lss 36 (kI 0)), im 38
 37, gf 39 38 (.fAddr 7 4), gf 40 38 (.load false 1 39), gf 41 38 (.mv 5), gf 42 38 (.ixA 1 40 41), gf 43 38 (.load false 1 42), gf 44 38 (.mv 3), gf 45 38 (.bin .geq 43 44), o1 46
 (.pick 38 kT 45)]) (.cond 46 (.seq (.region [ia 2 (kI 2)]) .ret) .skip))))) (.region [im 30 5, o1 31 (.bin .add 30 (kI 1)), ia 5 31])))))))) (.seq (.region [fa 47 7 4, ld 48 47, o1
 49 (.lenK 48), o1 50 (.bin .eql 49 (kI 0)), ia 6 50]) (.seq (.seq (.region [fa 51 0 4, ld 52 51]) (.frame (rg [6] 53 40) [] false (.join [.sl 6 false .bool .leaf] (.block 4 (.seq
 (.region [o1 54 (.bin .eql 52 (kI 6)), ia 53 54]) (.frame (rg [6] 55 38) [] false (.join [.sl 6 false .bool .leaf] (.cond 53 (.region [fa 55 7 4, ld 56 55, o1 57 (.lenK 56), o1 58
 (.bin .eql 57 (kI 1)), im 59 58, gt 60 59 (.fAddr 5 4), gt 61 59 (.load false 1 60), gt 62 59 (.bin .geq 61 (kI 0)), o1 63 (.pick 59 62 kF), im 64 63, gt 65 64 (.fAddr 5 4), gt 66
 64 (.load false 1 65), gt 67 64 (.bin .leq 66 (kI 100)), o1 68 (.pick 64 67 kF), im 69 68, gt 70 69 (.fAddr 6 4), gt 71 69 (.load false 1 70), gt 72 69 (.bin .eql 71 (kI (-1))), gt
 73 69 (.mv 72), gf 74 73 (.fAddr 6 4), gf 75 73 (.load false 1 74), gf 76 73 (.fAddr 5 4), gf 77 73 (.load false 1 76), gf 78 73 (.bin .geq 75 77), gf 79 73 (.mv 78), gt 80 79
 (.fAddr 6 4), gt 81 79 (.load false 1 80), gt 82 79 (.bin .leq 81 (kI 100)), gf 83 73 (.pick 79 82 kF), gt 84 69 (.pick 73 kT 83), o1 85 (.pick 69 84 kF), ia 6 85]) (.seq (.seq
 (.region [o1 87 (.bin .eql 52 (kI 4)), ia 86 87]) (.frame [86, 88] [] false (.join [.sl 86 false .bool .leaf] (.cond 86 .skip (.region [o1 88 (.bin .eql 52 (kI 5)), ia 86 88])))))
 (.frame (rg [6] 89 4) [] false (.join [.sl 6 false .bool .leaf] (.cond 86 (.region [fa 89 7 4, ld 90 89, o1 91 (.lenK 90), o1 92 (.bin .geq 91 (kI 2)), ia 6 92]) .skip))))))))))))
 (.seq (.region [im 93 6, o1 94 (.un .not 93), im 95 94, gf 96 95 (.fAddr 0 4), gf 97 95 (.load false 1 96), gf 98 95 (.bin .lss 97 (kI 0)), o1 99 (.pick 95 kT 98), im 100 99, gf
 101 100 (.fAddr 0 4), gf 102 100 (.load false 1 101), gf 103 100 (.bin .gtr 102 (kI 6)), o1 104 (.pick 100 kT 103)]) (.cond 104 (.seq (.region [ia 2 (kI 2)]) .ret) .skip)))))))))
 (.region [im 19 3, o1 20 (.bin .add 19 (kI 1)), ia 3 20])))))))) (.seq (.region [ia 2 (kI 0)]) .ret))))
def F_ref04_Check : AFn := ⟨ "mergelens/mergelensref04.Check", t_ref04_Check.erase, [.tmp 2], 1⟩
def W_ref04_Check (P : Program) (x : (List Node)) (K : Int → Unit → Prop) : Prop :=
 (((cond ((x.length : Int) == (0 : Int)) true (decide ((x.length : Int) > (4000 : Int)))) = true → K (2 : Int) ()) ∧ ((cond ((x.length : Int) == (0 : Int)) true (decide ((x.length : Int) > (4000 : Int)))) = false → JoinW (D := Int) (fun J1 => LoopW (D := (Int × Int)) ((0 : Int), (0 : Int)) (fun d3 J4 => (((decide (d3.2 < (x.length : Int))) = true → JoinW (D := Int) (fun J5 => (0 ≤ d3.2 ∧ d3.2 < (x.length : Int)) ∧
 (d3.2.toNat < x.length) ∧
 JoinW (D := Int) (fun J7 => LoopW (D := (Int × Int)) (d3.1, (0 : Int)) (fun d9 J10 => (((decide (d9.2 < ((List.length (List.getD x d3.2.toNat zNode).2.2.2.2 : Nat) : Int))) = true → JoinW (D := Int) (fun J11 => (0 ≤ d9.2 ∧ d9.2 < ((List.length (List.getD x d3.2.toNat zNode).2.2.2.2 : Nat) : Int)) ∧
 (d9.2.toNat < List.length (List.getD x d3.2.toNat zNode).2.2.2.2) ∧
 (((decide ((List.getD (List.getD x d3.2.toNat zNode).2.2.2.2 d9.2.toNat (0 : Int)) < (0 : Int))) = false → 0 ≤ d9.2 ∧ d9.2 < ((List.length (List.getD x d3.2.toNat zNode).2.2.2.2 : Nat) : Int))) ∧
 (((decide ((List.getD (List.getD x d3.2.toNat zNode).2.2.2.2 d9.2.toNat (0 : Int)) < (0 : Int))) = false → d9.2.toNat < List.length (List.getD x d3.2.toNat zNode).2.2.2.2)) ∧
 (((cond (decide ((List.getD (List.getD x d3.2.toNat zNode).2.2.2.2 d9.2.toNat (0 : Int)) < (0 : Int))) true (decide ((List.getD (List.getD x d3.2.toNat zNode).2.2.2.2 d9.2.toNat (0 : Int)) ≥ d3.2))) = true → K (2 : Int) ()) ∧ ((cond (decide ((List.getD (List.getD x d3.2.toNat zNode).2.2.2.2 d9.2.toNat (0 : Int)) < (0 : Int))) true (decide ((List.getD (List.getD x d3.2.toNat zNode).2.2.2.2 d9.2.toNat (0 : Int)) ≥ d3.2))) = false → J11 d9.1))) (fun d12 => J10 (d12, (i64.wrap (d9.2 + (1 : Int)))))) ∧ ((decide (d9.2 < ((List.length (List.getD x d3.2.toNat zNode).2.2.2.2 : Nat) : Int))) = false → J7 d9.1)))) (fun d8 => JoinW (D := Bool) (fun J13 => JoinW (D := Bool) (fun J15 => ((((List.getD x d3.2.toNat zNode).1 == (6 : Int)) = true → J15 (cond (cond (cond (((List.length (List.getD x d3.2.toNat zNode).2.2.2.2 : Nat) : Int) == (1 : Int)) (decide ((List.getD x d3.2.toNat zNode).2.2.1 ≥ (0 : Int))) false) (decide ((List.getD x d3.2.toNat zNode).2.2.1 ≤ (100 : Int))) false) (cond ((List.getD x d3.2.toNat zNode).2.2.2.1 == (-1 : Int)) true (cond (decide ((List.getD x d3.2.toNat zNode).2.2.2.1 ≥ (List.getD x d3.2.toNat zNode).2.2.1)) (decide ((List.getD x d3.2.toNat zNode).2.2.2.1 ≤ (100 : Int))) false)) false)) ∧ (((List.getD x d3.2.toNat zNode).1 == (6 : Int)) = false → JoinW (D := Bool) (fun J17 => ((((List.getD x d3.2.toNat zNode).1 == (4 : Int)) = true → J17 ((List.getD x d3.2.toNat zNode).1 == (4 : Int))) ∧ (((List.getD x d3.2.toNat zNode).1 == (4 : Int)) = false → J17 ((List.getD x d3.2.toNat zNode).1 == (5 : Int))))) (fun d18 => JoinW (D := Bool) (fun J19 => ((d18 = true → J19 (decide (((List.length (List.getD x d3.2.toNat zNode).2.2.2.2 : Nat) : Int) ≥ (2 : Int)))) ∧ (d18 = false → J19 (((List.length (List.getD x d3.2.toNat zNode).2.2.2.2 : Nat) : Int) == (0 : Int))))) (fun d20 => J15 d20))))) (fun d16 => J13 d16)) (fun d14 => (((cond (cond (!d14) true (decide ((List.getD x d3.2.toNat zNode).1 < (0 : Int)))) true (decide ((List.getD x d3.2.toNat zNode).1 > (6 : Int)))) = true → K (2 : Int) ()) ∧ ((cond (cond (!d14) true (decide ((List.getD x d3.2.toNat zNode).1 < (0 : Int)))) true (decide ((List.getD x d3.2.toNat zNode).1 > (6 : Int)))) = false → J5 d8))))) (fun d6 => J4 (d6, (i64.wrap (d3.2 + (1 : Int)))))) ∧ ((decide (d3.2 < (x.length : Int))) = false → J1 d3.1)))) (fun d2 => K (0 : Int) ())))
theorem fn_ref04_Check {P} (h : Has P F_ref04_Check) {x K} (hw : W_ref04_Check P x K) : Fn P "mergelens/mergelensref04.Check" S_ref04_Check x K :=
 fn_of (c := t_ref04_Check) h rfl rfl (by kernel_rfl) (Eq.mpr (show liftT P F_ref04_Check S_ref04_Check t_ref04_Check x K = _ by kernel_rfl) hw)
def t_ref04_capped : TCode :=
 (.seq (.region [ia 2 (kI 0)]) (.seq (.region [im 3 0, o1 4 (.mm false 3 (kI 4001)), ia 2 4]) .ret))
def F_ref04_capped : AFn := ⟨ "mergelens/mergelensref04.capped", t_ref04_capped.erase, [.tmp 2], 1⟩
def W_ref04_capped (P : Program) (x : Int) (K : Int → Unit → Prop) : Prop :=
 K (if (4001 : Int) < x then (4001 : Int) else x) ()
theorem fn_ref04_capped {P} (h : Has P F_ref04_capped) {x K} (hw : W_ref04_capped P x K) : Fn P "mergelens/mergelensref04.capped" S_ref04_capped x K :=
 fn_of (c := t_ref04_capped) h rfl rfl (by kernel_rfl) (Eq.mpr (show liftT P F_ref04_capped S_ref04_capped t_ref04_capped x K = _ by kernel_rfl) hw)
def t_ref04_Weight : TCode :=
 (.seq (.region [ia 2 (kI 0), ia 3 (kI 0)]) (.seq (.seq (.region [im 9 0, oS ⟨some 10, .call "mergelens/mergelensref04.Check" [9], none⟩ S_ref04_Check, o1 11 (.bin .neq 10 (kI 0))])
 (.cond 11 (.seq (.region [ia 2 (kI 0), ia 3 (kI 2)]) .ret) .skip)) (.seq (.region [o1 4 (.asg (.c (.slice none 0 0)))]) (.seq (.seq (.region [ia 5 (kI 0)]) (.frame (rg [4, 5, 6, 7,
 8] 12 86) [] false (.join [.sl 4 false (.sl bI) tO] (.block 0 (.loop [.sl 4 false (.sl bI) tO, .si 5] (.seq (.seq (.region [im 12 5, im 13 0, o1 14 (.lenK 13), o1 15 (.bin .lss 12
 14)]) (.cond 15 .skip (.exit 0))) (.seq (.frame (rg [4, 6, 7, 8] 18 80) [] false (.join [.sl 4 false (.sl bI) tO] (.block 1 (.seq (.region [ia 6 (kI 0)]) (.seq (.seq (.region [ia 7
 (kI 0)]) (.frame (rg [6, 7] 18 24) [] false (.join [.si 6] (.block 2 (.loop [.si 6, .si 7] (.seq (.seq (.region [im 18 7, im 19 0, im 20 5, o1 21 (.ixA 8 19 20), fa 22 7 21, ld 23
 22, o1 24 (.lenK 23), o1 25 (.bin .lss 18 24)]) (.cond 25 .skip (.exit 2))) (.seq (.frame (rg [6] 28 14) [] false (.join [.si 6] (.block 3 (.region [im 28 6, im 29 4, im 30 0, im
 31 5, o1 32 (.ixA 8 30 31), fa 33 7 32, ld 34 33, im 35 7, o1 36 (.ixA 1 34 35), ld 37 36, o1 38 (.ixA 1 29 37), ld 39 38, o1 40 (.bin .add 28 39), oS ⟨some 41, .call
 "mergelens/mergelensref04.capped" [40], none⟩ S_ref04_capped, ia 6 41])))) (.region [im 26 7, o1 27 (.bin .add 26 (kI 1)), ia 7 27])))))))) (.seq (.seq (.region [im 42 0, im 43 5,
 o1 44 (.ixA 8 42 43), fa 45 0 44, ld 46 45]) (.frame (rg [6, 8] 47 46) [] false (.join [.si 6] (.block 4 (.seq (.region [o1 48 (.bin .eql 46 (kI 5)), ia 47 48]) (.frame (rg [6, 8]
 49 44) [] false (.join [.si 6] (.cond 47 (.region [im 49 6, im 50 0, im 51 5, o1 52 (.ixA 8 50 51), fa 53 7 52, ld 54 53, o1 55 (.lenK 54), o1 56 (.bin .add 49 55), o1 57 (.bin
 .sub 56 (kI 1)), ia 6 57]) (.seq (.region [o1 59 (.bin .eql 46 (kI 6)), ia 58 59]) (.frame (rg [6, 8] 60 33) [] false (.join [.si 6] (.cond 58 (.seq (.region [im 60 6, o1 61 (.bin
 .add 60 (kI 1)), ia 8 61]) (.seq (.seq (.region [im 62 0, im 63 5, o1 64 (.ixA 8 62 63), fa 65 6 64, ld 66 65, o1 67 (.bin .geq 66 (kI 0))]) (.frame (rg [8] 68 14) [] false (.join
 [.si 8] (.cond 67 (.frame (rg [8] 68 14) [] false (.join [.si 8] (.draw [(.first (im 68 0) (.first (im 69 5) (.first (o1 70 (.ixA 8 68 69)) (.first (fa 71 6 70) (.first (ld 72 71)
 (.first (im 73 0) (.first (im 74 5) (.first (o1 75 (.ixA 8 73 74)) (.first (fa 76 5 75) (.first (ld 77 76) (.first (o1 78 (.bin .sub 72 77)) (.first (im 79 6) (.first (o1 80 (.bin
 .add 79 (kI 1))) (.first (o1 81 (.bin .mul 78 80)) (.alt (ia 8 81) .done .stop)))))))))))))))]))) .skip)))) (.region [im 82 0, im 83 5, o1 84 (.ixA 8 82 83), fa 85 5 84, ld 86 85,
 im 87 6, o1 88 (.bin .mul 86 87), im 89 8, o1 90 (.bin .add 88 89), ia 6 90]))) (.seq (.region [o1 92 (.bin .eql 46 (kI 4)), ia 91 92]) (.frame [6] [] false (.join [.si 6] (.cond
 91 .skip (.region [ia 6 (kI 1)]))))))))))))))))) (.region [im 93 4, im 94 6, oS ⟨some 95, .call "mergelens/mergelensref04.capped" [94], none⟩ S_ref04_capped, oT ⟨some 96, .buildSl
 1 [(.int .i64 0)] 1 [(0, 95)], none⟩ (some (bI, .leaf)), oT ⟨some 97, .app 1 8 93 96, none⟩ (some (bI, .leaf)), ia 4 97]))))))) (.region [im 16 5, o1 17 (.bin .add 16 (kI 1)), ia 5
 17])))))))) (.seq (.region [im 98 4, im 99 4, o1 100 (.lenK 99), o1 101 (.bin .sub 100 (kI 1)), o1 102 (.ixA 1 98 101), ld 103 102, ia 2 103, ia 3 (kI 0)]) .ret)))))
def F_ref04_Weight : AFn := ⟨ "mergelens/mergelensref04.Weight", t_ref04_Weight.erase, [.tmp 2, .tmp 3], 1⟩
def W_ref04_Weight (P : Program) (x : (List Node)) (K : (Int × Int) → Unit → Prop) : Prop :=
 Fn P "mergelens/mergelensref04.Check" S_ref04_Check x (fun (d1 : Int) (e2 : Unit) => (((d1 != (0 : Int)) = true → K ((0 : Int), (2 : Int)) ()) ∧ ((d1 != (0 : Int)) = false → JoinW (D := (List Int)) (fun J3 => LoopW (D := ((List Int) × Int)) ([], (0 : Int)) (fun d5 J6 => (((decide (d5.2 < (x.length : Int))) = true → JoinW (D := (List Int)) (fun J7 => JoinW (D := Int) (fun J9 => LoopW (D := (Int × Int)) ((0 : Int), (0 : Int)) (fun d11 J12 => (0 ≤ d5.2 ∧ d5.2 < (x.length : Int)) ∧
 (d5.2.toNat < x.length) ∧
 (((decide (d11.2 < ((List.length (List.getD x d5.2.toNat zNode).2.2.2.2 : Nat) : Int))) = true → JoinW (D := Int) (fun J13 => (0 ≤ d5.2 ∧ d5.2 < (x.length : Int)) ∧
 (d5.2.toNat < x.length) ∧
 (0 ≤ d11.2 ∧ d11.2 < ((List.length (List.getD x d5.2.toNat zNode).2.2.2.2 : Nat) : Int)) ∧
 (d11.2.toNat < List.length (List.getD x d5.2.toNat zNode).2.2.2.2) ∧
 (0 ≤ (List.getD (List.getD x d5.2.toNat zNode).2.2.2.2 d11.2.toNat (0 : Int)) ∧ (List.getD (List.getD x d5.2.toNat zNode).2.2.2.2 d11.2.toNat (0 : Int)) < (d5.1.length : Int)) ∧
 ((Int.toNat (List.getD (List.getD x d5.2.toNat zNode).2.2.2.2 d11.2.toNat (0 : Int))) < d5.1.length) ∧
 Fn P "mergelens/mergelensref04.capped" S_ref04_capped (i64.wrap (d11.1 + (List.getD d5.1 (Int.toNat (List.getD (List.getD x d5.2.toNat zNode).2.2.2.2 d11.2.toNat (0 : Int))) (0 : Int)))) (fun (d15 : Int) (e16 : Unit) => J13 d15)) (fun d14 => J12 (d14, (i64.wrap (d11.2 + (1 : Int)))))) ∧ ((decide (d11.2 < ((List.length (List.getD x d5.2.toNat zNode).2.2.2.2 : Nat) : Int))) = false → J9 d11.1)))) (fun d10 => (0 ≤ d5.2 ∧ d5.2 < (x.length : Int)) ∧
 (d5.2.toNat < x.length) ∧
 JoinW (D := Int) (fun J17 => JoinW (D := Int) (fun J19 => ((((List.getD x d5.2.toNat zNode).1 == (5 : Int)) = true → (0 ≤ d5.2 ∧ d5.2 < (x.length : Int)) ∧
 (d5.2.toNat < x.length) ∧
 J19 (i64.wrap ((i64.wrap (d10 + ((List.length (List.getD x d5.2.toNat zNode).2.2.2.2 : Nat) : Int))) - (1 : Int)))) ∧ (((List.getD x d5.2.toNat zNode).1 == (5 : Int)) = false → JoinW (D := Int) (fun J21 => ((((List.getD x d5.2.toNat zNode).1 == (6 : Int)) = true → (0 ≤ d5.2 ∧ d5.2 < (x.length : Int)) ∧
 (d5.2.toNat < x.length) ∧
 JoinW (D := Int) (fun J23 => (((decide ((List.getD x d5.2.toNat zNode).2.2.2.1 ≥ (0 : Int))) = true → JoinW (D := Int) (fun J25 => (0 ≤ d5.2 ∧ d5.2 < (x.length : Int)) ∧
 (d5.2.toNat < x.length) ∧
 (0 ≤ d5.2 ∧ d5.2 < (x.length : Int)) ∧
 (d5.2.toNat < x.length) ∧
 (J25 (i64.wrap ((i64.wrap ((List.getD x d5.2.toNat zNode).2.2.2.1 - (List.getD x d5.2.toNat zNode).2.2.1)) * (i64.wrap (d10 + (1 : Int)))))) ∧ True) (fun d26 => J23 d26)) ∧ ((decide ((List.getD x d5.2.toNat zNode).2.2.2.1 ≥ (0 : Int))) = false → J23 (i64.wrap (d10 + (1 : Int)))))) (fun d24 => (0 ≤ d5.2 ∧ d5.2 < (x.length : Int)) ∧
 (d5.2.toNat < x.length) ∧
 J21 (i64.wrap ((i64.wrap ((List.getD x d5.2.toNat zNode).2.2.1 * d10)) + d24)))) ∧ (((List.getD x d5.2.toNat zNode).1 == (6 : Int)) = false → JoinW (D := Int) (fun J27 => ((((List.getD x d5.2.toNat zNode).1 == (4 : Int)) = true → J27 d10) ∧ (((List.getD x d5.2.toNat zNode).1 == (4 : Int)) = false → J27 (1 : Int)))) (fun d28 => J21 d28)))) (fun d22 => J19 d22)))) (fun d20 => J17 d20)) (fun d18 => Fn P "mergelens/mergelensref04.capped" S_ref04_capped d18 (fun (d29 : Int) (e30 : Unit) => ((d5.1.length + List.length ([d29] : List Int)) * 8 ≤ 140737488355328) ∧
 J7 (d5.1 ++ ([d29] : List Int)))))) (fun d8 => J6 (d8, (i64.wrap (d5.2 + (1 : Int)))))) ∧ ((decide (d5.2 < (x.length : Int))) = false → J3 d5.1)))) (fun d4 => (0 ≤ (i64.wrap ((d4.length : Int) - (1 : Int))) ∧ (i64.wrap ((d4.length : Int) - (1 : Int))) < (d4.length : Int)) ∧
 ((Int.toNat (i64.wrap ((d4.length : Int) - (1 : Int)))) < d4.length) ∧
 K ((List.getD d4 (Int.toNat (i64.wrap ((d4.length : Int) - (1 : Int)))) (0 : Int)), (0 : Int)) ()))))
theorem fn_ref04_Weight {P} (h : Has P F_ref04_Weight) {x K} (hw : W_ref04_Weight P x K) : Fn P "mergelens/mergelensref04.Weight" S_ref04_Weight x K :=
 fn_of (c := t_ref04_Weight) h rfl rfl (by kernel_rfl) (Eq.mpr (show liftT P F_ref04_Weight S_ref04_Weight t_ref04_Weight x K = _ by kernel_rfl) hw)
def t_ref05_empty : TCode :=
 (.seq (.region [o1 4 (.asg (.c (.slice none 0 0)))]) (.seq (.region [o1 5 (.asg (.c (.slice none 0 0)))]) (.seq (.seq (.region [ia 6 (kI 0)]) (.frame (rg [] 5 21) [] false (.join
 [.sl 5 false (.sl (.sl .bool)) (.node .own tO)] (.block 0 (.loop [.sl 5 false (.sl (.sl .bool)) (.node .own tO), .si 6] (.seq (.seq (.region [im 8 6, im 9 0, o1 10 (.lenS 9), o1 11
 (.bin .leq 8 10)]) (.cond 11 .skip (.exit 0))) (.seq (.frame (rg [5, 7] 14 12) [] false (.join [.sl 5 false (.sl (.sl .bool)) (.node .own tO)] (.block 1 (.seq (.region [im 14 0, o1
 15 (.lenS 14), o1 16 (.bin .add 15 (kI 1)), oT ⟨some 17, .mkSl 1 1 [(.bool false)] 16 16, none⟩ (some (.bool, .leaf)), ia 7 17]) (.seq (.region [im 18 7, im 19 6, im 20 1, o1 21
 (.ixA 1 18 19), o0 ⟨none, .store 1 21 20, none⟩]) (.region [im 22 5, im 23 7, oT ⟨some 24, .buildSl 1 [(.slice none 0 0)] 1 [(0, 23)], none⟩ (some ((.sl .bool), tO)), oT ⟨some 25,
 .app 1 24 22 24, none⟩ (some ((.sl .bool), tO)), ia 5 25])))))) (.region [im 12 6, o1 13 (.bin .add 12 (kI 1)), ia 6 13])))))))) (.seq (.region [im 26 5, ia 4 26]) .ret))))
def F_ref05_empty : AFn := ⟨ "mergelens/mergelensref05.empty", t_ref05_empty.erase, [.tmp 4], 2⟩
def W_ref05_empty (P : Program) (x : ((List UInt8) × Bool)) (K : (List (List Bool)) → Unit → Prop) : Prop :=
 JoinW (D := (List (List Bool))) (fun J1 => LoopW (D := ((List (List Bool)) × Int)) ([], (0 : Int)) (fun d3 J4 => (((decide (d3.2 ≤ (x.1.length : Int))) = true → JoinW (D := (List (List Bool))) (fun J5 => (0 ≤ (i64.wrap ((x.1.length : Int) + (1 : Int))) ∧ (i64.wrap ((x.1.length : Int) + (1 : Int))) ≤ (i64.wrap ((x.1.length : Int) + (1 : Int))) ∧ ((1 : Nat) : Int) * (i64.wrap ((x.1.length : Int) + (1 : Int))) ≤ 281474976710656) ∧
 (0 ≤ d3.2 ∧ d3.2 < ((List.length (List.replicate (Int.toNat (i64.wrap ((x.1.length : Int) + (1 : Int)))) false) : Nat) : Int)) ∧
 (d3.2.toNat < List.length (List.replicate (Int.toNat (i64.wrap ((x.1.length : Int) + (1 : Int)))) false)) ∧
 ((d3.1.length + List.length ([(List.set (List.replicate (Int.toNat (i64.wrap ((x.1.length : Int) + (1 : Int)))) false) d3.2.toNat x.2)] : List (List Bool))) * 24 ≤ 140737488355328) ∧
 J5 (d3.1 ++ ([(List.set (List.replicate (Int.toNat (i64.wrap ((x.1.length : Int) + (1 : Int)))) false) d3.2.toNat x.2)] : List (List Bool)))) (fun d6 => J4 (d6, (i64.wrap (d3.2 + (1 : Int)))))) ∧ ((decide (d3.2 ≤ (x.1.length : Int))) = false → J1 d3.1)))) (fun d2 => K d2 ())
theorem fn_ref05_empty {P} (h : Has P F_ref05_empty) {x K} (hw : W_ref05_empty P x K) : Fn P "mergelens/mergelensref05.empty" S_ref05_empty x K :=
 fn_of (c := t_ref05_empty) h rfl rfl (by kernel_rfl) (Eq.mpr (show liftT P F_ref05_empty S_ref05_empty t_ref05_empty x K = _ by kernel_rfl) hw)
end Go.VS
