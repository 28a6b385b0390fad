/- Functions of the program: typed code, and what it says, lifted. -/
import Derived.Test.YtobddjdmgebmgaaKTxSig
import Derived.KernelRfl
set_option linter.unusedVariables false
set_option linter.unusedSimpArgs false
namespace Go.VS
open IntKind
def t_ref05_compose : TCode :=
 (.seq (.region [o1 4 (.asg (.c (.slice none 0 0)))]) (.seq (.region [im 11 0, o1 12 (.lenK 11), ia 5 12]) (.seq (.region [o1 6 (.asg (.c (.slice none 0 0)))]) (.seq (.seq (.region
 [ia 7 (kI 0)]) (.frame (rg [6, 7, 8, 9, 10] 13 48) [] false (.join [.sl 6 false (.sl (.sl .bool)) (.node .own tO)] (.block 0 (.loop [.sl 6 false (.sl (.sl .bool)) (.node .own tO),
 .si 7] (.seq (.seq (.region [im 13 7, im 14 5, o1 15 (.bin .lss 13 14)]) (.cond 15 .skip (.exit 0))) (.seq (.frame (rg [6, 8, 9, 10] 18 43) [] false (.join [.sl 6 false (.sl (.sl
 .bool)) (.node .own tO)] (.block 1 (.seq (.region [im 18 5, oT ⟨some 19, .mkSl 1 1 [(.bool false)] 18 18, none⟩ (some (.bool, .leaf)), ia 8 19]) (.seq (.seq (.region [im 20 7, ia 9
 20]) (.frame (rg [8, 9, 10] 21 36) [] false (.join [.sl 8 false (.sl .bool) tO] (.block 2 (.loop [.sl 8 false (.sl .bool) tO, .si 9] (.seq (.seq (.region [im 21 9, im 22 5, o1 23
 (.bin .lss 21 22)]) (.cond 23 .skip (.exit 2))) (.seq (.frame (rg [8, 10] 26 31) [] false (.join [.sl 8 false (.sl .bool) tO] (.block 3 (.seq (.region [im 26 9, ia 10 26]) (.frame
 (rg [8, 10] 27 30) [] false (.join [.sl 8 false (.sl .bool) tO] (.block 4 (.loop [.sl 8 false (.sl .bool) tO, .si 10] (.seq (.seq (.region [im 27 10, im 28 5, o1 29 (.bin .lss 27
 28), im 30 29, gt 31 30 (.mv 0), gt 32 30 (.mv 7), gt 33 30 (.ixA 1 31 32), gt 34 30 (.load false 1 33), gt 35 30 (.mv 9), gt 36 30 (.ixA 1 34 35), gt 37 30 (.load false 1 36), o1
 38 (.pick 30 37 kF)]) (.cond 38 .skip (.exit 4))) (.seq (.frame (rg [8] 41 16) [] false (.join [.sl 8 false (.sl .bool) tO] (.block 5 (.region [im 41 8, im 42 10, im 43 8, im 44
 10, o1 45 (.ixA 1 43 44), ld 46 45, im 47 46, gf 48 47 (.mv 1), gf 49 47 (.mv 9), gf 50 47 (.ixA 1 48 49), gf 51 47 (.load false 1 50), gf 52 47 (.mv 10), gf 53 47 (.ixA 1 51 52),
 gf 54 47 (.load false 1 53), o1 55 (.pick 47 kT 54), o1 56 (.ixA 1 41 42), o0 ⟨none, .store 1 56 55, none⟩])))) (.region [im 39 10, o1 40 (.bin .add 39 (kI 1)), ia 10
 40]))))))))))) (.region [im 24 9, o1 25 (.bin .add 24 (kI 1)), ia 9 25])))))))) (.region [im 57 6, im 58 8, oT ⟨some 59, .buildSl 1 [(.slice none 0 0)] 1 [(0, 58)], none⟩ (some
 ((.sl .bool), tO)), oT ⟨some 60, .app 1 24 57 59, none⟩ (some ((.sl .bool), tO)), ia 6 60])))))) (.region [im 16 7, o1 17 (.bin .add 16 (kI 1)), ia 7 17])))))))) (.seq (.region [im
 61 6, ia 4 61]) .ret)))))
def F_ref05_compose : AFn := ⟨ "mergelens/mergelensref05.compose", t_ref05_compose.erase, [.tmp 4], 2⟩
def W_ref05_compose (P : Program) (x : ((List (List Bool)) × (List (List Bool)))) (K : (List (List Bool)) → Unit → Prop) : Prop :=
 JoinW (D := (List (List Bool))) (fun J1 => LoopW (D := ((List (List Bool)) × Int)) ([], (0 : Int)) (fun d3 J4 => (((decide (d3.2 < (x.1.length : Int))) = true → JoinW (D := (List (List Bool))) (fun J5 => (0 ≤ (x.1.length : Int) ∧ (x.1.length : Int) ≤ (x.1.length : Int) ∧ ((1 : Nat) : Int) * (x.1.length : Int) ≤ 281474976710656) ∧
 JoinW (D := (List Bool)) (fun J7 => LoopW (D := ((List Bool) × Int)) ((List.replicate (Int.toNat (x.1.length : Int)) false), d3.2) (fun d9 J10 => (((decide (d9.2 < (x.1.length : Int))) = true → JoinW (D := (List Bool)) (fun J11 => JoinW (D := (List Bool)) (fun J13 => LoopW (D := ((List Bool) × Int)) d9 (fun d15 J16 => (((decide (d15.2 < (x.1.length : Int))) = true → 0 ≤ d3.2 ∧ d3.2 < (x.1.length : Int))) ∧
 (((decide (d15.2 < (x.1.length : Int))) = true → d3.2.toNat < x.1.length)) ∧
 (((decide (d15.2 < (x.1.length : Int))) = true → 0 ≤ d9.2 ∧ d9.2 < ((List.length (List.getD x.1 d3.2.toNat []) : Nat) : Int))) ∧
 (((decide (d15.2 < (x.1.length : Int))) = true → d9.2.toNat < List.length (List.getD x.1 d3.2.toNat []))) ∧
 (((cond (decide (d15.2 < (x.1.length : Int))) (List.getD (List.getD x.1 d3.2.toNat []) d9.2.toNat false) false) = true → JoinW (D := (List Bool)) (fun J17 => (0 ≤ d15.2 ∧ d15.2 < (d15.1.length : Int)) ∧
 (d15.2.toNat < d15.1.length) ∧
 (((List.getD d15.1 d15.2.toNat false) = false → 0 ≤ d9.2 ∧ d9.2 < (x.2.length : Int))) ∧
 (((List.getD d15.1 d15.2.toNat false) = false → d9.2.toNat < x.2.length)) ∧
 (((List.getD d15.1 d15.2.toNat false) = false → 0 ≤ d15.2 ∧ d15.2 < ((List.length (List.getD x.2 d9.2.toNat []) : Nat) : Int))) ∧
 (((List.getD d15.1 d15.2.toNat false) = false → d15.2.toNat < List.length (List.getD x.2 d9.2.toNat []))) ∧
 (0 ≤ d15.2 ∧ d15.2 < (d15.1.length : Int)) ∧
 (d15.2.toNat < d15.1.length) ∧
 J17 (List.set d15.1 d15.2.toNat (cond (List.getD d15.1 d15.2.toNat false) true (List.getD (List.getD x.2 d9.2.toNat []) d15.2.toNat false)))) (fun d18 => J16 (d18, (i64.wrap (d15.2 + (1 : Int)))))) ∧ ((cond (decide (d15.2 < (x.1.length : Int))) (List.getD (List.getD x.1 d3.2.toNat []) d9.2.toNat false) false) = false → J13 d15.1)))) (fun d14 => J11 d14)) (fun d12 => J10 (d12, (i64.wrap (d9.2 + (1 : Int)))))) ∧ ((decide (d9.2 < (x.1.length : Int))) = false → J7 d9.1)))) (fun d8 => ((d3.1.length + List.length ([d8] : List (List Bool))) * 24 ≤ 140737488355328) ∧
 J5 (d3.1 ++ ([d8] : List (List Bool))))) (fun d6 => J4 (d6, (i64.wrap (d3.2 + (1 : Int)))))) ∧ ((decide (d3.2 < (x.1.length : Int))) = false → J1 d3.1)))) (fun d2 => K d2 ())
theorem fn_ref05_compose {P} (h : Has P F_ref05_compose) {x K} (hw : W_ref05_compose P x K) : Fn P "mergelens/mergelensref05.compose" S_ref05_compose x K :=
 fn_of (c := t_ref05_compose) h rfl rfl (by kernel_rfl) (Eq.mpr (show liftT P F_ref05_compose S_ref05_compose t_ref05_compose x K = _ by kernel_rfl) hw)
def t_ref05_union : TCode :=
 (.seq (.region [o1 4 (.asg (.c (.slice none 0 0)))]) (.seq (.region [o1 5 (.asg (.c (.slice none 0 0)))]) (.seq (.seq (.region [ia 6 (kI 0)]) (.frame (rg [] 5 42) [] false (.join
 [.sl 5 false (.sl (.sl .bool)) (.node .own tO)] (.block 0 (.loop [.sl 5 false (.sl (.sl .bool)) (.node .own tO), .si 6] (.seq (.seq (.region [im 9 6, im 10 0, o1 11 (.lenK 10), o1
 12 (.bin .lss 9 11)]) (.cond 12 .skip (.exit 0))) (.seq (.frame (rg [5, 7, 8] 15 32) [] false (.join [.sl 5 false (.sl (.sl .bool)) (.node .own tO)] (.block 1 (.seq (.region [im 15
 0, o1 16 (.lenK 15), oT ⟨some 17, .mkSl 1 1 [(.bool false)] 16 16, none⟩ (some (.bool, .leaf)), ia 7 17]) (.seq (.seq (.region [ia 8 (kI 0)]) (.frame (rg [7, 8] 18 25) [] false
 (.join [.sl 7 false (.sl .bool) tO] (.block 2 (.loop [.sl 7 false (.sl .bool) tO, .si 8] (.seq (.seq (.region [im 18 8, im 19 0, o1 20 (.lenK 19), o1 21 (.bin .lss 18 20)]) (.cond
 21 .skip (.exit 2))) (.seq (.frame (rg [7] 24 19) [] false (.join [.sl 7 false (.sl .bool) tO] (.block 3 (.region [im 24 7, im 25 8, im 26 0, im 27 6, o1 28 (.ixA 1 26 27), ld 29
 28, im 30 8, o1 31 (.ixA 1 29 30), ld 32 31, im 33 32, gf 34 33 (.mv 1), gf 35 33 (.mv 6), gf 36 33 (.ixA 1 34 35), gf 37 33 (.load false 1 36), gf 38 33 (.mv 8), gf 39 33 (.ixA 1
 37 38), gf 40 33 (.load false 1 39), o1 41 (.pick 33 kT 40), o1 42 (.ixA 1 24 25), o0 ⟨none, .store 1 42 41, none⟩])))) (.region [im 22 8, o1 23 (.bin .add 22 (kI 1)), ia 8
 23])))))))) (.region [im 43 5, im 44 7, oT ⟨some 45, .buildSl 1 [(.slice none 0 0)] 1 [(0, 44)], none⟩ (some ((.sl .bool), tO)), oT ⟨some 46, .app 1 24 43 45, none⟩ (some ((.sl
 .bool), tO)), ia 5 46])))))) (.region [im 13 6, o1 14 (.bin .add 13 (kI 1)), ia 6 14])))))))) (.seq (.region [im 47 5, ia 4 47]) .ret))))
def F_ref05_union : AFn := ⟨ "mergelens/mergelensref05.union", t_ref05_union.erase, [.tmp 4], 2⟩
def W_ref05_union (P : Program) (x : ((List (List Bool)) × (List (List Bool)))) (K : (List (List Bool)) → Unit → Prop) : Prop :=
 JoinW (D := (List (List Bool))) (fun J1 => LoopW (D := ((List (List Bool)) × Int)) ([], (0 : Int)) (fun d3 J4 => (((decide (d3.2 < (x.1.length : Int))) = true → JoinW (D := (List (List Bool))) (fun J5 => (0 ≤ (x.1.length : Int) ∧ (x.1.length : Int) ≤ (x.1.length : Int) ∧ ((1 : Nat) : Int) * (x.1.length : Int) ≤ 281474976710656) ∧
 JoinW (D := (List Bool)) (fun J7 => LoopW (D := ((List Bool) × Int)) ((List.replicate (Int.toNat (x.1.length : Int)) false), (0 : Int)) (fun d9 J10 => (((decide (d9.2 < (x.1.length : Int))) = true → JoinW (D := (List Bool)) (fun J11 => (0 ≤ d3.2 ∧ d3.2 < (x.1.length : Int)) ∧
 (d3.2.toNat < x.1.length) ∧
 (0 ≤ d9.2 ∧ d9.2 < ((List.length (List.getD x.1 d3.2.toNat []) : Nat) : Int)) ∧
 (d9.2.toNat < List.length (List.getD x.1 d3.2.toNat [])) ∧
 (((List.getD (List.getD x.1 d3.2.toNat []) d9.2.toNat false) = false → 0 ≤ d3.2 ∧ d3.2 < (x.2.length : Int))) ∧
 (((List.getD (List.getD x.1 d3.2.toNat []) d9.2.toNat false) = false → d3.2.toNat < x.2.length)) ∧
 (((List.getD (List.getD x.1 d3.2.toNat []) d9.2.toNat false) = false → 0 ≤ d9.2 ∧ d9.2 < ((List.length (List.getD x.2 d3.2.toNat []) : Nat) : Int))) ∧
 (((List.getD (List.getD x.1 d3.2.toNat []) d9.2.toNat false) = false → d9.2.toNat < List.length (List.getD x.2 d3.2.toNat []))) ∧
 (0 ≤ d9.2 ∧ d9.2 < (d9.1.length : Int)) ∧
 (d9.2.toNat < d9.1.length) ∧
 J11 (List.set d9.1 d9.2.toNat (cond (List.getD (List.getD x.1 d3.2.toNat []) d9.2.toNat false) true (List.getD (List.getD x.2 d3.2.toNat []) d9.2.toNat false)))) (fun d12 => J10 (d12, (i64.wrap (d9.2 + (1 : Int)))))) ∧ ((decide (d9.2 < (x.1.length : Int))) = false → J7 d9.1)))) (fun d8 => ((d3.1.length + List.length ([d8] : List (List Bool))) * 24 ≤ 140737488355328) ∧
 J5 (d3.1 ++ ([d8] : List (List Bool))))) (fun d6 => J4 (d6, (i64.wrap (d3.2 + (1 : Int)))))) ∧ ((decide (d3.2 < (x.1.length : Int))) = false → J1 d3.1)))) (fun d2 => K d2 ())
theorem fn_ref05_union {P} (h : Has P F_ref05_union) {x K} (hw : W_ref05_union P x K) : Fn P "mergelens/mergelensref05.union" S_ref05_union x K :=
 fn_of (c := t_ref05_union) h rfl rfl (by kernel_rfl) (Eq.mpr (show liftT P F_ref05_union S_ref05_union t_ref05_union x K = _ by kernel_rfl) hw)
def t_ref05_pairs : TCode :=
 (.seq (.region [o1 3 (.box 0), o1 6 (.asg (.c (.slice none 0 0)))]) (.seq (.region [im 15 2, fa 16 0 3, ld 17 16, o1 18 (.bin .eql 17 (kI 0)), im 19 18, gf 20 19 (.fAddr 0 3), gf
 21 19 (.load false 1 20), gf 22 19 (.bin .eql 21 (kI 4)), o1 23 (.pick 19 kT 22), im 24 23, gf 25 24 (.fAddr 0 3), gf 26 24 (.load false 1 25), gf 27 24 (.bin .eql 26 (kI 6)), o1
 28 (.pick 24 kT 27), oS ⟨some 29, .call "mergelens/mergelensref05.empty" [15, 28], none⟩ S_ref05_empty, ia 7 29]) (.seq (.seq (.region [fa 30 0 3, ld 31 30]) (.frame (rg [7, 8, 9,
 10, 11, 12, 13, 14] 32 114) [] false (.join [.sl 7 false (.sl (.sl .bool)) (.node .own tO)] (.block 0 (.seq (.region [o1 33 (.bin .eql 31 (kI 1)), ia 32 33]) (.frame (rg [7, 8, 9,
 10, 11, 12, 13, 14] 34 112) [] false (.join [.sl 7 false (.sl (.sl .bool)) (.node .own tO)] (.cond 32 (.seq (.region [ia 8 (kI 0)]) (.frame (rg [7, 8] 34 19) [] false (.join [.sl 7
 false (.sl (.sl .bool)) (.node .own tO)] (.block 1 (.loop [.sl 7 false (.sl (.sl .bool)) (.node .own tO), .si 8] (.seq (.seq (.region [im 34 8, im 35 2, o1 36 (.lenS 35), o1 37
 (.bin .lss 34 36)]) (.cond 37 .skip (.exit 1))) (.seq (.frame (rg [7] 40 13) [] false (.join [.sl 7 false (.sl (.sl .bool)) (.node .own tO)] (.block 2 (.frame (rg [7] 40 13) []
 false (.join [.sl 7 false (.sl (.sl .bool)) (.node .own tO)] (.draw [(.first (im 40 7) (.first (im 41 8) (.first (o1 42 (.ixA 1 40 41)) (.first (im 44 8) (.first (o1 45 (.bin .add
 44 (kI 1))) (.first (fa 46 1 3) (.first (o1 47 (.load true 4 46)) (.first (im 48 2) (.first (im 49 8) (.first (o1 50 (.ixS 48 49)) (.alt (ld 43 42) (.alt (oS ⟨some 51, .call
 "mergelens/mergelensref04.Has" [47, 50], none⟩ S_ref04_Has) (.first (o1 52 (.ixA 1 43 45)) (.alt (o0 ⟨none, .store 1 52 51, none⟩) .done .stop)) .stop) (.alt (oS ⟨some 51, .call
 "mergelens/mergelensref04.Has" [47, 50], none⟩ S_ref04_Has) (.first (ld 43 42) (.first (o1 52 (.ixA 1 43 45)) (.alt (o0 ⟨none, .store 1 52 51, none⟩) .done .stop)))
 .stop))))))))))))])))))) (.region [im 38 8, o1 39 (.bin .add 38 (kI 1)), ia 8 39])))))))) (.seq (.region [o1 54 (.bin .eql 31 (kI 2)), ia 53 54]) (.frame (rg [7, 9, 10, 11, 12, 13,
 14] 55 91) [] false (.join [.sl 7 false (.sl (.sl .bool)) (.node .own tO)] (.cond 53 (.region [im 55 7, o1 56 (.ixA 1 55 (kI 0)), ld 57 56, o1 58 (.ixA 1 57 (kI 0)), o0 ⟨none,
 .store 1 58 kT, none⟩]) (.seq (.region [o1 60 (.bin .eql 31 (kI 3)), ia 59 60]) (.frame (rg [7, 9, 10, 11, 12, 13, 14] 61 85) [] false (.join [.sl 7 false (.sl (.sl .bool)) (.node
 .own tO)] (.cond 59 (.region [im 61 7, im 62 2, o1 63 (.lenS 62), o1 64 (.ixA 1 61 63), ld 65 64, im 66 2, o1 67 (.lenS 66), o1 68 (.ixA 1 65 67), o0 ⟨none, .store 1 68 kT, none⟩])
 (.seq (.region [o1 70 (.bin .eql 31 (kI 4)), ia 69 70]) (.frame (rg [7, 9, 10, 11, 12, 13, 14] 71 75) [] false (.join [.sl 7 false (.sl (.sl .bool)) (.node .own tO)] (.cond 69
 (.seq (.region [ia 9 (kI 0)]) (.frame (rg [7, 9] 71 17) [] false (.join [.sl 7 false (.sl (.sl .bool)) (.node .own tO)] (.block 3 (.loop [.sl 7 false (.sl (.sl .bool)) (.node .own
 tO), .si 9] (.seq (.seq (.region [im 71 9, fa 72 7 3, ld 73 72, o1 74 (.lenK 73), o1 75 (.bin .lss 71 74)]) (.cond 75 .skip (.exit 3))) (.seq (.frame (rg [7] 78 10) [] false (.join
 [.sl 7 false (.sl (.sl .bool)) (.node .own tO)] (.block 4 (.region [im 78 7, im 79 1, fa 80 7 3, ld 81 80, im 82 9, o1 83 (.ixA 1 81 82), ld 84 83, o1 85 (.ixA 1 79 84), ld 86 85,
 oS ⟨some 87, .call "mergelens/mergelensref05.compose" [78, 86], none⟩ S_ref05_compose, ia 7 87])))) (.region [im 76 9, o1 77 (.bin .add 76 (kI 1)), ia 9 77])))))))) (.seq (.region
 [o1 89 (.bin .eql 31 (kI 5)), ia 88 89]) (.frame (rg [7, 10, 11, 12, 13, 14] 90 56) [] false (.join [.sl 7 false (.sl (.sl .bool)) (.node .own tO)] (.cond 88 (.seq (.region [ia 10
 (kI 0)]) (.frame (rg [7, 10] 90 17) [] false (.join [.sl 7 false (.sl (.sl .bool)) (.node .own tO)] (.block 5 (.loop [.sl 7 false (.sl (.sl .bool)) (.node .own tO), .si 10] (.seq
 (.seq (.region [im 90 10, fa 91 7 3, ld 92 91, o1 93 (.lenK 92), o1 94 (.bin .lss 90 93)]) (.cond 94 .skip (.exit 5))) (.seq (.frame (rg [7] 97 10) [] false (.join [.sl 7 false
 (.sl (.sl .bool)) (.node .own tO)] (.block 6 (.region [im 97 7, im 98 1, fa 99 7 3, ld 100 99, im 101 10, o1 102 (.ixA 1 100 101), ld 103 102, o1 104 (.ixA 1 98 103), ld 105 104,
 oS ⟨some 106, .call "mergelens/mergelensref05.union" [97, 105], none⟩ S_ref05_union, ia 7 106])))) (.region [im 95 10, o1 96 (.bin .add 95 (kI 1)), ia 10 96])))))))) (.seq (.region
 [o1 108 (.bin .eql 31 (kI 6)), ia 107 108]) (.frame (rg [7, 11, 12, 13, 14] 109 37) [] false (.join [.sl 7 false (.sl (.sl .bool)) (.node .own tO)] (.cond 107 (.seq (.region [im
 109 1, fa 110 7 3, ld 111 110, o1 112 (.ixA 1 111 (kI 0)), ld 113 112, o1 114 (.ixA 1 109 113), ld 115 114, ia 11 115]) (.seq (.seq (.region [ia 12 (kI 0)]) (.frame (rg [7, 12] 116
 9) [] false (.join [.sl 7 false (.sl (.sl .bool)) (.node .own tO)] (.block 7 (.loop [.sl 7 false (.sl (.sl .bool)) (.node .own tO), .si 12] (.seq (.seq (.region [im 116 12, fa 117
 5 3, ld 118 117, o1 119 (.bin .lss 116 118)]) (.cond 119 .skip (.exit 7))) (.seq (.frame [7, 122, 123, 124] [] false (.join [.sl 7 false (.sl (.sl .bool)) (.node .own tO)] (.block
 8 (.region [im 122 7, im 123 11, oS ⟨some 124, .call "mergelens/mergelensref05.compose" [122, 123], none⟩ S_ref05_compose, ia 7 124])))) (.region [im 120 12, o1 121 (.bin .add 120
 (kI 1)), ia 12 121])))))))) (.seq (.region [fa 125 6 3, ld 126 125, fa 127 5 3, ld 128 127, o1 129 (.bin .sub 126 128), ia 13 129]) (.seq (.seq (.region [fa 130 6 3, ld 131 130, o1
 132 (.bin .lss 131 (kI 0))]) (.frame [13, 133, 134, 135] [] false (.join [.si 13] (.cond 132 (.region [im 133 2, o1 134 (.lenS 133), o1 135 (.bin .add 134 (kI 1)), ia 13 135])
 .skip)))) (.seq (.region [ia 14 (kI 0)]) (.frame (rg [7, 14] 136 10) [] false (.join [.sl 7 false (.sl (.sl .bool)) (.node .own tO)] (.block 9 (.loop [.sl 7 false (.sl (.sl .bool))
 (.node .own tO), .si 14] (.seq (.seq (.region [im 136 14, im 137 13, o1 138 (.bin .lss 136 137)]) (.cond 138 .skip (.exit 9))) (.seq (.frame (rg [7] 141 5) [] false (.join [.sl 7
 false (.sl (.sl .bool)) (.node .own tO)] (.block 10 (.region [im 141 7, im 142 7, im 143 11, oS ⟨some 144, .call "mergelens/mergelensref05.compose" [142, 143], none⟩
 S_ref05_compose, oS ⟨some 145, .call "mergelens/mergelensref05.union" [141, 144], none⟩ S_ref05_union, ia 7 145])))) (.region [im 139 14, o1 140 (.bin .add 139 (kI 1)), ia 14
 140])))))))))))) .skip)))))))))))))))))))))))))))) (.seq (.region [im 146 7, ia 6 146]) .ret))))
def F_ref05_pairs : AFn := ⟨ "mergelens/mergelensref05.pairs", t_ref05_pairs.erase, [.tmp 6], 3⟩
def W_ref05_pairs (P : Program) (x : (Node × ((List (List (List Bool))) × (List UInt8)))) (K : (List (List Bool)) → Unit → Prop) : Prop :=
 Fn P "mergelens/mergelensref05.empty" S_ref05_empty (x.2.2, (cond (cond (x.1.1 == (0 : Int)) true (x.1.1 == (4 : Int))) true (x.1.1 == (6 : Int)))) (fun (d1 : (List (List Bool))) (e2 : Unit) => JoinW (D := (List (List Bool))) (fun J3 => JoinW (D := (List (List Bool))) (fun J5 => (((x.1.1 == (1 : Int)) = true → JoinW (D := (List (List Bool))) (fun J7 => LoopW (D := ((List (List Bool)) × Int)) (d1, (0 : Int)) (fun d9 J10 => (((decide (d9.2 < (x.2.2.length : Int))) = true → JoinW (D := (List (List Bool))) (fun J11 => JoinW (D := (List (List Bool))) (fun J13 => (0 ≤ d9.2 ∧ d9.2 < (d9.1.length : Int)) ∧
 (0 ≤ d9.2 ∧ d9.2 < (x.2.2.length : Int)) ∧
 ((d9.2.toNat < d9.1.length) ∧
 (Fn P "mergelens/mergelensref04.Has" S_ref04_Has (x.1.2.1, ((x.2.2.getD d9.2.toNat 0).toNat : Int)) (fun (d15 : Bool) (e16 : Unit) => (d9.2.toNat < d9.1.length) ∧
 (0 ≤ (i64.wrap (d9.2 + (1 : Int))) ∧ (i64.wrap (d9.2 + (1 : Int))) < ((List.length (List.getD d9.1 d9.2.toNat []) : Nat) : Int)) ∧
 ((d9.2.toNat < d9.1.length) ∧
 ((Int.toNat (i64.wrap (d9.2 + (1 : Int)))) < List.length (List.getD d9.1 d9.2.toNat [])) ∧
 J13 (List.set d9.1 d9.2.toNat (List.set (List.getD d9.1 d9.2.toNat []) (Int.toNat (i64.wrap (d9.2 + (1 : Int)))) d15))) ∧ True)) ∧ True) ∧ ((Fn P "mergelens/mergelensref04.Has" S_ref04_Has (x.1.2.1, ((x.2.2.getD d9.2.toNat 0).toNat : Int)) (fun (d17 : Bool) (e18 : Unit) => (d9.2.toNat < d9.1.length) ∧
 (d9.2.toNat < d9.1.length) ∧
 (0 ≤ (i64.wrap (d9.2 + (1 : Int))) ∧ (i64.wrap (d9.2 + (1 : Int))) < ((List.length (List.getD d9.1 d9.2.toNat []) : Nat) : Int)) ∧
 ((d9.2.toNat < d9.1.length) ∧
 ((Int.toNat (i64.wrap (d9.2 + (1 : Int)))) < List.length (List.getD d9.1 d9.2.toNat [])) ∧
 J13 (List.set d9.1 d9.2.toNat (List.set (List.getD d9.1 d9.2.toNat []) (Int.toNat (i64.wrap (d9.2 + (1 : Int)))) d17))) ∧ True)) ∧ True)) (fun d14 => J11 d14)) (fun d12 => J10 (d12, (i64.wrap (d9.2 + (1 : Int)))))) ∧ ((decide (d9.2 < (x.2.2.length : Int))) = false → J7 d9.1)))) (fun d8 => J5 d8)) ∧ ((x.1.1 == (1 : Int)) = false → JoinW (D := (List (List Bool))) (fun J19 => (((x.1.1 == (2 : Int)) = true → (0 ≤ (0 : Int) ∧ (0 : Int) < (d1.length : Int)) ∧
 ((Int.toNat (0 : Int)) < d1.length) ∧
 ((Int.toNat (0 : Int)) < d1.length) ∧
 (0 ≤ (0 : Int) ∧ (0 : Int) < ((List.length (List.getD d1 (Int.toNat (0 : Int)) []) : Nat) : Int)) ∧
 ((Int.toNat (0 : Int)) < d1.length) ∧
 ((Int.toNat (0 : Int)) < List.length (List.getD d1 (Int.toNat (0 : Int)) [])) ∧
 J19 (List.set d1 (Int.toNat (0 : Int)) (List.set (List.getD d1 (Int.toNat (0 : Int)) []) (Int.toNat (0 : Int)) true))) ∧ ((x.1.1 == (2 : Int)) = false → JoinW (D := (List (List Bool))) (fun J21 => (((x.1.1 == (3 : Int)) = true → (0 ≤ (x.2.2.length : Int) ∧ (x.2.2.length : Int) < (d1.length : Int)) ∧
 ((Int.toNat (x.2.2.length : Int)) < d1.length) ∧
 ((Int.toNat (x.2.2.length : Int)) < d1.length) ∧
 (0 ≤ (x.2.2.length : Int) ∧ (x.2.2.length : Int) < ((List.length (List.getD d1 (Int.toNat (x.2.2.length : Int)) []) : Nat) : Int)) ∧
 ((Int.toNat (x.2.2.length : Int)) < d1.length) ∧
 ((Int.toNat (x.2.2.length : Int)) < List.length (List.getD d1 (Int.toNat (x.2.2.length : Int)) [])) ∧
 J21 (List.set d1 (Int.toNat (x.2.2.length : Int)) (List.set (List.getD d1 (Int.toNat (x.2.2.length : Int)) []) (Int.toNat (x.2.2.length : Int)) true))) ∧ ((x.1.1 == (3 : Int)) = false → JoinW (D := (List (List Bool))) (fun J23 => (((x.1.1 == (4 : Int)) = true → JoinW (D := (List (List Bool))) (fun J25 => LoopW (D := ((List (List Bool)) × Int)) (d1, (0 : Int)) (fun d27 J28 => (((decide (d27.2 < (x.1.2.2.2.2.length : Int))) = true → JoinW (D := (List (List Bool))) (fun J29 => (0 ≤ d27.2 ∧ d27.2 < (x.1.2.2.2.2.length : Int)) ∧
 (d27.2.toNat < x.1.2.2.2.2.length) ∧
 (0 ≤ (List.getD x.1.2.2.2.2 d27.2.toNat (0 : Int)) ∧ (List.getD x.1.2.2.2.2 d27.2.toNat (0 : Int)) < (x.2.1.length : Int)) ∧
 ((Int.toNat (List.getD x.1.2.2.2.2 d27.2.toNat (0 : Int))) < x.2.1.length) ∧
 Fn P "mergelens/mergelensref05.compose" S_ref05_compose (d27.1, (List.getD x.2.1 (Int.toNat (List.getD x.1.2.2.2.2 d27.2.toNat (0 : Int))) [])) (fun (d31 : (List (List Bool))) (e32 : Unit) => J29 d31)) (fun d30 => J28 (d30, (i64.wrap (d27.2 + (1 : Int)))))) ∧ ((decide (d27.2 < (x.1.2.2.2.2.length : Int))) = false → J25 d27.1)))) (fun d26 => J23 d26)) ∧ ((x.1.1 == (4 : Int)) = false → JoinW (D := (List (List Bool))) (fun J33 => (((x.1.1 == (5 : Int)) = true → JoinW (D := (List (List Bool))) (fun J35 => LoopW (D := ((List (List Bool)) × Int)) (d1, (0 : Int)) (fun d37 J38 => (((decide (d37.2 < (x.1.2.2.2.2.length : Int))) = true → JoinW (D := (List (List Bool))) (fun J39 => (0 ≤ d37.2 ∧ d37.2 < (x.1.2.2.2.2.length : Int)) ∧
 (d37.2.toNat < x.1.2.2.2.2.length) ∧
 (0 ≤ (List.getD x.1.2.2.2.2 d37.2.toNat (0 : Int)) ∧ (List.getD x.1.2.2.2.2 d37.2.toNat (0 : Int)) < (x.2.1.length : Int)) ∧
 ((Int.toNat (List.getD x.1.2.2.2.2 d37.2.toNat (0 : Int))) < x.2.1.length) ∧
 Fn P "mergelens/mergelensref05.union" S_ref05_union (d37.1, (List.getD x.2.1 (Int.toNat (List.getD x.1.2.2.2.2 d37.2.toNat (0 : Int))) [])) (fun (d41 : (List (List Bool))) (e42 : Unit) => J39 d41)) (fun d40 => J38 (d40, (i64.wrap (d37.2 + (1 : Int)))))) ∧ ((decide (d37.2 < (x.1.2.2.2.2.length : Int))) = false → J35 d37.1)))) (fun d36 => J33 d36)) ∧ ((x.1.1 == (5 : Int)) = false → JoinW (D := (List (List Bool))) (fun J43 => (((x.1.1 == (6 : Int)) = true → (0 ≤ (0 : Int) ∧ (0 : Int) < (x.1.2.2.2.2.length : Int)) ∧
 ((Int.toNat (0 : Int)) < x.1.2.2.2.2.length) ∧
 (0 ≤ (List.getD x.1.2.2.2.2 (Int.toNat (0 : Int)) (0 : Int)) ∧ (List.getD x.1.2.2.2.2 (Int.toNat (0 : Int)) (0 : Int)) < (x.2.1.length : Int)) ∧
 ((Int.toNat (List.getD x.1.2.2.2.2 (Int.toNat (0 : Int)) (0 : Int))) < x.2.1.length) ∧
 JoinW (D := (List (List Bool))) (fun J45 => LoopW (D := ((List (List Bool)) × Int)) (d1, (0 : Int)) (fun d47 J48 => (((decide (d47.2 < x.1.2.2.1)) = true → JoinW (D := (List (List Bool))) (fun J49 => Fn P "mergelens/mergelensref05.compose" S_ref05_compose (d47.1, (List.getD x.2.1 (Int.toNat (List.getD x.1.2.2.2.2 (Int.toNat (0 : Int)) (0 : Int))) [])) (fun (d51 : (List (List Bool))) (e52 : Unit) => J49 d51)) (fun d50 => J48 (d50, (i64.wrap (d47.2 + (1 : Int)))))) ∧ ((decide (d47.2 < x.1.2.2.1)) = false → J45 d47.1)))) (fun d46 => JoinW (D := Int) (fun J53 => (((decide (x.1.2.2.2.1 < (0 : Int))) = true → J53 (i64.wrap ((x.2.2.length : Int) + (1 : Int)))) ∧ ((decide (x.1.2.2.2.1 < (0 : Int))) = false → J53 (i64.wrap (x.1.2.2.2.1 - x.1.2.2.1))))) (fun d54 => JoinW (D := (List (List Bool))) (fun J55 => LoopW (D := ((List (List Bool)) × Int)) (d46, (0 : Int)) (fun d57 J58 => (((decide (d57.2 < d54)) = true → JoinW (D := (List (List Bool))) (fun J59 => Fn P "mergelens/mergelensref05.compose" S_ref05_compose (d57.1, (List.getD x.2.1 (Int.toNat (List.getD x.1.2.2.2.2 (Int.toNat (0 : Int)) (0 : Int))) [])) (fun (d61 : (List (List Bool))) (e62 : Unit) => Fn P "mergelens/mergelensref05.union" S_ref05_union (d57.1, d61) (fun (d63 : (List (List Bool))) (e64 : Unit) => J59 d63))) (fun d60 => J58 (d60, (i64.wrap (d57.2 + (1 : Int)))))) ∧ ((decide (d57.2 < d54)) = false → J55 d57.1)))) (fun d56 => J43 d56)))) ∧ ((x.1.1 == (6 : Int)) = false → J43 d1))) (fun d44 => J33 d44)))) (fun d34 => J23 d34)))) (fun d24 => J21 d24)))) (fun d22 => J19 d22)))) (fun d20 => J5 d20)))) (fun d6 => J3 d6)) (fun d4 => K d4 ()))
theorem fn_ref05_pairs {P} (h : Has P F_ref05_pairs) {x K} (hw : W_ref05_pairs P x K) : Fn P "mergelens/mergelensref05.pairs" S_ref05_pairs x K :=
 fn_of (c := t_ref05_pairs) h rfl rfl (by kernel_rfl) (Eq.mpr (show liftT P F_ref05_pairs S_ref05_pairs t_ref05_pairs x K = _ by kernel_rfl) hw)
def t_ref05_Pairs : TCode :=
 (.seq (.region [o1 4 (.asg (.c (.slice none 0 0)))]) (.seq (.region [o1 5 (.asg (.c (.slice none 0 0)))]) (.seq (.seq (.region [ia 6 (kI 0)]) (.frame (rg [] 5 18) [] false (.join
 [.sl 5 false (.sl (.sl (.sl .bool))) (.node .own (.node .imm tM))] (.block 0 (.loop [.sl 5 false (.sl (.sl (.sl .bool))) (.node .own (.node .imm tM)), .si 6] (.seq (.seq (.region
 [im 7 6, im 8 0, o1 9 (.lenK 8), o1 10 (.bin .lss 7 9)]) (.cond 10 .skip (.exit 0))) (.seq (.frame (rg [5] 13 10) [] false (.join [.sl 5 false (.sl (.sl (.sl .bool))) (.node .own
 (.node .imm tM))] (.block 1 (.region [im 13 5, im 14 0, im 15 6, o1 16 (.ixA 8 14 15), o1 17 (.load true 8 16), im 18 5, im 19 1, oS ⟨some 20, .call
 "mergelens/mergelensref05.pairs" [17, 18, 19], none⟩ S_ref05_pairs, ⟨⟨some 21, .buildSl 1 [(.slice none 0 0)] 1 [(0, 20)], none⟩, some ((.sl (.sl .bool)), (.node .own tO)), ⟨[],
 []⟩, true, none, false, false⟩, oT ⟨some 22, .app 1 24 13 21, none⟩ (some ((.sl (.sl .bool)), (.node .imm tM))), ia 5 22])))) (.region [im 11 6, o1 12 (.bin .add 11 (kI 1)), ia 6
 12])))))))) (.seq (.region [im 23 5, im 24 5, o1 25 (.lenK 24), o1 26 (.bin .sub 25 (kI 1)), o1 27 (.ixA 1 23 26), ld 28 27, ia 4 28]) .ret))))
def F_ref05_Pairs : AFn := ⟨ "mergelens/mergelensref05.Pairs", t_ref05_Pairs.erase, [.tmp 4], 2⟩
def W_ref05_Pairs (P : Program) (x : ((List Node) × (List UInt8))) (K : (List (List Bool)) → Unit → Prop) : Prop :=
 JoinW (D := (List (List (List Bool)))) (fun J1 => LoopW (D := ((List (List (List Bool))) × Int)) ([], (0 : Int)) (fun d3 J4 => (((decide (d3.2 < (x.1.length : Int))) = true → JoinW (D := (List (List (List Bool)))) (fun J5 => (0 ≤ d3.2 ∧ d3.2 < (x.1.length : Int)) ∧
 (d3.2.toNat < x.1.length) ∧
 Fn P "mergelens/mergelensref05.pairs" S_ref05_pairs ((List.getD x.1 d3.2.toNat zNode), (d3.1, x.2)) (fun (d7 : (List (List Bool))) (e8 : Unit) => ((d3.1.length + List.length ([d7] : List (List (List Bool)))) * 24 ≤ 140737488355328) ∧
 J5 (d3.1 ++ ([d7] : List (List (List Bool)))))) (fun d6 => J4 (d6, (i64.wrap (d3.2 + (1 : Int)))))) ∧ ((decide (d3.2 < (x.1.length : Int))) = false → J1 d3.1)))) (fun d2 => (0 ≤ (i64.wrap ((d2.length : Int) - (1 : Int))) ∧ (i64.wrap ((d2.length : Int) - (1 : Int))) < (d2.length : Int)) ∧
 ((Int.toNat (i64.wrap ((d2.length : Int) - (1 : Int)))) < d2.length) ∧
 K (List.getD d2 (Int.toNat (i64.wrap ((d2.length : Int) - (1 : Int)))) []) ())
theorem fn_ref05_Pairs {P} (h : Has P F_ref05_Pairs) {x K} (hw : W_ref05_Pairs P x K) : Fn P "mergelens/mergelensref05.Pairs" S_ref05_Pairs x K :=
 fn_of (c := t_ref05_Pairs) h rfl rfl (by kernel_rfl) (Eq.mpr (show liftT P F_ref05_Pairs S_ref05_Pairs t_ref05_Pairs x K = _ by kernel_rfl) hw)
def t_law05_accepts : TCode :=
 (.seq (.region [o1 4 (.box 1), o1 6 (.asg kF)]) (.seq (.region [im 11 0, im 12 2, oS ⟨some 13, .call "mergelens/mergelensref05.Pairs" [11, 12], none⟩ S_ref05_Pairs, ia 7 13]) (.seq
 (.seq (.region [ia 8 (kI 0)]) (.frame (rg [6, 8, 9, 10] 14 29) [] false (.join [.sl 6 false .bool .leaf] (.block 0 (.loop [.sl 6 false .bool .leaf, .si 8] (.seq (.seq (.region [im
 14 8, im 15 2, o1 16 (.lenS 15), o1 17 (.bin .leq 14 16)]) (.cond 17 .skip (.exit 0))) (.seq (.frame (rg [6, 9, 10] 20 23) [] false (.join [.sl 6 false .bool .leaf] (.block 1 (.seq
 (.region [o1 20 (.load true 2 4), im 21 2, im 22 8, oS ⟨some 23, .call "mergelens/mergelensref05.Ends" [20, 21, 22], none⟩ S_ref05_Ends, ia 9 23]) (.seq (.region [im 24 8, ia 10
 24]) (.frame (rg [6, 10] 25 18) [] false (.join [.sl 6 false .bool .leaf] (.block 2 (.loop [.sl 6 false .bool .leaf, .si 10] (.seq (.seq (.region [im 25 10, im 26 2, o1 27 (.lenS
 26), o1 28 (.bin .leq 25 27)]) (.cond 28 .skip (.exit 2))) (.seq (.frame (rg [6] 31 12) [] false (.join [.sl 6 false .bool .leaf] (.block 3 (.seq (.draw [(.first (im 31 9) (.first
 (im 32 10) (.first (o1 33 (.ixA 1 31 32)) (.first (ld 34 33) (.first (im 35 7) (.first (im 36 8) (.first (o1 37 (.ixA 1 35 36)) (.first (ld 38 37) (.first (im 39 10) (.first (o1 40
 (.ixA 1 38 39)) (.first (ld 41 40) (.first (o1 42 (.eqB true 34 41)) .done))))))))))))]) (.cond 42 (.seq (.region [o1 6 (.asg kF)]) .ret) .skip))))) (.region [im 29 10, o1 30 (.bin
 .add 29 (kI 1)), ia 10 30])))))))))))) (.region [im 18 8, o1 19 (.bin .add 18 (kI 1)), ia 8 19])))))))) (.seq (.region [o1 6 (.asg kT)]) .ret))))
def F_law05_accepts : AFn := ⟨ "mergelens/mergelenslaw05.accepts", t_law05_accepts.erase, [.tmp 6], 3⟩
def W_law05_accepts (P : Program) (x : ((List Node) × (((List State) × Int) × (List UInt8)))) (K : Bool → Unit → Prop) : Prop :=
 Fn P "mergelens/mergelensref05.Pairs" S_ref05_Pairs (x.1, x.2.2) (fun (d1 : (List (List Bool))) (e2 : Unit) => JoinW (D := Bool) (fun J3 => LoopW (D := (Bool × Int)) (false, (0 : Int)) (fun d5 J6 => (((decide (d5.2 ≤ (x.2.2.length : Int))) = true → JoinW (D := Bool) (fun J7 => Fn P "mergelens/mergelensref05.Ends" S_ref05_Ends (x.2.1, (x.2.2, d5.2)) (fun (d9 : (List Bool)) (e10 : Unit) => JoinW (D := Bool) (fun J11 => LoopW (D := (Bool × Int)) d5 (fun d13 J14 => (((decide (d13.2 ≤ (x.2.2.length : Int))) = true → JoinW (D := Bool) (fun J15 => (0 ≤ d13.2 ∧ d13.2 < (d9.length : Int)) ∧
 (d13.2.toNat < d9.length) ∧
 (0 ≤ d5.2 ∧ d5.2 < (d1.length : Int)) ∧
 (d5.2.toNat < d1.length) ∧
 (0 ≤ d13.2 ∧ d13.2 < ((List.length (List.getD d1 d5.2.toNat []) : Nat) : Int)) ∧
 (d13.2.toNat < List.length (List.getD d1 d5.2.toNat [])) ∧
 (((!((List.getD d9 d13.2.toNat false) == (List.getD (List.getD d1 d5.2.toNat []) d13.2.toNat false))) = true → K false ()) ∧ ((!((List.getD d9 d13.2.toNat false) == (List.getD (List.getD d1 d5.2.toNat []) d13.2.toNat false))) = false → J15 d13.1))) (fun d16 => J14 (d16, (i64.wrap (d13.2 + (1 : Int)))))) ∧ ((decide (d13.2 ≤ (x.2.2.length : Int))) = false → J11 d13.1)))) (fun d12 => J7 d12))) (fun d8 => J6 (d8, (i64.wrap (d5.2 + (1 : Int)))))) ∧ ((decide (d5.2 ≤ (x.2.2.length : Int))) = false → J3 d5.1)))) (fun d4 => K true ()))
theorem fn_law05_accepts {P} (h : Has P F_law05_accepts) {x K} (hw : W_law05_accepts P x K) : Fn P "mergelens/mergelenslaw05.accepts" S_law05_accepts x K :=
 fn_of (c := t_law05_accepts) h rfl rfl (by kernel_rfl) (Eq.mpr (show liftT P F_law05_accepts S_law05_accepts t_law05_accepts x K = _ by kernel_rfl) hw)
def t_law05_AutomatonBuilds : TCode :=
 (.seq (.region [o1 8 (.asg kF)]) (.seq (.region [im 17 0, im 18 1, oS ⟨some 19, .call "mergelens/mergelensgen.Pattern" [17, 18], none⟩ S_gen_Pattern, oS ⟨some 20, .call
 "mergelens/mergelensref04.Parse" [19], none⟩ S_ref04_Parse, im 16 20, o1 21 (.ext 16 0), o1 22 (.ext 16 1), ia 9 21, ia 10 22]) (.seq (.seq (.region [im 23 10, o1 24 (.bin .neq 23
 (kI 0))]) (.cond 24 (.seq (.region [oS ⟨some 25, .call "mergelens/mergelenslaw05.awake" [], none⟩ S_law05_awake, ia 8 25]) .ret) .skip)) (.seq (.region [im 26 2, oS ⟨some 27, .call
 "mergelens/mergelenslaw05.short" [26, (kI 9)], none⟩ S_law05_short, ia 2 27]) (.seq (.seq (.region [im 28 3]) (.frame (rg [2, 11] 29 17) [] false (.join [.sl 2 false .str .leaf]
 (.cond 28 (.seq (.region [o1 2 (.asg (.c (.string ⟨#[]⟩)))]) (.seq (.region [ia 11 (kI 0)]) (.frame (rg [2, 11] 29 17) [] false (.join [.sl 2 false .str .leaf] (.block 0 (.loop
 [.sl 2 false .str .leaf, .si 11] (.seq (.seq (.region [im 29 11, im 30 0, oS ⟨some 31, .call "mergelens/mergelensgen.At" [30, (kI 70)], none⟩ S_gen_At, oS ⟨some 32, .call
 "mergelens/mergelensgen.Mod" [31, (kI 10)], none⟩ S_gen_Mod, o1 33 (.bin .lss 29 32)]) (.cond 33 .skip (.exit 0))) (.seq (.frame (rg [2] 36 10) [] false (.join [.sl 2 false .str
 .leaf] (.block 1 (.region [im 36 2, oT ⟨some 37, .buildSl 1 [(.string ⟨#[]⟩)] 4 [(0, (.c (.string ⟨#[97]⟩))), (1, (.c (.string ⟨#[98]⟩))), (2, (.c (.string ⟨#[120]⟩))), (3, (.c
 (.string ⟨#[43]⟩)))], none⟩ (some (.str, .leaf)), im 38 0, im 39 11, o1 40 (.bin .add (kI 71) 39), oS ⟨some 41, .call "mergelens/mergelensgen.At" [38, 40], none⟩ S_gen_At, oS ⟨some
 42, .call "mergelens/mergelensgen.Mod" [41, (kI 4)], none⟩ S_gen_Mod, o1 43 (.ixA 1 37 42), ld 44 43, o1 45 (.bin .add 36 44), ia 2 45])))) (.region [im 34 11, o1 35 (.bin .add 34
 (kI 1)), ia 11 35]))))))))) .skip)))) (.seq (.region [im 47 9, oS ⟨some 48, .call "mergelens/mergelensref04.Weight" [47], none⟩ S_ref04_Weight, im 46 48, o1 49 (.ext 46 0), o1 50
 (.ext 46 1), ia 12 49, ia 13 50]) (.seq (.frz [9] (.region [im 52 9, oS ⟨some 53, .call "mergelens/automaton.Build" [52], none⟩ S_automaton_Build, im 51 53, o1 54 (.ext 51 0), o1
 55 (.ext 51 1), o1 14 (.alloc [(.slice none 0 0), (.int .i64 0)]), o0 ⟨none, .store 2 14 54, none⟩, ia 15 55])) (.seq (.region [im 56 15, o1 57 (.bin .eql 56 (kI 0)), im 58 57, gt
 59 58 (.load true 2 14), oS ⟨some 60, .call "mergelens/mergelensref05.Check" [59], some (58, true)⟩ S_ref05_Check, gt 61 58 (.bin .eql 60 (kI 0)), o1 62 (.pick 58 61 kF), im 63 62,
 gt 64 63 (.fAddr 0 14), gt 65 63 (.load false 1 64), gt 66 63 (.lenK 65), gt 67 63 (.mv 12), gt 68 63 (.bin .add 67 (kI 1)), gt 69 63 (.bin .leq 66 68), o1 70 (.pick 63 69 kF), im
 71 70, gt 72 71 (.mv 9), gt 73 71 (.load true 2 14), gt 74 71 (.mv 2), oS ⟨some 75, .call "mergelens/mergelenslaw05.accepts" [72, 73, 74], some (71, true)⟩ S_law05_accepts, o1 76
 (.pick 71 75 kF), im 77 76, oS ⟨some 78, .call "mergelens/mergelenslaw05.awake" [], some (77, true)⟩ S_law05_awake, o1 79 (.pick 77 78 kF), ia 8 79]) .ret))))))))
def F_law05_AutomatonBuilds : AFn := ⟨ "mergelens/mergelenslaw05.AutomatonBuilds", t_law05_AutomatonBuilds.erase, [.tmp 8], 4⟩
def W_law05_AutomatonBuilds (P : Program) (x : ((List Int) × (Int × ((List UInt8) × Bool)))) (K : Bool → Unit → Prop) : Prop :=
 Fn P "mergelens/mergelensgen.Pattern" S_gen_Pattern (x.1, x.2.1) (fun (d1 : (List UInt8)) (e2 : Unit) => Fn P "mergelens/mergelensref04.Parse" S_ref04_Parse d1 (fun (d3 : ((List Node) × Int)) (e4 : Unit) => (((d3.2 != (0 : Int)) = true → Fn P "mergelens/mergelenslaw05.awake" S_law05_awake () (fun (d5 : Bool) (e6 : Unit) => K d5 ())) ∧ ((d3.2 != (0 : Int)) = false → Fn P "mergelens/mergelenslaw05.short" S_law05_short (x.2.2.1, (9 : Int)) (fun (d7 : (List UInt8)) (e8 : Unit) => JoinW (D := (List UInt8)) (fun J9 => ((x.2.2.2 = true → JoinW (D := (List UInt8)) (fun J11 => LoopW (D := ((List UInt8) × Int)) (([] : List UInt8), (0 : Int)) (fun d13 J14 => Fn P "mergelens/mergelensgen.At" S_gen_At (x.1, (70 : Int)) (fun (d15 : Int) (e16 : Unit) => Fn P "mergelens/mergelensgen.Mod" S_gen_Mod (d15, (10 : Int)) (fun (d17 : Int) (e18 : Unit) => (((decide (d13.2 < d17)) = true → JoinW (D := (List UInt8)) (fun J19 => Fn P "mergelens/mergelensgen.At" S_gen_At (x.1, (i64.wrap ((71 : Int) + d13.2))) (fun (d21 : Int) (e22 : Unit) => Fn P "mergelens/mergelensgen.Mod" S_gen_Mod (d21, (4 : Int)) (fun (d23 : Int) (e24 : Unit) => (0 ≤ d23 ∧ d23 < ((List.length ([([97] : List UInt8), ([98] : List UInt8), ([120] : List UInt8), ([43] : List UInt8)] : List (List UInt8)) : Nat) : Int)) ∧
 (d23.toNat < List.length ([([97] : List UInt8), ([98] : List UInt8), ([120] : List UInt8), ([43] : List UInt8)] : List (List UInt8))) ∧
 (d13.1.length + List.length (List.getD ([([97] : List UInt8), ([98] : List UInt8), ([120] : List UInt8), ([43] : List UInt8)] : List (List UInt8)) d23.toNat []) ≤ 9223372036854775807) ∧
 J19 (d13.1 ++ (List.getD ([([97] : List UInt8), ([98] : List UInt8), ([120] : List UInt8), ([43] : List UInt8)] : List (List UInt8)) d23.toNat []))))) (fun d20 => J14 (d20, (i64.wrap (d13.2 + (1 : Int)))))) ∧ ((decide (d13.2 < d17)) = false → J11 d13.1)))))) (fun d12 => J9 d12)) ∧ (x.2.2.2 = false → J9 d7))) (fun d10 => Fn P "mergelens/mergelensref04.Weight" S_ref04_Weight d3.1 (fun (d25 : (Int × Int)) (e26 : Unit) => Fn P "mergelens/automaton.Build" S_automaton_Build d3.1 (fun (d27 : (((List State) × Int) × Int)) (e28 : Unit) => JoinW (D := Int) (fun J29 => (((d27.2 == (0 : Int)) = true → Fn P "mergelens/mergelensref05.Check" S_ref05_Check d27.1 (fun (d30 : Int) _ => J29 d30)) ∧ (((d27.2 == (0 : Int)) = false → J29 (0 : Int)) ∧ True))) (fun d31 => JoinW (D := Bool) (fun J32 => (((cond (cond (d27.2 == (0 : Int)) (d31 == (0 : Int)) false) (decide ((d27.1.1.length : Int) ≤ (i64.wrap (d25.1 + (1 : Int))))) false) = true → Fn P "mergelens/mergelenslaw05.accepts" S_law05_accepts (d3.1, (d27.1, d10)) (fun (d33 : Bool) _ => J32 d33)) ∧ (((cond (cond (d27.2 == (0 : Int)) (d31 == (0 : Int)) false) (decide ((d27.1.1.length : Int) ≤ (i64.wrap (d25.1 + (1 : Int))))) false) = false → J32 false) ∧ True))) (fun d34 => JoinW (D := Bool) (fun J35 => (((cond (cond (cond (d27.2 == (0 : Int)) (d31 == (0 : Int)) false) (decide ((d27.1.1.length : Int) ≤ (i64.wrap (d25.1 + (1 : Int))))) false) d34 false) = true → Fn P "mergelens/mergelenslaw05.awake" S_law05_awake () (fun (d36 : Bool) _ => J35 d36)) ∧ (((cond (cond (cond (d27.2 == (0 : Int)) (d31 == (0 : Int)) false) (decide ((d27.1.1.length : Int) ≤ (i64.wrap (d25.1 + (1 : Int))))) false) d34 false) = false → J35 false) ∧ True))) (fun d37 => K (cond (cond (cond (cond (d27.2 == (0 : Int)) (d31 == (0 : Int)) false) (decide ((d27.1.1.length : Int) ≤ (i64.wrap (d25.1 + (1 : Int))))) false) d34 false) d37 false) ())))))))))))
theorem fn_law05_AutomatonBuilds {P} (h : Has P F_law05_AutomatonBuilds) {x K} (hw : W_law05_AutomatonBuilds P x K) : Fn P "mergelens/mergelenslaw05.AutomatonBuilds" S_law05_AutomatonBuilds x K :=
 fn_of (c := t_law05_AutomatonBuilds) h rfl rfl (by kernel_rfl) (Eq.mpr (show liftT P F_law05_AutomatonBuilds S_law05_AutomatonBuilds t_law05_AutomatonBuilds x K = _ by kernel_rfl) hw)
end Go.VS
