/- Functions of the program: typed code, and what it says, lifted. -/
import Derived.Test.YtdnomijflodcgaaDoorKTxSig
import Derived.KernelRfl
set_option linter.unusedVariables false
set_option linter.unusedSimpArgs false
set_option maxRecDepth 8000
namespace Go.VS
open IntKind
def Aha : Bw :=
 (.seq (.region [o1 4 (.asg kF)]) (.seq (.seq (.region [ia 5 (kI 0)]) (.frame (rg [] 4 14) [] false (.join [.sl 4 false .bool .leaf] (.block 0 (.loop [.sl 4 false .bool .leaf, .si
 5] (.seq (.seq (.region [im 6 5, im 7 0, o1 8 (.lenK 7), o1 9 (.bin .lss 6 8)]) (.cond 9 .skip (.exit 0))) (.seq (.frame (rg [4] 12 6) [] false (.join [.sl 4 false .bool .leaf]
 (.block 1 (.seq (.region [im 12 0, im 13 5, o1 14 (.ixA 1 12 13), ld 15 14, im 16 1, o1 17 (.bin .eql 15 16)]) (.cond 17 (.seq (.region [o1 4 (.asg kT)]) .ret) .skip))))) (.region
 [im 10 5, o1 11 (.bin .add 10 (kI 1)), ia 5 11])))))))) (.seq (.region [o1 4 (.asg kF)]) .ret)))
def Ag8 : AFn := ⟨ AaE, Aha.erase, [.tmp 4], 2⟩
def Ahb (P : Pg) (x : ((List Int) × Int)) (K : Bool → Unit → Prop) : Prop :=
 Ai (D := Bool) (fun J1 => Bl (D := (Bool × Int)) (false, (0 : Int)) (fun d3 J4 => (((decide (d3.2 < (x.1.length : Int))) = true → Ai (D := Bool) (fun J5 => (0 ≤ d3.2 ∧ d3.2 < (x.1.length : Int)) ∧
 (d3.2.toNat < x.1.length) ∧
 ((((List.getD x.1 d3.2.toNat (0 : Int)) == x.2) = true → K true ()) ∧ (((List.getD x.1 d3.2.toNat (0 : Int)) == x.2) = false → J5 d3.1))) (fun d6 => J4 (d6, (i64.wrap (d3.2 + (1 : Int)))))) ∧ ((decide (d3.2 < (x.1.length : Int))) = false → J1 d3.1)))) (fun d2 => K false ())
theorem Ahd {P : Pg} (h : Has P Ag8) {x : DP Ag4.ps} {K : DP Ag4.rs → DP (ptrs Ag4.ps) → Prop} (hw : Ahb P x K) : Fn P AaE Ag4 x K :=
 Cc (c := Aha) h rfl rfl (by kernel_rfl) (Eq.mpr (show Ca P Ag8 Ag4 Aha x K = _ by kernel_rfl) hw)
def Ag3 : Bw :=
 (.seq (.region [o1 4 (.asg kF)]) (.seq (.region [im 16 0, oS ⟨some 17, .call AaC [16, (kI 9), (kI 1)], none⟩ DQ, ia 5 17]) (.seq (.seq (.region
 [im 18 5, o1 19 (.lenK 18), o1 20 (.bin .eql 19 (kI 0)), im 21 20, gf 22 21 (.mv 1), gf 23 21 (.lenK 22), gf 24 21 (.bin .gtr 23 (kI 6)), o1 25 (.pick 21 kT 24)]) (.cond 25 (.seq
 (.region [oS ⟨some 26, .call Vm [], none⟩ Ael, ia 4 26]) .ret) .skip)) (.seq (.region [o1 6 (.asg (.c (.slice none 0 0)))]) (.seq (.seq
 (.region [ia 7 (kI 0)]) (.frame (rg [6, 7] 27 16) [] false (.join [.sl 6 false (.sl bI) tO] (.block 0 (.loop [.sl 6 false (.sl bI) tO, .si 7] (.seq (.seq (.region [im 27 7, im 28
 1, o1 29 (.lenK 28), o1 30 (.bin .lss 27 29)]) (.cond 30 .skip (.exit 0))) (.seq (.frame (rg [6] 33 10) [] false (.join [.sl 6 false (.sl bI) tO] (.block 1 (.region [im 33 6, im 34
 1, im 35 7, o1 36 (.ixA 1 34 35), ld 37 36, im 38 5, o1 39 (.lenK 38), oS ⟨some 40, .call zS1 [37, 39], none⟩ BL, oT ⟨some 41, .buildSl 1 [(.int
 .i64 0)] 1 [(0, 40)], none⟩ (some (bI, .leaf)), oT ⟨some 42, .app 1 8 33 41, none⟩ (some (bI, .leaf)), ia 6 42])))) (.region [im 31 7, o1 32 (.bin .add 31 (kI 1)), ia 7 32]))))))))
 (.seq (.region [im 44 5, im 45 6, oS ⟨some 46, .call AaD [44, 45], none⟩ Aep, im 43 46, o1 47 (.ext 43 0), o1 48 (.ext 43 1), ia 8
 47, ia 9 48]) (.seq (.seq (.region [im 49 9, o1 50 (.bin .neq 49 (kI 0))]) (.cond 50 (.seq (.region [o1 4 (.asg kF)]) .ret) .skip)) (.seq (.seq (.region [ia 10 (kI 0)]) (.frame (rg
 [4, 10] 51 29) [] false (.join [.sl 4 false .bool .leaf] (.block 2 (.loop [.sl 4 false .bool .leaf, .si 10] (.seq (.seq (.region [im 51 10, im 52 8, o1 53 (.lenK 52), o1 54 (.bin
 .lss 51 53)]) (.cond 54 .skip (.exit 2))) (.seq (.frame (rg [4] 57 23) [] false (.join [.sl 4 false .bool .leaf] (.block 3 (.seq (.frame (rg [] 57 23) [] false (.join [.sl 79 false
 .bool .leaf] (.draw [(.first (im 57 6) (.first (im 58 8) (.first (im 59 10) (.first (o1 60 (.ixA 1 58 59)) (.first (ld 61 60) (.alt (oS ⟨some 62, .call
 AaE [57, 61], none⟩ Ag4) (.first (o1 63 (.un .not 62)) (.first (im 64 63) (.first (gf 65 64 (.mv 10)) (.first (gf 66 64 (.bin .gtr 65 (kI 0)))
 (.first (gf 67 64 (.mv 66)) (.first (gt 68 67 (.mv 8)) (.first (gt 69 67 (.mv 10)) (.first (gt 70 67 (.ixA 1 68 69)) (.first (gt 71 67 (.load false 1 70)) (.first (gt 72 67 (.mv
 8)) (.first (gt 73 67 (.mv 10)) (.first (gt 74 67 (.bin .sub 73 (kI 1))) (.first (gt 75 67 (.ixA 1 72 74)) (.first (gt 76 67 (.load false 1 75)) (.first (gt 77 67 (.bin .leq 71
 76)) (.first (gf 78 64 (.pick 67 77 kF)) (.first (o1 79 (.pick 64 kT 78)) .done))))))))))))))))) .stop))))))]))) (.cond 79 (.seq (.region [o1 4 (.asg kF)]) .ret) .skip)))))
 (.region [im 55 10, o1 56 (.bin .add 55 (kI 1)), ia 10 56])))))))) (.seq (.seq (.region [ia 11 (kI 0)]) (.frame (rg [4, 11, 12] 80 30) [] false (.join [.sl 4 false .bool .leaf]
 (.block 4 (.loop [.sl 4 false .bool .leaf, .si 11] (.seq (.seq (.region [im 80 11, im 81 8, o1 82 (.lenK 81), o1 83 (.bin .lss 80 82)]) (.cond 83 .skip (.exit 4))) (.seq (.frame
 (rg [4, 12] 86 24) [] false (.join [.sl 4 false .bool .leaf] (.block 5 (.seq (.region [ia 12 (kI 0)]) (.frame (rg [4, 12] 86 24) [] false (.join [.sl 4 false .bool .leaf] (.block 6
 (.loop [.sl 4 false .bool .leaf, .si 12] (.seq (.seq (.region [im 86 12, im 87 8, o1 88 (.lenK 87), o1 89 (.bin .lss 86 88)]) (.cond 89 .skip (.exit 6))) (.seq (.frame (rg [4] 92
 18) [] false (.join [.sl 4 false .bool .leaf] (.block 7 (.seq (.frame (rg [] 92 18) [] false (.join [.sl 109 false .bool .leaf] (.draw [(.first (im 92 12) (.first (im 93 11)
 (.first (o1 94 (.bin .neq 92 93)) (.first (im 95 94) (.first (⟨⟨some 96, .mv 5, some (95, true)⟩, none, ⟨[], []⟩, false, some 95, true, false⟩) (.first (⟨⟨some 97, .mv 8, some (95,
 true)⟩, none, ⟨[], []⟩, false, none, true, false⟩) (.first (⟨⟨some 98, .mv 11, some (95, true)⟩, none, ⟨[], []⟩, false, none, true, false⟩) (.first (⟨⟨some 99, .ixA 1 97 98, some
 (95, true)⟩, none, ⟨[], []⟩, false, none, true, false⟩) (.first (⟨⟨some 100, .load false 1 99, some (95, true)⟩, none, ⟨[], []⟩, false, none, true, false⟩) (.first (⟨⟨some 103, .mv
 8, some (95, true)⟩, none, ⟨[], []⟩, false, none, true, false⟩) (.first (⟨⟨some 104, .mv 12, some (95, true)⟩, none, ⟨[], []⟩, false, none, true, false⟩) (.first (⟨⟨some 105, .ixA
 1 103 104, some (95, true)⟩, none, ⟨[], []⟩, false, none, true, false⟩) (.alt (⟨⟨some 101, .buildSl 1 [(.int .i64 0)] 1 [(0, 100)], some (95, true)⟩, some (bI, .leaf), ⟨[], []⟩,
 false, none, true, false⟩) (.alt (⟨⟨some 102, .call zS2 [96, 101], some (95, true)⟩, none, Aei, false, none, true, false⟩) (.first (⟨⟨some
 106, .load false 1 105, some (95, true)⟩, none, ⟨[], []⟩, false, none, true, false⟩) (.first (⟨⟨some 107, .ixA 1 102 106, some (95, true)⟩, none, ⟨[], []⟩, false, none, true,
 false⟩) (.first (⟨⟨some 108, .load false 1 107, some (95, true)⟩, none, ⟨[], []⟩, false, none, true, true⟩) (.first (o1 109 (.pick 95 108 kF)) .done)))) (.alt (⟨⟨some 106, .load
 false 1 105, some (95, true)⟩, none, ⟨[], []⟩, false, none, true, false⟩) (.alt (⟨⟨some 102, .call zS2 [96, 101], some (95, true)⟩, none,
 Aei, false, none, true, false⟩) (.first (⟨⟨some 107, .ixA 1 102 106, some (95, true)⟩, none, ⟨[], []⟩, false, none, true, false⟩) (.first (⟨⟨some 108, .load false 1 107,
 some (95, true)⟩, none, ⟨[], []⟩, false, none, true, true⟩) (.first (o1 109 (.pick 95 108 kF)) .done))) .stop) .stop)) (.alt (⟨⟨some 106, .load false 1 105, some (95, true)⟩, none,
 ⟨[], []⟩, false, none, true, false⟩) (.alt (⟨⟨some 101, .buildSl 1 [(.int .i64 0)] 1 [(0, 100)], some (95, true)⟩, some (bI, .leaf), ⟨[], []⟩, false, none, true, false⟩) (.alt
 (⟨⟨some 102, .call zS2 [96, 101], some (95, true)⟩, none, Aei, false, none, true, false⟩) (.first (⟨⟨some 107, .ixA 1 102 106, some (95,
 true)⟩, none, ⟨[], []⟩, false, none, true, false⟩) (.first (⟨⟨some 108, .load false 1 107, some (95, true)⟩, none, ⟨[], []⟩, false, none, true, true⟩) (.first (o1 109 (.pick 95 108
 kF)) .done))) .stop) .stop) .stop))))))))))))))]))) (.cond 109 (.seq (.region [o1 4 (.asg kF)]) .ret) .skip))))) (.region [im 90 12, o1 91 (.bin .add 90 (kI 1)), ia 12
 91]))))))))))) (.region [im 84 11, o1 85 (.bin .add 84 (kI 1)), ia 11 85])))))))) (.seq (.region [im 110 5, im 111 6, oS ⟨some 112, .call zS2 [110,
 111], none⟩ Aei, im 113 5, im 114 8, oS ⟨some 115, .call zS2 [113, 114], none⟩ Aei, ia 13 112, ia 14 115]) (.seq (.seq (.region [ia
 15 (kI 0)]) (.frame (rg [4, 15] 116 15) [] false (.join [.sl 4 false .bool .leaf] (.block 8 (.loop [.sl 4 false .bool .leaf, .si 15] (.seq (.seq (.region [im 116 15, im 117 5, o1
 118 (.lenK 117), o1 119 (.bin .lss 116 118)]) (.cond 119 .skip (.exit 8))) (.seq (.frame (rg [4] 122 9) [] false (.join [.sl 4 false .bool .leaf] (.block 9 (.seq (.draw [(.first
 (im 122 13) (.first (im 123 15) (.first (o1 124 (.ixA 1 122 123)) (.first (ld 125 124) (.first (im 126 14) (.first (im 127 15) (.first (o1 128 (.ixA 1 126 127)) (.first (ld 129
 128) (.first (o1 130 (.eqB true 125 129)) .done)))))))))]) (.cond 130 (.seq (.region [o1 4 (.asg kF)]) .ret) .skip))))) (.region [im 120 15, o1 121 (.bin .add 120 (kI 1)), ia 15
 121])))))))) (.seq (.region [oS ⟨some 131, .call Vm [], none⟩ Ael, ia 4 131]) .ret))))))))))))
def Ag2 : AFn := ⟨ AaN, Ag3.erase, [.tmp 4], 2⟩
def Ag5 (P : Pg) (x : ((List Int) × (List Int))) (K : Bool → Unit → Prop) : Prop :=
 Fn P AaC DQ (x.1, ((9 : Int), (1 : Int))) (fun (d1 : (List Commit)) (e2 : Unit) => (((cond ((d1.length : Int) == (0 : Int)) true (decide ((x.2.length : Int) > (6 : Int)))) = true → Fn P Vm Ael () (fun (d3 : Bool) (e4 : Unit) => K d3 ())) ∧ ((cond ((d1.length : Int) == (0 : Int)) true (decide ((x.2.length : Int) > (6 : Int)))) = false → Ai (D := (List Int)) (fun J5 => Bl (D := ((List Int) × Int)) ([], (0 : Int)) (fun d7 J8 => (((decide (d7.2 < (x.2.length : Int))) = true → Ai (D := (List Int)) (fun J9 => (0 ≤ d7.2 ∧ d7.2 < (x.2.length : Int)) ∧
 (d7.2.toNat < x.2.length) ∧
 Fn P zS1 BL ((List.getD x.2 d7.2.toNat (0 : Int)), (d1.length : Int)) (fun (d11 : Int) (e12 : Unit) => ((d7.1.length + List.length ([d11] : List Int)) * 8 ≤ 140737488355328) ∧
 J9 (d7.1 ++ ([d11] : List Int)))) (fun d10 => J8 (d10, (i64.wrap (d7.2 + (1 : Int)))))) ∧ ((decide (d7.2 < (x.2.length : Int))) = false → J5 d7.1)))) (fun d6 => Fn P AaD Aep (d1, d6) (fun (d13 : ((List Int) × Int)) (e14 : Unit) => (((d13.2 != (0 : Int)) = true → K false ()) ∧ ((d13.2 != (0 : Int)) = false → Ai (D := Bool) (fun J15 => Bl (D := (Bool × Int)) (false, (0 : Int)) (fun d17 J18 => (((decide (d17.2 < (d13.1.length : Int))) = true → Ai (D := Bool) (fun J19 => Ai (D := Bool) (fun J21 => (0 ≤ d17.2 ∧ d17.2 < (d13.1.length : Int)) ∧
 (d17.2.toNat < d13.1.length) ∧
 (Fn P AaE Ag4 (d6, (List.getD d13.1 d17.2.toNat (0 : Int))) (fun (d23 : Bool) (e24 : Unit) => (((decide (d17.2 > (0 : Int))) = true → ((!d23) = false → 0 ≤ d17.2 ∧ d17.2 < (d13.1.length : Int)))) ∧
 (((decide (d17.2 > (0 : Int))) = true → ((!d23) = false → d17.2.toNat < d13.1.length))) ∧
 (((decide (d17.2 > (0 : Int))) = true → ((!d23) = false → 0 ≤ (i64.wrap (d17.2 - (1 : Int))) ∧ (i64.wrap (d17.2 - (1 : Int))) < (d13.1.length : Int)))) ∧
 (((decide (d17.2 > (0 : Int))) = true → ((!d23) = false → (Int.toNat (i64.wrap (d17.2 - (1 : Int)))) < d13.1.length))) ∧
 J21 (cond (!d23) true (cond (decide (d17.2 > (0 : Int))) (decide ((List.getD d13.1 d17.2.toNat (0 : Int)) ≤ (List.getD d13.1 (Int.toNat (i64.wrap (d17.2 - (1 : Int)))) (0 : Int)))) false)))) ∧ True) (fun d22 => ((d22 = true → K false ()) ∧ (d22 = false → J19 d17.1)))) (fun d20 => J18 (d20, (i64.wrap (d17.2 + (1 : Int)))))) ∧ ((decide (d17.2 < (d13.1.length : Int))) = false → J15 d17.1)))) (fun d16 => Ai (D := Bool) (fun J25 => Bl (D := (Bool × Int)) (d16, (0 : Int)) (fun d27 J28 => (((decide (d27.2 < (d13.1.length : Int))) = true → Ai (D := Bool) (fun J29 => Ai (D := Bool) (fun J31 => Bl (D := (Bool × Int)) (d27.1, (0 : Int)) (fun d33 J34 => (((decide (d33.2 < (d13.1.length : Int))) = true → Ai (D := Bool) (fun J35 => Ai (D := Bool) (fun J37 => (((d33.2 != d27.2) = true → (0 ≤ d27.2 ∧ d27.2 < (d13.1.length : Int)) ∧
 (d27.2.toNat < d13.1.length) ∧
 (0 ≤ d33.2 ∧ d33.2 < (d13.1.length : Int)) ∧
 ((Fn P zS2 Aei (d1, ([(List.getD d13.1 d27.2.toNat (0 : Int))] : List Int)) (fun (d39 : (List Bool)) (e40 : Unit) => (d33.2.toNat < d13.1.length) ∧
 (0 ≤ (List.getD d13.1 d33.2.toNat (0 : Int)) ∧ (List.getD d13.1 d33.2.toNat (0 : Int)) < (d39.length : Int)) ∧
 ((Int.toNat (List.getD d13.1 d33.2.toNat (0 : Int))) < d39.length) ∧
 J37 (cond true (List.getD d39 (Int.toNat (List.getD d13.1 d33.2.toNat (0 : Int))) false) false))) ∧ (((d33.2.toNat < d13.1.length) ∧
 (Fn P zS2 Aei (d1, ([(List.getD d13.1 d27.2.toNat (0 : Int))] : List Int)) (fun (d41 : (List Bool)) (e42 : Unit) => (0 ≤ (List.getD d13.1 d33.2.toNat (0 : Int)) ∧ (List.getD d13.1 d33.2.toNat (0 : Int)) < (d41.length : Int)) ∧
 ((Int.toNat (List.getD d13.1 d33.2.toNat (0 : Int))) < d41.length) ∧
 J37 (cond true (List.getD d41 (Int.toNat (List.getD d13.1 d33.2.toNat (0 : Int))) false) false))) ∧ True) ∧ True)) ∧ (((d33.2.toNat < d13.1.length) ∧
 ((Fn P zS2 Aei (d1, ([(List.getD d13.1 d27.2.toNat (0 : Int))] : List Int)) (fun (d43 : (List Bool)) (e44 : Unit) => (0 ≤ (List.getD d13.1 d33.2.toNat (0 : Int)) ∧ (List.getD d13.1 d33.2.toNat (0 : Int)) < (d43.length : Int)) ∧
 ((Int.toNat (List.getD d13.1 d33.2.toNat (0 : Int))) < d43.length) ∧
 J37 (cond true (List.getD d43 (Int.toNat (List.getD d13.1 d33.2.toNat (0 : Int))) false) false))) ∧ True) ∧ True) ∧ True)) ∧ ((d33.2 != d27.2) = false → ((J37 (cond false false false)) ∧ (((J37 (cond false false false)) ∧ True) ∧ True)) ∧ ((((J37 (cond false false false)) ∧ True) ∧ True) ∧ True)))) (fun d38 => ((d38 = true → K false ()) ∧ (d38 = false → J35 d33.1)))) (fun d36 => J34 (d36, (i64.wrap (d33.2 + (1 : Int)))))) ∧ ((decide (d33.2 < (d13.1.length : Int))) = false → J31 d33.1)))) (fun d32 => J29 d32)) (fun d30 => J28 (d30, (i64.wrap (d27.2 + (1 : Int)))))) ∧ ((decide (d27.2 < (d13.1.length : Int))) = false → J25 d27.1)))) (fun d26 => Fn P zS2 Aei (d1, d6) (fun (d45 : (List Bool)) (e46 : Unit) => Fn P zS2 Aei (d1, d13.1) (fun (d47 : (List Bool)) (e48 : Unit) => Ai (D := Bool) (fun J49 => Bl (D := (Bool × Int)) (d26, (0 : Int)) (fun d51 J52 => (((decide (d51.2 < (d1.length : Int))) = true → Ai (D := Bool) (fun J53 => (0 ≤ d51.2 ∧ d51.2 < (d45.length : Int)) ∧
 (d51.2.toNat < d45.length) ∧
 (0 ≤ d51.2 ∧ d51.2 < (d47.length : Int)) ∧
 (d51.2.toNat < d47.length) ∧
 (((!((List.getD d45 d51.2.toNat false) == (List.getD d47 d51.2.toNat false))) = true → K false ()) ∧ ((!((List.getD d45 d51.2.toNat false) == (List.getD d47 d51.2.toNat false))) = false → J53 d51.1))) (fun d54 => J52 (d54, (i64.wrap (d51.2 + (1 : Int)))))) ∧ ((decide (d51.2 < (d1.length : Int))) = false → J49 d51.1)))) (fun d50 => Fn P Vm Ael () (fun (d55 : Bool) (e56 : Unit) => K d55 ())))))))))))))
theorem Ag6 {P : Pg} (h : Has P Ag2) {x : DP Ag1.ps} {K : DP Ag1.rs → DP (ptrs Ag1.ps) → Prop} (hw : Ag5 P x K) : Fn P AaN Ag1 x K :=
 Cc (c := Ag3) h rfl rfl (by kernel_rfl) (Eq.mpr (show Ca P Ag2 Ag1 Ag3 x K = _ by kernel_rfl) hw)
def Gh : Bw :=
 (.seq (.region [o1 1 (.box 0), o1 2 (.asg kF)]) (.seq (.region [fa 3 0 1, ld 4 3, o1 5 (.lenK 4), o1 6 (.bin .gtr 5 (kI 32)), ia 2 6]) .ret))
def EU : AFn := ⟨ WQ, Gh.erase, [.tmp 2], 1⟩
def Od (P : Pg) (x : Commit) (K : Bool → Unit → Prop) : Prop :=
 K (decide ((x.1.length : Int) > (32 : Int))) ()
theorem Np {P : Pg} (h : Has P EU) {x : DP CV.ps} {K : DP CV.rs → DP (ptrs CV.ps) → Prop} (hw : Od P x K) : Fn P WQ CV x K :=
 Cc (c := Gh) h rfl rfl (by kernel_rfl) (Eq.mpr (show Ca P EU CV Gh x K = _ by kernel_rfl) hw)
def Be : Bw :=
 (.seq (.region [ia 4 (kI 0)]) (.seq (.seq (.region [im 6 0, o1 7 (.lenK 6), o1 8 (.mv (kI 0))]) (.frame (rg [4, 5] 8 11) [] false (.join [.si 4] (.block 0 (.loop [.si 4, .si 8]
 (.seq (.region [o1 9 (.bin .lss 8 7)]) (.seq (.cond 9 .skip (.exit 0)) (.seq (.frame (rg [4, 5] 10 8) [] false (.join [.si 4] (.block 1 (.seq (.region [im 10 8, ia 5 10]) (.seq
 (.region [im 11 1, im 12 0, im 13 5, o1 14 (.ixA 3 12 13), o1 15 (.load true 3 14), oS ⟨some 16, .callv 11 [15], none⟩ CV]) (.cond 16 (.seq (.region [im 17 5, ia 4
 17]) .ret) .skip)))))) (.region [o1 18 (.bin .add 8 (kI 1)), im 8 18]))))))))) (.seq (.region [ia 4 (kI (-1))]) .ret)))
def AO : AFn := ⟨ zS3, Be.erase, [.tmp 4], 2⟩
def BJ (P : Pg) (x : ((List Commit) × Unit)) (K : Int → Unit → Prop) : Prop :=
 Ai (D := Int) (fun J1 => Bl (D := (Int × Int)) ((0 : Int), (0 : Int)) (fun d3 J4 => (((decide (d3.2 < (x.1.length : Int))) = true → Ai (D := Int) (fun J5 => (0 ≤ d3.2 ∧ d3.2 < (x.1.length : Int)) ∧
 (d3.2.toNat < x.1.length) ∧
 Fn P WQ CV (List.getD x.1 d3.2.toNat Ak) (fun (d7 : Bool) (e8 : Unit) => ((d7 = true → K d3.2 ()) ∧ (d7 = false → J5 d3.1)))) (fun d6 => J4 (d6, (i64.wrap (d3.2 + (1 : Int)))))) ∧ ((decide (d3.2 < (x.1.length : Int))) = false → J1 d3.1)))) (fun d2 => K (-1 : Int) ())
theorem CO {P : Pg} (h : Has P AO) {x : DP Ap.ps} {K : DP Ap.rs → DP (ptrs Ap.ps) → Prop} (hw : BJ P x K) : Fn P zS3 Ap x K :=
 Cc (c := Be) h rfl rfl (by kernel_rfl) (Eq.mpr (show Ca P AO Ap Be x K = _ by kernel_rfl) hw)
def A8 : Bw :=
 (.seq (.region [o1 4 (.asg kF)]) (.seq (.region [im 5 0, im 6 1, oS ⟨some 7, .call zS3 [5, 6], none⟩
 Ap, o1 8 (.bin .geq 7 (kI 0)), ia 4 8]) .ret))
def AK : AFn := ⟨ zS4, A8.erase, [.tmp 4], 2⟩
def Bz (P : Pg) (x : ((List Commit) × Unit)) (K : Bool → Unit → Prop) : Prop :=
 Fn P zS3 Ap (x.1, ()) (fun (d1 : Int) (e2 : Unit) => K (decide (d1 ≥ (0 : Int))) ())
theorem CA {P : Pg} (h : Has P AK) {x : DP Al.ps} {K : DP Al.rs → DP (ptrs Al.ps) → Prop} (hw : Bz P x K) : Fn P zS4 Al x K :=
 Cc (c := A8) h rfl rfl (by kernel_rfl) (Eq.mpr (show Ca P AK Al A8 x K = _ by kernel_rfl) hw)
def HR : Bw :=
 (.seq (.region [o1 2 (.asg kF)]) (.seq (.region [im 3 0, o1 4 (.lenK 3), o1 5 (.bin .leq 4 (kI 300)), im 6 5, gt 7 6 (.mv 0), oS ⟨some 8, .call
 zS4 [7, (.f WQ)], some (6, true)⟩ Al,
 gt 9 6 (.un .not 8), o1 10 (.pick 6 9 kF), ia 2 10]) .ret))
def FP : AFn := ⟨ AaF, HR.erase, [.tmp 2], 1⟩
def K1 (P : Pg) (x : (List Commit)) (K : Bool → Unit → Prop) : Prop :=
 Ai (D := Bool) (fun J1 => (((decide ((x.length : Int) ≤ (300 : Int))) = true → Fn P zS4 Al (x, ()) (fun (d2 : Bool) _ => J1 d2)) ∧ (((decide ((x.length : Int) ≤ (300 : Int))) = false → J1 false) ∧ True))) (fun d3 => K (cond (decide ((x.length : Int) ≤ (300 : Int))) (!d3) false) ())
theorem Pj {P : Pg} (h : Has P FP) {x : DP Da.ps} {K : DP Da.rs → DP (ptrs Da.ps) → Prop} (hw : K1 P x K) : Fn P AaF Da x K :=
 Cc (c := HR) h rfl rfl (by kernel_rfl) (Eq.mpr (show Ca P FP Da HR x K = _ by kernel_rfl) hw)
def D2 : Bw :=
 (.seq (.region [ia 4 (kI 0)]) (.seq (.seq (.region [im 6 0, o1 7 (.lenK 6), o1 8 (.mv (kI 0))]) (.frame (rg [4, 5] 8 11) [] false (.join [.si 4] (.block 0 (.loop [.si 4, .si 8]
 (.seq (.region [o1 9 (.bin .lss 8 7)]) (.seq (.cond 9 .skip (.exit 0)) (.seq (.frame (rg [4, 5] 10 8) [] false (.join [.si 4] (.block 1 (.seq (.region [im 10 8, ia 5 10]) (.seq
 (.region [im 11 1, im 12 0, im 13 5, o1 14 (.ixA 1 12 13), ld 15 14, o1 16 (.bin .eql 11 15)]) (.cond 16 (.seq (.region [im 17 5, ia 4 17]) .ret) .skip)))))) (.region [o1 18 (.bin
 .add 8 (kI 1)), im 8 18]))))))))) (.seq (.region [ia 4 (kI (-1))]) .ret)))
def C6 : AFn := ⟨ "slices.Index[[]int,int]", D2.erase, [.tmp 4], 2⟩
def Fc (P : Pg) (x : ((List Int) × Int)) (K : Int → Unit → Prop) : Prop :=
 Ai (D := Int) (fun J1 => Bl (D := (Int × Int)) ((0 : Int), (0 : Int)) (fun d3 J4 => (((decide (d3.2 < (x.1.length : Int))) = true → Ai (D := Int) (fun J5 => (0 ≤ d3.2 ∧ d3.2 < (x.1.length : Int)) ∧
 (d3.2.toNat < x.1.length) ∧
 (((x.2 == (List.getD x.1 d3.2.toNat (0 : Int))) = true → K d3.2 ()) ∧ ((x.2 == (List.getD x.1 d3.2.toNat (0 : Int))) = false → J5 d3.1))) (fun d6 => J4 (d6, (i64.wrap (d3.2 + (1 : Int)))))) ∧ ((decide (d3.2 < (x.1.length : Int))) = false → J1 d3.1)))) (fun d2 => K (-1 : Int) ())
theorem H8 {P : Pg} (h : Has P C6) {x : DP Bp.ps} {K : DP Bp.rs → DP (ptrs Bp.ps) → Prop} (hw : Fc P x K) : Fn P "slices.Index[[]int,int]" Bp x K :=
 Cc (c := D2) h rfl rfl (by kernel_rfl) (Eq.mpr (show Ca P C6 Bp D2 x K = _ by kernel_rfl) hw)
def Dq : Bw :=
 (.seq (.region [o1 4 (.asg kF)]) (.seq (.region [im 5 0, im 6 1, oS ⟨some 7, .call "slices.Index[[]int,int]" [5, 6], none⟩ Bp, o1 8 (.bin .geq 7 (kI 0)), ia 4
 8]) .ret))
def Cy : AFn := ⟨ "slices.Contains[[]int,int]", Dq.erase, [.tmp 4], 2⟩
def ED (P : Pg) (x : ((List Int) × Int)) (K : Bool → Unit → Prop) : Prop :=
 Fn P "slices.Index[[]int,int]" Bp x (fun (d1 : Int) (e2 : Unit) => K (decide (d1 ≥ (0 : Int))) ())
theorem G1 {P : Pg} (h : Has P Cy) {x : DP Bg.ps} {K : DP Bg.rs → DP (ptrs Bg.ps) → Prop} (hw : ED P x K) : Fn P "slices.Contains[[]int,int]" Bg x K :=
 Cc (c := Dq) h rfl rfl (by kernel_rfl) (Eq.mpr (show Ca P Cy Bg Dq x K = _ by kernel_rfl) hw)
def HS : Bw :=
 (.seq (.region [o1 2 (.asg kF)]) (.seq (.seq (.region [im 7 0, o1 8 (.lenK 7), o1 9 (.mv (kI 0))]) (.frame (rg [2, 4, 5, 6] 9 30) [1004] false (.join [.sl 2 false .bool .leaf]
 (.block 0 (.loop [.sl 2 false .bool .leaf, .si 9] (.seq (.region [o1 10 (.bin .lss 9 8)]) (.seq (.cond 10 .skip (.exit 0)) (.seq (.frame (rg [2, 4, 5, 6] 11 27) [1004] false (.join
 [.sl 2 false .bool .leaf] (.block 1 (.seq (.region [o1 11 (.ixA 3 7 9), o1 12 (.load true 3 11), o1 4 (.alloc [(.slice none 0 0), (.int .i64 0), (.slice none 0 0)]), o0 ⟨none,
 .store 3 4 12, none⟩]) (.seq (.region [fa 13 0 4, ld 14 13, o1 15 (.lenK 14), o1 16 (.mv (kI 0))]) (.frame (rg [2, 5, 6] 16 22) [] false (.join [.sl 2 false .bool .leaf] (.block 2
 (.loop [.sl 2 false .bool .leaf, .si 16] (.seq (.region [o1 17 (.bin .lss 16 15)]) (.seq (.cond 17 .skip (.exit 2)) (.seq (.frame (rg [2, 5, 6] 18 19) [] false (.join [.sl 2 false
 .bool .leaf] (.block 3 (.seq (.region [im 18 16, o1 19 (.ixA 1 14 16), ld 20 19, ia 5 18, ia 6 20]) (.seq (.region [im 21 6, o1 22 (.bin .lss 21 (kI 0)), im 23 22, gf 24 23 (.mv
 6), gf 25 23 (.mv 0), gf 26 23 (.lenK 25), gf 27 23 (.bin .geq 24 26), o1 28 (.pick 23 kT 27), im 29 28, gf 30 29 (.fAddr 0 4), gf 31 29 (.load false 1 30), gf 32 29 (.mv 5), gf 33
 29 (.slK 1 31 none (some 32)), gf 34 29 (.mv 6), oS ⟨some 35, .call "slices.Contains[[]int,int]" [33, 34], some (29, false)⟩ Bg, o1 36 (.pick 29 kT 35)])
 (.cond 36 (.seq (.region [o1 2 (.asg kF)]) .ret) .skip)))))) (.region [o1 37 (.bin .add 16 (kI 1)), im 16 37]))))))))))))) (.region [o1 38 (.bin .add 9 (kI 1)), im 9 38])))))))))
 (.seq (.region [o1 2 (.asg kT)]) .ret)))
def FQ : AFn := ⟨ AaG, HS.erase, [.tmp 2], 1⟩
def K2 (P : Pg) (x : (List Commit)) (K : Bool → Unit → Prop) : Prop :=
 Ai (D := Bool) (fun J1 => Bl (D := (Bool × Int)) (false, (0 : Int)) (fun d3 J4 => (((decide (d3.2 < (x.length : Int))) = true → Ai (D := Bool) (fun J5 => (0 ≤ d3.2 ∧ d3.2 < (x.length : Int)) ∧
 (d3.2.toNat < x.length) ∧
 Ai (D := Bool) (fun J7 => Bl (D := (Bool × Int)) (d3.1, (0 : Int)) (fun d9 J10 => (((decide (d9.2 < ((List.length (List.getD x d3.2.toNat Ak).1 : Nat) : Int))) = true → Ai (D := Bool) (fun J11 => (0 ≤ d9.2 ∧ d9.2 < ((List.length (List.getD x d3.2.toNat Ak).1 : Nat) : Int)) ∧
 (d9.2.toNat < List.length (List.getD x d3.2.toNat Ak).1) ∧
 (((cond (decide ((List.getD (List.getD x d3.2.toNat Ak).1 d9.2.toNat (0 : Int)) < (0 : Int))) true (decide ((List.getD (List.getD x d3.2.toNat Ak).1 d9.2.toNat (0 : Int)) ≥ (x.length : Int)))) = false → 0 ≤ d9.2 ∧ d9.2 ≤ ((List.length (List.getD x d3.2.toNat Ak).1 : Nat) : Int))) ∧
 Ai (D := Bool) (fun J13 => (((cond (decide ((List.getD (List.getD x d3.2.toNat Ak).1 d9.2.toNat (0 : Int)) < (0 : Int))) true (decide ((List.getD (List.getD x d3.2.toNat Ak).1 d9.2.toNat (0 : Int)) ≥ (x.length : Int)))) = false → Fn P "slices.Contains[[]int,int]" Bg ((List.take d9.2.toNat (List.getD x d3.2.toNat Ak).1), (List.getD (List.getD x d3.2.toNat Ak).1 d9.2.toNat (0 : Int))) (fun (d14 : Bool) _ => J13 d14)) ∧ (((cond (decide ((List.getD (List.getD x d3.2.toNat Ak).1 d9.2.toNat (0 : Int)) < (0 : Int))) true (decide ((List.getD (List.getD x d3.2.toNat Ak).1 d9.2.toNat (0 : Int)) ≥ (x.length : Int)))) = true → J13 false) ∧ True))) (fun d15 => (((cond (cond (decide ((List.getD (List.getD x d3.2.toNat Ak).1 d9.2.toNat (0 : Int)) < (0 : Int))) true (decide ((List.getD (List.getD x d3.2.toNat Ak).1 d9.2.toNat (0 : Int)) ≥ (x.length : Int)))) true d15) = true → K false ()) ∧ ((cond (cond (decide ((List.getD (List.getD x d3.2.toNat Ak).1 d9.2.toNat (0 : Int)) < (0 : Int))) true (decide ((List.getD (List.getD x d3.2.toNat Ak).1 d9.2.toNat (0 : Int)) ≥ (x.length : Int)))) true d15) = false → J11 d9.1)))) (fun d12 => J10 (d12, (i64.wrap (d9.2 + (1 : Int)))))) ∧ ((decide (d9.2 < ((List.length (List.getD x d3.2.toNat Ak).1 : Nat) : Int))) = false → J7 d9.1)))) (fun d8 => J5 d8)) (fun d6 => J4 (d6, (i64.wrap (d3.2 + (1 : Int)))))) ∧ ((decide (d3.2 < (x.length : Int))) = false → J1 d3.1)))) (fun d2 => K true ())
theorem Pk {P : Pg} (h : Has P FQ) {x : DP Db.ps} {K : DP Db.rs → DP (ptrs Db.ps) → Prop} (hw : K2 P x K) : Fn P AaG Db x K :=
 Cc (c := HS) h rfl rfl (by kernel_rfl) (Eq.mpr (show Ca P FQ Db HS x K = _ by kernel_rfl) hw)
def IV : Bw :=
 (.seq (.region [o1 2 (.asg (.c (.slice none 0 0)))]) (.seq (.region [im 14 0, o1 15 (.lenK 14), oT ⟨some 16, .mkSl 1 8 [(.int .i64 0)] 15 15, none⟩ (some (bI, .leaf)), ia 3 16])
 (.seq (.seq (.region [im 17 0, o1 18 (.lenK 17), o1 19 (.mv (kI 0))]) (.frame (rg [3, 5, 7] 19 19) [1005] false (.join [.sl 3 false (.sl bI) tO] (.block 0 (.loop [.sl 3 false (.sl
 bI) tO, .si 19] (.seq (.region [o1 20 (.bin .lss 19 18)]) (.seq (.cond 20 .skip (.exit 0)) (.seq (.frame (rg [3, 5, 7] 21 16) [1005] false (.join [.sl 3 false (.sl bI) tO] (.block
 1 (.seq (.region [o1 21 (.ixA 3 17 19), o1 22 (.load true 3 21), o1 5 (.alloc [(.slice none 0 0), (.int .i64 0), (.slice none 0 0)]), o0 ⟨none, .store 3 5 22, none⟩]) (.seq
 (.region [fa 23 0 5, ld 24 23, o1 25 (.lenK 24), o1 26 (.mv (kI 0))]) (.frame (rg [3, 7] 26 11) [] false (.join [.sl 3 false (.sl bI) tO] (.block 2 (.loop [.sl 3 false (.sl bI) tO,
 .si 26] (.seq (.region [o1 27 (.bin .lss 26 25)]) (.seq (.cond 27 .skip (.exit 2)) (.seq (.frame (rg [3, 7] 28 8) [] false (.join [.sl 3 false (.sl bI) tO] (.block 3 (.seq (.region
 [o1 28 (.ixA 1 24 26), ld 29 28, ia 7 29]) (.region [im 30 3, im 31 7, o1 32 (.ixA 1 30 31), ld 33 32, o1 34 (.bin .add 33 (kI 1)), o1 35 (.ixA 1 30 31), o0 ⟨none, .store 1 35 34,
 none⟩]))))) (.region [o1 36 (.bin .add 26 (kI 1)), im 26 36]))))))))))))) (.region [o1 37 (.bin .add 19 (kI 1)), im 19 37]))))))))) (.seq (.region [o1 8 (.asg (.c (.slice none 0
 0)))]) (.seq (.seq (.region [im 38 3, o1 39 (.lenK 38), o1 40 (.mv (kI 0))]) (.frame (rg [8, 9, 10] 40 12) [] false (.join [.sl 8 false (.sl bI) tO] (.block 4 (.loop [.sl 8 false
 (.sl bI) tO, .si 40] (.seq (.region [o1 41 (.bin .lss 40 39)]) (.seq (.cond 41 .skip (.exit 4)) (.seq (.frame (rg [8, 9, 10] 42 9) [] false (.join [.sl 8 false (.sl bI) tO] (.block
 5 (.seq (.region [im 42 40, o1 43 (.ixA 1 38 40), ld 44 43, ia 9 42, ia 10 44]) (.seq (.region [im 45 10, o1 46 (.bin .eql 45 (kI 0))]) (.frame (rg [8] 47 4) [] false (.join [.sl 8
 false (.sl bI) tO] (.cond 46 (.region [im 47 8, im 48 9, oT ⟨some 49, .buildSl 1 [(.int .i64 0)] 1 [(0, 48)], none⟩ (some (bI, .leaf)), oT ⟨some 50, .app 1 8 47 49, none⟩ (some
 (bI, .leaf)), ia 8 50]) .skip)))))))) (.region [o1 51 (.bin .add 40 (kI 1)), im 40 51]))))))))) (.seq (.seq (.region [ia 11 (kI 0)]) (.frame (rg [3, 8, 11, 13] 52 35) [] false
 (.join [.sl 8 false (.sl bI) tO] (.block 6 (.loop [.sl 3 false (.sl bI) tO, .sl 8 false (.sl bI) tO, .si 11] (.seq (.seq (.region [im 52 11, im 53 8, o1 54 (.lenK 53), o1 55 (.bin
 .lss 52 54)]) (.cond 55 .skip (.exit 6))) (.seq (.frame (rg [3, 8, 13] 58 29) [] false (.join [.sl 3 false (.sl bI) tO, .sl 8 false (.sl bI) tO] (.block 7 (.seq (.region [im 58 0,
 im 59 8, im 60 11, o1 61 (.ixA 1 59 60), ld 62 61, o1 63 (.ixA 3 58 62), fa 64 0 63, ld 65 64, o1 66 (.lenK 65), o1 67 (.mv (kI 0))]) (.frame (rg [3, 8, 13] 67 20) [] false (.join
 [.sl 3 false (.sl bI) tO, .sl 8 false (.sl bI) tO] (.block 8 (.loop [.sl 3 false (.sl bI) tO, .sl 8 false (.sl bI) tO, .si 67] (.seq (.region [o1 68 (.bin .lss 67 66)]) (.seq
 (.cond 68 .skip (.exit 8)) (.seq (.frame (rg [3, 8, 13] 69 17) [] false (.join [.sl 3 false (.sl bI) tO, .sl 8 false (.sl bI) tO] (.block 9 (.seq (.region [o1 69 (.ixA 1 65 67), ld
 70 69, ia 13 70]) (.seq (.region [im 71 3, im 72 13, o1 73 (.ixA 1 71 72), ld 74 73, o1 75 (.bin .sub 74 (kI 1)), o1 76 (.ixA 1 71 72), o0 ⟨none, .store 1 76 75, none⟩]) (.seq
 (.region [im 77 3, im 78 13, o1 79 (.ixA 1 77 78), ld 80 79, o1 81 (.bin .eql 80 (kI 0))]) (.frame (rg [8] 82 4) [] false (.join [.sl 8 false (.sl bI) tO] (.cond 81 (.region [im 82
 8, im 83 13, oT ⟨some 84, .buildSl 1 [(.int .i64 0)] 1 [(0, 83)], none⟩ (some (bI, .leaf)), oT ⟨some 85, .app 1 8 82 84, none⟩ (some (bI, .leaf)), ia 8 85]) .skip))))))))) (.region
 [o1 86 (.bin .add 67 (kI 1)), im 67 86])))))))))))) (.region [im 56 11, o1 57 (.bin .add 56 (kI 1)), ia 11 57])))))))) (.seq (.region [im 87 8, ia 2 87]) .ret)))))))
def Gl : AFn := ⟨ AaH, IV.erase, [.tmp 2], 1⟩
def LO (P : Pg) (x : (List Commit)) (K : (List Int) → Unit → Prop) : Prop :=
 (0 ≤ (x.length : Int) ∧ (x.length : Int) ≤ (x.length : Int) ∧ ((8 : Nat) : Int) * (x.length : Int) ≤ 281474976710656) ∧
 Ai (D := (List Int)) (fun J1 => Bl (D := ((List Int) × Int)) ((List.replicate (Int.toNat (x.length : Int)) (0 : Int)), (0 : Int)) (fun d3 J4 => (((decide (d3.2 < (x.length : Int))) = true → Ai (D := (List Int)) (fun J5 => (0 ≤ d3.2 ∧ d3.2 < (x.length : Int)) ∧
 (d3.2.toNat < x.length) ∧
 Ai (D := (List Int)) (fun J7 => Bl (D := ((List Int) × Int)) (d3.1, (0 : Int)) (fun d9 J10 => (((decide (d9.2 < ((List.length (List.getD x d3.2.toNat Ak).1 : Nat) : Int))) = true → Ai (D := (List Int)) (fun J11 => (0 ≤ d9.2 ∧ d9.2 < ((List.length (List.getD x d3.2.toNat Ak).1 : Nat) : Int)) ∧
 (d9.2.toNat < List.length (List.getD x d3.2.toNat Ak).1) ∧
 (0 ≤ (List.getD (List.getD x d3.2.toNat Ak).1 d9.2.toNat (0 : Int)) ∧ (List.getD (List.getD x d3.2.toNat Ak).1 d9.2.toNat (0 : Int)) < (d9.1.length : Int)) ∧
 ((Int.toNat (List.getD (List.getD x d3.2.toNat Ak).1 d9.2.toNat (0 : Int))) < d9.1.length) ∧
 (0 ≤ (List.getD (List.getD x d3.2.toNat Ak).1 d9.2.toNat (0 : Int)) ∧ (List.getD (List.getD x d3.2.toNat Ak).1 d9.2.toNat (0 : Int)) < (d9.1.length : Int)) ∧
 ((Int.toNat (List.getD (List.getD x d3.2.toNat Ak).1 d9.2.toNat (0 : Int))) < d9.1.length) ∧
 J11 (List.set d9.1 (Int.toNat (List.getD (List.getD x d3.2.toNat Ak).1 d9.2.toNat (0 : Int))) (i64.wrap ((List.getD d9.1 (Int.toNat (List.getD (List.getD x d3.2.toNat Ak).1 d9.2.toNat (0 : Int))) (0 : Int)) + (1 : Int))))) (fun d12 => J10 (d12, (i64.wrap (d9.2 + (1 : Int)))))) ∧ ((decide (d9.2 < ((List.length (List.getD x d3.2.toNat Ak).1 : Nat) : Int))) = false → J7 d9.1)))) (fun d8 => J5 d8)) (fun d6 => J4 (d6, (i64.wrap (d3.2 + (1 : Int)))))) ∧ ((decide (d3.2 < (x.length : Int))) = false → J1 d3.1)))) (fun d2 => Ai (D := (List Int)) (fun J13 => Bl (D := ((List Int) × Int)) ([], (0 : Int)) (fun d15 J16 => (((decide (d15.2 < (d2.length : Int))) = true → Ai (D := (List Int)) (fun J17 => (0 ≤ d15.2 ∧ d15.2 < (d2.length : Int)) ∧
 (d15.2.toNat < d2.length) ∧
 Ai (D := (List Int)) (fun J19 => ((((List.getD d2 d15.2.toNat (0 : Int)) == (0 : Int)) = true → ((d15.1.length + List.length ([d15.2] : List Int)) * 8 ≤ 140737488355328) ∧
 J19 (d15.1 ++ ([d15.2] : List Int))) ∧ (((List.getD d2 d15.2.toNat (0 : Int)) == (0 : Int)) = false → J19 d15.1))) (fun d20 => J17 d20)) (fun d18 => J16 (d18, (i64.wrap (d15.2 + (1 : Int)))))) ∧ ((decide (d15.2 < (d2.length : Int))) = false → J13 d15.1)))) (fun d14 => Ai (D := (List Int)) (fun J21 => Bl (D := ((List Int) × ((List Int) × Int))) (d2, (d14, (0 : Int))) (fun d23 J24 => (((decide (d23.2.2 < (d23.2.1.length : Int))) = true → Ai (D := ((List Int) × (List Int))) (fun J25 => (0 ≤ d23.2.2 ∧ d23.2.2 < (d23.2.1.length : Int)) ∧
 (d23.2.2.toNat < d23.2.1.length) ∧
 (0 ≤ (List.getD d23.2.1 d23.2.2.toNat (0 : Int)) ∧ (List.getD d23.2.1 d23.2.2.toNat (0 : Int)) < (x.length : Int)) ∧
 ((Int.toNat (List.getD d23.2.1 d23.2.2.toNat (0 : Int))) < x.length) ∧
 Ai (D := ((List Int) × (List Int))) (fun J27 => Bl (D := ((List Int) × ((List Int) × Int))) (d23.1, (d23.2.1, (0 : Int))) (fun d29 J30 => (((decide (d29.2.2 < ((List.length (List.getD x (Int.toNat (List.getD d23.2.1 d23.2.2.toNat (0 : Int))) Ak).1 : Nat) : Int))) = true → Ai (D := ((List Int) × (List Int))) (fun J31 => (0 ≤ d29.2.2 ∧ d29.2.2 < ((List.length (List.getD x (Int.toNat (List.getD d23.2.1 d23.2.2.toNat (0 : Int))) Ak).1 : Nat) : Int)) ∧
 (d29.2.2.toNat < List.length (List.getD x (Int.toNat (List.getD d23.2.1 d23.2.2.toNat (0 : Int))) Ak).1) ∧
 (0 ≤ (List.getD (List.getD x (Int.toNat (List.getD d23.2.1 d23.2.2.toNat (0 : Int))) Ak).1 d29.2.2.toNat (0 : Int)) ∧ (List.getD (List.getD x (Int.toNat (List.getD d23.2.1 d23.2.2.toNat (0 : Int))) Ak).1 d29.2.2.toNat (0 : Int)) < (d29.1.length : Int)) ∧
 ((Int.toNat (List.getD (List.getD x (Int.toNat (List.getD d23.2.1 d23.2.2.toNat (0 : Int))) Ak).1 d29.2.2.toNat (0 : Int))) < d29.1.length) ∧
 (0 ≤ (List.getD (List.getD x (Int.toNat (List.getD d23.2.1 d23.2.2.toNat (0 : Int))) Ak).1 d29.2.2.toNat (0 : Int)) ∧ (List.getD (List.getD x (Int.toNat (List.getD d23.2.1 d23.2.2.toNat (0 : Int))) Ak).1 d29.2.2.toNat (0 : Int)) < (d29.1.length : Int)) ∧
 ((Int.toNat (List.getD (List.getD x (Int.toNat (List.getD d23.2.1 d23.2.2.toNat (0 : Int))) Ak).1 d29.2.2.toNat (0 : Int))) < d29.1.length) ∧
 (0 ≤ (List.getD (List.getD x (Int.toNat (List.getD d23.2.1 d23.2.2.toNat (0 : Int))) Ak).1 d29.2.2.toNat (0 : Int)) ∧ (List.getD (List.getD x (Int.toNat (List.getD d23.2.1 d23.2.2.toNat (0 : Int))) Ak).1 d29.2.2.toNat (0 : Int)) < ((List.length (List.set d29.1 (Int.toNat (List.getD (List.getD x (Int.toNat (List.getD d23.2.1 d23.2.2.toNat (0 : Int))) Ak).1 d29.2.2.toNat (0 : Int))) (i64.wrap ((List.getD d29.1 (Int.toNat (List.getD (List.getD x (Int.toNat (List.getD d23.2.1 d23.2.2.toNat (0 : Int))) Ak).1 d29.2.2.toNat (0 : Int))) (0 : Int)) - (1 : Int)))) : Nat) : Int)) ∧
 ((Int.toNat (List.getD (List.getD x (Int.toNat (List.getD d23.2.1 d23.2.2.toNat (0 : Int))) Ak).1 d29.2.2.toNat (0 : Int))) < List.length (List.set d29.1 (Int.toNat (List.getD (List.getD x (Int.toNat (List.getD d23.2.1 d23.2.2.toNat (0 : Int))) Ak).1 d29.2.2.toNat (0 : Int))) (i64.wrap ((List.getD d29.1 (Int.toNat (List.getD (List.getD x (Int.toNat (List.getD d23.2.1 d23.2.2.toNat (0 : Int))) Ak).1 d29.2.2.toNat (0 : Int))) (0 : Int)) - (1 : Int))))) ∧
 Ai (D := (List Int)) (fun J33 => ((((List.getD (List.set d29.1 (Int.toNat (List.getD (List.getD x (Int.toNat (List.getD d23.2.1 d23.2.2.toNat (0 : Int))) Ak).1 d29.2.2.toNat (0 : Int))) (i64.wrap ((List.getD d29.1 (Int.toNat (List.getD (List.getD x (Int.toNat (List.getD d23.2.1 d23.2.2.toNat (0 : Int))) Ak).1 d29.2.2.toNat (0 : Int))) (0 : Int)) - (1 : Int)))) (Int.toNat (List.getD (List.getD x (Int.toNat (List.getD d23.2.1 d23.2.2.toNat (0 : Int))) Ak).1 d29.2.2.toNat (0 : Int))) (0 : Int)) == (0 : Int)) = true → ((d29.2.1.length + List.length ([(List.getD (List.getD x (Int.toNat (List.getD d23.2.1 d23.2.2.toNat (0 : Int))) Ak).1 d29.2.2.toNat (0 : Int))] : List Int)) * 8 ≤ 140737488355328) ∧
 J33 (d29.2.1 ++ ([(List.getD (List.getD x (Int.toNat (List.getD d23.2.1 d23.2.2.toNat (0 : Int))) Ak).1 d29.2.2.toNat (0 : Int))] : List Int))) ∧ (((List.getD (List.set d29.1 (Int.toNat (List.getD (List.getD x (Int.toNat (List.getD d23.2.1 d23.2.2.toNat (0 : Int))) Ak).1 d29.2.2.toNat (0 : Int))) (i64.wrap ((List.getD d29.1 (Int.toNat (List.getD (List.getD x (Int.toNat (List.getD d23.2.1 d23.2.2.toNat (0 : Int))) Ak).1 d29.2.2.toNat (0 : Int))) (0 : Int)) - (1 : Int)))) (Int.toNat (List.getD (List.getD x (Int.toNat (List.getD d23.2.1 d23.2.2.toNat (0 : Int))) Ak).1 d29.2.2.toNat (0 : Int))) (0 : Int)) == (0 : Int)) = false → J33 d29.2.1))) (fun d34 => J31 ((List.set d29.1 (Int.toNat (List.getD (List.getD x (Int.toNat (List.getD d23.2.1 d23.2.2.toNat (0 : Int))) Ak).1 d29.2.2.toNat (0 : Int))) (i64.wrap ((List.getD d29.1 (Int.toNat (List.getD (List.getD x (Int.toNat (List.getD d23.2.1 d23.2.2.toNat (0 : Int))) Ak).1 d29.2.2.toNat (0 : Int))) (0 : Int)) - (1 : Int)))), d34))) (fun d32 => J30 (d32.1, (d32.2, (i64.wrap (d29.2.2 + (1 : Int))))))) ∧ ((decide (d29.2.2 < ((List.length (List.getD x (Int.toNat (List.getD d23.2.1 d23.2.2.toNat (0 : Int))) Ak).1 : Nat) : Int))) = false → J27 (d29.1, d29.2.1))))) (fun d28 => J25 d28)) (fun d26 => J24 (d26.1, (d26.2, (i64.wrap (d23.2.2 + (1 : Int))))))) ∧ ((decide (d23.2.2 < (d23.2.1.length : Int))) = false → J21 d23.2.1)))) (fun d22 => K d22 ())))
theorem Qw {P : Pg} (h : Has P Gl) {x : DP Ds.ps} {K : DP Ds.rs → DP (ptrs Ds.ps) → Prop} (hw : LO P x K) : Fn P AaH Ds x K :=
 Cc (c := IV) h rfl rfl (by kernel_rfl) (Eq.mpr (show Ca P Gl Ds IV x K = _ by kernel_rfl) hw)
def Hf : Bw :=
 (.seq (.region [o1 1 (.box 0), o1 2 (.asg kF)]) (.seq (.region [fa 3 0 1, ld 4 3, oS ⟨some 5, .call AaL [4], none⟩ DJ, o1 6 (.bin .neq 5 (kI
 0)), ia 2 6]) .ret))
def E8 : AFn := ⟨ Vn, Hf.erase, [.tmp 2], 1⟩
def Jo (P : Pg) (x : ((List UInt8) × (List UInt8))) (K : Bool → Unit → Prop) : Prop :=
 Fn P AaL DJ x.1 (fun (d1 : Int) (e2 : Unit) => K (d1 != (0 : Int)) ())
theorem Oi {P : Pg} (h : Has P E8) {x : DP CJ.ps} {K : DP CJ.rs → DP (ptrs CJ.ps) → Prop} (hw : Jo P x K) : Fn P Vn CJ x K :=
 Cc (c := Hf) h rfl rfl (by kernel_rfl) (Eq.mpr (show Ca P E8 CJ Hf x K = _ by kernel_rfl) hw)
def Bn : Bw :=
 (.seq (.region [ia 4 (kI 0)]) (.seq (.seq (.region [im 6 0, o1 7 (.lenK 6), o1 8 (.mv (kI 0))]) (.frame (rg [4, 5] 8 11) [] false (.join [.si 4] (.block 0 (.loop [.si 4, .si 8]
 (.seq (.region [o1 9 (.bin .lss 8 7)]) (.seq (.cond 9 .skip (.exit 0)) (.seq (.frame (rg [4, 5] 10 8) [] false (.join [.si 4] (.block 1 (.seq (.region [im 10 8, ia 5 10]) (.seq
 (.region [im 11 1, im 12 0, im 13 5, o1 14 (.ixA 2 12 13), o1 15 (.load true 2 14), oS ⟨some 16, .callv 11 [15], none⟩ CJ]) (.cond 16 (.seq (.region [im 17 5, ia 4 17])
 .ret) .skip)))))) (.region [o1 18 (.bin .add 8 (kI 1)), im 8 18]))))))))) (.seq (.region [ia 4 (kI (-1))]) .ret)))
def A1 : AFn := ⟨ zS5, Bn.erase, [.tmp 4], 2⟩
def BZ (P : Pg) (x : ((List ((List UInt8) × (List UInt8))) × Unit)) (K : Int → Unit → Prop) : Prop :=
 Ai (D := Int) (fun J1 => Bl (D := (Int × Int)) ((0 : Int), (0 : Int)) (fun d3 J4 => (((decide (d3.2 < (x.1.length : Int))) = true → Ai (D := Int) (fun J5 => (0 ≤ d3.2 ∧ d3.2 < (x.1.length : Int)) ∧
 (d3.2.toNat < x.1.length) ∧
 Fn P Vn CJ (List.getD x.1 d3.2.toNat ([], [])) (fun (d7 : Bool) (e8 : Unit) => ((d7 = true → K d3.2 ()) ∧ (d7 = false → J5 d3.1)))) (fun d6 => J4 (d6, (i64.wrap (d3.2 + (1 : Int)))))) ∧ ((decide (d3.2 < (x.1.length : Int))) = false → J1 d3.1)))) (fun d2 => K (-1 : Int) ())
theorem De {P : Pg} (h : Has P A1) {x : DP Aw.ps} {K : DP Aw.rs → DP (ptrs Aw.ps) → Prop} (hw : BZ P x K) : Fn P zS5 Aw x K :=
 Cc (c := Bn) h rfl rfl (by kernel_rfl) (Eq.mpr (show Ca P A1 Aw Bn x K = _ by kernel_rfl) hw)
def Bh : Bw :=
 (.seq (.region [o1 4 (.asg kF)]) (.seq (.region [im 5 0, im 6 1, oS ⟨some 7, .call zS5 [5, 6], none⟩
 Aw, o1 8 (.bin .geq 7 (kI 0)), ia 4 8]) .ret))
def AW : AFn := ⟨ zS6, Bh.erase, [.tmp 4], 2⟩
def BM (P : Pg) (x : ((List ((List UInt8) × (List UInt8))) × Unit)) (K : Bool → Unit → Prop) : Prop :=
 Fn P zS5 Aw (x.1, ()) (fun (d1 : Int) (e2 : Unit) => K (decide (d1 ≥ (0 : Int))) ())
theorem CW {P : Pg} (h : Has P AW) {x : DP Ar.ps} {K : DP Ar.rs → DP (ptrs Ar.ps) → Prop} (hw : BM P x K) : Fn P zS6 Ar x K :=
 Cc (c := Bh) h rfl rfl (by kernel_rfl) (Eq.mpr (show Ca P AW Ar Bh x K = _ by kernel_rfl) hw)
def I2 : Bw :=
 (.seq (.region [o1 2 (.asg kF)]) (.seq (.region [im 3 0, oS ⟨some 4, .call "strings.HasSuffix" [3, (.c (.string ⟨#[10]⟩))], none⟩ CZ, ia 2 4]) .ret))
def Gs : AFn := ⟨ AaI, I2.erase, [.tmp 2], 1⟩
def LV (P : Pg) (x : (List UInt8)) (K : Bool → Unit → Prop) : Prop :=
 Fn P "strings.HasSuffix" CZ (x, ([10] : List UInt8)) (fun (d1 : Bool) (e2 : Unit) => K d1 ())
theorem QC {P : Pg} (h : Has P Gs) {x : DP Dw.ps} {K : DP Dw.rs → DP (ptrs Dw.ps) → Prop} (hw : LV P x K) : Fn P AaI Dw x K :=
 Cc (c := I2) h rfl rfl (by kernel_rfl) (Eq.mpr (show Ca P Gs Dw I2 x K = _ by kernel_rfl) hw)
def I1 : Bw :=
 (.seq (.region [ia 2 (kI 0)]) (.seq (.region [im 4 0, oS ⟨some 5, .call "strings.Count" [4, (.c (.string ⟨#[10]⟩))], none⟩ D3, ia 3 5]) (.seq (.seq (.region [im 6 0,
 o1 7 (.bin .neq 6 (.c (.string ⟨#[]⟩))), im 8 7, gt 9 8 (.mv 0), oS ⟨some 10, .call AaI [9], some (8, true)⟩ Dw, gt 11 8 (.un .not 10), o1 12 (.pick 8
 11 kF)]) (.frame [3, 13, 14] [] false (.join [.si 3] (.cond 12 (.region [im 13 3, o1 14 (.bin .add 13 (kI 1)), ia 3 14]) .skip)))) (.seq (.seq (.region [im 15 0, o1 16 (.lenS 15),
 o1 17 (.bin .gtr 16 (kI 1048576)), im 18 17, gf 19 18 (.mv 3), gf 20 18 (.bin .gtr 19 (kI 4096)), o1 21 (.pick 18 kT 20)]) (.cond 21 (.seq (.region [ia 2 (kI 1)]) .ret) .skip))
 (.seq (.region [ia 2 (kI 0)]) .ret)))))
def Gr : AFn := ⟨ AaJ, I1.erase, [.tmp 2], 1⟩
def LU (P : Pg) (x : (List UInt8)) (K : Int → Unit → Prop) : Prop :=
 Fn P "strings.Count" D3 (x, ([10] : List UInt8)) (fun (d1 : Int) (e2 : Unit) => Ai (D := Bool) (fun J3 => (((!(x == ([] : List UInt8))) = true → Fn P AaI Dw x (fun (d4 : Bool) _ => J3 d4)) ∧ (((!(x == ([] : List UInt8))) = false → J3 false) ∧ True))) (fun d5 => Ai (D := Int) (fun J6 => (((cond (!(x == ([] : List UInt8))) (!d5) false) = true → J6 (i64.wrap (d1 + (1 : Int)))) ∧ ((cond (!(x == ([] : List UInt8))) (!d5) false) = false → J6 d1))) (fun d7 => (((cond (decide ((x.length : Int) > (1048576 : Int))) true (decide (d7 > (4096 : Int)))) = true → K (1 : Int) ()) ∧ ((cond (decide ((x.length : Int) > (1048576 : Int))) true (decide (d7 > (4096 : Int)))) = false → K (0 : Int) ())))))
theorem QB {P : Pg} (h : Has P Gr) {x : DP Dv.ps} {K : DP Dv.rs → DP (ptrs Dv.ps) → Prop} (hw : LU P x K) : Fn P AaJ Dv x K :=
 Cc (c := I1) h rfl rfl (by kernel_rfl) (Eq.mpr (show Ca P Gr Dv I1 x K = _ by kernel_rfl) hw)
def Hg : Bw :=
 (.seq (.region [o1 1 (.box 0), o1 2 (.asg kF)]) (.seq (.region [fa 3 1 1, ld 4 3, oS ⟨some 5, .call AaJ [4], none⟩ Dv, o1 6 (.bin .neq 5 (kI 0)), ia 2
 6]) .ret))
def E9 : AFn := ⟨ AaA, Hg.erase, [.tmp 2], 1⟩
def Jp (P : Pg) (x : ((List UInt8) × (List UInt8))) (K : Bool → Unit → Prop) : Prop :=
 Fn P AaJ Dv x.2 (fun (d1 : Int) (e2 : Unit) => K (d1 != (0 : Int)) ())
theorem Oj {P : Pg} (h : Has P E9) {x : DP CL.ps} {K : DP CL.rs → DP (ptrs CL.ps) → Prop} (hw : Jp P x K) : Fn P AaA CL x K :=
 Cc (c := Hg) h rfl rfl (by kernel_rfl) (Eq.mpr (show Ca P E9 CL Hg x K = _ by kernel_rfl) hw)
def Bo : Bw :=
 (.seq (.region [ia 4 (kI 0)]) (.seq (.seq (.region [im 6 0, o1 7 (.lenK 6), o1 8 (.mv (kI 0))]) (.frame (rg [4, 5] 8 11) [] false (.join [.si 4] (.block 0 (.loop [.si 4, .si 8]
 (.seq (.region [o1 9 (.bin .lss 8 7)]) (.seq (.cond 9 .skip (.exit 0)) (.seq (.frame (rg [4, 5] 10 8) [] false (.join [.si 4] (.block 1 (.seq (.region [im 10 8, ia 5 10]) (.seq
 (.region [im 11 1, im 12 0, im 13 5, o1 14 (.ixA 2 12 13), o1 15 (.load true 2 14), oS ⟨some 16, .callv 11 [15], none⟩ CL]) (.cond 16 (.seq (.region [im 17 5, ia 4 17])
 .ret) .skip)))))) (.region [o1 18 (.bin .add 8 (kI 1)), im 8 18]))))))))) (.seq (.region [ia 4 (kI (-1))]) .ret)))
def A2 : AFn := ⟨ zS5, Bo.erase, [.tmp 4], 2⟩
def B0 (P : Pg) (x : ((List ((List UInt8) × (List UInt8))) × Unit)) (K : Int → Unit → Prop) : Prop :=
 Ai (D := Int) (fun J1 => Bl (D := (Int × Int)) ((0 : Int), (0 : Int)) (fun d3 J4 => (((decide (d3.2 < (x.1.length : Int))) = true → Ai (D := Int) (fun J5 => (0 ≤ d3.2 ∧ d3.2 < (x.1.length : Int)) ∧
 (d3.2.toNat < x.1.length) ∧
 Fn P AaA CL (List.getD x.1 d3.2.toNat ([], [])) (fun (d7 : Bool) (e8 : Unit) => ((d7 = true → K d3.2 ()) ∧ (d7 = false → J5 d3.1)))) (fun d6 => J4 (d6, (i64.wrap (d3.2 + (1 : Int)))))) ∧ ((decide (d3.2 < (x.1.length : Int))) = false → J1 d3.1)))) (fun d2 => K (-1 : Int) ())
theorem Df {P : Pg} (h : Has P A2) {x : DP Ax.ps} {K : DP Ax.rs → DP (ptrs Ax.ps) → Prop} (hw : B0 P x K) : Fn P zS5 Ax x K :=
 Cc (c := Bo) h rfl rfl (by kernel_rfl) (Eq.mpr (show Ca P A2 Ax Bo x K = _ by kernel_rfl) hw)
def Bj : Bw :=
 (.seq (.region [o1 4 (.asg kF)]) (.seq (.region [im 5 0, im 6 1, oS ⟨some 7, .call zS5 [5, 6], none⟩
 Ax, o1 8 (.bin .geq 7 (kI 0)), ia 4 8]) .ret))
def AX : AFn := ⟨ zS6, Bj.erase, [.tmp 4], 2⟩
def BN (P : Pg) (x : ((List ((List UInt8) × (List UInt8))) × Unit)) (K : Bool → Unit → Prop) : Prop :=
 Fn P zS5 Ax (x.1, ()) (fun (d1 : Int) (e2 : Unit) => K (decide (d1 ≥ (0 : Int))) ())
theorem CX {P : Pg} (h : Has P AX) {x : DP Au.ps} {K : DP Au.rs → DP (ptrs Au.ps) → Prop} (hw : BN P x K) : Fn P zS6 Au x K :=
 Cc (c := Bj) h rfl rfl (by kernel_rfl) (Eq.mpr (show Ca P AX Au Bj x K = _ by kernel_rfl) hw)
def I3 : Bw :=
 (.seq (.region [ia 2 (kI 0)]) (.seq (.frame (rg [] 2 15) [] false (.join [.si 2] (.block 0 (.seq (.region [im 4 0, o1 5 (.lenK 4), o1 6 (.bin .gtr 5 (kI 200)), ia 3 6]) (.cond 3
 (.seq (.region [ia 2 (kI 1)]) .ret) (.seq (.region [im 8 0, oS ⟨some 9, .call zS6 [8, (.f Vn)],
 none⟩ Ar, ia 7 9]) (.cond 7 (.seq (.region [ia 2 (kI 210)]) .ret) (.seq (.region [im 11 0, oS ⟨some 12, .call
 "mergelens/tree.ordered" [11], none⟩ Fa, o1 13 (.un .not 12), ia 10 13]) (.cond 10 (.seq (.region [ia 2 (kI 211)]) .ret) (.seq (.region [im 15 0, oS ⟨some 16, .call
 zS6 [15, (.f AaA)], none⟩ Au, ia 14 16]) (.cond
 14 (.seq (.region [ia 2 (kI 1)]) .ret) .skip))))))))))) (.seq (.region [ia 2 (kI 0)]) .ret)))
def E7 : AFn := ⟨ WN, I3.erase, [.tmp 2], 1⟩
def Iw (P : Pg) (x : (List ((List UInt8) × (List UInt8)))) (K : Int → Unit → Prop) : Prop :=
 Ai (D := Int) (fun J1 => (((decide ((x.length : Int) > (200 : Int))) = true → K (1 : Int) ()) ∧ ((decide ((x.length : Int) > (200 : Int))) = false → Fn P zS6 Ar (x, ()) (fun (d3 : Bool) (e4 : Unit) => ((d3 = true → K (210 : Int) ()) ∧ (d3 = false → Fn P "mergelens/tree.ordered" Fa x (fun (d5 : Bool) (e6 : Unit) => (((!d5) = true → K (211 : Int) ()) ∧ ((!d5) = false → Fn P zS6 Au (x, ()) (fun (d7 : Bool) (e8 : Unit) => ((d7 = true → K (1 : Int) ()) ∧ (d7 = false → J1 (0 : Int))))))))))))) (fun d2 => K (0 : Int) ())
theorem K6 {P : Pg} (h : Has P E7) {x : DP BQ.ps} {K : DP BQ.rs → DP (ptrs BQ.ps) → Prop} (hw : Iw P x K) : Fn P WN BQ x K :=
 Cc (c := I3) h rfl rfl (by kernel_rfl) (Eq.mpr (show Ca P E7 BQ I3 x K = _ by kernel_rfl) hw)
def HQ : Bw :=
 (.seq (.region [o1 1 (.box 0), o1 2 (.asg kF)]) (.seq (.region [fa 3 1 1, ld 4 3, o1 5 (.bin .lss 4 (kI 0)), im 6 5, gf 7 6 (.fAddr 1 1), gf 8 6 (.load false 1 7), gf 9 6 (.bin
 .gtr 8 (kI 2147483647)), o1 10 (.pick 6 kT 9), ia 2 10]) .ret))
def FO : AFn := ⟨ WO, HQ.erase, [.tmp 2], 1⟩
def Qt (P : Pg) (x : Commit) (K : Bool → Unit → Prop) : Prop :=
 K (cond (decide (x.2.1 < (0 : Int))) true (decide (x.2.1 > (2147483647 : Int)))) ()
theorem Ph {P : Pg} (h : Has P FO) {x : DP DC.ps} {K : DP DC.rs → DP (ptrs DC.ps) → Prop} (hw : Qt P x K) : Fn P WO DC x K :=
 Cc (c := HQ) h rfl rfl (by kernel_rfl) (Eq.mpr (show Ca P FO DC HQ x K = _ by kernel_rfl) hw)
def Bk : Bw :=
 (.seq (.region [ia 4 (kI 0)]) (.seq (.seq (.region [im 6 0, o1 7 (.lenK 6), o1 8 (.mv (kI 0))]) (.frame (rg [4, 5] 8 11) [] false (.join [.si 4] (.block 0 (.loop [.si 4, .si 8]
 (.seq (.region [o1 9 (.bin .lss 8 7)]) (.seq (.cond 9 .skip (.exit 0)) (.seq (.frame (rg [4, 5] 10 8) [] false (.join [.si 4] (.block 1 (.seq (.region [im 10 8, ia 5 10]) (.seq
 (.region [im 11 1, im 12 0, im 13 5, o1 14 (.ixA 3 12 13), o1 15 (.load true 3 14), oS ⟨some 16, .callv 11 [15], none⟩ DC]) (.cond 16 (.seq (.region [im 17 5, ia 4 17])
 .ret) .skip)))))) (.region [o1 18 (.bin .add 8 (kI 1)), im 8 18]))))))))) (.seq (.region [ia 4 (kI (-1))]) .ret)))
def AY : AFn := ⟨ zS3, Bk.erase, [.tmp 4], 2⟩
def BO (P : Pg) (x : ((List Commit) × Unit)) (K : Int → Unit → Prop) : Prop :=
 Ai (D := Int) (fun J1 => Bl (D := (Int × Int)) ((0 : Int), (0 : Int)) (fun d3 J4 => (((decide (d3.2 < (x.1.length : Int))) = true → Ai (D := Int) (fun J5 => (0 ≤ d3.2 ∧ d3.2 < (x.1.length : Int)) ∧
 (d3.2.toNat < x.1.length) ∧
 Fn P WO DC (List.getD x.1 d3.2.toNat Ak) (fun (d7 : Bool) (e8 : Unit) => ((d7 = true → K d3.2 ()) ∧ (d7 = false → J5 d3.1)))) (fun d6 => J4 (d6, (i64.wrap (d3.2 + (1 : Int)))))) ∧ ((decide (d3.2 < (x.1.length : Int))) = false → J1 d3.1)))) (fun d2 => K (-1 : Int) ())
theorem CY {P : Pg} (h : Has P AY) {x : DP Av.ps} {K : DP Av.rs → DP (ptrs Av.ps) → Prop} (hw : BO P x K) : Fn P zS3 Av x K :=
 Cc (c := Bk) h rfl rfl (by kernel_rfl) (Eq.mpr (show Ca P AY Av Bk x K = _ by kernel_rfl) hw)
def Bb : Bw :=
 (.seq (.region [o1 4 (.asg kF)]) (.seq (.region [im 5 0, im 6 1, oS ⟨some 7, .call zS3 [5, 6], none⟩
 Av, o1 8 (.bin .geq 7 (kI 0)), ia 4 8]) .ret))
def AN : AFn := ⟨ zS4, Bb.erase, [.tmp 4], 2⟩
def BD (P : Pg) (x : ((List Commit) × Unit)) (K : Bool → Unit → Prop) : Prop :=
 Fn P zS3 Av (x.1, ()) (fun (d1 : Int) (e2 : Unit) => K (decide (d1 ≥ (0 : Int))) ())
theorem CG {P : Pg} (h : Has P AN) {x : DP Ao.ps} {K : DP Ao.rs → DP (ptrs Ao.ps) → Prop} (hw : BD P x K) : Fn P zS4 Ao x K :=
 Cc (c := Bb) h rfl rfl (by kernel_rfl) (Eq.mpr (show Ca P AN Ao Bb x K = _ by kernel_rfl) hw)
def JX : Bw :=
 (.seq (.region [ia 2 (kI 0)]) (.seq (.frame (rg [2] 6 18) [] false (.join [.si 2] (.block 0 (.seq (.region [im 7 0, oS ⟨some 8, .call AaF [7], none⟩
 Da, o1 9 (.un .not 8), ia 6 9]) (.cond 6 (.seq (.region [ia 2 (kI 1)]) .ret) (.seq (.region [im 11 0, oS ⟨some 12, .call AaG [11], none⟩
 Db, o1 13 (.un .not 12), ia 10 13]) (.cond 10 (.seq (.region [ia 2 (kI 230)]) .ret) (.seq (.region [im 15 0, oS ⟨some 16, .call AaH [15], none⟩
 Ds, o1 17 (.lenK 16), im 18 0, o1 19 (.lenK 18), o1 20 (.bin .lss 17 19), ia 14 20]) (.cond 14 (.seq (.region [ia 2 (kI 231)]) .ret) (.seq (.region [im 22 0, oS ⟨some 23,
 .call zS4 [22, (.f WO)], none⟩ Ao, ia 21
 23]) (.cond 21 (.seq (.region [ia 2 (kI 3)]) .ret) .skip))))))))))) (.seq (.seq (.region [im 24 0, o1 25 (.lenK 24), o1 26 (.mv (kI 0))]) (.frame (rg [2, 4, 5] 26 11) [1004] false
 (.join [.si 2] (.block 1 (.loop [.si 2, .si 26] (.seq (.region [o1 27 (.bin .lss 26 25)]) (.seq (.cond 27 .skip (.exit 1)) (.seq (.frame (rg [2, 4, 5] 28 8) [1004] false (.join
 [.si 2] (.block 2 (.seq (.region [o1 28 (.ixA 3 24 26), o1 29 (.load true 3 28), o1 4 (.alloc [(.slice none 0 0), (.int .i64 0), (.slice none 0 0)]), o0 ⟨none, .store 3 4 29,
 none⟩]) (.seq (.region [fa 30 2 4, ld 31 30, oS ⟨some 32, .call WN [31], none⟩ BQ, ia 5 32]) (.seq (.region [im 33 5, o1 34 (.bin .neq 33 (kI 0))])
 (.cond 34 (.seq (.region [im 35 5, ia 2 35]) .ret) .skip))))))) (.region [o1 36 (.bin .add 26 (kI 1)), im 26 36]))))))))) (.seq (.region [ia 2 (kI 0)]) .ret))))
def Hs : AFn := ⟨ AaK, JX.erase, [.tmp 2], 1⟩
def NJ (P : Pg) (x : (List Commit)) (K : Int → Unit → Prop) : Prop :=
 Ai (D := Int) (fun J1 => Fn P AaF Da x (fun (d3 : Bool) (e4 : Unit) => (((!d3) = true → K (1 : Int) ()) ∧ ((!d3) = false → Fn P AaG Db x (fun (d5 : Bool) (e6 : Unit) => (((!d5) = true → K (230 : Int) ()) ∧ ((!d5) = false → Fn P AaH Ds x (fun (d7 : (List Int)) (e8 : Unit) => (((decide ((d7.length : Int) < (x.length : Int))) = true → K (231 : Int) ()) ∧ ((decide ((d7.length : Int) < (x.length : Int))) = false → Fn P zS4 Ao (x, ()) (fun (d9 : Bool) (e10 : Unit) => ((d9 = true → K (3 : Int) ()) ∧ (d9 = false → J1 (0 : Int)))))))))))))) (fun d2 => Ai (D := Int) (fun J11 => Bl (D := (Int × Int)) (d2, (0 : Int)) (fun d13 J14 => (((decide (d13.2 < (x.length : Int))) = true → Ai (D := Int) (fun J15 => (0 ≤ d13.2 ∧ d13.2 < (x.length : Int)) ∧
 (d13.2.toNat < x.length) ∧
 Fn P WN BQ (List.getD x d13.2.toNat Ak).2.2 (fun (d17 : Int) (e18 : Unit) => (((d17 != (0 : Int)) = true → K d17 ()) ∧ ((d17 != (0 : Int)) = false → J15 d13.1)))) (fun d16 => J14 (d16, (i64.wrap (d13.2 + (1 : Int)))))) ∧ ((decide (d13.2 < (x.length : Int))) = false → J11 d13.1)))) (fun d12 => K (0 : Int) ()))
theorem Sg {P : Pg} (h : Has P Hs) {x : DP DO.ps} {K : DP DO.rs → DP (ptrs DO.ps) → Prop} (hw : NJ P x K) : Fn P AaK DO x K :=
 Cc (c := JX) h rfl rfl (by kernel_rfl) (Eq.mpr (show Ca P Hs DO JX x K = _ by kernel_rfl) hw)
def Qg : Bw :=
 (.seq (.region [o1 4 (.asg kF)]) (.seq (.region [im 5 1, o1 6 (.bin .geq 5 (kI 0)), im 7 6, gt 8 7 (.mv 1), gt 9 7 (.mv 0), gt 10 7 (.lenK 9), gt 11 7 (.bin .lss 8 10), o1 12
 (.pick 7 11 kF), ia 4 12]) .ret))
def LK : AFn := ⟨ "mergelens/dag.Is", Qg.erase, [.tmp 4], 2⟩
def Tm (P : Pg) (x : ((List Commit) × Int)) (K : Bool → Unit → Prop) : Prop :=
 K (cond (decide (x.2 ≥ (0 : Int))) (decide (x.2 < (x.1.length : Int))) false) ()
theorem X3 {P : Pg} (h : Has P LK) {x : DP GL.ps} {K : DP GL.rs → DP (ptrs GL.ps) → Prop} (hw : Tm P x K) : Fn P "mergelens/dag.Is" GL x K :=
 Cc (c := Qg) h rfl rfl (by kernel_rfl) (Eq.mpr (show Ca P LK GL Qg x K = _ by kernel_rfl) hw)
def Aey : Bw :=
 (.seq (.region [ia 4 (kI 0)]) (.seq (.seq (.region [im 8 0, oS ⟨some 9, .call AaK [8], none⟩ DO, ia 5 9]) (.seq (.region [im 10 5, o1 11 (.bin .neq 10
 (kI 0))]) (.cond 11 (.seq (.region [im 12 5, ia 4 12]) .ret) .skip))) (.seq (.seq (.region [im 13 1, o1 14 (.lenK 13), o1 15 (.mv (kI 0))]) (.frame (rg [4, 7] 15 9) [] false (.join
 [.si 4] (.block 0 (.loop [.si 4, .si 15] (.seq (.region [o1 16 (.bin .lss 15 14)]) (.seq (.cond 16 .skip (.exit 0)) (.seq (.frame (rg [4, 7] 17 6) [] false (.join [.si 4] (.block 1
 (.seq (.region [o1 17 (.ixA 1 13 15), ld 18 17, ia 7 18]) (.seq (.region [im 19 0, im 20 7, oS ⟨some 21, .call "mergelens/dag.Is" [19, 20], none⟩ GL, o1 22 (.un .not 21)])
 (.cond 22 (.seq (.region [ia 4 (kI 5)]) .ret) .skip)))))) (.region [o1 23 (.bin .add 15 (kI 1)), im 15 23]))))))))) (.seq (.region [ia 4 (kI 0)]) .ret))))
def Aeu : AFn := ⟨ AaO, Aey.erase, [.tmp 4], 2⟩
def AeK (P : Pg) (x : ((List Commit) × (List Int))) (K : Int → Unit → Prop) : Prop :=
 Fn P AaK DO x.1 (fun (d1 : Int) (e2 : Unit) => (((d1 != (0 : Int)) = true → K d1 ()) ∧ ((d1 != (0 : Int)) = false → Ai (D := Int) (fun J3 => Bl (D := (Int × Int)) ((0 : Int), (0 : Int)) (fun d5 J6 => (((decide (d5.2 < (x.2.length : Int))) = true → Ai (D := Int) (fun J7 => (0 ≤ d5.2 ∧ d5.2 < (x.2.length : Int)) ∧
 (d5.2.toNat < x.2.length) ∧
 Fn P "mergelens/dag.Is" GL (x.1, (List.getD x.2 d5.2.toNat (0 : Int))) (fun (d9 : Bool) (e10 : Unit) => (((!d9) = true → K (5 : Int) ()) ∧ ((!d9) = false → J7 d5.1)))) (fun d8 => J6 (d8, (i64.wrap (d5.2 + (1 : Int)))))) ∧ ((decide (d5.2 < (x.2.length : Int))) = false → J3 d5.1)))) (fun d4 => K (0 : Int) ()))))
theorem Ae4 {P : Pg} (h : Has P Aeu) {x : DP Aeo.ps} {K : DP Aeo.rs → DP (ptrs Aeo.ps) → Prop} (hw : AeK P x K) : Fn P AaO Aeo x K :=
 Cc (c := Aey) h rfl rfl (by kernel_rfl) (Eq.mpr (show Ca P Aeu Aeo Aey x K = _ by kernel_rfl) hw)
def Aet : Bw :=
 (.seq (.region [o1 4 (.asg (.c (.slice none 0 0)))]) (.seq (.region [im 10 0, o1 11 (.lenK 10), oT ⟨some 12, .mkSl 1 1 [(.bool false)] 11 11, none⟩ (some (.bool, .leaf)), ia 5 12])
 (.seq (.region [im 13 5, im 14 1, o1 15 (.ixA 1 13 14), o0 ⟨none, .store 1 15 kT, none⟩]) (.seq (.seq (.region [im 16 1, oT ⟨some 17, .buildSl 1 [(.int .i64 0)] 1 [(0, 16)], none⟩
 (some (bI, .leaf)), ia 6 17]) (.frame (rg [5, 6, 7, 9] 18 37) [] false (.join [.sl 5 false (.sl .bool) tO] (.block 0 (.loop [.sl 5 false (.sl .bool) tO, .sl 6 false (.sl bI) tO]
 (.seq (.seq (.region [im 18 6, o1 19 (.lenK 18), o1 20 (.bin .gtr 19 (kI 0))]) (.cond 20 .skip (.exit 0))) (.frame (rg [5, 6, 7, 9] 21 34) [] false (.join [.sl 5 false (.sl .bool)
 tO, .sl 6 false (.sl bI) tO] (.block 1 (.seq (.region [im 21 6, im 22 6, o1 23 (.lenK 22), o1 24 (.bin .sub 23 (kI 1)), o1 25 (.ixA 1 21 24), ld 26 25, ia 7 26]) (.seq (.region [im
 27 6, im 28 6, o1 29 (.lenK 28), o1 30 (.bin .sub 29 (kI 1)), o1 31 (.slK 1 27 none (some 30)), ia 6 31]) (.seq (.region [im 32 0, im 33 7, o1 34 (.ixA 3 32 33), fa 35 0 34, ld 36
 35, o1 37 (.lenK 36), o1 38 (.mv (kI 0))]) (.frame (rg [5, 6, 9] 38 17) [] false (.join [.sl 5 false (.sl .bool) tO, .sl 6 false (.sl bI) tO] (.block 2 (.loop [.sl 5 false (.sl
 .bool) tO, .sl 6 false (.sl bI) tO, .si 38] (.seq (.region [o1 39 (.bin .lss 38 37)]) (.seq (.cond 39 .skip (.exit 2)) (.seq (.frame (rg [5, 6, 9] 40 14) [] false (.join [.sl 5
 false (.sl .bool) tO, .sl 6 false (.sl bI) tO] (.block 3 (.seq (.region [o1 40 (.ixA 1 36 38), ld 41 40, ia 9 41]) (.seq (.region [im 42 5, im 43 9, o1 44 (.ixA 1 42 43), ld 45 44,
 o1 46 (.un .not 45)]) (.frame (rg [5, 6] 47 7) [] false (.join [.sl 5 false (.sl .bool) tO, .sl 6 false (.sl bI) tO] (.cond 46 (.seq (.region [im 47 5, im 48 9, o1 49 (.ixA 1 47
 48), o0 ⟨none, .store 1 49 kT, none⟩]) (.region [im 50 6, im 51 9, oT ⟨some 52, .buildSl 1 [(.int .i64 0)] 1 [(0, 51)], none⟩ (some (bI, .leaf)), oT ⟨some 53, .app 1 8 50 52, none⟩
 (some (bI, .leaf)), ia 6 53])) .skip)))))))) (.region [o1 54 (.bin .add 38 (kI 1)), im 38 54])))))))))))))))))))) (.seq (.region [im 55 5, ia 4 55]) .ret)))))
def Aer : AFn := ⟨ Ab4, Aet.erase, [.tmp 4], 2⟩
def AeD (P : Pg) (x : ((List Commit) × Int)) (K : (List Bool) → Unit → Prop) : Prop :=
 (0 ≤ (x.1.length : Int) ∧ (x.1.length : Int) ≤ (x.1.length : Int) ∧ ((1 : Nat) : Int) * (x.1.length : Int) ≤ 281474976710656) ∧
 (0 ≤ x.2 ∧ x.2 < ((List.length (List.replicate (Int.toNat (x.1.length : Int)) false) : Nat) : Int)) ∧
 (x.2.toNat < List.length (List.replicate (Int.toNat (x.1.length : Int)) false)) ∧
 Ai (D := (List Bool)) (fun J1 => Bl (D := ((List Bool) × (List Int))) ((List.set (List.replicate (Int.toNat (x.1.length : Int)) false) x.2.toNat true), ([x.2] : List Int)) (fun d3 J4 => (((decide ((d3.2.length : Int) > (0 : Int))) = true → Ai (D := ((List Bool) × (List Int))) (fun J5 => (0 ≤ (i64.wrap ((d3.2.length : Int) - (1 : Int))) ∧ (i64.wrap ((d3.2.length : Int) - (1 : Int))) < (d3.2.length : Int)) ∧
 ((Int.toNat (i64.wrap ((d3.2.length : Int) - (1 : Int)))) < d3.2.length) ∧
 (0 ≤ (i64.wrap ((d3.2.length : Int) - (1 : Int))) ∧ (i64.wrap ((d3.2.length : Int) - (1 : Int))) ≤ (d3.2.length : Int)) ∧
 (0 + (Int.toNat (i64.wrap ((d3.2.length : Int) - (1 : Int)))) ≤ d3.2.length) ∧
 (0 ≤ (List.getD d3.2 (Int.toNat (i64.wrap ((d3.2.length : Int) - (1 : Int)))) (0 : Int)) ∧ (List.getD d3.2 (Int.toNat (i64.wrap ((d3.2.length : Int) - (1 : Int)))) (0 : Int)) < (x.1.length : Int)) ∧
 ((Int.toNat (List.getD d3.2 (Int.toNat (i64.wrap ((d3.2.length : Int) - (1 : Int)))) (0 : Int))) < x.1.length) ∧
 Ai (D := ((List Bool) × (List Int))) (fun J7 => Bl (D := ((List Bool) × ((List Int) × Int))) (d3.1, ((List.take (Int.toNat (i64.wrap ((d3.2.length : Int) - (1 : Int)))) (List.drop 0 d3.2)), (0 : Int))) (fun d9 J10 => (((decide (d9.2.2 < ((List.length (List.getD x.1 (Int.toNat (List.getD d3.2 (Int.toNat (i64.wrap ((d3.2.length : Int) - (1 : Int)))) (0 : Int))) Ak).1 : Nat) : Int))) = true → Ai (D := ((List Bool) × (List Int))) (fun J11 => (0 ≤ d9.2.2 ∧ d9.2.2 < ((List.length (List.getD x.1 (Int.toNat (List.getD d3.2 (Int.toNat (i64.wrap ((d3.2.length : Int) - (1 : Int)))) (0 : Int))) Ak).1 : Nat) : Int)) ∧
 (d9.2.2.toNat < List.length (List.getD x.1 (Int.toNat (List.getD d3.2 (Int.toNat (i64.wrap ((d3.2.length : Int) - (1 : Int)))) (0 : Int))) Ak).1) ∧
 (0 ≤ (List.getD (List.getD x.1 (Int.toNat (List.getD d3.2 (Int.toNat (i64.wrap ((d3.2.length : Int) - (1 : Int)))) (0 : Int))) Ak).1 d9.2.2.toNat (0 : Int)) ∧ (List.getD (List.getD x.1 (Int.toNat (List.getD d3.2 (Int.toNat (i64.wrap ((d3.2.length : Int) - (1 : Int)))) (0 : Int))) Ak).1 d9.2.2.toNat (0 : Int)) < (d9.1.length : Int)) ∧
 ((Int.toNat (List.getD (List.getD x.1 (Int.toNat (List.getD d3.2 (Int.toNat (i64.wrap ((d3.2.length : Int) - (1 : Int)))) (0 : Int))) Ak).1 d9.2.2.toNat (0 : Int))) < d9.1.length) ∧
 Ai (D := ((List Bool) × (List Int))) (fun J13 => (((!(List.getD d9.1 (Int.toNat (List.getD (List.getD x.1 (Int.toNat (List.getD d3.2 (Int.toNat (i64.wrap ((d3.2.length : Int) - (1 : Int)))) (0 : Int))) Ak).1 d9.2.2.toNat (0 : Int))) false)) = true → (0 ≤ (List.getD (List.getD x.1 (Int.toNat (List.getD d3.2 (Int.toNat (i64.wrap ((d3.2.length : Int) - (1 : Int)))) (0 : Int))) Ak).1 d9.2.2.toNat (0 : Int)) ∧ (List.getD (List.getD x.1 (Int.toNat (List.getD d3.2 (Int.toNat (i64.wrap ((d3.2.length : Int) - (1 : Int)))) (0 : Int))) Ak).1 d9.2.2.toNat (0 : Int)) < (d9.1.length : Int)) ∧
 ((Int.toNat (List.getD (List.getD x.1 (Int.toNat (List.getD d3.2 (Int.toNat (i64.wrap ((d3.2.length : Int) - (1 : Int)))) (0 : Int))) Ak).1 d9.2.2.toNat (0 : Int))) < d9.1.length) ∧
 ((d9.2.1.length + List.length ([(List.getD (List.getD x.1 (Int.toNat (List.getD d3.2 (Int.toNat (i64.wrap ((d3.2.length : Int) - (1 : Int)))) (0 : Int))) Ak).1 d9.2.2.toNat (0 : Int))] : List Int)) * 8 ≤ 140737488355328) ∧
 J13 ((List.set d9.1 (Int.toNat (List.getD (List.getD x.1 (Int.toNat (List.getD d3.2 (Int.toNat (i64.wrap ((d3.2.length : Int) - (1 : Int)))) (0 : Int))) Ak).1 d9.2.2.toNat (0 : Int))) true), (d9.2.1 ++ ([(List.getD (List.getD x.1 (Int.toNat (List.getD d3.2 (Int.toNat (i64.wrap ((d3.2.length : Int) - (1 : Int)))) (0 : Int))) Ak).1 d9.2.2.toNat (0 : Int))] : List Int)))) ∧ ((!(List.getD d9.1 (Int.toNat (List.getD (List.getD x.1 (Int.toNat (List.getD d3.2 (Int.toNat (i64.wrap ((d3.2.length : Int) - (1 : Int)))) (0 : Int))) Ak).1 d9.2.2.toNat (0 : Int))) false)) = false → J13 (d9.1, d9.2.1)))) (fun d14 => J11 d14)) (fun d12 => J10 (d12.1, (d12.2, (i64.wrap (d9.2.2 + (1 : Int))))))) ∧ ((decide (d9.2.2 < ((List.length (List.getD x.1 (Int.toNat (List.getD d3.2 (Int.toNat (i64.wrap ((d3.2.length : Int) - (1 : Int)))) (0 : Int))) Ak).1 : Nat) : Int))) = false → J7 (d9.1, d9.2.1))))) (fun d8 => J5 d8)) (fun d6 => J4 d6)) ∧ ((decide ((d3.2.length : Int) > (0 : Int))) = false → J1 d3.1)))) (fun d2 => K d2 ())
theorem AeO {P : Pg} (h : Has P Aer) {x : DP Aek.ps} {K : DP Aek.rs → DP (ptrs Aek.ps) → Prop} (hw : AeD P x K) : Fn P Ab4 Aek x K :=
 Cc (c := Aet) h rfl rfl (by kernel_rfl) (Eq.mpr (show Ca P Aer Aek Aet x K = _ by kernel_rfl) hw)
end Go.VS
