/- Functions of the program: typed code, and what it says, lifted. -/
import Derived.Test.YtdnomijflodcgaaDoorKTxSig
import Derived.KernelRfl
set_option linter.unusedVariables false
set_option linter.unusedSimpArgs false
set_option maxRecDepth 8000
namespace Go.VS
open IntKind
def Aet : Bw :=
 (.seq (.region [o1 4 (.asg (.c (.slice none 0 0)))]) (.seq (.region [im 10 0, o1 11 (.lenK 10), oT ⟨some 12, .mkSl 1 1 [(.bool false)] 11 11, none⟩ (some (.bool, .leaf)), ia 5 12])
 (.seq (.region [im 13 5, im 14 1, o1 15 (.ixA 1 13 14), o0 ⟨none, .store 1 15 kT, none⟩]) (.seq (.seq (.region [im 16 1, oT ⟨some 17, .buildSl 1 [(.int .i64 0)] 1 [(0, 16)], none⟩
 (some (bI, .leaf)), ia 6 17]) (.frame (rg [5, 6, 7, 9] 18 37) [] false (.join [.sl 5 false (.sl .bool) tO] (.block 0 (.loop [.sl 5 false (.sl .bool) tO, .sl 6 false (.sl bI) tO]
 (.seq (.seq (.region [im 18 6, o1 19 (.lenK 18), o1 20 (.bin .gtr 19 (kI 0))]) (.cond 20 .skip (.exit 0))) (.frame (rg [5, 6, 7, 9] 21 34) [] false (.join [.sl 5 false (.sl .bool)
 tO, .sl 6 false (.sl bI) tO] (.block 1 (.seq (.region [im 21 6, im 22 6, o1 23 (.lenK 22), o1 24 (.bin .sub 23 (kI 1)), o1 25 (.ixA 1 21 24), ld 26 25, ia 7 26]) (.seq (.region [im
 27 6, im 28 6, o1 29 (.lenK 28), o1 30 (.bin .sub 29 (kI 1)), o1 31 (.slK 1 27 none (some 30)), ia 6 31]) (.seq (.region [im 32 0, im 33 7, o1 34 (.ixA 3 32 33), fa 35 0 34, ld 36
 35, o1 37 (.lenK 36), o1 38 (.mv (kI 0))]) (.frame (rg [5, 6, 9] 38 17) [] false (.join [.sl 5 false (.sl .bool) tO, .sl 6 false (.sl bI) tO] (.block 2 (.loop [.sl 5 false (.sl
 .bool) tO, .sl 6 false (.sl bI) tO, .si 38] (.seq (.region [o1 39 (.bin .lss 38 37)]) (.seq (.cond 39 .skip (.exit 2)) (.seq (.frame (rg [5, 6, 9] 40 14) [] false (.join [.sl 5
 false (.sl .bool) tO, .sl 6 false (.sl bI) tO] (.block 3 (.seq (.region [o1 40 (.ixA 1 36 38), ld 41 40, ia 9 41]) (.seq (.region [im 42 5, im 43 9, o1 44 (.ixA 1 42 43), ld 45 44,
 o1 46 (.un .not 45)]) (.frame (rg [5, 6] 47 7) [] false (.join [.sl 5 false (.sl .bool) tO, .sl 6 false (.sl bI) tO] (.cond 46 (.seq (.region [im 47 5, im 48 9, o1 49 (.ixA 1 47
 48), o0 ⟨none, .store 1 49 kT, none⟩]) (.region [im 50 6, im 51 9, oT ⟨some 52, .buildSl 1 [(.int .i64 0)] 1 [(0, 51)], none⟩ (some (bI, .leaf)), oT ⟨some 53, .app 1 8 50 52, none⟩
 (some (bI, .leaf)), ia 6 53])) .skip)))))))) (.region [o1 54 (.bin .add 38 (kI 1)), im 38 54])))))))))))))))))))) (.seq (.region [im 55 5, ia 4 55]) .ret)))))
def Aer : AFn := ⟨ WQ, Aet.erase, [.tmp 4], 2⟩
def AeD (P : Pg) (x : ((List Commit) × Int)) (K : (List Bool) → Unit → Prop) : Prop :=
 (0 ≤ (x.1.length : Int) ∧ (x.1.length : Int) ≤ (x.1.length : Int) ∧ ((1 : Nat) : Int) * (x.1.length : Int) ≤ 281474976710656) ∧
 (0 ≤ x.2 ∧ x.2 < ((List.length (List.replicate (Int.toNat (x.1.length : Int)) false) : Nat) : Int)) ∧
 (x.2.toNat < List.length (List.replicate (Int.toNat (x.1.length : Int)) false)) ∧
 Ai (D := (List Bool)) (fun J1 => Bl (D := ((List Bool) × (List Int))) ((List.set (List.replicate (Int.toNat (x.1.length : Int)) false) x.2.toNat true), ([x.2] : List Int)) (fun d3 J4 => (((decide ((d3.2.length : Int) > (0 : Int))) = true → Ai (D := ((List Bool) × (List Int))) (fun J5 => (0 ≤ (i64.wrap ((d3.2.length : Int) - (1 : Int))) ∧ (i64.wrap ((d3.2.length : Int) - (1 : Int))) < (d3.2.length : Int)) ∧
 ((Int.toNat (i64.wrap ((d3.2.length : Int) - (1 : Int)))) < d3.2.length) ∧
 (0 ≤ (i64.wrap ((d3.2.length : Int) - (1 : Int))) ∧ (i64.wrap ((d3.2.length : Int) - (1 : Int))) ≤ (d3.2.length : Int)) ∧
 (0 + (Int.toNat (i64.wrap ((d3.2.length : Int) - (1 : Int)))) ≤ d3.2.length) ∧
 (0 ≤ (List.getD d3.2 (Int.toNat (i64.wrap ((d3.2.length : Int) - (1 : Int)))) (0 : Int)) ∧ (List.getD d3.2 (Int.toNat (i64.wrap ((d3.2.length : Int) - (1 : Int)))) (0 : Int)) < (x.1.length : Int)) ∧
 ((Int.toNat (List.getD d3.2 (Int.toNat (i64.wrap ((d3.2.length : Int) - (1 : Int)))) (0 : Int))) < x.1.length) ∧
 Ai (D := ((List Bool) × (List Int))) (fun J7 => Bl (D := ((List Bool) × ((List Int) × Int))) (d3.1, ((List.take (Int.toNat (i64.wrap ((d3.2.length : Int) - (1 : Int)))) (List.drop 0 d3.2)), (0 : Int))) (fun d9 J10 => (((decide (d9.2.2 < ((List.length (List.getD x.1 (Int.toNat (List.getD d3.2 (Int.toNat (i64.wrap ((d3.2.length : Int) - (1 : Int)))) (0 : Int))) Ak).1 : Nat) : Int))) = true → Ai (D := ((List Bool) × (List Int))) (fun J11 => (0 ≤ d9.2.2 ∧ d9.2.2 < ((List.length (List.getD x.1 (Int.toNat (List.getD d3.2 (Int.toNat (i64.wrap ((d3.2.length : Int) - (1 : Int)))) (0 : Int))) Ak).1 : Nat) : Int)) ∧
 (d9.2.2.toNat < List.length (List.getD x.1 (Int.toNat (List.getD d3.2 (Int.toNat (i64.wrap ((d3.2.length : Int) - (1 : Int)))) (0 : Int))) Ak).1) ∧
 (0 ≤ (List.getD (List.getD x.1 (Int.toNat (List.getD d3.2 (Int.toNat (i64.wrap ((d3.2.length : Int) - (1 : Int)))) (0 : Int))) Ak).1 d9.2.2.toNat (0 : Int)) ∧ (List.getD (List.getD x.1 (Int.toNat (List.getD d3.2 (Int.toNat (i64.wrap ((d3.2.length : Int) - (1 : Int)))) (0 : Int))) Ak).1 d9.2.2.toNat (0 : Int)) < (d9.1.length : Int)) ∧
 ((Int.toNat (List.getD (List.getD x.1 (Int.toNat (List.getD d3.2 (Int.toNat (i64.wrap ((d3.2.length : Int) - (1 : Int)))) (0 : Int))) Ak).1 d9.2.2.toNat (0 : Int))) < d9.1.length) ∧
 Ai (D := ((List Bool) × (List Int))) (fun J13 => (((!(List.getD d9.1 (Int.toNat (List.getD (List.getD x.1 (Int.toNat (List.getD d3.2 (Int.toNat (i64.wrap ((d3.2.length : Int) - (1 : Int)))) (0 : Int))) Ak).1 d9.2.2.toNat (0 : Int))) false)) = true → (0 ≤ (List.getD (List.getD x.1 (Int.toNat (List.getD d3.2 (Int.toNat (i64.wrap ((d3.2.length : Int) - (1 : Int)))) (0 : Int))) Ak).1 d9.2.2.toNat (0 : Int)) ∧ (List.getD (List.getD x.1 (Int.toNat (List.getD d3.2 (Int.toNat (i64.wrap ((d3.2.length : Int) - (1 : Int)))) (0 : Int))) Ak).1 d9.2.2.toNat (0 : Int)) < (d9.1.length : Int)) ∧
 ((Int.toNat (List.getD (List.getD x.1 (Int.toNat (List.getD d3.2 (Int.toNat (i64.wrap ((d3.2.length : Int) - (1 : Int)))) (0 : Int))) Ak).1 d9.2.2.toNat (0 : Int))) < d9.1.length) ∧
 ((d9.2.1.length + List.length ([(List.getD (List.getD x.1 (Int.toNat (List.getD d3.2 (Int.toNat (i64.wrap ((d3.2.length : Int) - (1 : Int)))) (0 : Int))) Ak).1 d9.2.2.toNat (0 : Int))] : List Int)) * 8 ≤ 140737488355328) ∧
 J13 ((List.set d9.1 (Int.toNat (List.getD (List.getD x.1 (Int.toNat (List.getD d3.2 (Int.toNat (i64.wrap ((d3.2.length : Int) - (1 : Int)))) (0 : Int))) Ak).1 d9.2.2.toNat (0 : Int))) true), (d9.2.1 ++ ([(List.getD (List.getD x.1 (Int.toNat (List.getD d3.2 (Int.toNat (i64.wrap ((d3.2.length : Int) - (1 : Int)))) (0 : Int))) Ak).1 d9.2.2.toNat (0 : Int))] : List Int)))) ∧ ((!(List.getD d9.1 (Int.toNat (List.getD (List.getD x.1 (Int.toNat (List.getD d3.2 (Int.toNat (i64.wrap ((d3.2.length : Int) - (1 : Int)))) (0 : Int))) Ak).1 d9.2.2.toNat (0 : Int))) false)) = false → J13 (d9.1, d9.2.1)))) (fun d14 => J11 d14)) (fun d12 => J10 (d12.1, (d12.2, (i64.wrap (d9.2.2 + (1 : Int))))))) ∧ ((decide (d9.2.2 < ((List.length (List.getD x.1 (Int.toNat (List.getD d3.2 (Int.toNat (i64.wrap ((d3.2.length : Int) - (1 : Int)))) (0 : Int))) Ak).1 : Nat) : Int))) = false → J7 (d9.1, d9.2.1))))) (fun d8 => J5 d8)) (fun d6 => J4 d6)) ∧ ((decide ((d3.2.length : Int) > (0 : Int))) = false → J1 d3.1)))) (fun d2 => K d2 ())
theorem AeO {P : Pg} (h : Has P Aer) {x : DP Aek.ps} {K : DP Aek.rs → DP (ptrs Aek.ps) → Prop} (hw : AeD P x K) : Fn P WQ Aek x K :=
 Cc (c := Aet) h rfl rfl (by kernel_rfl) (Eq.mpr (show Ca P Aer Aek Aet x K = _ by kernel_rfl) hw)
def Aht : Bw :=
 (.seq (.region [o1 4 (.asg (.c (.slice none 0 0))), ia 5 (kI 0)]) (.seq (.seq (.region [im 10 0, im 11 1, oT ⟨some 12, .buildSl 1 [(.int .i64 0)] 1 [(0, 11)], none⟩ (some (bI,
 .leaf)), oS ⟨some 13, .call WO [10, 12], none⟩ Aeo, ia 6 13]) (.seq (.region [im 14 6, o1 15 (.bin .neq 14 (kI 0))]) (.cond 15 (.seq (.region
 [im 16 6, o1 4 (.asg (.c (.slice none 0 0))), ia 5 16]) .ret) .skip))) (.seq (.region [o1 7 (.asg (.c (.slice none 0 0)))]) (.seq (.seq (.region [im 17 0, im 18 1, oS ⟨some 19,
 .call WQ [17, 18], none⟩ Aek, o1 20 (.lenK 19), o1 21 (.mv (kI 0))]) (.frame (rg [7, 8, 9] 21 11) [] false (.join [.sl 7 false (.sl bI)
 tO] (.block 0 (.loop [.sl 7 false (.sl bI) tO, .si 21] (.seq (.region [o1 22 (.bin .lss 21 20)]) (.seq (.cond 22 .skip (.exit 0)) (.seq (.frame (rg [7, 8, 9] 23 8) [] false (.join
 [.sl 7 false (.sl bI) tO] (.block 1 (.seq (.region [im 23 21, o1 24 (.ixA 1 19 21), ld 25 24, ia 8 23, ia 9 25]) (.seq (.region [im 26 9]) (.frame (rg [7] 27 4) [] false (.join
 [.sl 7 false (.sl bI) tO] (.cond 26 (.region [im 27 7, im 28 8, oT ⟨some 29, .buildSl 1 [(.int .i64 0)] 1 [(0, 28)], none⟩ (some (bI, .leaf)), oT ⟨some 30, .app 1 8 27 29, none⟩
 (some (bI, .leaf)), ia 7 30]) .skip)))))))) (.region [o1 31 (.bin .add 21 (kI 1)), im 21 31]))))))))) (.seq (.region [im 32 7, ia 4 32, ia 5 (kI 0)]) .ret)))))
def Ahq : AFn := ⟨ AaM, Aht.erase, [.tmp 4, .tmp 5], 2⟩
def AhD (P : Pg) (x : ((List Commit) × Int)) (K : ((List Int) × Int) → Unit → Prop) : Prop :=
 Fn P WO Aeo (x.1, ([x.2] : List Int)) (fun (d1 : Int) (e2 : Unit) => (((d1 != (0 : Int)) = true → K ([], d1) ()) ∧ ((d1 != (0 : Int)) = false → Fn P WQ Aek x (fun (d3 : (List Bool)) (e4 : Unit) => Ai (D := (List Int)) (fun J5 => Bl (D := ((List Int) × Int)) ([], (0 : Int)) (fun d7 J8 => (((decide (d7.2 < (d3.length : Int))) = true → Ai (D := (List Int)) (fun J9 => (0 ≤ d7.2 ∧ d7.2 < (d3.length : Int)) ∧
 (d7.2.toNat < d3.length) ∧
 Ai (D := (List Int)) (fun J11 => (((List.getD d3 d7.2.toNat false) = true → ((d7.1.length + List.length ([d7.2] : List Int)) * 8 ≤ 140737488355328) ∧
 J11 (d7.1 ++ ([d7.2] : List Int))) ∧ ((List.getD d3 d7.2.toNat false) = false → J11 d7.1))) (fun d12 => J9 d12)) (fun d10 => J8 (d10, (i64.wrap (d7.2 + (1 : Int)))))) ∧ ((decide (d7.2 < (d3.length : Int))) = false → J5 d7.1)))) (fun d6 => K (d6, (0 : Int)) ())))))
theorem AhQ {P : Pg} (h : Has P Ahq) {x : DP Ahi.ps} {K : DP Ahi.rs → DP (ptrs Ahi.ps) → Prop} (hw : AhD P x K) : Fn P AaM Ahi x K :=
 Cc (c := Aht) h rfl rfl (by kernel_rfl) (Eq.mpr (show Ca P Ahq Ahi Aht x K = _ by kernel_rfl) hw)
def AhJ : Bw :=
 (.seq (.region [o1 6 (.asg kF), ia 7 (kI 0)]) (.seq (.seq (.region [im 9 0, im 10 1, im 11 2, oT ⟨some 12, .buildSl 1 [(.int .i64 0)] 2 [(0, 10), (1, 11)], none⟩ (some (bI,
 .leaf)), oS ⟨some 13, .call WO [9, 12], none⟩ Aeo, ia 8 13]) (.seq (.region [im 14 8, o1 15 (.bin .neq 14 (kI 0))]) (.cond 15 (.seq (.region
 [im 16 8, o1 6 (.asg kF), ia 7 16]) .ret) .skip))) (.seq (.region [im 17 0, im 18 2, oS ⟨some 19, .call WQ [17, 18], none⟩ Aek, im 20
 1, o1 21 (.ixA 1 19 20), ld 22 21, ia 6 22, ia 7 (kI 0)]) .ret)))
def Ahz : AFn := ⟨ zS2, AhJ.erase, [.tmp 6, .tmp 7], 3⟩
def AhT (P : Pg) (x : ((List Commit) × (Int × Int))) (K : (Bool × Int) → Unit → Prop) : Prop :=
 Fn P WO Aeo (x.1, ([x.2.1, x.2.2] : List Int)) (fun (d1 : Int) (e2 : Unit) => (((d1 != (0 : Int)) = true → K (false, d1) ()) ∧ ((d1 != (0 : Int)) = false → Fn P WQ Aek (x.1, x.2.2) (fun (d3 : (List Bool)) (e4 : Unit) => (0 ≤ x.2.1 ∧ x.2.1 < (d3.length : Int)) ∧
 (x.2.1.toNat < d3.length) ∧
 K ((List.getD d3 x.2.1.toNat false), (0 : Int)) ()))))
theorem Ah6 {P : Pg} (h : Has P Ahz) {x : DP Ahn.ps} {K : DP Ahn.rs → DP (ptrs Ahn.ps) → Prop} (hw : AhT P x K) : Fn P zS2 Ahn x K :=
 Cc (c := AhJ) h rfl rfl (by kernel_rfl) (Eq.mpr (show Ca P Ahz Ahn AhJ x K = _ by kernel_rfl) hw)
def AiH : Bw :=
 (.seq (.region [o1 8 (.asg kF)]) (.seq (.region [im 25 0, oS ⟨some 26, .call AaE [25, (kI 9), (kI 1)], none⟩ DQ, ia 9 26]) (.seq (.seq (.region
 [im 27 9, o1 28 (.lenK 27), o1 29 (.bin .eql 28 (kI 0))]) (.cond 29 (.seq (.region [oS ⟨some 30, .call Vm [], none⟩ Ael, ia 8 30]) .ret)
 .skip)) (.seq (.region [im 31 1, im 32 9, o1 33 (.lenK 32), oS ⟨some 34, .call zS1 [31, 33], none⟩ BL, im 35 2, im 36 9, o1 37 (.lenK 36), oS ⟨some
 38, .call zS1 [35, 37], none⟩ BL, im 39 3, im 40 9, o1 41 (.lenK 40), oS ⟨some 42, .call zS1 [39, 41], none⟩ BL, ia
 1 34, ia 2 38, ia 3 42]) (.seq (.region [im 44 9, im 45 1, im 46 1, oS ⟨some 47, .call zS2 [44, 45, 46], none⟩ Ahn, im 43 47, o1 48 (.ext 43 0), o1 49
 (.ext 43 1), ia 10 48, ia 11 49]) (.seq (.region [im 51 9, im 52 1, im 53 2, oS ⟨some 54, .call zS2 [51, 52, 53], none⟩ Ahn, im 50 54, o1 55 (.ext 50
 0), o1 56 (.ext 50 1), ia 12 55, ia 13 56]) (.seq (.region [im 58 9, im 59 2, im 60 1, oS ⟨some 61, .call zS2 [58, 59, 60], none⟩ Ahn, im 57 61, o1 62
 (.ext 57 0), o1 63 (.ext 57 1), ia 14 62, ia 15 63]) (.seq (.region [im 65 9, im 66 2, im 67 3, oS ⟨some 68, .call zS2 [65, 66, 67], none⟩ Ahn, im 64
 68, o1 69 (.ext 64 0), o1 70 (.ext 64 1), ia 16 69, ia 17 70]) (.seq (.region [im 72 9, im 73 1, im 74 3, oS ⟨some 75, .call zS2 [72, 73, 74], none⟩
 Ahn, im 71 75, o1 76 (.ext 71 0), o1 77 (.ext 71 1), ia 18 76, ia 19 77]) (.seq (.region [im 79 9, im 80 2, oS ⟨some 81, .call AaM [79, 80],
 none⟩ Ahi, im 78 81, o1 82 (.ext 78 0), o1 83 (.ext 78 1), ia 20 82, ia 21 83]) (.seq (.seq (.region [im 84 11, o1 85 (.bin .neq 84 (kI 0)), im 86 85, gf 87 86
 (.mv 13), gf 88 86 (.bin .neq 87 (kI 0)), o1 89 (.pick 86 kT 88), im 90 89, gf 91 90 (.mv 15), gf 92 90 (.bin .neq 91 (kI 0)), o1 93 (.pick 90 kT 92), im 94 93, gf 95 94 (.mv 17),
 gf 96 94 (.bin .neq 95 (kI 0)), o1 97 (.pick 94 kT 96), im 98 97, gf 99 98 (.mv 19), gf 100 98 (.bin .neq 99 (kI 0)), o1 101 (.pick 98 kT 100), im 102 101, gf 103 102 (.mv 21), gf
 104 102 (.bin .neq 103 (kI 0)), o1 105 (.pick 102 kT 104), im 106 105, gf 107 106 (.mv 10), gf 108 106 (.un .not 107), o1 109 (.pick 106 kT 108), im 110 109, gf 111 110 (.mv 12),
 gf 112 110 (.mv 111), gt 113 112 (.mv 16), gf 114 110 (.pick 112 113 kF), gf 115 110 (.mv 114), gt 116 115 (.mv 18), gt 117 115 (.un .not 116), gf 118 110 (.pick 115 117 kF), o1
 119 (.pick 110 kT 118), im 120 119, gf 121 120 (.mv 12), gf 122 120 (.mv 121), gt 123 122 (.mv 14), gf 124 120 (.pick 122 123 kF), gf 125 120 (.mv 124), gt 126 125 (.mv 1), gt 127
 125 (.mv 2), gt 128 125 (.bin .neq 126 127), gf 129 120 (.pick 125 128 kF), o1 130 (.pick 120 kT 129), im 131 130, gf 132 131 (.mv 20), gf 133 131 (.mv 1), oS ⟨some 134, .call
 AaF [132, 133], some (131, false)⟩ Ag4, gf 135 131 (.mv 12), gf 136 131 (.eqB true 134 135), o1 137 (.pick 131 kT 136)]) (.cond 137 (.seq
 (.region [o1 8 (.asg kF)]) .ret) .skip)) (.seq (.seq (.region [ia 22 (kI 0)]) (.frame (rg [8, 22, 23, 24] 138 30) [] false (.join [.sl 8 false .bool .leaf] (.block 0 (.loop [.sl 8
 false .bool .leaf, .si 22] (.seq (.seq (.region [im 138 22, im 139 9, im 140 3, o1 141 (.ixA 3 139 140), fa 142 0 141, ld 143 142, o1 144 (.lenK 143), o1 145 (.bin .lss 138 144)])
 (.cond 145 .skip (.exit 0))) (.seq (.frame (rg [8, 23, 24] 148 20) [] false (.join [.sl 8 false .bool .leaf] (.block 1 (.seq (.region [im 149 9, im 150 9, im 151 3, o1 152 (.ixA 3
 150 151), fa 153 0 152, ld 154 153, im 155 22, o1 156 (.ixA 1 154 155), ld 157 156, im 158 3, oS ⟨some 159, .call zS2 [149, 157, 158], none⟩ Ahn, im
 148 159, o1 160 (.ext 148 0), o1 161 (.ext 148 1), ia 23 160, ia 24 161]) (.seq (.region [im 162 24, o1 163 (.bin .neq 162 (kI 0)), im 164 163, gf 165 164 (.mv 23), gf 166 164 (.un
 .not 165), o1 167 (.pick 164 kT 166)]) (.cond 167 (.seq (.region [o1 8 (.asg kF)]) .ret) .skip)))))) (.region [im 146 22, o1 147 (.bin .add 146 (kI 1)), ia 22 147])))))))) (.seq
 (.region [oS ⟨some 168, .call Vm [], none⟩ Ael, ia 8 168]) .ret)))))))))))))
def AiG : AFn := ⟨ Ab5, AiH.erase, [.tmp 8], 4⟩
def AiI (P : Pg) (x : ((List Int) × (Int × (Int × Int)))) (K : Bool → Unit → Prop) : Prop :=
 Fn P AaE DQ (x.1, ((9 : Int), (1 : Int))) (fun (d1 : (List Commit)) (e2 : Unit) => ((((d1.length : Int) == (0 : Int)) = true → Fn P Vm Ael () (fun (d3 : Bool) (e4 : Unit) => K d3 ())) ∧ (((d1.length : Int) == (0 : Int)) = false → Fn P zS1 BL (x.2.1, (d1.length : Int)) (fun (d5 : Int) (e6 : Unit) => Fn P zS1 BL (x.2.2.1, (d1.length : Int)) (fun (d7 : Int) (e8 : Unit) => Fn P zS1 BL (x.2.2.2, (d1.length : Int)) (fun (d9 : Int) (e10 : Unit) => Fn P zS2 Ahn (d1, (d5, d5)) (fun (d11 : (Bool × Int)) (e12 : Unit) => Fn P zS2 Ahn (d1, (d5, d7)) (fun (d13 : (Bool × Int)) (e14 : Unit) => Fn P zS2 Ahn (d1, (d7, d5)) (fun (d15 : (Bool × Int)) (e16 : Unit) => Fn P zS2 Ahn (d1, (d7, d9)) (fun (d17 : (Bool × Int)) (e18 : Unit) => Fn P zS2 Ahn (d1, (d5, d9)) (fun (d19 : (Bool × Int)) (e20 : Unit) => Fn P AaM Ahi (d1, d7) (fun (d21 : ((List Int) × Int)) (e22 : Unit) => Ai (D := Bool) (fun J23 => (((cond (cond (cond (cond (cond (cond (cond (cond (d11.2 != (0 : Int)) true (d13.2 != (0 : Int))) true (d15.2 != (0 : Int))) true (d17.2 != (0 : Int))) true (d19.2 != (0 : Int))) true (d21.2 != (0 : Int))) true (!d11.1)) true (cond (cond d13.1 d17.1 false) (!d19.1) false)) true (cond (cond d13.1 d15.1 false) (d5 != d7) false)) = false → Fn P AaF Ag4 (d21.1, d5) (fun (d24 : Bool) _ => J23 d24)) ∧ (((cond (cond (cond (cond (cond (cond (cond (cond (d11.2 != (0 : Int)) true (d13.2 != (0 : Int))) true (d15.2 != (0 : Int))) true (d17.2 != (0 : Int))) true (d19.2 != (0 : Int))) true (d21.2 != (0 : Int))) true (!d11.1)) true (cond (cond d13.1 d17.1 false) (!d19.1) false)) true (cond (cond d13.1 d15.1 false) (d5 != d7) false)) = true → J23 false) ∧ True))) (fun d25 => (((cond (cond (cond (cond (cond (cond (cond (cond (cond (d11.2 != (0 : Int)) true (d13.2 != (0 : Int))) true (d15.2 != (0 : Int))) true (d17.2 != (0 : Int))) true (d19.2 != (0 : Int))) true (d21.2 != (0 : Int))) true (!d11.1)) true (cond (cond d13.1 d17.1 false) (!d19.1) false)) true (cond (cond d13.1 d15.1 false) (d5 != d7) false)) true (!(d25 == d13.1))) = true → K false ()) ∧ ((cond (cond (cond (cond (cond (cond (cond (cond (cond (d11.2 != (0 : Int)) true (d13.2 != (0 : Int))) true (d15.2 != (0 : Int))) true (d17.2 != (0 : Int))) true (d19.2 != (0 : Int))) true (d21.2 != (0 : Int))) true (!d11.1)) true (cond (cond d13.1 d17.1 false) (!d19.1) false)) true (cond (cond d13.1 d15.1 false) (d5 != d7) false)) true (!(d25 == d13.1))) = false → Ai (D := Bool) (fun J26 => Bl (D := (Bool × Int)) (false, (0 : Int)) (fun d28 J29 => (0 ≤ d9 ∧ d9 < (d1.length : Int)) ∧
 (d9.toNat < d1.length) ∧
 (((decide (d28.2 < ((List.length (List.getD d1 d9.toNat Ak).1 : Nat) : Int))) = true → Ai (D := Bool) (fun J30 => (0 ≤ d9 ∧ d9 < (d1.length : Int)) ∧
 (d9.toNat < d1.length) ∧
 (0 ≤ d28.2 ∧ d28.2 < ((List.length (List.getD d1 d9.toNat Ak).1 : Nat) : Int)) ∧
 (d28.2.toNat < List.length (List.getD d1 d9.toNat Ak).1) ∧
 Fn P zS2 Ahn (d1, ((List.getD (List.getD d1 d9.toNat Ak).1 d28.2.toNat (0 : Int)), d9)) (fun (d32 : (Bool × Int)) (e33 : Unit) => (((cond (d32.2 != (0 : Int)) true (!d32.1)) = true → K false ()) ∧ ((cond (d32.2 != (0 : Int)) true (!d32.1)) = false → J30 d28.1)))) (fun d31 => J29 (d31, (i64.wrap (d28.2 + (1 : Int)))))) ∧ ((decide (d28.2 < ((List.length (List.getD d1 d9.toNat Ak).1 : Nat) : Int))) = false → J26 d28.1)))) (fun d27 => Fn P Vm Ael () (fun (d34 : Bool) (e35 : Unit) => K d34 ())))))))))))))))))
theorem AiJ {P : Pg} (h : Has P AiG) {x : DP AiF.ps} {K : DP AiF.rs → DP (ptrs AiF.ps) → Prop} (hw : AiI P x K) : Fn P Ab5 AiF x K :=
 Cc (c := AiH) h rfl rfl (by kernel_rfl) (Eq.mpr (show Ca P AiG AiF AiH x K = _ by kernel_rfl) hw)
end Go.VS
