/- Functions of the program: typed code, and what it says, lifted. -/
import Derived.Test.YtdnomijflodcgaaDoorKTxSig
import Derived.KernelRfl
set_option linter.unusedVariables false
set_option linter.unusedSimpArgs false
set_option maxRecDepth 8000
namespace Go.VS
open IntKind
def Aes : Bw :=
 (.seq (.region [o1 6 (.asg kF)]) (.seq (.region [im 19 0, oS ⟨some 20, .call AaD [19, (kI 9), (kI 1)], none⟩ DQ, ia 7 20]) (.seq (.seq (.region
 [im 21 7, o1 22 (.lenK 21), o1 23 (.bin .eql 22 (kI 0))]) (.cond 23 (.seq (.region [oS ⟨some 24, .call zS8 [], none⟩ Ael, ia 6 24]) .ret)
 .skip)) (.seq (.region [im 25 1, im 26 7, o1 27 (.lenK 26), oS ⟨some 28, .call zS1 [25, 27], none⟩ BL, im 29 2, im 30 7, o1 31 (.lenK 30), oS ⟨some
 32, .call zS1 [29, 31], none⟩ BL, ia 1 28, ia 2 32]) (.seq (.region [im 34 7, im 35 1, im 36 2, oS ⟨some 37, .call WN [34,
 35, 36], none⟩ Aen, im 33 37, o1 38 (.ext 33 0), o1 39 (.ext 33 1), ia 8 38, ia 9 39]) (.seq (.region [im 41 7, im 42 2, im 43 1, oS ⟨some 44, .call
 WN [41, 42, 43], none⟩ Aen, im 40 44, o1 45 (.ext 40 0), o1 46 (.ext 40 1), ia 10 45, ia 11 46]) (.seq (.seq (.region [im 47 9, o1 48 (.bin
 .neq 47 (kI 0)), im 49 48, gf 50 49 (.mv 11), gf 51 49 (.bin .neq 50 (kI 0)), o1 52 (.pick 49 kT 51), im 53 52, gf 54 53 (.mv 8), gf 55 53 (.mv 10), oS ⟨some 56, .call
 zS3 [54, 55], some (53, false)⟩ Aem, gf 57 53 (.un .not 56), o1 58 (.pick 53 kT 57)]) (.cond 58 (.seq (.region [o1 6 (.asg kF)]) .ret) .skip))
 (.seq (.region [im 59 7, im 60 1, oT ⟨some 61, .buildSl 1 [(.int .i64 0)] 1 [(0, 60)], none⟩ (some (bI, .leaf)), oS ⟨some 62, .call zS2 [59, 61], none⟩
 Aei, im 63 7, im 64 2, oT ⟨some 65, .buildSl 1 [(.int .i64 0)] 1 [(0, 64)], none⟩ (some (bI, .leaf)), oS ⟨some 66, .call zS2 [63, 65], none⟩
 Aei, ia 12 62, ia 13 66]) (.seq (.seq (.region [ia 14 (kI 0)]) (.frame (rg [6, 14] 67 56) [] false (.join [.sl 6 false .bool .leaf] (.block 0 (.loop [.sl 6 false .bool
 .leaf, .si 14] (.seq (.seq (.region [im 67 14, im 68 8, o1 69 (.lenK 68), o1 70 (.bin .lss 67 69)]) (.cond 70 .skip (.exit 0))) (.seq (.frame (rg [6] 73 50) [] false (.join [.sl 6
 false .bool .leaf] (.block 1 (.seq (.draw [(.first (im 73 8) (.first (im 74 14) (.first (o1 75 (.ixA 1 73 74)) (.first (ld 76 75) (.first (o1 77 (.bin .lss 76 (kI 0))) (.first (im
 78 77) (.first (gf 79 78 (.mv 8)) (.first (gf 80 78 (.mv 14)) (.first (gf 81 78 (.ixA 1 79 80)) (.first (gf 82 78 (.load false 1 81)) (.first (gf 83 78 (.mv 7)) (.first (gf 84 78
 (.lenK 83)) (.first (gf 85 78 (.bin .geq 82 84)) (.first (o1 86 (.pick 78 kT 85)) (.first (im 87 86) (.first (gf 88 87 (.mv 12)) (.first (gf 89 87 (.mv 8)) (.first (gf 90 87 (.mv
 14)) (.first (gf 91 87 (.ixA 1 89 90)) (.first (gf 92 87 (.load false 1 91)) (.first (gf 93 87 (.ixA 1 88 92)) (.first (gf 94 87 (.load false 1 93)) (.first (gf 95 87 (.un .not
 94)) (.first (o1 96 (.pick 87 kT 95)) (.first (im 97 96) (.first (gf 98 97 (.mv 13)) (.first (gf 99 97 (.mv 8)) (.first (gf 100 97 (.mv 14)) (.first (gf 101 97 (.ixA 1 99 100))
 (.first (gf 102 97 (.load false 1 101)) (.first (gf 103 97 (.ixA 1 98 102)) (.first (gf 104 97 (.load false 1 103)) (.first (gf 105 97 (.un .not 104)) (.first (o1 106 (.pick 97 kT
 105)) (.first (im 107 106) (.first (gf 108 107 (.mv 14)) (.first (gf 109 107 (.bin .gtr 108 (kI 0))) (.first (gf 110 107 (.mv 109)) (.first (gt 111 110 (.mv 8)) (.first (gt 112 110
 (.mv 14)) (.first (gt 113 110 (.ixA 1 111 112)) (.first (gt 114 110 (.load false 1 113)) (.first (gt 115 110 (.mv 8)) (.first (gt 116 110 (.mv 14)) (.first (gt 117 110 (.bin .sub
 116 (kI 1))) (.first (gt 118 110 (.ixA 1 115 117)) (.first (gt 119 110 (.load false 1 118)) (.first (gt 120 110 (.bin .leq 114 119)) (.first (gf 121 107 (.pick 110 120 kF)) (.first
 (o1 122 (.pick 107 kT 121)) .done))))))))))))))))))))))))))))))))))))))))))))))))))]) (.cond 122 (.seq (.region [o1 6 (.asg kF)]) .ret) .skip))))) (.region [im 71 14, o1 72 (.bin
 .add 71 (kI 1)), ia 14 72])))))))) (.seq (.region [im 123 7, im 124 8, oS ⟨some 125, .call zS2 [123, 124], none⟩ Aei, ia 15 125]) (.seq (.seq
 (.region [ia 16 (kI 0)]) (.frame (rg [6, 16] 126 23) [] false (.join [.sl 6 false .bool .leaf] (.block 2 (.loop [.sl 6 false .bool .leaf, .si 16] (.seq (.seq (.region [im 126 16,
 im 127 7, o1 128 (.lenK 127), o1 129 (.bin .lss 126 128)]) (.cond 129 .skip (.exit 2))) (.seq (.frame (rg [6] 132 17) [] false (.join [.sl 6 false .bool .leaf] (.block 3 (.seq
 (.region [im 132 12, im 133 16, o1 134 (.ixA 1 132 133), ld 135 134, im 136 135, gt 137 136 (.mv 13), gt 138 136 (.mv 16), gt 139 136 (.ixA 1 137 138), gt 140 136 (.load false 1
 139), o1 141 (.pick 136 140 kF), im 142 141, gt 143 142 (.mv 15), gt 144 142 (.mv 16), gt 145 142 (.ixA 1 143 144), gt 146 142 (.load false 1 145), gt 147 142 (.un .not 146), o1
 148 (.pick 142 147 kF)]) (.cond 148 (.seq (.region [o1 6 (.asg kF)]) .ret) .skip))))) (.region [im 130 16, o1 131 (.bin .add 130 (kI 1)), ia 16 131])))))))) (.seq (.seq (.region
 [ia 17 (kI 0)]) (.frame (rg [6, 17, 18] 149 30) [] false (.join [.sl 6 false .bool .leaf] (.block 4 (.loop [.sl 6 false .bool .leaf, .si 17] (.seq (.seq (.region [im 149 17, im 150
 8, o1 151 (.lenK 150), o1 152 (.bin .lss 149 151)]) (.cond 152 .skip (.exit 4))) (.seq (.frame (rg [6, 18] 155 24) [] false (.join [.sl 6 false .bool .leaf] (.block 5 (.seq
 (.region [ia 18 (kI 0)]) (.frame (rg [6, 18] 155 24) [] false (.join [.sl 6 false .bool .leaf] (.block 6 (.loop [.sl 6 false .bool .leaf, .si 18] (.seq (.seq (.region [im 155 18,
 im 156 8, o1 157 (.lenK 156), o1 158 (.bin .lss 155 157)]) (.cond 158 .skip (.exit 6))) (.seq (.frame (rg [6] 161 18) [] false (.join [.sl 6 false .bool .leaf] (.block 7 (.seq
 (.frame (rg [] 161 18) [] false (.join [.sl 178 false .bool .leaf] (.draw [(.first (im 161 17) (.first (im 162 18) (.first (o1 163 (.bin .neq 161 162)) (.first (im 164 163) (.first
 (⟨⟨some 165, .mv 7, some (164, true)⟩, none, ⟨[], []⟩, false, some 164, true, false⟩) (.first (⟨⟨some 166, .mv 8, some (164, true)⟩, none, ⟨[], []⟩, false, none, true, false⟩)
 (.first (⟨⟨some 167, .mv 17, some (164, true)⟩, none, ⟨[], []⟩, false, none, true, false⟩) (.first (⟨⟨some 168, .ixA 1 166 167, some (164, true)⟩, none, ⟨[], []⟩, false, none,
 true, false⟩) (.first (⟨⟨some 169, .load false 1 168, some (164, true)⟩, none, ⟨[], []⟩, false, none, true, false⟩) (.first (⟨⟨some 172, .mv 8, some (164, true)⟩, none, ⟨[], []⟩,
 false, none, true, false⟩) (.first (⟨⟨some 173, .mv 18, some (164, true)⟩, none, ⟨[], []⟩, false, none, true, false⟩) (.first (⟨⟨some 174, .ixA 1 172 173, some (164, true)⟩, none,
 ⟨[], []⟩, false, none, true, false⟩) (.alt (⟨⟨some 170, .buildSl 1 [(.int .i64 0)] 1 [(0, 169)], some (164, true)⟩, some (bI, .leaf), ⟨[], []⟩, false, none, true, false⟩) (.alt
 (⟨⟨some 171, .call zS2 [165, 170], some (164, true)⟩, none, Aei, false, none, true, false⟩) (.first (⟨⟨some 175, .load false 1 174, some
 (164, true)⟩, none, ⟨[], []⟩, false, none, true, false⟩) (.first (⟨⟨some 176, .ixA 1 171 175, some (164, true)⟩, none, ⟨[], []⟩, false, none, true, false⟩) (.first (⟨⟨some 177,
 .load false 1 176, some (164, true)⟩, none, ⟨[], []⟩, false, none, true, true⟩) (.first (o1 178 (.pick 164 177 kF)) .done)))) (.alt (⟨⟨some 175, .load false 1 174, some (164,
 true)⟩, none, ⟨[], []⟩, false, none, true, false⟩) (.alt (⟨⟨some 171, .call zS2 [165, 170], some (164, true)⟩, none, Aei, false, none, true,
 false⟩) (.first (⟨⟨some 176, .ixA 1 171 175, some (164, true)⟩, none, ⟨[], []⟩, false, none, true, false⟩) (.first (⟨⟨some 177, .load false 1 176, some (164, true)⟩, none, ⟨[],
 []⟩, false, none, true, true⟩) (.first (o1 178 (.pick 164 177 kF)) .done))) .stop) .stop)) (.alt (⟨⟨some 175, .load false 1 174, some (164, true)⟩, none, ⟨[], []⟩, false, none,
 true, false⟩) (.alt (⟨⟨some 170, .buildSl 1 [(.int .i64 0)] 1 [(0, 169)], some (164, true)⟩, some (bI, .leaf), ⟨[], []⟩, false, none, true, false⟩) (.alt (⟨⟨some 171, .call
 zS2 [165, 170], some (164, true)⟩, none, Aei, false, none, true, false⟩) (.first (⟨⟨some 176, .ixA 1 171 175, some (164, true)⟩, none, ⟨[],
 []⟩, false, none, true, false⟩) (.first (⟨⟨some 177, .load false 1 176, some (164, true)⟩, none, ⟨[], []⟩, false, none, true, true⟩) (.first (o1 178 (.pick 164 177 kF)) .done)))
 .stop) .stop) .stop))))))))))))))]))) (.cond 178 (.seq (.region [o1 6 (.asg kF)]) .ret) .skip))))) (.region [im 159 18, o1 160 (.bin .add 159 (kI 1)), ia 18 160])))))))))))
 (.region [im 153 17, o1 154 (.bin .add 153 (kI 1)), ia 17 154])))))))) (.seq (.region [im 179 13, im 180 1, o1 181 (.ixA 1 179 180), ld 182 181, o1 183 (.un .not 182), im 184 183,
 ⟨⟨some 185, .mv 8, some (184, false)⟩, none, ⟨[], []⟩, false, some 184, true, false⟩, ⟨⟨some 186, .mv 1, some (184, false)⟩, none, ⟨[], []⟩, false, none, true, false⟩, ⟨⟨some 187,
 .buildSl 1 [(.int .i64 0)] 1 [(0, 186)], some (184, false)⟩, some (bI, .leaf), ⟨[], []⟩, false, none, true, false⟩, ⟨⟨some 188, .call zS3 [185, 187], some
 (184, false)⟩, none, Aem, false, none, true, true⟩, o1 189 (.pick 184 kT 188), im 190 189, oS ⟨some 191, .call zS8 [], some (190, true)⟩
 Ael, o1 192 (.pick 190 191 kF), ia 6 192]) .ret)))))))))))))
def Aeq : AFn := ⟨ AaM, Aes.erase, [.tmp 6], 3⟩
def Aex (P : Pg) (x : ((List Int) × (Int × Int))) (K : Bool → Unit → Prop) : Prop :=
 Fn P AaD DQ (x.1, ((9 : Int), (1 : Int))) (fun (d1 : (List Commit)) (e2 : Unit) => ((((d1.length : Int) == (0 : Int)) = true → Fn P zS8 Ael () (fun (d3 : Bool) (e4 : Unit) => K d3 ())) ∧ (((d1.length : Int) == (0 : Int)) = false → Fn P zS1 BL (x.2.1, (d1.length : Int)) (fun (d5 : Int) (e6 : Unit) => Fn P zS1 BL (x.2.2, (d1.length : Int)) (fun (d7 : Int) (e8 : Unit) => Fn P WN Aen (d1, (d5, d7)) (fun (d9 : ((List Int) × Int)) (e10 : Unit) => Fn P WN Aen (d1, (d7, d5)) (fun (d11 : ((List Int) × Int)) (e12 : Unit) => Ai (D := Bool) (fun J13 => (((cond (d9.2 != (0 : Int)) true (d11.2 != (0 : Int))) = false → Fn P zS3 Aem (d9.1, d11.1) (fun (d14 : Bool) _ => J13 d14)) ∧ (((cond (d9.2 != (0 : Int)) true (d11.2 != (0 : Int))) = true → J13 false) ∧ True))) (fun d15 => (((cond (cond (d9.2 != (0 : Int)) true (d11.2 != (0 : Int))) true (!d15)) = true → K false ()) ∧ ((cond (cond (d9.2 != (0 : Int)) true (d11.2 != (0 : Int))) true (!d15)) = false → Fn P zS2 Aei (d1, ([d5] : List Int)) (fun (d16 : (List Bool)) (e17 : Unit) => Fn P zS2 Aei (d1, ([d7] : List Int)) (fun (d18 : (List Bool)) (e19 : Unit) => Ai (D := Bool) (fun J20 => Bl (D := (Bool × Int)) (false, (0 : Int)) (fun d22 J23 => (((decide (d22.2 < (d9.1.length : Int))) = true → Ai (D := Bool) (fun J24 => (0 ≤ d22.2 ∧ d22.2 < (d9.1.length : Int)) ∧
 (d22.2.toNat < d9.1.length) ∧
 (((decide ((List.getD d9.1 d22.2.toNat (0 : Int)) < (0 : Int))) = false → 0 ≤ d22.2 ∧ d22.2 < (d9.1.length : Int))) ∧
 (((decide ((List.getD d9.1 d22.2.toNat (0 : Int)) < (0 : Int))) = false → d22.2.toNat < d9.1.length)) ∧
 (((cond (decide ((List.getD d9.1 d22.2.toNat (0 : Int)) < (0 : Int))) true (decide ((List.getD d9.1 d22.2.toNat (0 : Int)) ≥ (d1.length : Int)))) = false → 0 ≤ d22.2 ∧ d22.2 < (d9.1.length : Int))) ∧
 (((cond (decide ((List.getD d9.1 d22.2.toNat (0 : Int)) < (0 : Int))) true (decide ((List.getD d9.1 d22.2.toNat (0 : Int)) ≥ (d1.length : Int)))) = false → d22.2.toNat < d9.1.length)) ∧
 (((cond (decide ((List.getD d9.1 d22.2.toNat (0 : Int)) < (0 : Int))) true (decide ((List.getD d9.1 d22.2.toNat (0 : Int)) ≥ (d1.length : Int)))) = false → 0 ≤ (List.getD d9.1 d22.2.toNat (0 : Int)) ∧ (List.getD d9.1 d22.2.toNat (0 : Int)) < (d16.length : Int))) ∧
 (((cond (decide ((List.getD d9.1 d22.2.toNat (0 : Int)) < (0 : Int))) true (decide ((List.getD d9.1 d22.2.toNat (0 : Int)) ≥ (d1.length : Int)))) = false → (Int.toNat (List.getD d9.1 d22.2.toNat (0 : Int))) < d16.length)) ∧
 (((cond (cond (decide ((List.getD d9.1 d22.2.toNat (0 : Int)) < (0 : Int))) true (decide ((List.getD d9.1 d22.2.toNat (0 : Int)) ≥ (d1.length : Int)))) true (!(List.getD d16 (Int.toNat (List.getD d9.1 d22.2.toNat (0 : Int))) false))) = false → 0 ≤ d22.2 ∧ d22.2 < (d9.1.length : Int))) ∧
 (((cond (cond (decide ((List.getD d9.1 d22.2.toNat (0 : Int)) < (0 : Int))) true (decide ((List.getD d9.1 d22.2.toNat (0 : Int)) ≥ (d1.length : Int)))) true (!(List.getD d16 (Int.toNat (List.getD d9.1 d22.2.toNat (0 : Int))) false))) = false → d22.2.toNat < d9.1.length)) ∧
 (((cond (cond (decide ((List.getD d9.1 d22.2.toNat (0 : Int)) < (0 : Int))) true (decide ((List.getD d9.1 d22.2.toNat (0 : Int)) ≥ (d1.length : Int)))) true (!(List.getD d16 (Int.toNat (List.getD d9.1 d22.2.toNat (0 : Int))) false))) = false → 0 ≤ (List.getD d9.1 d22.2.toNat (0 : Int)) ∧ (List.getD d9.1 d22.2.toNat (0 : Int)) < (d18.length : Int))) ∧
 (((cond (cond (decide ((List.getD d9.1 d22.2.toNat (0 : Int)) < (0 : Int))) true (decide ((List.getD d9.1 d22.2.toNat (0 : Int)) ≥ (d1.length : Int)))) true (!(List.getD d16 (Int.toNat (List.getD d9.1 d22.2.toNat (0 : Int))) false))) = false → (Int.toNat (List.getD d9.1 d22.2.toNat (0 : Int))) < d18.length)) ∧
 (((decide (d22.2 > (0 : Int))) = true → ((cond (cond (cond (decide ((List.getD d9.1 d22.2.toNat (0 : Int)) < (0 : Int))) true (decide ((List.getD d9.1 d22.2.toNat (0 : Int)) ≥ (d1.length : Int)))) true (!(List.getD d16 (Int.toNat (List.getD d9.1 d22.2.toNat (0 : Int))) false))) true (!(List.getD d18 (Int.toNat (List.getD d9.1 d22.2.toNat (0 : Int))) false))) = false → 0 ≤ d22.2 ∧ d22.2 < (d9.1.length : Int)))) ∧
 (((decide (d22.2 > (0 : Int))) = true → ((cond (cond (cond (decide ((List.getD d9.1 d22.2.toNat (0 : Int)) < (0 : Int))) true (decide ((List.getD d9.1 d22.2.toNat (0 : Int)) ≥ (d1.length : Int)))) true (!(List.getD d16 (Int.toNat (List.getD d9.1 d22.2.toNat (0 : Int))) false))) true (!(List.getD d18 (Int.toNat (List.getD d9.1 d22.2.toNat (0 : Int))) false))) = false → d22.2.toNat < d9.1.length))) ∧
 (((decide (d22.2 > (0 : Int))) = true → ((cond (cond (cond (decide ((List.getD d9.1 d22.2.toNat (0 : Int)) < (0 : Int))) true (decide ((List.getD d9.1 d22.2.toNat (0 : Int)) ≥ (d1.length : Int)))) true (!(List.getD d16 (Int.toNat (List.getD d9.1 d22.2.toNat (0 : Int))) false))) true (!(List.getD d18 (Int.toNat (List.getD d9.1 d22.2.toNat (0 : Int))) false))) = false → 0 ≤ (i64.wrap (d22.2 - (1 : Int))) ∧ (i64.wrap (d22.2 - (1 : Int))) < (d9.1.length : Int)))) ∧
 (((decide (d22.2 > (0 : Int))) = true → ((cond (cond (cond (decide ((List.getD d9.1 d22.2.toNat (0 : Int)) < (0 : Int))) true (decide ((List.getD d9.1 d22.2.toNat (0 : Int)) ≥ (d1.length : Int)))) true (!(List.getD d16 (Int.toNat (List.getD d9.1 d22.2.toNat (0 : Int))) false))) true (!(List.getD d18 (Int.toNat (List.getD d9.1 d22.2.toNat (0 : Int))) false))) = false → (Int.toNat (i64.wrap (d22.2 - (1 : Int)))) < d9.1.length))) ∧
 (((cond (cond (cond (cond (decide ((List.getD d9.1 d22.2.toNat (0 : Int)) < (0 : Int))) true (decide ((List.getD d9.1 d22.2.toNat (0 : Int)) ≥ (d1.length : Int)))) true (!(List.getD d16 (Int.toNat (List.getD d9.1 d22.2.toNat (0 : Int))) false))) true (!(List.getD d18 (Int.toNat (List.getD d9.1 d22.2.toNat (0 : Int))) false))) true (cond (decide (d22.2 > (0 : Int))) (decide ((List.getD d9.1 d22.2.toNat (0 : Int)) ≤ (List.getD d9.1 (Int.toNat (i64.wrap (d22.2 - (1 : Int)))) (0 : Int)))) false)) = true → K false ()) ∧ ((cond (cond (cond (cond (decide ((List.getD d9.1 d22.2.toNat (0 : Int)) < (0 : Int))) true (decide ((List.getD d9.1 d22.2.toNat (0 : Int)) ≥ (d1.length : Int)))) true (!(List.getD d16 (Int.toNat (List.getD d9.1 d22.2.toNat (0 : Int))) false))) true (!(List.getD d18 (Int.toNat (List.getD d9.1 d22.2.toNat (0 : Int))) false))) true (cond (decide (d22.2 > (0 : Int))) (decide ((List.getD d9.1 d22.2.toNat (0 : Int)) ≤ (List.getD d9.1 (Int.toNat (i64.wrap (d22.2 - (1 : Int)))) (0 : Int)))) false)) = false → J24 d22.1))) (fun d25 => J23 (d25, (i64.wrap (d22.2 + (1 : Int)))))) ∧ ((decide (d22.2 < (d9.1.length : Int))) = false → J20 d22.1)))) (fun d21 => Fn P zS2 Aei (d1, d9.1) (fun (d26 : (List Bool)) (e27 : Unit) => Ai (D := Bool) (fun J28 => Bl (D := (Bool × Int)) (d21, (0 : Int)) (fun d30 J31 => (((decide (d30.2 < (d1.length : Int))) = true → Ai (D := Bool) (fun J32 => (0 ≤ d30.2 ∧ d30.2 < (d16.length : Int)) ∧
 (d30.2.toNat < d16.length) ∧
 (((List.getD d16 d30.2.toNat false) = true → 0 ≤ d30.2 ∧ d30.2 < (d18.length : Int))) ∧
 (((List.getD d16 d30.2.toNat false) = true → d30.2.toNat < d18.length)) ∧
 (((cond (List.getD d16 d30.2.toNat false) (List.getD d18 d30.2.toNat false) false) = true → 0 ≤ d30.2 ∧ d30.2 < (d26.length : Int))) ∧
 (((cond (List.getD d16 d30.2.toNat false) (List.getD d18 d30.2.toNat false) false) = true → d30.2.toNat < d26.length)) ∧
 (((cond (cond (List.getD d16 d30.2.toNat false) (List.getD d18 d30.2.toNat false) false) (!(List.getD d26 d30.2.toNat false)) false) = true → K false ()) ∧ ((cond (cond (List.getD d16 d30.2.toNat false) (List.getD d18 d30.2.toNat false) false) (!(List.getD d26 d30.2.toNat false)) false) = false → J32 d30.1))) (fun d33 => J31 (d33, (i64.wrap (d30.2 + (1 : Int)))))) ∧ ((decide (d30.2 < (d1.length : Int))) = false → J28 d30.1)))) (fun d29 => Ai (D := Bool) (fun J34 => Bl (D := (Bool × Int)) (d29, (0 : Int)) (fun d36 J37 => (((decide (d36.2 < (d9.1.length : Int))) = true → Ai (D := Bool) (fun J38 => Ai (D := Bool) (fun J40 => Bl (D := (Bool × Int)) (d36.1, (0 : Int)) (fun d42 J43 => (((decide (d42.2 < (d9.1.length : Int))) = true → Ai (D := Bool) (fun J44 => Ai (D := Bool) (fun J46 => (((d36.2 != d42.2) = true → (0 ≤ d36.2 ∧ d36.2 < (d9.1.length : Int)) ∧
 (d36.2.toNat < d9.1.length) ∧
 (0 ≤ d42.2 ∧ d42.2 < (d9.1.length : Int)) ∧
 ((Fn P zS2 Aei (d1, ([(List.getD d9.1 d36.2.toNat (0 : Int))] : List Int)) (fun (d48 : (List Bool)) (e49 : Unit) => (d42.2.toNat < d9.1.length) ∧
 (0 ≤ (List.getD d9.1 d42.2.toNat (0 : Int)) ∧ (List.getD d9.1 d42.2.toNat (0 : Int)) < (d48.length : Int)) ∧
 ((Int.toNat (List.getD d9.1 d42.2.toNat (0 : Int))) < d48.length) ∧
 J46 (cond true (List.getD d48 (Int.toNat (List.getD d9.1 d42.2.toNat (0 : Int))) false) false))) ∧ (((d42.2.toNat < d9.1.length) ∧
 (Fn P zS2 Aei (d1, ([(List.getD d9.1 d36.2.toNat (0 : Int))] : List Int)) (fun (d50 : (List Bool)) (e51 : Unit) => (0 ≤ (List.getD d9.1 d42.2.toNat (0 : Int)) ∧ (List.getD d9.1 d42.2.toNat (0 : Int)) < (d50.length : Int)) ∧
 ((Int.toNat (List.getD d9.1 d42.2.toNat (0 : Int))) < d50.length) ∧
 J46 (cond true (List.getD d50 (Int.toNat (List.getD d9.1 d42.2.toNat (0 : Int))) false) false))) ∧ True) ∧ True)) ∧ (((d42.2.toNat < d9.1.length) ∧
 ((Fn P zS2 Aei (d1, ([(List.getD d9.1 d36.2.toNat (0 : Int))] : List Int)) (fun (d52 : (List Bool)) (e53 : Unit) => (0 ≤ (List.getD d9.1 d42.2.toNat (0 : Int)) ∧ (List.getD d9.1 d42.2.toNat (0 : Int)) < (d52.length : Int)) ∧
 ((Int.toNat (List.getD d9.1 d42.2.toNat (0 : Int))) < d52.length) ∧
 J46 (cond true (List.getD d52 (Int.toNat (List.getD d9.1 d42.2.toNat (0 : Int))) false) false))) ∧ True) ∧ True) ∧ True)) ∧ ((d36.2 != d42.2) = false → ((J46 (cond false false false)) ∧ (((J46 (cond false false false)) ∧ True) ∧ True)) ∧ ((((J46 (cond false false false)) ∧ True) ∧ True) ∧ True)))) (fun d47 => ((d47 = true → K false ()) ∧ (d47 = false → J44 d42.1)))) (fun d45 => J43 (d45, (i64.wrap (d42.2 + (1 : Int)))))) ∧ ((decide (d42.2 < (d9.1.length : Int))) = false → J40 d42.1)))) (fun d41 => J38 d41)) (fun d39 => J37 (d39, (i64.wrap (d36.2 + (1 : Int)))))) ∧ ((decide (d36.2 < (d9.1.length : Int))) = false → J34 d36.1)))) (fun d35 => (0 ≤ d5 ∧ d5 < (d18.length : Int)) ∧
 (d5.toNat < d18.length) ∧
 (((!(List.getD d18 d5.toNat false)) = true → Ai (D := Bool) (fun J54 => (((cond true true false) = true → Fn P zS8 Ael () (fun (d55 : Bool) _ => J54 d55)) ∧ (((cond true true false) = false → J54 false) ∧ True))) (fun d56 => K (cond (cond true true false) d56 false) ())) ∧ ((!(List.getD d18 d5.toNat false)) = false → Fn P zS3 Aem (d9.1, ([d5] : List Int)) (fun (d57 : Bool) (e58 : Unit) => Ai (D := Bool) (fun J59 => (((cond false true d57) = true → Fn P zS8 Ael () (fun (d60 : Bool) _ => J59 d60)) ∧ (((cond false true d57) = false → J59 false) ∧ True))) (fun d61 => K (cond (cond false true d57) d61 false) ()))))))))))))))))))))
theorem AeM {P : Pg} (h : Has P Aeq) {x : DP Aej.ps} {K : DP Aej.rs → DP (ptrs Aej.ps) → Prop} (hw : Aex P x K) : Fn P AaM Aej x K :=
 Cc (c := Aes) h rfl rfl (by kernel_rfl) (Eq.mpr (show Ca P Aeq Aej Aes x K = _ by kernel_rfl) hw)
def Gh : Bw :=
 (.seq (.region [o1 1 (.box 0), o1 2 (.asg kF)]) (.seq (.region [fa 3 0 1, ld 4 3, o1 5 (.lenK 4), o1 6 (.bin .gtr 5 (kI 32)), ia 2 6]) .ret))
def EU : AFn := ⟨ WR, Gh.erase, [.tmp 2], 1⟩
def Od (P : Pg) (x : Commit) (K : Bool → Unit → Prop) : Prop :=
 K (decide ((x.1.length : Int) > (32 : Int))) ()
theorem Np {P : Pg} (h : Has P EU) {x : DP CV.ps} {K : DP CV.rs → DP (ptrs CV.ps) → Prop} (hw : Od P x K) : Fn P WR CV x K :=
 Cc (c := Gh) h rfl rfl (by kernel_rfl) (Eq.mpr (show Ca P EU CV Gh x K = _ by kernel_rfl) hw)
def Be : Bw :=
 (.seq (.region [ia 4 (kI 0)]) (.seq (.seq (.region [im 6 0, o1 7 (.lenK 6), o1 8 (.mv (kI 0))]) (.frame (rg [4, 5] 8 11) [] false (.join [.si 4] (.block 0 (.loop [.si 4, .si 8]
 (.seq (.region [o1 9 (.bin .lss 8 7)]) (.seq (.cond 9 .skip (.exit 0)) (.seq (.frame (rg [4, 5] 10 8) [] false (.join [.si 4] (.block 1 (.seq (.region [im 10 8, ia 5 10]) (.seq
 (.region [im 11 1, im 12 0, im 13 5, o1 14 (.ixA 3 12 13), o1 15 (.load true 3 14), oS ⟨some 16, .callv 11 [15], none⟩ CV]) (.cond 16 (.seq (.region [im 17 5, ia 4
 17]) .ret) .skip)))))) (.region [o1 18 (.bin .add 8 (kI 1)), im 8 18]))))))))) (.seq (.region [ia 4 (kI (-1))]) .ret)))
def AO : AFn := ⟨ zS4, Be.erase, [.tmp 4], 2⟩
def BJ (P : Pg) (x : ((List Commit) × Unit)) (K : Int → Unit → Prop) : Prop :=
 Ai (D := Int) (fun J1 => Bl (D := (Int × Int)) ((0 : Int), (0 : Int)) (fun d3 J4 => (((decide (d3.2 < (x.1.length : Int))) = true → Ai (D := Int) (fun J5 => (0 ≤ d3.2 ∧ d3.2 < (x.1.length : Int)) ∧
 (d3.2.toNat < x.1.length) ∧
 Fn P WR CV (List.getD x.1 d3.2.toNat Ak) (fun (d7 : Bool) (e8 : Unit) => ((d7 = true → K d3.2 ()) ∧ (d7 = false → J5 d3.1)))) (fun d6 => J4 (d6, (i64.wrap (d3.2 + (1 : Int)))))) ∧ ((decide (d3.2 < (x.1.length : Int))) = false → J1 d3.1)))) (fun d2 => K (-1 : Int) ())
theorem CO {P : Pg} (h : Has P AO) {x : DP Ap.ps} {K : DP Ap.rs → DP (ptrs Ap.ps) → Prop} (hw : BJ P x K) : Fn P zS4 Ap x K :=
 Cc (c := Be) h rfl rfl (by kernel_rfl) (Eq.mpr (show Ca P AO Ap Be x K = _ by kernel_rfl) hw)
def A8 : Bw :=
 (.seq (.region [o1 4 (.asg kF)]) (.seq (.region [im 5 0, im 6 1, oS ⟨some 7, .call zS4 [5, 6], none⟩
 Ap, o1 8 (.bin .geq 7 (kI 0)), ia 4 8]) .ret))
def AK : AFn := ⟨ zS5, A8.erase, [.tmp 4], 2⟩
def Bz (P : Pg) (x : ((List Commit) × Unit)) (K : Bool → Unit → Prop) : Prop :=
 Fn P zS4 Ap (x.1, ()) (fun (d1 : Int) (e2 : Unit) => K (decide (d1 ≥ (0 : Int))) ())
theorem CA {P : Pg} (h : Has P AK) {x : DP Al.ps} {K : DP Al.rs → DP (ptrs Al.ps) → Prop} (hw : Bz P x K) : Fn P zS5 Al x K :=
 Cc (c := A8) h rfl rfl (by kernel_rfl) (Eq.mpr (show Ca P AK Al A8 x K = _ by kernel_rfl) hw)
def HR : Bw :=
 (.seq (.region [o1 2 (.asg kF)]) (.seq (.region [im 3 0, o1 4 (.lenK 3), o1 5 (.bin .leq 4 (kI 300)), im 6 5, gt 7 6 (.mv 0), oS ⟨some 8, .call
 zS5 [7, (.f WR)], some (6, true)⟩ Al,
 gt 9 6 (.un .not 8), o1 10 (.pick 6 9 kF), ia 2 10]) .ret))
def FP : AFn := ⟨ AaE, HR.erase, [.tmp 2], 1⟩
def K1 (P : Pg) (x : (List Commit)) (K : Bool → Unit → Prop) : Prop :=
 Ai (D := Bool) (fun J1 => (((decide ((x.length : Int) ≤ (300 : Int))) = true → Fn P zS5 Al (x, ()) (fun (d2 : Bool) _ => J1 d2)) ∧ (((decide ((x.length : Int) ≤ (300 : Int))) = false → J1 false) ∧ True))) (fun d3 => K (cond (decide ((x.length : Int) ≤ (300 : Int))) (!d3) false) ())
theorem Pj {P : Pg} (h : Has P FP) {x : DP Da.ps} {K : DP Da.rs → DP (ptrs Da.ps) → Prop} (hw : K1 P x K) : Fn P AaE Da x K :=
 Cc (c := HR) h rfl rfl (by kernel_rfl) (Eq.mpr (show Ca P FP Da HR x K = _ by kernel_rfl) hw)
def D2 : Bw :=
 (.seq (.region [ia 4 (kI 0)]) (.seq (.seq (.region [im 6 0, o1 7 (.lenK 6), o1 8 (.mv (kI 0))]) (.frame (rg [4, 5] 8 11) [] false (.join [.si 4] (.block 0 (.loop [.si 4, .si 8]
 (.seq (.region [o1 9 (.bin .lss 8 7)]) (.seq (.cond 9 .skip (.exit 0)) (.seq (.frame (rg [4, 5] 10 8) [] false (.join [.si 4] (.block 1 (.seq (.region [im 10 8, ia 5 10]) (.seq
 (.region [im 11 1, im 12 0, im 13 5, o1 14 (.ixA 1 12 13), ld 15 14, o1 16 (.bin .eql 11 15)]) (.cond 16 (.seq (.region [im 17 5, ia 4 17]) .ret) .skip)))))) (.region [o1 18 (.bin
 .add 8 (kI 1)), im 8 18]))))))))) (.seq (.region [ia 4 (kI (-1))]) .ret)))
def C6 : AFn := ⟨ "slices.Index[[]int,int]", D2.erase, [.tmp 4], 2⟩
def Fc (P : Pg) (x : ((List Int) × Int)) (K : Int → Unit → Prop) : Prop :=
 Ai (D := Int) (fun J1 => Bl (D := (Int × Int)) ((0 : Int), (0 : Int)) (fun d3 J4 => (((decide (d3.2 < (x.1.length : Int))) = true → Ai (D := Int) (fun J5 => (0 ≤ d3.2 ∧ d3.2 < (x.1.length : Int)) ∧
 (d3.2.toNat < x.1.length) ∧
 (((x.2 == (List.getD x.1 d3.2.toNat (0 : Int))) = true → K d3.2 ()) ∧ ((x.2 == (List.getD x.1 d3.2.toNat (0 : Int))) = false → J5 d3.1))) (fun d6 => J4 (d6, (i64.wrap (d3.2 + (1 : Int)))))) ∧ ((decide (d3.2 < (x.1.length : Int))) = false → J1 d3.1)))) (fun d2 => K (-1 : Int) ())
theorem H8 {P : Pg} (h : Has P C6) {x : DP Bp.ps} {K : DP Bp.rs → DP (ptrs Bp.ps) → Prop} (hw : Fc P x K) : Fn P "slices.Index[[]int,int]" Bp x K :=
 Cc (c := D2) h rfl rfl (by kernel_rfl) (Eq.mpr (show Ca P C6 Bp D2 x K = _ by kernel_rfl) hw)
def Dq : Bw :=
 (.seq (.region [o1 4 (.asg kF)]) (.seq (.region [im 5 0, im 6 1, oS ⟨some 7, .call "slices.Index[[]int,int]" [5, 6], none⟩ Bp, o1 8 (.bin .geq 7 (kI 0)), ia 4
 8]) .ret))
def Cy : AFn := ⟨ "slices.Contains[[]int,int]", Dq.erase, [.tmp 4], 2⟩
def ED (P : Pg) (x : ((List Int) × Int)) (K : Bool → Unit → Prop) : Prop :=
 Fn P "slices.Index[[]int,int]" Bp x (fun (d1 : Int) (e2 : Unit) => K (decide (d1 ≥ (0 : Int))) ())
theorem G1 {P : Pg} (h : Has P Cy) {x : DP Bg.ps} {K : DP Bg.rs → DP (ptrs Bg.ps) → Prop} (hw : ED P x K) : Fn P "slices.Contains[[]int,int]" Bg x K :=
 Cc (c := Dq) h rfl rfl (by kernel_rfl) (Eq.mpr (show Ca P Cy Bg Dq x K = _ by kernel_rfl) hw)
def HS : Bw :=
 (.seq (.region [o1 2 (.asg kF)]) (.seq (.seq (.region [im 7 0, o1 8 (.lenK 7), o1 9 (.mv (kI 0))]) (.frame (rg [2, 4, 5, 6] 9 30) [1004] false (.join [.sl 2 false .bool .leaf]
 (.block 0 (.loop [.sl 2 false .bool .leaf, .si 9] (.seq (.region [o1 10 (.bin .lss 9 8)]) (.seq (.cond 10 .skip (.exit 0)) (.seq (.frame (rg [2, 4, 5, 6] 11 27) [1004] false (.join
 [.sl 2 false .bool .leaf] (.block 1 (.seq (.region [o1 11 (.ixA 3 7 9), o1 12 (.load true 3 11), o1 4 (.alloc [(.slice none 0 0), (.int .i64 0), (.slice none 0 0)]), o0 ⟨none,
 .store 3 4 12, none⟩]) (.seq (.region [fa 13 0 4, ld 14 13, o1 15 (.lenK 14), o1 16 (.mv (kI 0))]) (.frame (rg [2, 5, 6] 16 22) [] false (.join [.sl 2 false .bool .leaf] (.block 2
 (.loop [.sl 2 false .bool .leaf, .si 16] (.seq (.region [o1 17 (.bin .lss 16 15)]) (.seq (.cond 17 .skip (.exit 2)) (.seq (.frame (rg [2, 5, 6] 18 19) [] false (.join [.sl 2 false
 .bool .leaf] (.block 3 (.seq (.region [im 18 16, o1 19 (.ixA 1 14 16), ld 20 19, ia 5 18, ia 6 20]) (.seq (.region [im 21 6, o1 22 (.bin .lss 21 (kI 0)), im 23 22, gf 24 23 (.mv
 6), gf 25 23 (.mv 0), gf 26 23 (.lenK 25), gf 27 23 (.bin .geq 24 26), o1 28 (.pick 23 kT 27), im 29 28, gf 30 29 (.fAddr 0 4), gf 31 29 (.load false 1 30), gf 32 29 (.mv 5), gf 33
 29 (.slK 1 31 none (some 32)), gf 34 29 (.mv 6), oS ⟨some 35, .call "slices.Contains[[]int,int]" [33, 34], some (29, false)⟩ Bg, o1 36 (.pick 29 kT 35)])
 (.cond 36 (.seq (.region [o1 2 (.asg kF)]) .ret) .skip)))))) (.region [o1 37 (.bin .add 16 (kI 1)), im 16 37]))))))))))))) (.region [o1 38 (.bin .add 9 (kI 1)), im 9 38])))))))))
 (.seq (.region [o1 2 (.asg kT)]) .ret)))
def FQ : AFn := ⟨ AaF, HS.erase, [.tmp 2], 1⟩
def K2 (P : Pg) (x : (List Commit)) (K : Bool → Unit → Prop) : Prop :=
 Ai (D := Bool) (fun J1 => Bl (D := (Bool × Int)) (false, (0 : Int)) (fun d3 J4 => (((decide (d3.2 < (x.length : Int))) = true → Ai (D := Bool) (fun J5 => (0 ≤ d3.2 ∧ d3.2 < (x.length : Int)) ∧
 (d3.2.toNat < x.length) ∧
 Ai (D := Bool) (fun J7 => Bl (D := (Bool × Int)) (d3.1, (0 : Int)) (fun d9 J10 => (((decide (d9.2 < ((List.length (List.getD x d3.2.toNat Ak).1 : Nat) : Int))) = true → Ai (D := Bool) (fun J11 => (0 ≤ d9.2 ∧ d9.2 < ((List.length (List.getD x d3.2.toNat Ak).1 : Nat) : Int)) ∧
 (d9.2.toNat < List.length (List.getD x d3.2.toNat Ak).1) ∧
 (((cond (decide ((List.getD (List.getD x d3.2.toNat Ak).1 d9.2.toNat (0 : Int)) < (0 : Int))) true (decide ((List.getD (List.getD x d3.2.toNat Ak).1 d9.2.toNat (0 : Int)) ≥ (x.length : Int)))) = false → 0 ≤ d9.2 ∧ d9.2 ≤ ((List.length (List.getD x d3.2.toNat Ak).1 : Nat) : Int))) ∧
 Ai (D := Bool) (fun J13 => (((cond (decide ((List.getD (List.getD x d3.2.toNat Ak).1 d9.2.toNat (0 : Int)) < (0 : Int))) true (decide ((List.getD (List.getD x d3.2.toNat Ak).1 d9.2.toNat (0 : Int)) ≥ (x.length : Int)))) = false → Fn P "slices.Contains[[]int,int]" Bg ((List.take d9.2.toNat (List.getD x d3.2.toNat Ak).1), (List.getD (List.getD x d3.2.toNat Ak).1 d9.2.toNat (0 : Int))) (fun (d14 : Bool) _ => J13 d14)) ∧ (((cond (decide ((List.getD (List.getD x d3.2.toNat Ak).1 d9.2.toNat (0 : Int)) < (0 : Int))) true (decide ((List.getD (List.getD x d3.2.toNat Ak).1 d9.2.toNat (0 : Int)) ≥ (x.length : Int)))) = true → J13 false) ∧ True))) (fun d15 => (((cond (cond (decide ((List.getD (List.getD x d3.2.toNat Ak).1 d9.2.toNat (0 : Int)) < (0 : Int))) true (decide ((List.getD (List.getD x d3.2.toNat Ak).1 d9.2.toNat (0 : Int)) ≥ (x.length : Int)))) true d15) = true → K false ()) ∧ ((cond (cond (decide ((List.getD (List.getD x d3.2.toNat Ak).1 d9.2.toNat (0 : Int)) < (0 : Int))) true (decide ((List.getD (List.getD x d3.2.toNat Ak).1 d9.2.toNat (0 : Int)) ≥ (x.length : Int)))) true d15) = false → J11 d9.1)))) (fun d12 => J10 (d12, (i64.wrap (d9.2 + (1 : Int)))))) ∧ ((decide (d9.2 < ((List.length (List.getD x d3.2.toNat Ak).1 : Nat) : Int))) = false → J7 d9.1)))) (fun d8 => J5 d8)) (fun d6 => J4 (d6, (i64.wrap (d3.2 + (1 : Int)))))) ∧ ((decide (d3.2 < (x.length : Int))) = false → J1 d3.1)))) (fun d2 => K true ())
theorem Pk {P : Pg} (h : Has P FQ) {x : DP Db.ps} {K : DP Db.rs → DP (ptrs Db.ps) → Prop} (hw : K2 P x K) : Fn P AaF Db x K :=
 Cc (c := HS) h rfl rfl (by kernel_rfl) (Eq.mpr (show Ca P FQ Db HS x K = _ by kernel_rfl) hw)
def IV : Bw :=
 (.seq (.region [o1 2 (.asg (.c (.slice none 0 0)))]) (.seq (.region [im 14 0, o1 15 (.lenK 14), oT ⟨some 16, .mkSl 1 8 [(.int .i64 0)] 15 15, none⟩ (some (bI, .leaf)), ia 3 16])
 (.seq (.seq (.region [im 17 0, o1 18 (.lenK 17), o1 19 (.mv (kI 0))]) (.frame (rg [3, 5, 7] 19 19) [1005] false (.join [.sl 3 false (.sl bI) tO] (.block 0 (.loop [.sl 3 false (.sl
 bI) tO, .si 19] (.seq (.region [o1 20 (.bin .lss 19 18)]) (.seq (.cond 20 .skip (.exit 0)) (.seq (.frame (rg [3, 5, 7] 21 16) [1005] false (.join [.sl 3 false (.sl bI) tO] (.block
 1 (.seq (.region [o1 21 (.ixA 3 17 19), o1 22 (.load true 3 21), o1 5 (.alloc [(.slice none 0 0), (.int .i64 0), (.slice none 0 0)]), o0 ⟨none, .store 3 5 22, none⟩]) (.seq
 (.region [fa 23 0 5, ld 24 23, o1 25 (.lenK 24), o1 26 (.mv (kI 0))]) (.frame (rg [3, 7] 26 11) [] false (.join [.sl 3 false (.sl bI) tO] (.block 2 (.loop [.sl 3 false (.sl bI) tO,
 .si 26] (.seq (.region [o1 27 (.bin .lss 26 25)]) (.seq (.cond 27 .skip (.exit 2)) (.seq (.frame (rg [3, 7] 28 8) [] false (.join [.sl 3 false (.sl bI) tO] (.block 3 (.seq (.region
 [o1 28 (.ixA 1 24 26), ld 29 28, ia 7 29]) (.region [im 30 3, im 31 7, o1 32 (.ixA 1 30 31), ld 33 32, o1 34 (.bin .add 33 (kI 1)), o1 35 (.ixA 1 30 31), o0 ⟨none, .store 1 35 34,
 none⟩]))))) (.region [o1 36 (.bin .add 26 (kI 1)), im 26 36]))))))))))))) (.region [o1 37 (.bin .add 19 (kI 1)), im 19 37]))))))))) (.seq (.region [o1 8 (.asg (.c (.slice none 0
 0)))]) (.seq (.seq (.region [im 38 3, o1 39 (.lenK 38), o1 40 (.mv (kI 0))]) (.frame (rg [8, 9, 10] 40 12) [] false (.join [.sl 8 false (.sl bI) tO] (.block 4 (.loop [.sl 8 false
 (.sl bI) tO, .si 40] (.seq (.region [o1 41 (.bin .lss 40 39)]) (.seq (.cond 41 .skip (.exit 4)) (.seq (.frame (rg [8, 9, 10] 42 9) [] false (.join [.sl 8 false (.sl bI) tO] (.block
 5 (.seq (.region [im 42 40, o1 43 (.ixA 1 38 40), ld 44 43, ia 9 42, ia 10 44]) (.seq (.region [im 45 10, o1 46 (.bin .eql 45 (kI 0))]) (.frame (rg [8] 47 4) [] false (.join [.sl 8
 false (.sl bI) tO] (.cond 46 (.region [im 47 8, im 48 9, oT ⟨some 49, .buildSl 1 [(.int .i64 0)] 1 [(0, 48)], none⟩ (some (bI, .leaf)), oT ⟨some 50, .app 1 8 47 49, none⟩ (some
 (bI, .leaf)), ia 8 50]) .skip)))))))) (.region [o1 51 (.bin .add 40 (kI 1)), im 40 51]))))))))) (.seq (.seq (.region [ia 11 (kI 0)]) (.frame (rg [3, 8, 11, 13] 52 35) [] false
 (.join [.sl 8 false (.sl bI) tO] (.block 6 (.loop [.sl 3 false (.sl bI) tO, .sl 8 false (.sl bI) tO, .si 11] (.seq (.seq (.region [im 52 11, im 53 8, o1 54 (.lenK 53), o1 55 (.bin
 .lss 52 54)]) (.cond 55 .skip (.exit 6))) (.seq (.frame (rg [3, 8, 13] 58 29) [] false (.join [.sl 3 false (.sl bI) tO, .sl 8 false (.sl bI) tO] (.block 7 (.seq (.region [im 58 0,
 im 59 8, im 60 11, o1 61 (.ixA 1 59 60), ld 62 61, o1 63 (.ixA 3 58 62), fa 64 0 63, ld 65 64, o1 66 (.lenK 65), o1 67 (.mv (kI 0))]) (.frame (rg [3, 8, 13] 67 20) [] false (.join
 [.sl 3 false (.sl bI) tO, .sl 8 false (.sl bI) tO] (.block 8 (.loop [.sl 3 false (.sl bI) tO, .sl 8 false (.sl bI) tO, .si 67] (.seq (.region [o1 68 (.bin .lss 67 66)]) (.seq
 (.cond 68 .skip (.exit 8)) (.seq (.frame (rg [3, 8, 13] 69 17) [] false (.join [.sl 3 false (.sl bI) tO, .sl 8 false (.sl bI) tO] (.block 9 (.seq (.region [o1 69 (.ixA 1 65 67), ld
 70 69, ia 13 70]) (.seq (.region [im 71 3, im 72 13, o1 73 (.ixA 1 71 72), ld 74 73, o1 75 (.bin .sub 74 (kI 1)), o1 76 (.ixA 1 71 72), o0 ⟨none, .store 1 76 75, none⟩]) (.seq
 (.region [im 77 3, im 78 13, o1 79 (.ixA 1 77 78), ld 80 79, o1 81 (.bin .eql 80 (kI 0))]) (.frame (rg [8] 82 4) [] false (.join [.sl 8 false (.sl bI) tO] (.cond 81 (.region [im 82
 8, im 83 13, oT ⟨some 84, .buildSl 1 [(.int .i64 0)] 1 [(0, 83)], none⟩ (some (bI, .leaf)), oT ⟨some 85, .app 1 8 82 84, none⟩ (some (bI, .leaf)), ia 8 85]) .skip))))))))) (.region
 [o1 86 (.bin .add 67 (kI 1)), im 67 86])))))))))))) (.region [im 56 11, o1 57 (.bin .add 56 (kI 1)), ia 11 57])))))))) (.seq (.region [im 87 8, ia 2 87]) .ret)))))))
def Gl : AFn := ⟨ AaG, IV.erase, [.tmp 2], 1⟩
def LO (P : Pg) (x : (List Commit)) (K : (List Int) → Unit → Prop) : Prop :=
 (0 ≤ (x.length : Int) ∧ (x.length : Int) ≤ (x.length : Int) ∧ ((8 : Nat) : Int) * (x.length : Int) ≤ 281474976710656) ∧
 Ai (D := (List Int)) (fun J1 => Bl (D := ((List Int) × Int)) ((List.replicate (Int.toNat (x.length : Int)) (0 : Int)), (0 : Int)) (fun d3 J4 => (((decide (d3.2 < (x.length : Int))) = true → Ai (D := (List Int)) (fun J5 => (0 ≤ d3.2 ∧ d3.2 < (x.length : Int)) ∧
 (d3.2.toNat < x.length) ∧
 Ai (D := (List Int)) (fun J7 => Bl (D := ((List Int) × Int)) (d3.1, (0 : Int)) (fun d9 J10 => (((decide (d9.2 < ((List.length (List.getD x d3.2.toNat Ak).1 : Nat) : Int))) = true → Ai (D := (List Int)) (fun J11 => (0 ≤ d9.2 ∧ d9.2 < ((List.length (List.getD x d3.2.toNat Ak).1 : Nat) : Int)) ∧
 (d9.2.toNat < List.length (List.getD x d3.2.toNat Ak).1) ∧
 (0 ≤ (List.getD (List.getD x d3.2.toNat Ak).1 d9.2.toNat (0 : Int)) ∧ (List.getD (List.getD x d3.2.toNat Ak).1 d9.2.toNat (0 : Int)) < (d9.1.length : Int)) ∧
 ((Int.toNat (List.getD (List.getD x d3.2.toNat Ak).1 d9.2.toNat (0 : Int))) < d9.1.length) ∧
 (0 ≤ (List.getD (List.getD x d3.2.toNat Ak).1 d9.2.toNat (0 : Int)) ∧ (List.getD (List.getD x d3.2.toNat Ak).1 d9.2.toNat (0 : Int)) < (d9.1.length : Int)) ∧
 ((Int.toNat (List.getD (List.getD x d3.2.toNat Ak).1 d9.2.toNat (0 : Int))) < d9.1.length) ∧
 J11 (List.set d9.1 (Int.toNat (List.getD (List.getD x d3.2.toNat Ak).1 d9.2.toNat (0 : Int))) (i64.wrap ((List.getD d9.1 (Int.toNat (List.getD (List.getD x d3.2.toNat Ak).1 d9.2.toNat (0 : Int))) (0 : Int)) + (1 : Int))))) (fun d12 => J10 (d12, (i64.wrap (d9.2 + (1 : Int)))))) ∧ ((decide (d9.2 < ((List.length (List.getD x d3.2.toNat Ak).1 : Nat) : Int))) = false → J7 d9.1)))) (fun d8 => J5 d8)) (fun d6 => J4 (d6, (i64.wrap (d3.2 + (1 : Int)))))) ∧ ((decide (d3.2 < (x.length : Int))) = false → J1 d3.1)))) (fun d2 => Ai (D := (List Int)) (fun J13 => Bl (D := ((List Int) × Int)) ([], (0 : Int)) (fun d15 J16 => (((decide (d15.2 < (d2.length : Int))) = true → Ai (D := (List Int)) (fun J17 => (0 ≤ d15.2 ∧ d15.2 < (d2.length : Int)) ∧
 (d15.2.toNat < d2.length) ∧
 Ai (D := (List Int)) (fun J19 => ((((List.getD d2 d15.2.toNat (0 : Int)) == (0 : Int)) = true → ((d15.1.length + List.length ([d15.2] : List Int)) * 8 ≤ 140737488355328) ∧
 J19 (d15.1 ++ ([d15.2] : List Int))) ∧ (((List.getD d2 d15.2.toNat (0 : Int)) == (0 : Int)) = false → J19 d15.1))) (fun d20 => J17 d20)) (fun d18 => J16 (d18, (i64.wrap (d15.2 + (1 : Int)))))) ∧ ((decide (d15.2 < (d2.length : Int))) = false → J13 d15.1)))) (fun d14 => Ai (D := (List Int)) (fun J21 => Bl (D := ((List Int) × ((List Int) × Int))) (d2, (d14, (0 : Int))) (fun d23 J24 => (((decide (d23.2.2 < (d23.2.1.length : Int))) = true → Ai (D := ((List Int) × (List Int))) (fun J25 => (0 ≤ d23.2.2 ∧ d23.2.2 < (d23.2.1.length : Int)) ∧
 (d23.2.2.toNat < d23.2.1.length) ∧
 (0 ≤ (List.getD d23.2.1 d23.2.2.toNat (0 : Int)) ∧ (List.getD d23.2.1 d23.2.2.toNat (0 : Int)) < (x.length : Int)) ∧
 ((Int.toNat (List.getD d23.2.1 d23.2.2.toNat (0 : Int))) < x.length) ∧
 Ai (D := ((List Int) × (List Int))) (fun J27 => Bl (D := ((List Int) × ((List Int) × Int))) (d23.1, (d23.2.1, (0 : Int))) (fun d29 J30 => (((decide (d29.2.2 < ((List.length (List.getD x (Int.toNat (List.getD d23.2.1 d23.2.2.toNat (0 : Int))) Ak).1 : Nat) : Int))) = true → Ai (D := ((List Int) × (List Int))) (fun J31 => (0 ≤ d29.2.2 ∧ d29.2.2 < ((List.length (List.getD x (Int.toNat (List.getD d23.2.1 d23.2.2.toNat (0 : Int))) Ak).1 : Nat) : Int)) ∧
 (d29.2.2.toNat < List.length (List.getD x (Int.toNat (List.getD d23.2.1 d23.2.2.toNat (0 : Int))) Ak).1) ∧
 (0 ≤ (List.getD (List.getD x (Int.toNat (List.getD d23.2.1 d23.2.2.toNat (0 : Int))) Ak).1 d29.2.2.toNat (0 : Int)) ∧ (List.getD (List.getD x (Int.toNat (List.getD d23.2.1 d23.2.2.toNat (0 : Int))) Ak).1 d29.2.2.toNat (0 : Int)) < (d29.1.length : Int)) ∧
 ((Int.toNat (List.getD (List.getD x (Int.toNat (List.getD d23.2.1 d23.2.2.toNat (0 : Int))) Ak).1 d29.2.2.toNat (0 : Int))) < d29.1.length) ∧
 (0 ≤ (List.getD (List.getD x (Int.toNat (List.getD d23.2.1 d23.2.2.toNat (0 : Int))) Ak).1 d29.2.2.toNat (0 : Int)) ∧ (List.getD (List.getD x (Int.toNat (List.getD d23.2.1 d23.2.2.toNat (0 : Int))) Ak).1 d29.2.2.toNat (0 : Int)) < (d29.1.length : Int)) ∧
 ((Int.toNat (List.getD (List.getD x (Int.toNat (List.getD d23.2.1 d23.2.2.toNat (0 : Int))) Ak).1 d29.2.2.toNat (0 : Int))) < d29.1.length) ∧
 (0 ≤ (List.getD (List.getD x (Int.toNat (List.getD d23.2.1 d23.2.2.toNat (0 : Int))) Ak).1 d29.2.2.toNat (0 : Int)) ∧ (List.getD (List.getD x (Int.toNat (List.getD d23.2.1 d23.2.2.toNat (0 : Int))) Ak).1 d29.2.2.toNat (0 : Int)) < ((List.length (List.set d29.1 (Int.toNat (List.getD (List.getD x (Int.toNat (List.getD d23.2.1 d23.2.2.toNat (0 : Int))) Ak).1 d29.2.2.toNat (0 : Int))) (i64.wrap ((List.getD d29.1 (Int.toNat (List.getD (List.getD x (Int.toNat (List.getD d23.2.1 d23.2.2.toNat (0 : Int))) Ak).1 d29.2.2.toNat (0 : Int))) (0 : Int)) - (1 : Int)))) : Nat) : Int)) ∧
 ((Int.toNat (List.getD (List.getD x (Int.toNat (List.getD d23.2.1 d23.2.2.toNat (0 : Int))) Ak).1 d29.2.2.toNat (0 : Int))) < List.length (List.set d29.1 (Int.toNat (List.getD (List.getD x (Int.toNat (List.getD d23.2.1 d23.2.2.toNat (0 : Int))) Ak).1 d29.2.2.toNat (0 : Int))) (i64.wrap ((List.getD d29.1 (Int.toNat (List.getD (List.getD x (Int.toNat (List.getD d23.2.1 d23.2.2.toNat (0 : Int))) Ak).1 d29.2.2.toNat (0 : Int))) (0 : Int)) - (1 : Int))))) ∧
 Ai (D := (List Int)) (fun J33 => ((((List.getD (List.set d29.1 (Int.toNat (List.getD (List.getD x (Int.toNat (List.getD d23.2.1 d23.2.2.toNat (0 : Int))) Ak).1 d29.2.2.toNat (0 : Int))) (i64.wrap ((List.getD d29.1 (Int.toNat (List.getD (List.getD x (Int.toNat (List.getD d23.2.1 d23.2.2.toNat (0 : Int))) Ak).1 d29.2.2.toNat (0 : Int))) (0 : Int)) - (1 : Int)))) (Int.toNat (List.getD (List.getD x (Int.toNat (List.getD d23.2.1 d23.2.2.toNat (0 : Int))) Ak).1 d29.2.2.toNat (0 : Int))) (0 : Int)) == (0 : Int)) = true → ((d29.2.1.length + List.length ([(List.getD (List.getD x (Int.toNat (List.getD d23.2.1 d23.2.2.toNat (0 : Int))) Ak).1 d29.2.2.toNat (0 : Int))] : List Int)) * 8 ≤ 140737488355328) ∧
 J33 (d29.2.1 ++ ([(List.getD (List.getD x (Int.toNat (List.getD d23.2.1 d23.2.2.toNat (0 : Int))) Ak).1 d29.2.2.toNat (0 : Int))] : List Int))) ∧ (((List.getD (List.set d29.1 (Int.toNat (List.getD (List.getD x (Int.toNat (List.getD d23.2.1 d23.2.2.toNat (0 : Int))) Ak).1 d29.2.2.toNat (0 : Int))) (i64.wrap ((List.getD d29.1 (Int.toNat (List.getD (List.getD x (Int.toNat (List.getD d23.2.1 d23.2.2.toNat (0 : Int))) Ak).1 d29.2.2.toNat (0 : Int))) (0 : Int)) - (1 : Int)))) (Int.toNat (List.getD (List.getD x (Int.toNat (List.getD d23.2.1 d23.2.2.toNat (0 : Int))) Ak).1 d29.2.2.toNat (0 : Int))) (0 : Int)) == (0 : Int)) = false → J33 d29.2.1))) (fun d34 => J31 ((List.set d29.1 (Int.toNat (List.getD (List.getD x (Int.toNat (List.getD d23.2.1 d23.2.2.toNat (0 : Int))) Ak).1 d29.2.2.toNat (0 : Int))) (i64.wrap ((List.getD d29.1 (Int.toNat (List.getD (List.getD x (Int.toNat (List.getD d23.2.1 d23.2.2.toNat (0 : Int))) Ak).1 d29.2.2.toNat (0 : Int))) (0 : Int)) - (1 : Int)))), d34))) (fun d32 => J30 (d32.1, (d32.2, (i64.wrap (d29.2.2 + (1 : Int))))))) ∧ ((decide (d29.2.2 < ((List.length (List.getD x (Int.toNat (List.getD d23.2.1 d23.2.2.toNat (0 : Int))) Ak).1 : Nat) : Int))) = false → J27 (d29.1, d29.2.1))))) (fun d28 => J25 d28)) (fun d26 => J24 (d26.1, (d26.2, (i64.wrap (d23.2.2 + (1 : Int))))))) ∧ ((decide (d23.2.2 < (d23.2.1.length : Int))) = false → J21 d23.2.1)))) (fun d22 => K d22 ())))
theorem Qw {P : Pg} (h : Has P Gl) {x : DP Ds.ps} {K : DP Ds.rs → DP (ptrs Ds.ps) → Prop} (hw : LO P x K) : Fn P AaG Ds x K :=
 Cc (c := IV) h rfl rfl (by kernel_rfl) (Eq.mpr (show Ca P Gl Ds IV x K = _ by kernel_rfl) hw)
def Hf : Bw :=
 (.seq (.region [o1 1 (.box 0), o1 2 (.asg kF)]) (.seq (.region [fa 3 0 1, ld 4 3, oS ⟨some 5, .call AaK [4], none⟩ DJ, o1 6 (.bin .neq 5 (kI
 0)), ia 2 6]) .ret))
def E8 : AFn := ⟨ Vn, Hf.erase, [.tmp 2], 1⟩
def Jo (P : Pg) (x : ((List UInt8) × (List UInt8))) (K : Bool → Unit → Prop) : Prop :=
 Fn P AaK DJ x.1 (fun (d1 : Int) (e2 : Unit) => K (d1 != (0 : Int)) ())
theorem Oi {P : Pg} (h : Has P E8) {x : DP CJ.ps} {K : DP CJ.rs → DP (ptrs CJ.ps) → Prop} (hw : Jo P x K) : Fn P Vn CJ x K :=
 Cc (c := Hf) h rfl rfl (by kernel_rfl) (Eq.mpr (show Ca P E8 CJ Hf x K = _ by kernel_rfl) hw)
def Bn : Bw :=
 (.seq (.region [ia 4 (kI 0)]) (.seq (.seq (.region [im 6 0, o1 7 (.lenK 6), o1 8 (.mv (kI 0))]) (.frame (rg [4, 5] 8 11) [] false (.join [.si 4] (.block 0 (.loop [.si 4, .si 8]
 (.seq (.region [o1 9 (.bin .lss 8 7)]) (.seq (.cond 9 .skip (.exit 0)) (.seq (.frame (rg [4, 5] 10 8) [] false (.join [.si 4] (.block 1 (.seq (.region [im 10 8, ia 5 10]) (.seq
 (.region [im 11 1, im 12 0, im 13 5, o1 14 (.ixA 2 12 13), o1 15 (.load true 2 14), oS ⟨some 16, .callv 11 [15], none⟩ CJ]) (.cond 16 (.seq (.region [im 17 5, ia 4 17])
 .ret) .skip)))))) (.region [o1 18 (.bin .add 8 (kI 1)), im 8 18]))))))))) (.seq (.region [ia 4 (kI (-1))]) .ret)))
def A1 : AFn := ⟨ zS6, Bn.erase, [.tmp 4], 2⟩
def BZ (P : Pg) (x : ((List ((List UInt8) × (List UInt8))) × Unit)) (K : Int → Unit → Prop) : Prop :=
 Ai (D := Int) (fun J1 => Bl (D := (Int × Int)) ((0 : Int), (0 : Int)) (fun d3 J4 => (((decide (d3.2 < (x.1.length : Int))) = true → Ai (D := Int) (fun J5 => (0 ≤ d3.2 ∧ d3.2 < (x.1.length : Int)) ∧
 (d3.2.toNat < x.1.length) ∧
 Fn P Vn CJ (List.getD x.1 d3.2.toNat ([], [])) (fun (d7 : Bool) (e8 : Unit) => ((d7 = true → K d3.2 ()) ∧ (d7 = false → J5 d3.1)))) (fun d6 => J4 (d6, (i64.wrap (d3.2 + (1 : Int)))))) ∧ ((decide (d3.2 < (x.1.length : Int))) = false → J1 d3.1)))) (fun d2 => K (-1 : Int) ())
theorem De {P : Pg} (h : Has P A1) {x : DP Aw.ps} {K : DP Aw.rs → DP (ptrs Aw.ps) → Prop} (hw : BZ P x K) : Fn P zS6 Aw x K :=
 Cc (c := Bn) h rfl rfl (by kernel_rfl) (Eq.mpr (show Ca P A1 Aw Bn x K = _ by kernel_rfl) hw)
def Bh : Bw :=
 (.seq (.region [o1 4 (.asg kF)]) (.seq (.region [im 5 0, im 6 1, oS ⟨some 7, .call zS6 [5, 6], none⟩
 Aw, o1 8 (.bin .geq 7 (kI 0)), ia 4 8]) .ret))
def AW : AFn := ⟨ zS7, Bh.erase, [.tmp 4], 2⟩
def BM (P : Pg) (x : ((List ((List UInt8) × (List UInt8))) × Unit)) (K : Bool → Unit → Prop) : Prop :=
 Fn P zS6 Aw (x.1, ()) (fun (d1 : Int) (e2 : Unit) => K (decide (d1 ≥ (0 : Int))) ())
theorem CW {P : Pg} (h : Has P AW) {x : DP Ar.ps} {K : DP Ar.rs → DP (ptrs Ar.ps) → Prop} (hw : BM P x K) : Fn P zS7 Ar x K :=
 Cc (c := Bh) h rfl rfl (by kernel_rfl) (Eq.mpr (show Ca P AW Ar Bh x K = _ by kernel_rfl) hw)
def I2 : Bw :=
 (.seq (.region [o1 2 (.asg kF)]) (.seq (.region [im 3 0, oS ⟨some 4, .call "strings.HasSuffix" [3, (.c (.string ⟨#[10]⟩))], none⟩ CZ, ia 2 4]) .ret))
def Gs : AFn := ⟨ AaH, I2.erase, [.tmp 2], 1⟩
def LV (P : Pg) (x : (List UInt8)) (K : Bool → Unit → Prop) : Prop :=
 Fn P "strings.HasSuffix" CZ (x, ([10] : List UInt8)) (fun (d1 : Bool) (e2 : Unit) => K d1 ())
theorem QC {P : Pg} (h : Has P Gs) {x : DP Dw.ps} {K : DP Dw.rs → DP (ptrs Dw.ps) → Prop} (hw : LV P x K) : Fn P AaH Dw x K :=
 Cc (c := I2) h rfl rfl (by kernel_rfl) (Eq.mpr (show Ca P Gs Dw I2 x K = _ by kernel_rfl) hw)
def I1 : Bw :=
 (.seq (.region [ia 2 (kI 0)]) (.seq (.region [im 4 0, oS ⟨some 5, .call "strings.Count" [4, (.c (.string ⟨#[10]⟩))], none⟩ D3, ia 3 5]) (.seq (.seq (.region [im 6 0,
 o1 7 (.bin .neq 6 (.c (.string ⟨#[]⟩))), im 8 7, gt 9 8 (.mv 0), oS ⟨some 10, .call AaH [9], some (8, true)⟩ Dw, gt 11 8 (.un .not 10), o1 12 (.pick 8
 11 kF)]) (.frame [3, 13, 14] [] false (.join [.si 3] (.cond 12 (.region [im 13 3, o1 14 (.bin .add 13 (kI 1)), ia 3 14]) .skip)))) (.seq (.seq (.region [im 15 0, o1 16 (.lenS 15),
 o1 17 (.bin .gtr 16 (kI 1048576)), im 18 17, gf 19 18 (.mv 3), gf 20 18 (.bin .gtr 19 (kI 4096)), o1 21 (.pick 18 kT 20)]) (.cond 21 (.seq (.region [ia 2 (kI 1)]) .ret) .skip))
 (.seq (.region [ia 2 (kI 0)]) .ret)))))
def Gr : AFn := ⟨ AaI, I1.erase, [.tmp 2], 1⟩
def LU (P : Pg) (x : (List UInt8)) (K : Int → Unit → Prop) : Prop :=
 Fn P "strings.Count" D3 (x, ([10] : List UInt8)) (fun (d1 : Int) (e2 : Unit) => Ai (D := Bool) (fun J3 => (((!(x == ([] : List UInt8))) = true → Fn P AaH Dw x (fun (d4 : Bool) _ => J3 d4)) ∧ (((!(x == ([] : List UInt8))) = false → J3 false) ∧ True))) (fun d5 => Ai (D := Int) (fun J6 => (((cond (!(x == ([] : List UInt8))) (!d5) false) = true → J6 (i64.wrap (d1 + (1 : Int)))) ∧ ((cond (!(x == ([] : List UInt8))) (!d5) false) = false → J6 d1))) (fun d7 => (((cond (decide ((x.length : Int) > (1048576 : Int))) true (decide (d7 > (4096 : Int)))) = true → K (1 : Int) ()) ∧ ((cond (decide ((x.length : Int) > (1048576 : Int))) true (decide (d7 > (4096 : Int)))) = false → K (0 : Int) ())))))
theorem QB {P : Pg} (h : Has P Gr) {x : DP Dv.ps} {K : DP Dv.rs → DP (ptrs Dv.ps) → Prop} (hw : LU P x K) : Fn P AaI Dv x K :=
 Cc (c := I1) h rfl rfl (by kernel_rfl) (Eq.mpr (show Ca P Gr Dv I1 x K = _ by kernel_rfl) hw)
def Hg : Bw :=
 (.seq (.region [o1 1 (.box 0), o1 2 (.asg kF)]) (.seq (.region [fa 3 1 1, ld 4 3, oS ⟨some 5, .call AaI [4], none⟩ Dv, o1 6 (.bin .neq 5 (kI 0)), ia 2
 6]) .ret))
def E9 : AFn := ⟨ AaA, Hg.erase, [.tmp 2], 1⟩
def Jp (P : Pg) (x : ((List UInt8) × (List UInt8))) (K : Bool → Unit → Prop) : Prop :=
 Fn P AaI Dv x.2 (fun (d1 : Int) (e2 : Unit) => K (d1 != (0 : Int)) ())
theorem Oj {P : Pg} (h : Has P E9) {x : DP CL.ps} {K : DP CL.rs → DP (ptrs CL.ps) → Prop} (hw : Jp P x K) : Fn P AaA CL x K :=
 Cc (c := Hg) h rfl rfl (by kernel_rfl) (Eq.mpr (show Ca P E9 CL Hg x K = _ by kernel_rfl) hw)
def Bo : Bw :=
 (.seq (.region [ia 4 (kI 0)]) (.seq (.seq (.region [im 6 0, o1 7 (.lenK 6), o1 8 (.mv (kI 0))]) (.frame (rg [4, 5] 8 11) [] false (.join [.si 4] (.block 0 (.loop [.si 4, .si 8]
 (.seq (.region [o1 9 (.bin .lss 8 7)]) (.seq (.cond 9 .skip (.exit 0)) (.seq (.frame (rg [4, 5] 10 8) [] false (.join [.si 4] (.block 1 (.seq (.region [im 10 8, ia 5 10]) (.seq
 (.region [im 11 1, im 12 0, im 13 5, o1 14 (.ixA 2 12 13), o1 15 (.load true 2 14), oS ⟨some 16, .callv 11 [15], none⟩ CL]) (.cond 16 (.seq (.region [im 17 5, ia 4 17])
 .ret) .skip)))))) (.region [o1 18 (.bin .add 8 (kI 1)), im 8 18]))))))))) (.seq (.region [ia 4 (kI (-1))]) .ret)))
def A2 : AFn := ⟨ zS6, Bo.erase, [.tmp 4], 2⟩
def B0 (P : Pg) (x : ((List ((List UInt8) × (List UInt8))) × Unit)) (K : Int → Unit → Prop) : Prop :=
 Ai (D := Int) (fun J1 => Bl (D := (Int × Int)) ((0 : Int), (0 : Int)) (fun d3 J4 => (((decide (d3.2 < (x.1.length : Int))) = true → Ai (D := Int) (fun J5 => (0 ≤ d3.2 ∧ d3.2 < (x.1.length : Int)) ∧
 (d3.2.toNat < x.1.length) ∧
 Fn P AaA CL (List.getD x.1 d3.2.toNat ([], [])) (fun (d7 : Bool) (e8 : Unit) => ((d7 = true → K d3.2 ()) ∧ (d7 = false → J5 d3.1)))) (fun d6 => J4 (d6, (i64.wrap (d3.2 + (1 : Int)))))) ∧ ((decide (d3.2 < (x.1.length : Int))) = false → J1 d3.1)))) (fun d2 => K (-1 : Int) ())
theorem Df {P : Pg} (h : Has P A2) {x : DP Ax.ps} {K : DP Ax.rs → DP (ptrs Ax.ps) → Prop} (hw : B0 P x K) : Fn P zS6 Ax x K :=
 Cc (c := Bo) h rfl rfl (by kernel_rfl) (Eq.mpr (show Ca P A2 Ax Bo x K = _ by kernel_rfl) hw)
def Bj : Bw :=
 (.seq (.region [o1 4 (.asg kF)]) (.seq (.region [im 5 0, im 6 1, oS ⟨some 7, .call zS6 [5, 6], none⟩
 Ax, o1 8 (.bin .geq 7 (kI 0)), ia 4 8]) .ret))
def AX : AFn := ⟨ zS7, Bj.erase, [.tmp 4], 2⟩
def BN (P : Pg) (x : ((List ((List UInt8) × (List UInt8))) × Unit)) (K : Bool → Unit → Prop) : Prop :=
 Fn P zS6 Ax (x.1, ()) (fun (d1 : Int) (e2 : Unit) => K (decide (d1 ≥ (0 : Int))) ())
theorem CX {P : Pg} (h : Has P AX) {x : DP Au.ps} {K : DP Au.rs → DP (ptrs Au.ps) → Prop} (hw : BN P x K) : Fn P zS7 Au x K :=
 Cc (c := Bj) h rfl rfl (by kernel_rfl) (Eq.mpr (show Ca P AX Au Bj x K = _ by kernel_rfl) hw)
def I3 : Bw :=
 (.seq (.region [ia 2 (kI 0)]) (.seq (.frame (rg [] 2 15) [] false (.join [.si 2] (.block 0 (.seq (.region [im 4 0, o1 5 (.lenK 4), o1 6 (.bin .gtr 5 (kI 200)), ia 3 6]) (.cond 3
 (.seq (.region [ia 2 (kI 1)]) .ret) (.seq (.region [im 8 0, oS ⟨some 9, .call zS7 [8, (.f Vn)],
 none⟩ Ar, ia 7 9]) (.cond 7 (.seq (.region [ia 2 (kI 210)]) .ret) (.seq (.region [im 11 0, oS ⟨some 12, .call
 "mergelens/tree.ordered" [11], none⟩ Fa, o1 13 (.un .not 12), ia 10 13]) (.cond 10 (.seq (.region [ia 2 (kI 211)]) .ret) (.seq (.region [im 15 0, oS ⟨some 16, .call
 zS7 [15, (.f AaA)], none⟩ Au, ia 14 16]) (.cond
 14 (.seq (.region [ia 2 (kI 1)]) .ret) .skip))))))))))) (.seq (.region [ia 2 (kI 0)]) .ret)))
def E7 : AFn := ⟨ WO, I3.erase, [.tmp 2], 1⟩
def Iw (P : Pg) (x : (List ((List UInt8) × (List UInt8)))) (K : Int → Unit → Prop) : Prop :=
 Ai (D := Int) (fun J1 => (((decide ((x.length : Int) > (200 : Int))) = true → K (1 : Int) ()) ∧ ((decide ((x.length : Int) > (200 : Int))) = false → Fn P zS7 Ar (x, ()) (fun (d3 : Bool) (e4 : Unit) => ((d3 = true → K (210 : Int) ()) ∧ (d3 = false → Fn P "mergelens/tree.ordered" Fa x (fun (d5 : Bool) (e6 : Unit) => (((!d5) = true → K (211 : Int) ()) ∧ ((!d5) = false → Fn P zS7 Au (x, ()) (fun (d7 : Bool) (e8 : Unit) => ((d7 = true → K (1 : Int) ()) ∧ (d7 = false → J1 (0 : Int))))))))))))) (fun d2 => K (0 : Int) ())
theorem K6 {P : Pg} (h : Has P E7) {x : DP BQ.ps} {K : DP BQ.rs → DP (ptrs BQ.ps) → Prop} (hw : Iw P x K) : Fn P WO BQ x K :=
 Cc (c := I3) h rfl rfl (by kernel_rfl) (Eq.mpr (show Ca P E7 BQ I3 x K = _ by kernel_rfl) hw)
def HQ : Bw :=
 (.seq (.region [o1 1 (.box 0), o1 2 (.asg kF)]) (.seq (.region [fa 3 1 1, ld 4 3, o1 5 (.bin .lss 4 (kI 0)), im 6 5, gf 7 6 (.fAddr 1 1), gf 8 6 (.load false 1 7), gf 9 6 (.bin
 .gtr 8 (kI 2147483647)), o1 10 (.pick 6 kT 9), ia 2 10]) .ret))
def FO : AFn := ⟨ WQ, HQ.erase, [.tmp 2], 1⟩
def Qt (P : Pg) (x : Commit) (K : Bool → Unit → Prop) : Prop :=
 K (cond (decide (x.2.1 < (0 : Int))) true (decide (x.2.1 > (2147483647 : Int)))) ()
theorem Ph {P : Pg} (h : Has P FO) {x : DP DC.ps} {K : DP DC.rs → DP (ptrs DC.ps) → Prop} (hw : Qt P x K) : Fn P WQ DC x K :=
 Cc (c := HQ) h rfl rfl (by kernel_rfl) (Eq.mpr (show Ca P FO DC HQ x K = _ by kernel_rfl) hw)
def Bk : Bw :=
 (.seq (.region [ia 4 (kI 0)]) (.seq (.seq (.region [im 6 0, o1 7 (.lenK 6), o1 8 (.mv (kI 0))]) (.frame (rg [4, 5] 8 11) [] false (.join [.si 4] (.block 0 (.loop [.si 4, .si 8]
 (.seq (.region [o1 9 (.bin .lss 8 7)]) (.seq (.cond 9 .skip (.exit 0)) (.seq (.frame (rg [4, 5] 10 8) [] false (.join [.si 4] (.block 1 (.seq (.region [im 10 8, ia 5 10]) (.seq
 (.region [im 11 1, im 12 0, im 13 5, o1 14 (.ixA 3 12 13), o1 15 (.load true 3 14), oS ⟨some 16, .callv 11 [15], none⟩ DC]) (.cond 16 (.seq (.region [im 17 5, ia 4 17])
 .ret) .skip)))))) (.region [o1 18 (.bin .add 8 (kI 1)), im 8 18]))))))))) (.seq (.region [ia 4 (kI (-1))]) .ret)))
def AY : AFn := ⟨ zS4, Bk.erase, [.tmp 4], 2⟩
def BO (P : Pg) (x : ((List Commit) × Unit)) (K : Int → Unit → Prop) : Prop :=
 Ai (D := Int) (fun J1 => Bl (D := (Int × Int)) ((0 : Int), (0 : Int)) (fun d3 J4 => (((decide (d3.2 < (x.1.length : Int))) = true → Ai (D := Int) (fun J5 => (0 ≤ d3.2 ∧ d3.2 < (x.1.length : Int)) ∧
 (d3.2.toNat < x.1.length) ∧
 Fn P WQ DC (List.getD x.1 d3.2.toNat Ak) (fun (d7 : Bool) (e8 : Unit) => ((d7 = true → K d3.2 ()) ∧ (d7 = false → J5 d3.1)))) (fun d6 => J4 (d6, (i64.wrap (d3.2 + (1 : Int)))))) ∧ ((decide (d3.2 < (x.1.length : Int))) = false → J1 d3.1)))) (fun d2 => K (-1 : Int) ())
theorem CY {P : Pg} (h : Has P AY) {x : DP Av.ps} {K : DP Av.rs → DP (ptrs Av.ps) → Prop} (hw : BO P x K) : Fn P zS4 Av x K :=
 Cc (c := Bk) h rfl rfl (by kernel_rfl) (Eq.mpr (show Ca P AY Av Bk x K = _ by kernel_rfl) hw)
def Bb : Bw :=
 (.seq (.region [o1 4 (.asg kF)]) (.seq (.region [im 5 0, im 6 1, oS ⟨some 7, .call zS4 [5, 6], none⟩
 Av, o1 8 (.bin .geq 7 (kI 0)), ia 4 8]) .ret))
def AN : AFn := ⟨ zS5, Bb.erase, [.tmp 4], 2⟩
def BD (P : Pg) (x : ((List Commit) × Unit)) (K : Bool → Unit → Prop) : Prop :=
 Fn P zS4 Av (x.1, ()) (fun (d1 : Int) (e2 : Unit) => K (decide (d1 ≥ (0 : Int))) ())
theorem CG {P : Pg} (h : Has P AN) {x : DP Ao.ps} {K : DP Ao.rs → DP (ptrs Ao.ps) → Prop} (hw : BD P x K) : Fn P zS5 Ao x K :=
 Cc (c := Bb) h rfl rfl (by kernel_rfl) (Eq.mpr (show Ca P AN Ao Bb x K = _ by kernel_rfl) hw)
def JX : Bw :=
 (.seq (.region [ia 2 (kI 0)]) (.seq (.frame (rg [2] 6 18) [] false (.join [.si 2] (.block 0 (.seq (.region [im 7 0, oS ⟨some 8, .call AaE [7], none⟩
 Da, o1 9 (.un .not 8), ia 6 9]) (.cond 6 (.seq (.region [ia 2 (kI 1)]) .ret) (.seq (.region [im 11 0, oS ⟨some 12, .call AaF [11], none⟩
 Db, o1 13 (.un .not 12), ia 10 13]) (.cond 10 (.seq (.region [ia 2 (kI 230)]) .ret) (.seq (.region [im 15 0, oS ⟨some 16, .call AaG [15], none⟩
 Ds, o1 17 (.lenK 16), im 18 0, o1 19 (.lenK 18), o1 20 (.bin .lss 17 19), ia 14 20]) (.cond 14 (.seq (.region [ia 2 (kI 231)]) .ret) (.seq (.region [im 22 0, oS ⟨some 23,
 .call zS5 [22, (.f WQ)], none⟩ Ao, ia 21
 23]) (.cond 21 (.seq (.region [ia 2 (kI 3)]) .ret) .skip))))))))))) (.seq (.seq (.region [im 24 0, o1 25 (.lenK 24), o1 26 (.mv (kI 0))]) (.frame (rg [2, 4, 5] 26 11) [1004] false
 (.join [.si 2] (.block 1 (.loop [.si 2, .si 26] (.seq (.region [o1 27 (.bin .lss 26 25)]) (.seq (.cond 27 .skip (.exit 1)) (.seq (.frame (rg [2, 4, 5] 28 8) [1004] false (.join
 [.si 2] (.block 2 (.seq (.region [o1 28 (.ixA 3 24 26), o1 29 (.load true 3 28), o1 4 (.alloc [(.slice none 0 0), (.int .i64 0), (.slice none 0 0)]), o0 ⟨none, .store 3 4 29,
 none⟩]) (.seq (.region [fa 30 2 4, ld 31 30, oS ⟨some 32, .call WO [31], none⟩ BQ, ia 5 32]) (.seq (.region [im 33 5, o1 34 (.bin .neq 33 (kI 0))])
 (.cond 34 (.seq (.region [im 35 5, ia 2 35]) .ret) .skip))))))) (.region [o1 36 (.bin .add 26 (kI 1)), im 26 36]))))))))) (.seq (.region [ia 2 (kI 0)]) .ret))))
def Hs : AFn := ⟨ AaJ, JX.erase, [.tmp 2], 1⟩
def NJ (P : Pg) (x : (List Commit)) (K : Int → Unit → Prop) : Prop :=
 Ai (D := Int) (fun J1 => Fn P AaE Da x (fun (d3 : Bool) (e4 : Unit) => (((!d3) = true → K (1 : Int) ()) ∧ ((!d3) = false → Fn P AaF Db x (fun (d5 : Bool) (e6 : Unit) => (((!d5) = true → K (230 : Int) ()) ∧ ((!d5) = false → Fn P AaG Ds x (fun (d7 : (List Int)) (e8 : Unit) => (((decide ((d7.length : Int) < (x.length : Int))) = true → K (231 : Int) ()) ∧ ((decide ((d7.length : Int) < (x.length : Int))) = false → Fn P zS5 Ao (x, ()) (fun (d9 : Bool) (e10 : Unit) => ((d9 = true → K (3 : Int) ()) ∧ (d9 = false → J1 (0 : Int)))))))))))))) (fun d2 => Ai (D := Int) (fun J11 => Bl (D := (Int × Int)) (d2, (0 : Int)) (fun d13 J14 => (((decide (d13.2 < (x.length : Int))) = true → Ai (D := Int) (fun J15 => (0 ≤ d13.2 ∧ d13.2 < (x.length : Int)) ∧
 (d13.2.toNat < x.length) ∧
 Fn P WO BQ (List.getD x d13.2.toNat Ak).2.2 (fun (d17 : Int) (e18 : Unit) => (((d17 != (0 : Int)) = true → K d17 ()) ∧ ((d17 != (0 : Int)) = false → J15 d13.1)))) (fun d16 => J14 (d16, (i64.wrap (d13.2 + (1 : Int)))))) ∧ ((decide (d13.2 < (x.length : Int))) = false → J11 d13.1)))) (fun d12 => K (0 : Int) ()))
theorem Sg {P : Pg} (h : Has P Hs) {x : DP DO.ps} {K : DP DO.rs → DP (ptrs DO.ps) → Prop} (hw : NJ P x K) : Fn P AaJ DO x K :=
 Cc (c := JX) h rfl rfl (by kernel_rfl) (Eq.mpr (show Ca P Hs DO JX x K = _ by kernel_rfl) hw)
def Qg : Bw :=
 (.seq (.region [o1 4 (.asg kF)]) (.seq (.region [im 5 1, o1 6 (.bin .geq 5 (kI 0)), im 7 6, gt 8 7 (.mv 1), gt 9 7 (.mv 0), gt 10 7 (.lenK 9), gt 11 7 (.bin .lss 8 10), o1 12
 (.pick 7 11 kF), ia 4 12]) .ret))
def LK : AFn := ⟨ "mergelens/dag.Is", Qg.erase, [.tmp 4], 2⟩
def Tm (P : Pg) (x : ((List Commit) × Int)) (K : Bool → Unit → Prop) : Prop :=
 K (cond (decide (x.2 ≥ (0 : Int))) (decide (x.2 < (x.1.length : Int))) false) ()
theorem X3 {P : Pg} (h : Has P LK) {x : DP GL.ps} {K : DP GL.rs → DP (ptrs GL.ps) → Prop} (hw : Tm P x K) : Fn P "mergelens/dag.Is" GL x K :=
 Cc (c := Qg) h rfl rfl (by kernel_rfl) (Eq.mpr (show Ca P LK GL Qg x K = _ by kernel_rfl) hw)
def Aey : Bw :=
 (.seq (.region [ia 4 (kI 0)]) (.seq (.seq (.region [im 8 0, oS ⟨some 9, .call AaJ [8], none⟩ DO, ia 5 9]) (.seq (.region [im 10 5, o1 11 (.bin .neq 10
 (kI 0))]) (.cond 11 (.seq (.region [im 12 5, ia 4 12]) .ret) .skip))) (.seq (.seq (.region [im 13 1, o1 14 (.lenK 13), o1 15 (.mv (kI 0))]) (.frame (rg [4, 7] 15 9) [] false (.join
 [.si 4] (.block 0 (.loop [.si 4, .si 15] (.seq (.region [o1 16 (.bin .lss 15 14)]) (.seq (.cond 16 .skip (.exit 0)) (.seq (.frame (rg [4, 7] 17 6) [] false (.join [.si 4] (.block 1
 (.seq (.region [o1 17 (.ixA 1 13 15), ld 18 17, ia 7 18]) (.seq (.region [im 19 0, im 20 7, oS ⟨some 21, .call "mergelens/dag.Is" [19, 20], none⟩ GL, o1 22 (.un .not 21)])
 (.cond 22 (.seq (.region [ia 4 (kI 5)]) .ret) .skip)))))) (.region [o1 23 (.bin .add 15 (kI 1)), im 15 23]))))))))) (.seq (.region [ia 4 (kI 0)]) .ret))))
def Aeu : AFn := ⟨ AaN, Aey.erase, [.tmp 4], 2⟩
def AeK (P : Pg) (x : ((List Commit) × (List Int))) (K : Int → Unit → Prop) : Prop :=
 Fn P AaJ DO x.1 (fun (d1 : Int) (e2 : Unit) => (((d1 != (0 : Int)) = true → K d1 ()) ∧ ((d1 != (0 : Int)) = false → Ai (D := Int) (fun J3 => Bl (D := (Int × Int)) ((0 : Int), (0 : Int)) (fun d5 J6 => (((decide (d5.2 < (x.2.length : Int))) = true → Ai (D := Int) (fun J7 => (0 ≤ d5.2 ∧ d5.2 < (x.2.length : Int)) ∧
 (d5.2.toNat < x.2.length) ∧
 Fn P "mergelens/dag.Is" GL (x.1, (List.getD x.2 d5.2.toNat (0 : Int))) (fun (d9 : Bool) (e10 : Unit) => (((!d9) = true → K (5 : Int) ()) ∧ ((!d9) = false → J7 d5.1)))) (fun d8 => J6 (d8, (i64.wrap (d5.2 + (1 : Int)))))) ∧ ((decide (d5.2 < (x.2.length : Int))) = false → J3 d5.1)))) (fun d4 => K (0 : Int) ()))))
theorem Ae4 {P : Pg} (h : Has P Aeu) {x : DP Aeo.ps} {K : DP Aeo.rs → DP (ptrs Aeo.ps) → Prop} (hw : AeK P x K) : Fn P AaN Aeo x K :=
 Cc (c := Aey) h rfl rfl (by kernel_rfl) (Eq.mpr (show Ca P Aeu Aeo Aey x K = _ by kernel_rfl) hw)
def Aet : Bw :=
 (.seq (.region [o1 4 (.asg (.c (.slice none 0 0)))]) (.seq (.region [im 10 0, o1 11 (.lenK 10), oT ⟨some 12, .mkSl 1 1 [(.bool false)] 11 11, none⟩ (some (.bool, .leaf)), ia 5 12])
 (.seq (.region [im 13 5, im 14 1, o1 15 (.ixA 1 13 14), o0 ⟨none, .store 1 15 kT, none⟩]) (.seq (.seq (.region [im 16 1, oT ⟨some 17, .buildSl 1 [(.int .i64 0)] 1 [(0, 16)], none⟩
 (some (bI, .leaf)), ia 6 17]) (.frame (rg [5, 6, 7, 9] 18 37) [] false (.join [.sl 5 false (.sl .bool) tO] (.block 0 (.loop [.sl 5 false (.sl .bool) tO, .sl 6 false (.sl bI) tO]
 (.seq (.seq (.region [im 18 6, o1 19 (.lenK 18), o1 20 (.bin .gtr 19 (kI 0))]) (.cond 20 .skip (.exit 0))) (.frame (rg [5, 6, 7, 9] 21 34) [] false (.join [.sl 5 false (.sl .bool)
 tO, .sl 6 false (.sl bI) tO] (.block 1 (.seq (.region [im 21 6, im 22 6, o1 23 (.lenK 22), o1 24 (.bin .sub 23 (kI 1)), o1 25 (.ixA 1 21 24), ld 26 25, ia 7 26]) (.seq (.region [im
 27 6, im 28 6, o1 29 (.lenK 28), o1 30 (.bin .sub 29 (kI 1)), o1 31 (.slK 1 27 none (some 30)), ia 6 31]) (.seq (.region [im 32 0, im 33 7, o1 34 (.ixA 3 32 33), fa 35 0 34, ld 36
 35, o1 37 (.lenK 36), o1 38 (.mv (kI 0))]) (.frame (rg [5, 6, 9] 38 17) [] false (.join [.sl 5 false (.sl .bool) tO, .sl 6 false (.sl bI) tO] (.block 2 (.loop [.sl 5 false (.sl
 .bool) tO, .sl 6 false (.sl bI) tO, .si 38] (.seq (.region [o1 39 (.bin .lss 38 37)]) (.seq (.cond 39 .skip (.exit 2)) (.seq (.frame (rg [5, 6, 9] 40 14) [] false (.join [.sl 5
 false (.sl .bool) tO, .sl 6 false (.sl bI) tO] (.block 3 (.seq (.region [o1 40 (.ixA 1 36 38), ld 41 40, ia 9 41]) (.seq (.region [im 42 5, im 43 9, o1 44 (.ixA 1 42 43), ld 45 44,
 o1 46 (.un .not 45)]) (.frame (rg [5, 6] 47 7) [] false (.join [.sl 5 false (.sl .bool) tO, .sl 6 false (.sl bI) tO] (.cond 46 (.seq (.region [im 47 5, im 48 9, o1 49 (.ixA 1 47
 48), o0 ⟨none, .store 1 49 kT, none⟩]) (.region [im 50 6, im 51 9, oT ⟨some 52, .buildSl 1 [(.int .i64 0)] 1 [(0, 51)], none⟩ (some (bI, .leaf)), oT ⟨some 53, .app 1 8 50 52, none⟩
 (some (bI, .leaf)), ia 6 53])) .skip)))))))) (.region [o1 54 (.bin .add 38 (kI 1)), im 38 54])))))))))))))))))))) (.seq (.region [im 55 5, ia 4 55]) .ret)))))
def Aer : AFn := ⟨ AaO, Aet.erase, [.tmp 4], 2⟩
def AeD (P : Pg) (x : ((List Commit) × Int)) (K : (List Bool) → Unit → Prop) : Prop :=
 (0 ≤ (x.1.length : Int) ∧ (x.1.length : Int) ≤ (x.1.length : Int) ∧ ((1 : Nat) : Int) * (x.1.length : Int) ≤ 281474976710656) ∧
 (0 ≤ x.2 ∧ x.2 < ((List.length (List.replicate (Int.toNat (x.1.length : Int)) false) : Nat) : Int)) ∧
 (x.2.toNat < List.length (List.replicate (Int.toNat (x.1.length : Int)) false)) ∧
 Ai (D := (List Bool)) (fun J1 => Bl (D := ((List Bool) × (List Int))) ((List.set (List.replicate (Int.toNat (x.1.length : Int)) false) x.2.toNat true), ([x.2] : List Int)) (fun d3 J4 => (((decide ((d3.2.length : Int) > (0 : Int))) = true → Ai (D := ((List Bool) × (List Int))) (fun J5 => (0 ≤ (i64.wrap ((d3.2.length : Int) - (1 : Int))) ∧ (i64.wrap ((d3.2.length : Int) - (1 : Int))) < (d3.2.length : Int)) ∧
 ((Int.toNat (i64.wrap ((d3.2.length : Int) - (1 : Int)))) < d3.2.length) ∧
 (0 ≤ (i64.wrap ((d3.2.length : Int) - (1 : Int))) ∧ (i64.wrap ((d3.2.length : Int) - (1 : Int))) ≤ (d3.2.length : Int)) ∧
 (0 + (Int.toNat (i64.wrap ((d3.2.length : Int) - (1 : Int)))) ≤ d3.2.length) ∧
 (0 ≤ (List.getD d3.2 (Int.toNat (i64.wrap ((d3.2.length : Int) - (1 : Int)))) (0 : Int)) ∧ (List.getD d3.2 (Int.toNat (i64.wrap ((d3.2.length : Int) - (1 : Int)))) (0 : Int)) < (x.1.length : Int)) ∧
 ((Int.toNat (List.getD d3.2 (Int.toNat (i64.wrap ((d3.2.length : Int) - (1 : Int)))) (0 : Int))) < x.1.length) ∧
 Ai (D := ((List Bool) × (List Int))) (fun J7 => Bl (D := ((List Bool) × ((List Int) × Int))) (d3.1, ((List.take (Int.toNat (i64.wrap ((d3.2.length : Int) - (1 : Int)))) (List.drop 0 d3.2)), (0 : Int))) (fun d9 J10 => (((decide (d9.2.2 < ((List.length (List.getD x.1 (Int.toNat (List.getD d3.2 (Int.toNat (i64.wrap ((d3.2.length : Int) - (1 : Int)))) (0 : Int))) Ak).1 : Nat) : Int))) = true → Ai (D := ((List Bool) × (List Int))) (fun J11 => (0 ≤ d9.2.2 ∧ d9.2.2 < ((List.length (List.getD x.1 (Int.toNat (List.getD d3.2 (Int.toNat (i64.wrap ((d3.2.length : Int) - (1 : Int)))) (0 : Int))) Ak).1 : Nat) : Int)) ∧
 (d9.2.2.toNat < List.length (List.getD x.1 (Int.toNat (List.getD d3.2 (Int.toNat (i64.wrap ((d3.2.length : Int) - (1 : Int)))) (0 : Int))) Ak).1) ∧
 (0 ≤ (List.getD (List.getD x.1 (Int.toNat (List.getD d3.2 (Int.toNat (i64.wrap ((d3.2.length : Int) - (1 : Int)))) (0 : Int))) Ak).1 d9.2.2.toNat (0 : Int)) ∧ (List.getD (List.getD x.1 (Int.toNat (List.getD d3.2 (Int.toNat (i64.wrap ((d3.2.length : Int) - (1 : Int)))) (0 : Int))) Ak).1 d9.2.2.toNat (0 : Int)) < (d9.1.length : Int)) ∧
 ((Int.toNat (List.getD (List.getD x.1 (Int.toNat (List.getD d3.2 (Int.toNat (i64.wrap ((d3.2.length : Int) - (1 : Int)))) (0 : Int))) Ak).1 d9.2.2.toNat (0 : Int))) < d9.1.length) ∧
 Ai (D := ((List Bool) × (List Int))) (fun J13 => (((!(List.getD d9.1 (Int.toNat (List.getD (List.getD x.1 (Int.toNat (List.getD d3.2 (Int.toNat (i64.wrap ((d3.2.length : Int) - (1 : Int)))) (0 : Int))) Ak).1 d9.2.2.toNat (0 : Int))) false)) = true → (0 ≤ (List.getD (List.getD x.1 (Int.toNat (List.getD d3.2 (Int.toNat (i64.wrap ((d3.2.length : Int) - (1 : Int)))) (0 : Int))) Ak).1 d9.2.2.toNat (0 : Int)) ∧ (List.getD (List.getD x.1 (Int.toNat (List.getD d3.2 (Int.toNat (i64.wrap ((d3.2.length : Int) - (1 : Int)))) (0 : Int))) Ak).1 d9.2.2.toNat (0 : Int)) < (d9.1.length : Int)) ∧
 ((Int.toNat (List.getD (List.getD x.1 (Int.toNat (List.getD d3.2 (Int.toNat (i64.wrap ((d3.2.length : Int) - (1 : Int)))) (0 : Int))) Ak).1 d9.2.2.toNat (0 : Int))) < d9.1.length) ∧
 ((d9.2.1.length + List.length ([(List.getD (List.getD x.1 (Int.toNat (List.getD d3.2 (Int.toNat (i64.wrap ((d3.2.length : Int) - (1 : Int)))) (0 : Int))) Ak).1 d9.2.2.toNat (0 : Int))] : List Int)) * 8 ≤ 140737488355328) ∧
 J13 ((List.set d9.1 (Int.toNat (List.getD (List.getD x.1 (Int.toNat (List.getD d3.2 (Int.toNat (i64.wrap ((d3.2.length : Int) - (1 : Int)))) (0 : Int))) Ak).1 d9.2.2.toNat (0 : Int))) true), (d9.2.1 ++ ([(List.getD (List.getD x.1 (Int.toNat (List.getD d3.2 (Int.toNat (i64.wrap ((d3.2.length : Int) - (1 : Int)))) (0 : Int))) Ak).1 d9.2.2.toNat (0 : Int))] : List Int)))) ∧ ((!(List.getD d9.1 (Int.toNat (List.getD (List.getD x.1 (Int.toNat (List.getD d3.2 (Int.toNat (i64.wrap ((d3.2.length : Int) - (1 : Int)))) (0 : Int))) Ak).1 d9.2.2.toNat (0 : Int))) false)) = false → J13 (d9.1, d9.2.1)))) (fun d14 => J11 d14)) (fun d12 => J10 (d12.1, (d12.2, (i64.wrap (d9.2.2 + (1 : Int))))))) ∧ ((decide (d9.2.2 < ((List.length (List.getD x.1 (Int.toNat (List.getD d3.2 (Int.toNat (i64.wrap ((d3.2.length : Int) - (1 : Int)))) (0 : Int))) Ak).1 : Nat) : Int))) = false → J7 (d9.1, d9.2.1))))) (fun d8 => J5 d8)) (fun d6 => J4 d6)) ∧ ((decide ((d3.2.length : Int) > (0 : Int))) = false → J1 d3.1)))) (fun d2 => K d2 ())
theorem AeO {P : Pg} (h : Has P Aer) {x : DP Aek.ps} {K : DP Aek.rs → DP (ptrs Aek.ps) → Prop} (hw : AeD P x K) : Fn P AaO Aek x K :=
 Cc (c := Aet) h rfl rfl (by kernel_rfl) (Eq.mpr (show Ca P Aer Aek Aet x K = _ by kernel_rfl) hw)
end Go.VS
