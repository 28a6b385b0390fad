/- Functions of the program: typed code, and what it says, lifted. -/
import Derived.Test.YtcaandgkdmidkaaKTxSig
import Derived.KernelRfl
set_option linter.unusedVariables false
set_option linter.unusedSimpArgs false
set_option maxRecDepth 8000
namespace Go.VS
open IntKind
def E1 : Bj :=
 (.seq (.region [o1 4 (.asg (.c (.string ⟨#[]⟩))), ia 5 (kI 0), o1 6 (.asg kF)]) (.seq (.seq (.region [im 11 1, o1 12 (.bin .lss 11 (kI 0)), im 13 12, gf 14 13 (.mv 1), gf 15 13
 (.mv 0), gf 16 13 (.Dk 15), gf 17 13 (.bin .geq 14 16), o1 18 (.pick 13 kT 17)]) (.cond 18 (.seq (.region [o1 4 (.asg (.c (.string ⟨#[]⟩))), ia 5 (kI 0), o1 6 (.asg kF)]) .ret)
 .skip)) (.seq (.region [im 19 1, ia 7 19]) (.seq (.seq (.region [im 20 0, im 21 1, o1 22 (.ixS 20 21), o1 23 (.bin .neq 22 (.c (.int .u8 34)))]) (.cond 23 (.seq (.frame (rg [7] 24
 12) [] false (.join [.si 7] (.block 0 (.loop [.si 7] (.seq (.seq (.region [im 24 7, im 25 0, o1 26 (.Dk 25), o1 27 (.bin .lss 24 26), im 28 27, gt 29 28 (.mv 0), gt 30 28 (.mv
 7), gt 31 28 (.ixS 29 30), oS ⟨some 32, .call Sy [31], some (28, true)⟩ Bu, o1 33 (.pick 28 32 kF)]) (.cond 33 .skip (.exit 0))) (.frame
 [7, 34, 35] [] false (.join [.si 7] (.block 1 (.region [im 34 7, o1 35 (.bin .add 34 (kI 1)), ia 7 35]))))))))) (.seq (.seq (.region [im 36 7, im 37 1, o1 38 (.bin .eql 36 37)])
 (.cond 38 (.seq (.region [o1 4 (.asg (.c (.string ⟨#[]⟩))), ia 5 (kI 0), o1 6 (.asg kF)]) .ret) .skip)) (.seq (.region [im 39 0, im 40 1, im 41 7, o1 42 (.slS 39 (some 40) (some
 41)), im 43 7, ia 4 42, ia 5 43, o1 6 (.asg kT)]) .ret))) .skip)) (.seq (.region [o1 8 (.asg (.c (.slice none 0 0)))]) (.seq (.region [im 44 7, o1 45 (.bin .add 44 (kI 1)), ia 7
 45]) (.seq (.frame (rg [4, 5, 6, 7, 8, 9, 10] 46 72) [] false (.join [.sl 4 false .str .leaf, .si 5, .sl 6 false .bool .leaf, .si 7, .sl 8 false (.sl (.int .u8)) tO] (.block 2
 (.loop [.sl 4 false .str .leaf, .si 5, .sl 6 false .bool .leaf, .si 7, .sl 8 false (.sl (.int .u8)) tO] (.seq (.seq (.region [im 46 7, im 47 0, o1 48 (.Dk 47), o1 49 (.bin .lss
 46 48), im 50 49, gt 51 50 (.mv 0), gt 52 50 (.mv 7), gt 53 50 (.ixS 51 52), gt 54 50 (.bin .neq 53 (.c (.int .u8 34))), o1 55 (.pick 50 54 kF)]) (.cond 55 .skip (.exit 2)))
 (.frame (rg [4, 5, 6, 7, 8, 9, 10] 56 62) [] false (.join [.sl 4 false .str .leaf, .si 5, .sl 6 false .bool .leaf, .si 7, .sl 8 false (.sl (.int .u8)) tO] (.block 3 (.seq (.seq
 (.region [im 56 0, im 57 7, o1 58 (.ixS 56 57), o1 59 (.bin .neq 58 (.c (.int .u8 92)))]) (.cond 59 (.seq (.region [im 60 8, im 61 0, im 62 7, o1 63 (.ixS 61 62), oT ⟨some 64,
 .buildSl 1 [(.int .u8 0)] 1 [(0, 63)], none⟩ (some ((.int .u8), .leaf)), oT ⟨some 65, .app 1 1 60 64, none⟩ (some ((.int .u8), .leaf)), ia 8 65]) (.seq (.region [im 66 7, o1 67
 (.bin .add 66 (kI 1)), ia 7 67]) (.exit 3))) .skip)) (.seq (.seq (.region [im 68 7, o1 69 (.bin .add 68 (kI 1)), im 70 0, o1 71 (.Dk 70), o1 72 (.bin .eql 69 71)]) (.cond 72
 (.seq (.region [o1 4 (.asg (.c (.string ⟨#[]⟩))), ia 5 (kI 0), o1 6 (.asg kF)]) .ret) .skip)) (.seq (.region [im 73 0, im 74 7, o1 75 (.bin .add 74 (kI 1)), o1 76 (.ixS 73 75)])
 (.frame (rg [4, 5, 6, 7, 8, 9, 10] 77 41) [] false (.join [.sl 4 false .str .leaf, .si 5, .sl 6 false .bool .leaf, .si 7, .sl 8 false (.sl (.int .u8)) tO] (.block 4 (.seq (.seq
 (.region [o1 93 (.bin .eql 76 (.c (.int .u8 34))), ia 92 93]) (.frame [92, 94] [] false (.join [.sl 92 false .bool .leaf] (.cond 92 .skip (.region [o1 94 (.bin .eql 76 (.c (.int
 .u8 92))), ia 92 94]))))) (.frame (rg [4, 5, 6, 7, 8, 9, 10, 77, 78, 79, 80, 81, 82, 83, 84, 85, 86, 87, 88, 89, 90, 91] 95 23) [] false (.join [.sl 4 false .str .leaf, .si 5, .sl
 6 false .bool .leaf, .si 7, .sl 8 false (.sl (.int .u8)) tO] (.cond 92 (.seq (.region [im 95 8, im 96 0, im 97 7, o1 98 (.bin .add 97 (kI 1)), o1 99 (.ixS 96 98), oT ⟨some 100,
 .buildSl 1 [(.int .u8 0)] 1 [(0, 99)], none⟩ (some ((.int .u8), .leaf)), oT ⟨some 101, .app 1 1 95 100, none⟩ (some ((.int .u8), .leaf)), ia 8 101]) (.region [im 102 7, o1 103
 (.bin .add 102 (kI 2)), ia 7 103])) (.seq (.region [o1 105 (.bin .eql 76 (.c (.int .u8 110))), ia 104 105]) (.frame (rg [4, 5, 6, 7, 8, 9, 10, 77, 78, 79, 80, 81, 82, 83, 84, 85,
 86, 87, 88, 89, 90, 91] 106 12) [] false (.join [.sl 4 false .str .leaf, .si 5, .sl 6 false .bool .leaf, .si 7, .sl 8 false (.sl (.int .u8)) tO] (.cond 104 (.seq (.region [im 106
 8, oT ⟨some 107, .buildSl 1 [(.int .u8 0)] 1 [(0, (.c (.int .u8 10)))], none⟩ (some ((.int .u8), .leaf)), oT ⟨some 108, .app 1 1 106 107, none⟩ (some ((.int .u8), .leaf)), ia 8
 108]) (.region [im 109 7, o1 110 (.bin .add 109 (kI 2)), ia 7 110])) (.seq (.region [o1 112 (.bin .eql 76 (.c (.int .u8 116))), ia 111 112]) (.frame (rg [4, 5, 6, 7, 8, 9, 10, 77,
 78, 79, 80, 81, 82, 83, 84, 85, 86, 87, 88, 89, 90, 91] 113 5) [] false (.join [.sl 4 false .str .leaf, .si 5, .sl 6 false .bool .leaf, .si 7, .sl 8 false (.sl (.int .u8)) tO]
 (.cond 111 (.seq (.region [im 113 8, oT ⟨some 114, .buildSl 1 [(.int .u8 0)] 1 [(0, (.c (.int .u8 9)))], none⟩ (some ((.int .u8), .leaf)), oT ⟨some 115, .app 1 1 113 114, none⟩
 (some ((.int .u8), .leaf)), ia 8 115]) (.region [im 116 7, o1 117 (.bin .add 116 (kI 2)), ia 7 117])) (.seq (.region [im 78 0, im 79 7, o1 80 (.bin .add 79 (kI 1)), oS ⟨some 81,
 .call Wj [78, 80], none⟩ B4, im 77 81, o1 82 (.ext 77 0), o1 83 (.ext 77 1), ia 9 82, ia 10 83]) (.seq (.seq (.region [im 84 10, o1 85 (.un
 .not 84)]) (.cond 85 (.seq (.region [o1 4 (.asg (.c (.string ⟨#[]⟩))), ia 5 (kI 0), o1 6 (.asg kF)]) .ret) .skip)) (.seq (.region [im 86 8, im 87 9, oT ⟨some 88, .buildSl 1 [(.int
 .u8 0)] 1 [(0, 87)], none⟩ (some ((.int .u8), .leaf)), oT ⟨some 89, .app 1 1 86 88, none⟩ (some ((.int .u8), .leaf)), ia 8 89]) (.region [im 90 7, o1 91 (.bin .add 90 (kI 4)), ia 7
 91])))))))))))))))))))))))))))))) (.seq (.seq (.frame (rg [] 118 15) [] false (.join [.sl 132 false .bool .leaf] (.draw [(.first (im 118 7) (.first (im 119 0) (.first (o1 120
 (.Dk 119)) (.first (o1 121 (.bin .geq 118 120)) (.first (im 122 121) (.first (gf 123 122 (.mv 8)) (.first (gf 124 122 (.conv .bytesToStr 123)) (.first (gf 126 122 (.mv 0))
 (.first (gf 127 122 (.mv 1)) (.first (gf 128 122 (.mv 7)) (.first (gf 129 122 (.bin .add 128 (kI 1))) (.first (gf 130 122 (.slS 126 (some 127) (some 129))) (.alt (oS ⟨some 125,
 .call Rp [124], some (122, false)⟩ Bi) (.first (gf 131 122 (.bin .neq 125 130)) (.first (o1 132 (.pick 122 kT 131)) .done))
 .stop)))))))))))))]))) (.cond 132 (.seq (.region [o1 4 (.asg (.c (.string ⟨#[]⟩))), ia 5 (kI 0), o1 6 (.asg kF)]) .ret) .skip)) (.seq (.region [im 133 8, o1 134 (.conv .bytesToStr
 133), im 135 7, o1 136 (.bin .add 135 (kI 1)), ia 4 134, ia 5 136, o1 6 (.asg kT)]) .ret)))))))))
def DG : AFn := ⟨ Wm, E1.erase, [.tmp 4, .tmp 5, .tmp 6], 2⟩
def Hl (P : Pg) (x : ((List UInt8) × Int)) (K : ((List UInt8) × (Int × Bool)) → Unit → Prop) : Prop :=
 (((cond (decide (x.2 < (0 : Int))) true (decide (x.2 ≥ (x.1.length : Int)))) = true → K (([] : List UInt8), ((0 : Int), false)) ()) ∧ ((cond (decide (x.2 < (0 : Int))) true (decide (x.2 ≥ (x.1.length : Int)))) = false → (0 ≤ x.2 ∧ x.2 < (x.1.length : Int)) ∧
 (((((x.1.getD x.2.toNat 0).toNat : Int) != (34 : Int)) = true → Ai (D := Int) (fun J1 => BP (D := Int) x.2 (fun d3 J4 => (((decide (d3 < (x.1.length : Int))) = true → 0 ≤ d3 ∧ d3 < (x.1.length : Int))) ∧
 Ai (D := Bool) (fun J5 => (((decide (d3 < (x.1.length : Int))) = true → Fn P Sy Bu ((x.1.getD d3.toNat 0).toNat : Int) (fun (d6 : Bool) _ => J5 d6)) ∧ (((decide (d3 < (x.1.length : Int))) = false → J5 false) ∧ True))) (fun d7 => (((cond (decide (d3 < (x.1.length : Int))) d7 false) = true → Ai (D := Int) (fun J8 => J8 (i64.wrap (d3 + (1 : Int)))) (fun d9 => J4 d9)) ∧ ((cond (decide (d3 < (x.1.length : Int))) d7 false) = false → J1 d3))))) (fun d2 => (((d2 == x.2) = true → K (([] : List UInt8), ((0 : Int), false)) ()) ∧ ((d2 == x.2) = false → (0 ≤ x.2 ∧ x.2 ≤ d2 ∧ d2 ≤ (x.1.length : Int)) ∧
 K ((List.drop x.2.toNat (List.take d2.toNat x.1)), (d2, true)) ())))) ∧ ((((x.1.getD x.2.toNat 0).toNat : Int) != (34 : Int)) = false → Ai (D := ((List UInt8) × (Int × (Bool × (Int × (List Int)))))) (fun J10 => BP (D := ((List UInt8) × (Int × (Bool × (Int × (List Int)))))) (([] : List UInt8), ((0 : Int), (false, ((i64.wrap (x.2 + (1 : Int))), [])))) (fun d12 J13 => (((decide (d12.2.2.2.1 < (x.1.length : Int))) = true → 0 ≤ d12.2.2.2.1 ∧ d12.2.2.2.1 < (x.1.length : Int))) ∧
 (((cond (decide (d12.2.2.2.1 < (x.1.length : Int))) (((x.1.getD d12.2.2.2.1.toNat 0).toNat : Int) != (34 : Int)) false) = true → Ai (D := ((List UInt8) × (Int × (Bool × (Int × (List Int)))))) (fun J14 => (0 ≤ d12.2.2.2.1 ∧ d12.2.2.2.1 < (x.1.length : Int)) ∧
 (((((x.1.getD d12.2.2.2.1.toNat 0).toNat : Int) != (92 : Int)) = true → (0 ≤ d12.2.2.2.1 ∧ d12.2.2.2.1 < (x.1.length : Int)) ∧
 ((d12.2.2.2.2.length + List.length ([((x.1.getD d12.2.2.2.1.toNat 0).toNat : Int)] : List Int)) * 1 ≤ 140737488355328) ∧
 J14 (d12.1, (d12.2.1, (d12.2.2.1, ((i64.wrap (d12.2.2.2.1 + (1 : Int))), (d12.2.2.2.2 ++ ([((x.1.getD d12.2.2.2.1.toNat 0).toNat : Int)] : List Int))))))) ∧ ((((x.1.getD d12.2.2.2.1.toNat 0).toNat : Int) != (92 : Int)) = false → ((((i64.wrap (d12.2.2.2.1 + (1 : Int))) == (x.1.length : Int)) = true → K (([] : List UInt8), ((0 : Int), false)) ()) ∧ (((i64.wrap (d12.2.2.2.1 + (1 : Int))) == (x.1.length : Int)) = false → (0 ≤ (i64.wrap (d12.2.2.2.1 + (1 : Int))) ∧ (i64.wrap (d12.2.2.2.1 + (1 : Int))) < (x.1.length : Int)) ∧
 Ai (D := ((List UInt8) × (Int × (Bool × (Int × (List Int)))))) (fun J16 => Ai (D := Bool) (fun J18 => (((((UInt8.toNat (List.getD x.1 (Int.toNat (i64.wrap (d12.2.2.2.1 + (1 : Int)))) 0) : Nat) : Int) == (34 : Int)) = true → J18 (((UInt8.toNat (List.getD x.1 (Int.toNat (i64.wrap (d12.2.2.2.1 + (1 : Int)))) 0) : Nat) : Int) == (34 : Int))) ∧ ((((UInt8.toNat (List.getD x.1 (Int.toNat (i64.wrap (d12.2.2.2.1 + (1 : Int)))) 0) : Nat) : Int) == (34 : Int)) = false → J18 (((UInt8.toNat (List.getD x.1 (Int.toNat (i64.wrap (d12.2.2.2.1 + (1 : Int)))) 0) : Nat) : Int) == (92 : Int))))) (fun d19 => Ai (D := ((List UInt8) × (Int × (Bool × (Int × (List Int)))))) (fun J20 => ((d19 = true → (0 ≤ (i64.wrap (d12.2.2.2.1 + (1 : Int))) ∧ (i64.wrap (d12.2.2.2.1 + (1 : Int))) < (x.1.length : Int)) ∧
 ((d12.2.2.2.2.length + List.length ([((UInt8.toNat (List.getD x.1 (Int.toNat (i64.wrap (d12.2.2.2.1 + (1 : Int)))) 0) : Nat) : Int)] : List Int)) * 1 ≤ 140737488355328) ∧
 J20 (d12.1, (d12.2.1, (d12.2.2.1, ((i64.wrap (d12.2.2.2.1 + (2 : Int))), (d12.2.2.2.2 ++ ([((UInt8.toNat (List.getD x.1 (Int.toNat (i64.wrap (d12.2.2.2.1 + (1 : Int)))) 0) : Nat) : Int)] : List Int))))))) ∧ (d19 = false → Ai (D := ((List UInt8) × (Int × (Bool × (Int × (List Int)))))) (fun J22 => (((((UInt8.toNat (List.getD x.1 (Int.toNat (i64.wrap (d12.2.2.2.1 + (1 : Int)))) 0) : Nat) : Int) == (110 : Int)) = true → ((d12.2.2.2.2.length + List.length ([(10 : Int)] : List Int)) * 1 ≤ 140737488355328) ∧
 J22 (d12.1, (d12.2.1, (d12.2.2.1, ((i64.wrap (d12.2.2.2.1 + (2 : Int))), (d12.2.2.2.2 ++ ([(10 : Int)] : List Int))))))) ∧ ((((UInt8.toNat (List.getD x.1 (Int.toNat (i64.wrap (d12.2.2.2.1 + (1 : Int)))) 0) : Nat) : Int) == (110 : Int)) = false → Ai (D := ((List UInt8) × (Int × (Bool × (Int × (List Int)))))) (fun J24 => (((((UInt8.toNat (List.getD x.1 (Int.toNat (i64.wrap (d12.2.2.2.1 + (1 : Int)))) 0) : Nat) : Int) == (116 : Int)) = true → ((d12.2.2.2.2.length + List.length ([(9 : Int)] : List Int)) * 1 ≤ 140737488355328) ∧
 J24 (d12.1, (d12.2.1, (d12.2.2.1, ((i64.wrap (d12.2.2.2.1 + (2 : Int))), (d12.2.2.2.2 ++ ([(9 : Int)] : List Int))))))) ∧ ((((UInt8.toNat (List.getD x.1 (Int.toNat (i64.wrap (d12.2.2.2.1 + (1 : Int)))) 0) : Nat) : Int) == (116 : Int)) = false → Fn P Wj B4 (x.1, (i64.wrap (d12.2.2.2.1 + (1 : Int)))) (fun (d26 : (Int × Bool)) (e27 : Unit) => (((!d26.2) = true → K (([] : List UInt8), ((0 : Int), false)) ()) ∧ ((!d26.2) = false → ((d12.2.2.2.2.length + List.length ([d26.1] : List Int)) * 1 ≤ 140737488355328) ∧
 J24 (d12.1, (d12.2.1, (d12.2.2.1, ((i64.wrap (d12.2.2.2.1 + (4 : Int))), (d12.2.2.2.2 ++ ([d26.1] : List Int)))))))))))) (fun d25 => J22 d25)))) (fun d23 => J20 d23)))) (fun d21 => J16 d21))) (fun d17 => J14 d17)))))) (fun d15 => J13 d15)) ∧ ((cond (decide (d12.2.2.2.1 < (x.1.length : Int))) (((x.1.getD d12.2.2.2.1.toNat 0).toNat : Int) != (34 : Int)) false) = false → J10 d12)))) (fun d11 => Ai (D := Bool) (fun J28 => (((decide (d11.2.2.2.1 ≥ (x.1.length : Int))) = false → 0 ≤ x.2 ∧ x.2 ≤ (i64.wrap (d11.2.2.2.1 + (1 : Int))) ∧ (i64.wrap (d11.2.2.2.1 + (1 : Int))) ≤ (x.1.length : Int))) ∧
 (Ai (D := (List UInt8)) (fun J30 => (((decide (d11.2.2.2.1 ≥ (x.1.length : Int))) = false → Fn P Rp Bi (strOf d11.2.2.2.2) (fun (d31 : (List UInt8)) _ => J30 d31)) ∧ (((decide (d11.2.2.2.1 ≥ (x.1.length : Int))) = true → J30 []) ∧ True))) (fun d32 => J28 (cond (decide (d11.2.2.2.1 ≥ (x.1.length : Int))) true (!(d32 == (List.drop x.2.toNat (List.take (Int.toNat (i64.wrap (d11.2.2.2.1 + (1 : Int)))) x.1))))))) ∧ True) (fun d29 => ((d29 = true → K (([] : List UInt8), ((0 : Int), false)) ()) ∧ (d29 = false → K ((strOf d11.2.2.2.2), ((i64.wrap (d11.2.2.2.1 + (1 : Int))), true)) ()))))))))
theorem K4 {P : Pg} (h : Has P DG) {x : DP BF.ps} {K : DP BF.rs → DP (ptrs BF.ps) → Prop} (hw : Hl P x K) : Fn P Wm BF x K :=
 Cd (c := E1) h rfl rfl (by kernel_rfl) (Eq.mpr (show B9 P DG BF E1 x K = _ by kernel_rfl) hw)
def Gw : Bj :=
 (.seq (.region [o1 2 (.asg (.c (.slice none 0 0))), o1 3 (.asg kF)]) (.seq (.region [o1 4 (.asg (.c (.slice none 0 0)))]) (.seq (.region [ia 5 (kI 0)]) (.seq (.frame (rg [] 2 40)
 [] false (.join [.sl 2 false (.sl .str) tO, .sl 3 false .bool .leaf] (.block 0 (.loop [.sl 2 false (.sl .str) tO, .sl 3 false .bool .leaf, .sl 4 false (.sl .str) tO, .si 5] (.seq
 (.seq (.region [im 9 5, im 10 0, o1 11 (.Dk 10), o1 12 (.bin .lss 9 11), im 13 12, gf 14 13 (.mv 4), gf 15 13 (.lenK 14), gf 16 13 (.bin .gtr 15 (kI 0)), o1 17 (.pick 13 kT 16)])
 (.cond 17 .skip (.exit 0))) (.frame (rg [2, 3, 4, 5, 6, 7, 8] 18 24) [] false (.join [.sl 2 false (.sl .str) tO, .sl 3 false .bool .leaf, .sl 4 false (.sl .str) tO, .si 5] (.block
 1 (.seq (.region [im 19 0, im 20 5, oS ⟨some 21, .call Wm [19, 20], none⟩ BF, im 18 21, o1 22 (.ext 18 0), o1 23 (.ext 18 1), o1 24
 (.ext 18 2), ia 6 22, ia 7 23, ia 8 24]) (.seq (.seq (.region [im 25 8, o1 26 (.un .not 25)]) (.cond 26 (.seq (.region [o1 2 (.asg (.c (.slice none 0 0))), o1 3 (.asg kF)]) .ret)
 .skip)) (.seq (.region [im 27 4, im 28 6, oT ⟨some 29, .buildSl 1 [(.string ⟨#[]⟩)] 1 [(0, 28)], none⟩ (some (.str, .leaf)), oT ⟨some 30, .app 1 16 27 29, none⟩ (some (.str,
 .leaf)), ia 4 30]) (.seq (.seq (.region [im 31 7, im 32 0, o1 33 (.Dk 32), o1 34 (.bin .eql 31 33)]) (.cond 34 (.seq (.region [im 35 4, ia 2 35, o1 3 (.asg kT)]) .ret) .skip))
 (.seq (.seq (.region [im 36 0, im 37 7, o1 38 (.ixS 36 37), o1 39 (.bin .neq 38 (.c (.int .u8 32)))]) (.cond 39 (.seq (.region [o1 2 (.asg (.c (.slice none 0 0))), o1 3 (.asg kF)])
 .ret) .skip)) (.region [im 40 7, o1 41 (.bin .add 40 (kI 1)), ia 5 41])))))))))))))) (.seq (.region [o1 2 (.asg (.c (.slice none 0 0))), o1 3 (.asg kT)]) .ret)))))
def EC : AFn := ⟨ Wn, Gw.erase, [.tmp 2, .tmp 3], 1⟩
def IY (P : Pg) (x : (List UInt8)) (K : ((List (List UInt8)) × Bool) → Unit → Prop) : Prop :=
 Ai (D := ((List (List UInt8)) × Bool)) (fun J1 => BP (D := ((List (List UInt8)) × (Bool × ((List (List UInt8)) × Int)))) ([], (false, ([], (0 : Int)))) (fun d3 J4 => (((cond (decide (d3.2.2.2 < (x.length : Int))) true (decide ((d3.2.2.1.length : Int) > (0 : Int)))) = true → Ai (D := ((List (List UInt8)) × (Bool × ((List (List UInt8)) × Int)))) (fun J5 => Fn P Wm BF (x, d3.2.2.2) (fun (d7 : ((List UInt8) × (Int × Bool))) (e8 : Unit) => (((!d7.2.2) = true → K ([], false) ()) ∧ ((!d7.2.2) = false → ((d3.2.2.1.length + List.length ([d7.1] : List (List UInt8))) * 16 ≤ 140737488355328) ∧
 (((d7.2.1 == (x.length : Int)) = true → K ((d3.2.2.1 ++ ([d7.1] : List (List UInt8))), true) ()) ∧ ((d7.2.1 == (x.length : Int)) = false → (0 ≤ d7.2.1 ∧ d7.2.1 < (x.length : Int)) ∧
 (((((x.getD d7.2.1.toNat 0).toNat : Int) != (32 : Int)) = true → K ([], false) ()) ∧ ((((x.getD d7.2.1.toNat 0).toNat : Int) != (32 : Int)) = false → J5 (d3.1, (d3.2.1, ((d3.2.2.1 ++ ([d7.1] : List (List UInt8))), (i64.wrap (d7.2.1 + (1 : Int)))))))))))))) (fun d6 => J4 d6)) ∧ ((cond (decide (d3.2.2.2 < (x.length : Int))) true (decide ((d3.2.2.1.length : Int) > (0 : Int)))) = false → J1 (d3.1, d3.2.1))))) (fun d2 => K ([], true) ())
theorem MF {P : Pg} (h : Has P EC) {x : DP B3.ps} {K : DP B3.rs → DP (ptrs B3.ps) → Prop} (hw : IY P x K) : Fn P Wn B3 x K :=
 Cd (c := Gw) h rfl rfl (by kernel_rfl) (Eq.mpr (show B9 P EC B3 Gw x K = _ by kernel_rfl) hw)
def Hb : Bj :=
 (.seq (.region [ia 2 (kI 0), o1 3 (.asg kF)]) (.seq (.seq (.region [ia 4 (kI 1)]) (.frame (rg [] 2 18) [] false (.join [.si 2, .sl 3 false .bool .leaf] (.block 0 (.loop [.si 2, .sl
 3 false .bool .leaf, .si 4] (.seq (.seq (.region [im 7 4, o1 8 (.bin .leq 7 (kI 9))]) (.cond 8 .skip (.exit 0))) (.seq (.frame (rg [2, 3, 5, 6] 11 9) [] false (.join [.si 2, .sl 3
 false .bool .leaf] (.block 1 (.seq (.region [im 12 4, oS ⟨some 13, .call zS3 [12, kF], none⟩ AZ, im 11 13, o1 14 (.ext 11 0), o1 15 (.ext 11
 1), ia 5 14, ia 6 15]) (.seq (.region [im 16 5, im 17 0, o1 18 (.bin .eql 16 17)]) (.cond 18 (.seq (.region [im 19 4, ia 2 19, o1 3 (.asg kF)]) .ret) .skip)))))) (.region [im 9 4,
 o1 10 (.bin .add 9 (kI 1)), ia 4 10])))))))) (.seq (.seq (.region [im 20 0, o1 21 (.bin .eql 20 (.c (.string ⟨#[99, 99]⟩)))]) (.cond 21 (.seq (.region [ia 2 (kI 4), o1 3 (.asg
 kT)]) .ret) .skip)) (.seq (.region [ia 2 (kI 0), o1 3 (.asg kF)]) .ret))))
def E9 : AFn := ⟨ UL, Hb.erase, [.tmp 2, .tmp 3], 1⟩
def JH (P : Pg) (x : (List UInt8)) (K : (Int × Bool) → Unit → Prop) : Prop :=
 Ai (D := (Int × Bool)) (fun J1 => BP (D := (Int × (Bool × Int))) ((0 : Int), (false, (1 : Int))) (fun d3 J4 => (((decide (d3.2.2 ≤ (9 : Int))) = true → Ai (D := (Int × Bool)) (fun J5 => Fn P zS3 AZ (d3.2.2, false) (fun (d7 : ((List UInt8) × (List UInt8))) (e8 : Unit) => (((d7.1 == x) = true → K (d3.2.2, false) ()) ∧ ((d7.1 == x) = false → J5 (d3.1, d3.2.1))))) (fun d6 => J4 (d6.1, (d6.2, (i64.wrap (d3.2.2 + (1 : Int))))))) ∧ ((decide (d3.2.2 ≤ (9 : Int))) = false → J1 (d3.1, d3.2.1))))) (fun d2 => (((x == ([99, 99] : List UInt8)) = true → K ((4 : Int), true) ()) ∧ ((x == ([99, 99] : List UInt8)) = false → K ((0 : Int), false) ())))
theorem NS {P : Pg} (h : Has P E9) {x : DP B0.ps} {K : DP B0.rs → DP (ptrs B0.ps) → Prop} (hw : JH P x K) : Fn P UL B0 x K :=
 Cd (c := Hb) h rfl rfl (by kernel_rfl) (Eq.mpr (show B9 P E9 B0 Hb x K = _ by kernel_rfl) hw)
def FW : Bj :=
 (.seq (.region [ia 4 (kI 0), ia 5 (kI 0), o1 6 (.asg kF)]) (.seq (.seq (.region [im 9 1, o1 10 (.bin .lss 9 (kI 0)), im 11 10, gf 12 11 (.mv 1), gf 13 11 (.mv 0), gf 14 11 (.Dk
 13), gf 15 11 (.bin .gtr 12 14), o1 16 (.pick 11 kT 15)]) (.cond 16 (.seq (.region [ia 4 (kI 0), ia 5 (kI 0), o1 6 (.asg kF)]) .ret) .skip)) (.seq (.region [im 17 1, ia 7 (kI 0),
 ia 8 17]) (.seq (.frame (rg [4, 5, 6, 7, 8] 18 37) [] false (.join [.si 4, .si 5, .sl 6 false .bool .leaf, .si 7, .si 8] (.block 0 (.loop [.si 4, .si 5, .sl 6 false .bool .leaf,
 .si 7, .si 8] (.seq (.seq (.region [im 18 8, im 19 0, o1 20 (.Dk 19), o1 21 (.bin .lss 18 20), im 22 21, gt 23 22 (.mv 0), gt 24 22 (.mv 8), gt 25 22 (.ixS 23 24), gt 26 22 (.bin
 .geq 25 (.c (.int .u8 48))), o1 27 (.pick 22 26 kF), im 28 27, gt 29 28 (.mv 0), gt 30 28 (.mv 8), gt 31 28 (.ixS 29 30), gt 32 28 (.bin .leq 31 (.c (.int .u8 57))), o1 33 (.pick
 28 32 kF)]) (.cond 33 .skip (.exit 0))) (.frame (rg [4, 5, 6, 7, 8] 34 21) [] false (.join [.si 4, .si 5, .sl 6 false .bool .leaf, .si 7, .si 8] (.block 1 (.seq (.seq (.region [im
 34 8, im 35 1, o1 36 (.bin .gtr 34 35), im 37 36, gt 38 37 (.mv 0), gt 39 37 (.mv 1), gt 40 37 (.ixS 38 39), gt 41 37 (.bin .eql 40 (.c (.int .u8 48))), o1 42 (.pick 37 41 kF)])
 (.cond 42 (.seq (.region [ia 4 (kI 0), ia 5 (kI 0), o1 6 (.asg kF)]) .ret) .skip)) (.seq (.region [im 43 7, o1 44 (.bin .mul (kI 10) 43), im 45 0, im 46 8, o1 47 (.ixS 45 46), o1
 48 (.bin .sub 47 (.c (.int .u8 48))), o1 49 (.conv (.toInt .i64) 48), o1 50 (.bin .add 44 49), ia 7 50]) (.seq (.seq (.region [im 51 7, o1 52 (.bin .gtr 51 (kI 2147483647))])
 (.cond 52 (.seq (.region [ia 4 (kI 0), ia 5 (kI 0), o1 6 (.asg kF)]) .ret) .skip)) (.region [im 53 8, o1 54 (.bin .add 53 (kI 1)), ia 8 54])))))))))))) (.seq (.seq (.region [im 55
 8, im 56 1, o1 57 (.bin .eql 55 56)]) (.cond 57 (.seq (.region [ia 4 (kI 0), ia 5 (kI 0), o1 6 (.asg kF)]) .ret) .skip)) (.seq (.region [im 58 7, im 59 8, ia 4 58, ia 5 59, o1 6
 (.asg kT)]) .ret))))))
def DZ : AFn := ⟨ UM, FW.erase, [.tmp 4, .tmp 5, .tmp 6], 2⟩
def HB (P : Pg) (x : ((List UInt8) × Int)) (K : (Int × (Int × Bool)) → Unit → Prop) : Prop :=
 (((cond (decide (x.2 < (0 : Int))) true (decide (x.2 > (x.1.length : Int)))) = true → K ((0 : Int), ((0 : Int), false)) ()) ∧ ((cond (decide (x.2 < (0 : Int))) true (decide (x.2 > (x.1.length : Int)))) = false → Ai (D := (Int × (Int × (Bool × (Int × Int))))) (fun J1 => BP (D := (Int × (Int × (Bool × (Int × Int))))) ((0 : Int), ((0 : Int), (false, ((0 : Int), x.2)))) (fun d3 J4 => (((decide (d3.2.2.2.2 < (x.1.length : Int))) = true → 0 ≤ d3.2.2.2.2 ∧ d3.2.2.2.2 < (x.1.length : Int))) ∧
 (((cond (decide (d3.2.2.2.2 < (x.1.length : Int))) (decide (((x.1.getD d3.2.2.2.2.toNat 0).toNat : Int) ≥ (48 : Int))) false) = true → 0 ≤ d3.2.2.2.2 ∧ d3.2.2.2.2 < (x.1.length : Int))) ∧
 (((cond (cond (decide (d3.2.2.2.2 < (x.1.length : Int))) (decide (((x.1.getD d3.2.2.2.2.toNat 0).toNat : Int) ≥ (48 : Int))) false) (decide (((x.1.getD d3.2.2.2.2.toNat 0).toNat : Int) ≤ (57 : Int))) false) = true → Ai (D := (Int × (Int × (Bool × (Int × Int))))) (fun J5 => (((decide (d3.2.2.2.2 > x.2)) = true → 0 ≤ x.2 ∧ x.2 < (x.1.length : Int))) ∧
 (((cond (decide (d3.2.2.2.2 > x.2)) (((x.1.getD x.2.toNat 0).toNat : Int) == (48 : Int)) false) = true → K ((0 : Int), ((0 : Int), false)) ()) ∧ ((cond (decide (d3.2.2.2.2 > x.2)) (((x.1.getD x.2.toNat 0).toNat : Int) == (48 : Int)) false) = false → (0 ≤ d3.2.2.2.2 ∧ d3.2.2.2.2 < (x.1.length : Int)) ∧
 (((decide ((i64.wrap ((i64.wrap ((10 : Int) * d3.2.2.2.1)) + (i64.wrap (u8.wrap (((x.1.getD d3.2.2.2.2.toNat 0).toNat : Int) - (48 : Int)))))) > (2147483647 : Int))) = true → K ((0 : Int), ((0 : Int), false)) ()) ∧ ((decide ((i64.wrap ((i64.wrap ((10 : Int) * d3.2.2.2.1)) + (i64.wrap (u8.wrap (((x.1.getD d3.2.2.2.2.toNat 0).toNat : Int) - (48 : Int)))))) > (2147483647 : Int))) = false → J5 (d3.1, (d3.2.1, (d3.2.2.1, ((i64.wrap ((i64.wrap ((10 : Int) * d3.2.2.2.1)) + (i64.wrap (u8.wrap (((x.1.getD d3.2.2.2.2.toNat 0).toNat : Int) - (48 : Int)))))), (i64.wrap (d3.2.2.2.2 + (1 : Int)))))))))))) (fun d6 => J4 d6)) ∧ ((cond (cond (decide (d3.2.2.2.2 < (x.1.length : Int))) (decide (((x.1.getD d3.2.2.2.2.toNat 0).toNat : Int) ≥ (48 : Int))) false) (decide (((x.1.getD d3.2.2.2.2.toNat 0).toNat : Int) ≤ (57 : Int))) false) = false → J1 d3)))) (fun d2 => (((d2.2.2.2.2 == x.2) = true → K ((0 : Int), ((0 : Int), false)) ()) ∧ ((d2.2.2.2.2 == x.2) = false → K (d2.2.2.2.1, (d2.2.2.2.2, true)) ())))))
theorem LM {P : Pg} (h : Has P DZ) {x : DP Bw.ps} {K : DP Bw.rs → DP (ptrs Bw.ps) → Prop} (hw : HB P x K) : Fn P UM Bw x K :=
 Cd (c := FW) h rfl rfl (by kernel_rfl) (Eq.mpr (show B9 P DZ Bw FW x K = _ by kernel_rfl) hw)
def Gy : Bj :=
 (.seq (.region [o1 2 (.alloc [(.int .i64 0), (.int .i64 0), (.int .i64 0), (.int .i64 0), (.bool false), (.string ⟨#[]⟩)]), ia 3 (kI 0)]) (.seq (.region [im 16 0, oS ⟨some 17,
 .call Wn [16], none⟩ B3, im 15 17, o1 18 (.ext 15 0), o1 19 (.ext 15 1), ia 4 18, ia 5 19]) (.seq (.seq (.region [im 20 5, o1 21 (.un .not
 20), im 22 21, gf 23 22 (.mv 4), gf 24 22 (.lenK 23), gf 25 22 (.bin .eql 24 (kI 0)), o1 26 (.pick 22 kT 25)]) (.cond 26 (.seq (.region [o1 27 (.build [(.int .i64 0), (.int .i64
 0), (.int .i64 0), (.int .i64 0), (.bool false), (.string ⟨#[]⟩)] []), o0 ⟨none, .store 6 2 27, none⟩, ia 3 (kI 320)]) .ret) .skip)) (.seq (.region [o1 6 (.alloc [(.int .i64 0),
 (.int .i64 0), (.int .i64 0), (.int .i64 0), (.bool false), (.string ⟨#[]⟩)])]) (.seq (.region [im 29 4, o1 30 (.ixA 1 29 (kI 0)), ld 31 30, oS ⟨some 32, .call
 UL [31], none⟩ B0, im 28 32, o1 33 (.ext 28 0), o1 34 (.ext 28 1), fa 35 0 6, o0 ⟨none, .store 1 35 33, none⟩, fa 36 4 6, o0 ⟨none, .store 1
 36 34, none⟩]) (.seq (.region [fa 38 0 6, ld 39 38, fa 40 4 6, ld 41 40, oS ⟨some 42, .call zS3 [39, 41], none⟩ AZ, im 37 42, o1 43 (.ext 37
 0), o1 44 (.ext 37 1), ia 7 43, ia 8 44]) (.seq (.seq (.region [im 45 4, o1 46 (.lenK 45), im 47 8, o1 48 (.Dk 47), o1 49 (.bin .add 48 (kI 1)), o1 50 (.bin .neq 46 49)]) (.cond
 50 (.seq (.region [o1 51 (.build [(.int .i64 0), (.int .i64 0), (.int .i64 0), (.int .i64 0), (.bool false), (.string ⟨#[]⟩)] []), o0 ⟨none, .store 6 2 51, none⟩, ia 3 (kI 320)])
 .ret) .skip)) (.seq (.seq (.region [ia 9 (kI 0)]) (.frame (rg [9, 10, 11, 12] 52 37) [1006] false (.join [.bx 1006 AM .leaf] (.block 0 (.loop [.si 9, .bx 1006 AM .leaf]
 (.seq (.seq (.region [im 52 9, im 53 8, o1 54 (.Dk 53), o1 55 (.bin .lss 52 54)]) (.cond 55 .skip (.exit 0))) (.seq (.frame (rg [10, 11, 12] 58 31) [1006] false (.join [.bx 1006
 AM .leaf] (.block 1 (.seq (.region [im 59 4, im 60 9, o1 61 (.bin .add 60 (kI 1)), o1 62 (.ixA 1 59 61), ld 63 62, oS ⟨some 64, .call UM [63,
 (kI 0)], none⟩ Bw, im 58 64, o1 65 (.ext 58 0), o1 66 (.ext 58 1), o1 67 (.ext 58 2), ia 10 65, ia 11 66, ia 12 67]) (.seq (.region [im 68 8, im 69 9, o1 70 (.ixS 68
 69)]) (.frame (rg [] 71 18) [1006] false (.join [.bx 1006 AM .leaf] (.block 2 (.seq (.region [o1 78 (.bin .eql 70 (.c (.int .u8 97))), ia 77 78]) (.frame (rg [71, 72, 73, 74,
 75, 76] 79 10) [1006] false (.join [.bx 1006 AM .leaf] (.cond 77 (.region [im 79 10, fa 80 1 6, o0 ⟨none, .store 1 80 79, none⟩]) (.seq (.region [o1 82 (.bin .eql 70 (.c
 (.int .u8 98))), ia 81 82]) (.frame (rg [71, 72, 73, 74, 75, 76] 83 6) [1006] false (.join [.bx 1006 AM .leaf] (.cond 81 (.region [im 83 10, fa 84 2 6, o0 ⟨none, .store 1 84
 83, none⟩]) (.seq (.region [o1 86 (.bin .eql 70 (.c (.int .u8 99))), ia 85 86]) (.frame [71, 72, 73, 74, 75, 76, 87, 88] [1006] false (.join [.bx 1006 AM .leaf] (.cond 85
 (.region [im 87 10, fa 88 3 6, o0 ⟨none, .store 1 88 87, none⟩]) (.region [im 71 4, im 72 9, o1 73 (.bin .add 72 (kI 1)), o1 74 (.ixA 1 71 73), ld 75 74, fa 76 5 6, o0 ⟨none,
 .store 1 76 75, none⟩]))))))))))))))))))))) (.region [im 56 9, o1 57 (.bin .add 56 (kI 1)), ia 9 57])))))))) (.seq (.region [o1 90 (.load true 6 6), oS ⟨some 91, .call
 Rq [90], none⟩ A6, im 89 91, o1 92 (.ext 89 0), o1 93 (.ext 89 1), ia 13 92, ia 14 93]) (.seq (.seq (.region [im 94 14, o1 95 (.bin .neq
 94 (kI 0)), im 96 95, gf 97 96 (.mv 13), gf 98 96 (.mv 0), gf 99 96 (.bin .neq 97 98), o1 100 (.pick 96 kT 99)]) (.cond 100 (.seq (.region [o1 101 (.build [(.int .i64 0), (.int
 .i64 0), (.int .i64 0), (.int .i64 0), (.bool false), (.string ⟨#[]⟩)] []), o0 ⟨none, .store 6 2 101, none⟩, ia 3 (kI 320)]) .ret) .skip)) (.seq (.region [o1 102 (.load true 6 6),
 o0 ⟨none, .store 6 2 102, none⟩, ia 3 (kI 0)]) .ret)))))))))))
def EE : AFn := ⟨ zS7, Gy.erase, [.cell 2 true 6, .tmp 3], 1⟩
def I1 (P : Pg) (x : (List UInt8)) (K : (Command × Int) → Unit → Prop) : Prop :=
 Fn P Wn B3 x (fun (d1 : ((List (List UInt8)) × Bool)) (e2 : Unit) => (((cond (!d1.2) true ((d1.1.length : Int) == (0 : Int))) = true → K (((0 : Int), ((0 : Int), ((0 : Int), ((0 : Int), (false, ([] : List UInt8)))))), (320 : Int)) ()) ∧ ((cond (!d1.2) true ((d1.1.length : Int) == (0 : Int))) = false → (0 ≤ (0 : Int) ∧ (0 : Int) < (d1.1.length : Int)) ∧
 ((Int.toNat (0 : Int)) < d1.1.length) ∧
 Fn P UL B0 (List.getD d1.1 (Int.toNat (0 : Int)) []) (fun (d3 : (Int × Bool)) (e4 : Unit) => Fn P zS3 AZ d3 (fun (d5 : ((List UInt8) × (List UInt8))) (e6 : Unit) => ((((d1.1.length : Int) != (i64.wrap ((d5.2.length : Int) + (1 : Int)))) = true → K (((0 : Int), ((0 : Int), ((0 : Int), ((0 : Int), (false, ([] : List UInt8)))))), (320 : Int)) ()) ∧ (((d1.1.length : Int) != (i64.wrap ((d5.2.length : Int) + (1 : Int)))) = false → Ai (D := Command) (fun J7 => BP (D := (Int × Command)) ((0 : Int), (d3.1, ((0 : Int), ((0 : Int), ((0 : Int), (d3.2, ([] : List UInt8))))))) (fun d9 J10 => (((decide (d9.1 < (d5.2.length : Int))) = true → Ai (D := Command) (fun J11 => (0 ≤ (i64.wrap (d9.1 + (1 : Int))) ∧ (i64.wrap (d9.1 + (1 : Int))) < (d1.1.length : Int)) ∧
 ((Int.toNat (i64.wrap (d9.1 + (1 : Int)))) < d1.1.length) ∧
 Fn P UM Bw ((List.getD d1.1 (Int.toNat (i64.wrap (d9.1 + (1 : Int)))) []), (0 : Int)) (fun (d13 : (Int × (Int × Bool))) (e14 : Unit) => (0 ≤ d9.1 ∧ d9.1 < (d5.2.length : Int)) ∧
 Ai (D := Command) (fun J15 => Ai (D := Command) (fun J17 => (((((d5.2.getD d9.1.toNat 0).toNat : Int) == (97 : Int)) = true → J17 (d9.2.1, (d13.1, d9.2.2.2))) ∧ ((((d5.2.getD d9.1.toNat 0).toNat : Int) == (97 : Int)) = false → Ai (D := Command) (fun J19 => (((((d5.2.getD d9.1.toNat 0).toNat : Int) == (98 : Int)) = true → J19 (d9.2.1, (d9.2.2.1, (d13.1, d9.2.2.2.2)))) ∧ ((((d5.2.getD d9.1.toNat 0).toNat : Int) == (98 : Int)) = false → Ai (D := Command) (fun J21 => (((((d5.2.getD d9.1.toNat 0).toNat : Int) == (99 : Int)) = true → J21 (d9.2.1, (d9.2.2.1, (d9.2.2.2.1, (d13.1, d9.2.2.2.2.2))))) ∧ ((((d5.2.getD d9.1.toNat 0).toNat : Int) == (99 : Int)) = false → (0 ≤ (i64.wrap (d9.1 + (1 : Int))) ∧ (i64.wrap (d9.1 + (1 : Int))) < (d1.1.length : Int)) ∧
 ((Int.toNat (i64.wrap (d9.1 + (1 : Int)))) < d1.1.length) ∧
 J21 (d9.2.1, (d9.2.2.1, (d9.2.2.2.1, (d9.2.2.2.2.1, (d9.2.2.2.2.2.1, (List.getD d1.1 (Int.toNat (i64.wrap (d9.1 + (1 : Int)))) []))))))))) (fun d22 => J19 d22)))) (fun d20 => J17 d20)))) (fun d18 => J15 d18)) (fun d16 => J11 d16))) (fun d12 => J10 ((i64.wrap (d9.1 + (1 : Int))), d12))) ∧ ((decide (d9.1 < (d5.2.length : Int))) = false → J7 d9.2)))) (fun d8 => Fn P Rq A6 d8 (fun (d23 : ((List UInt8) × Int)) (e24 : Unit) => (((cond (d23.2 != (0 : Int)) true (!(d23.1 == x))) = true → K (((0 : Int), ((0 : Int), ((0 : Int), ((0 : Int), (false, ([] : List UInt8)))))), (320 : Int)) ()) ∧ ((cond (d23.2 != (0 : Int)) true (!(d23.1 == x))) = false → K (d8, (0 : Int)) ())))))))))))
theorem MH {P : Pg} (h : Has P EE) {x : DP A1.ps} {K : DP A1.rs → DP (ptrs A1.ps) → Prop} (hw : I1 P x K) : Fn P zS7 A1 x K :=
 Cd (c := Gy) h rfl rfl (by kernel_rfl) (Eq.mpr (show B9 P EE A1 Gy x K = _ by kernel_rfl) hw)
def C3 : Bj :=
 (.seq (.region [o1 10 (.asg kF)]) (.seq (.seq (.region [im 26 0, o1 27 (.Dk 26), o1 28 (.bin .gtr 27 (kI 60))]) (.cond 28 (.seq (.region [oS ⟨some 29, .call
 zS9 [], none⟩ Bh, ia 10 29]) .ret) .skip)) (.seq (.region [im 31 1, oS ⟨some 32, .call UK [31, (kI 0)], none⟩
 BZ, oS ⟨some 33, .call Rq [32], none⟩ A6, im 30 33, o1 34 (.ext 30 0), o1 35 (.ext 30 1), ia 11 34, ia 12 35]) (.seq (.region
 [im 36 11, im 37 2, im 38 3, im 39 4, oS ⟨some 40, .call Wi [36, 37, 38, 39], none⟩ B2, ia 13 40]) (.seq (.region [im 42 0, oS ⟨some 43,
 .call zS0 [42], none⟩ AD, im 41 43, o1 44 (.ext 41 0), o1 45 (.ext 41 1), o1 14 (.alloc [(.int .i64 0), (.int .i64 0), (.int .i64 0), (.int .i64
 0), (.bool false), (.string ⟨#[]⟩)]), o0 ⟨none, .store 6 14 44, none⟩, ia 15 45]) (.seq (.region [im 47 0, oS ⟨some 48, .call zS7 [47], none⟩
 A1, im 46 48, o1 49 (.ext 46 0), o1 50 (.ext 46 1), o1 16 (.alloc [(.int .i64 0), (.int .i64 0), (.int .i64 0), (.int .i64 0), (.bool false), (.string ⟨#[]⟩)]), o0
 ⟨none, .store 6 16 49, none⟩, ia 17 50]) (.seq (.region [im 52 11, oS ⟨some 53, .call zS0 [52], none⟩ AD, im 51 53, o1 54 (.ext 51 0), o1 55
 (.ext 51 1), o1 18 (.alloc [(.int .i64 0), (.int .i64 0), (.int .i64 0), (.int .i64 0), (.bool false), (.string ⟨#[]⟩)]), o0 ⟨none, .store 6 18 54, none⟩, ia 19 55]) (.seq (.region
 [im 57 11, oS ⟨some 58, .call zS7 [57], none⟩ A1, im 56 58, o1 59 (.ext 56 0), o1 60 (.ext 56 1), o1 20 (.alloc [(.int .i64 0), (.int .i64
 0), (.int .i64 0), (.int .i64 0), (.bool false), (.string ⟨#[]⟩)]), o0 ⟨none, .store 6 20 59, none⟩, ia 21 60]) (.seq (.region [im 62 13, oS ⟨some 63, .call
 zS0 [62], none⟩ AD, im 61 63, o1 64 (.ext 61 0), o1 65 (.ext 61 1), o1 22 (.alloc [(.int .i64 0), (.int .i64 0), (.int .i64 0), (.int .i64 0),
 (.bool false), (.string ⟨#[]⟩)]), o0 ⟨none, .store 6 22 64, none⟩, ia 23 65]) (.seq (.region [im 67 13, oS ⟨some 68, .call zS7 [67], none⟩
 A1, im 66 68, o1 69 (.ext 66 0), o1 70 (.ext 66 1), o1 24 (.alloc [(.int .i64 0), (.int .i64 0), (.int .i64 0), (.int .i64 0), (.bool false), (.string ⟨#[]⟩)]), o0
 ⟨none, .store 6 24 69, none⟩, ia 25 70]) (.seq (.region [o1 71 (.load true 6 14), o1 72 (.load true 6 16), o1 73 (.eqA false [.int, .int, .int, .int, .bool, .str] 71 72), im 74 73,
 gt 75 74 (.mv 15), gt 76 74 (.mv 17), gt 77 74 (.bin .eql 75 76), o1 78 (.pick 74 77 kF), im 79 78, gt 80 79 (.load true 6 18), gt 81 79 (.load true 6 20), gt 82 79 (.eqA false
 [.int, .int, .int, .int, .bool, .str] 80 81), o1 83 (.pick 79 82 kF), im 84 83, gt 85 84 (.mv 19), gt 86 84 (.mv 21), gt 87 84 (.bin .eql 85 86), o1 88 (.pick 84 87 kF), im 89 88,
 gt 90 89 (.load true 6 22), gt 91 89 (.load true 6 24), gt 92 89 (.eqA false [.int, .int, .int, .int, .bool, .str] 90 91), o1 93 (.pick 89 92 kF), im 94 93, gt 95 94 (.mv 23), gt
 96 94 (.mv 25), gt 97 94 (.bin .eql 95 96), o1 98 (.pick 94 97 kF), im 99 98, oS ⟨some 100, .call zS9 [], some (99, true)⟩ Bh, o1 101 (.pick
 99 100 kF), ia 10 101]) .ret)))))))))))
def Cb : AFn := ⟨ Yd, C3.erase, [.tmp 10], 5⟩
def Ek (P : Pg) (x : ((List UInt8) × ((List Int) × (Int × (Int × Int))))) (K : Bool → Unit → Prop) : Prop :=
 (((decide ((x.1.length : Int) > (60 : Int))) = true → Fn P zS9 Bh () (fun (d1 : Bool) (e2 : Unit) => K d1 ())) ∧ ((decide ((x.1.length : Int) > (60 : Int))) = false → Fn P UK BZ (x.2.1, (0 : Int)) (fun (d3 : Command) (e4 : Unit) => Fn P Rq A6 d3 (fun (d5 : ((List UInt8) × Int)) (e6 : Unit) => Fn P Wi B2 (d5.1, x.2.2) (fun (d7 : (List UInt8)) (e8 : Unit) => Fn P zS0 AD x.1 (fun (d9 : (Command × Int)) (e10 : Unit) => Fn P zS7 A1 x.1 (fun (d11 : (Command × Int)) (e12 : Unit) => Fn P zS0 AD d5.1 (fun (d13 : (Command × Int)) (e14 : Unit) => Fn P zS7 A1 d5.1 (fun (d15 : (Command × Int)) (e16 : Unit) => Fn P zS0 AD d7 (fun (d17 : (Command × Int)) (e18 : Unit) => Fn P zS7 A1 d7 (fun (d19 : (Command × Int)) (e20 : Unit) => Ai (D := Bool) (fun J21 => (((cond (cond (cond (cond (cond ((d9.1.1 == d11.1.1) && ((d9.1.2.1 == d11.1.2.1) && ((d9.1.2.2.1 == d11.1.2.2.1) && ((d9.1.2.2.2.1 == d11.1.2.2.2.1) && ((d9.1.2.2.2.2.1 == d11.1.2.2.2.2.1) && ((d9.1.2.2.2.2.2 == d11.1.2.2.2.2.2) && true)))))) (d9.2 == d11.2) false) ((d13.1.1 == d15.1.1) && ((d13.1.2.1 == d15.1.2.1) && ((d13.1.2.2.1 == d15.1.2.2.1) && ((d13.1.2.2.2.1 == d15.1.2.2.2.1) && ((d13.1.2.2.2.2.1 == d15.1.2.2.2.2.1) && ((d13.1.2.2.2.2.2 == d15.1.2.2.2.2.2) && true)))))) false) (d13.2 == d15.2) false) ((d17.1.1 == d19.1.1) && ((d17.1.2.1 == d19.1.2.1) && ((d17.1.2.2.1 == d19.1.2.2.1) && ((d17.1.2.2.2.1 == d19.1.2.2.2.1) && ((d17.1.2.2.2.2.1 == d19.1.2.2.2.2.1) && ((d17.1.2.2.2.2.2 == d19.1.2.2.2.2.2) && true)))))) false) (d17.2 == d19.2) false) = true → Fn P zS9 Bh () (fun (d22 : Bool) _ => J21 d22)) ∧ (((cond (cond (cond (cond (cond ((d9.1.1 == d11.1.1) && ((d9.1.2.1 == d11.1.2.1) && ((d9.1.2.2.1 == d11.1.2.2.1) && ((d9.1.2.2.2.1 == d11.1.2.2.2.1) && ((d9.1.2.2.2.2.1 == d11.1.2.2.2.2.1) && ((d9.1.2.2.2.2.2 == d11.1.2.2.2.2.2) && true)))))) (d9.2 == d11.2) false) ((d13.1.1 == d15.1.1) && ((d13.1.2.1 == d15.1.2.1) && ((d13.1.2.2.1 == d15.1.2.2.1) && ((d13.1.2.2.2.1 == d15.1.2.2.2.1) && ((d13.1.2.2.2.2.1 == d15.1.2.2.2.2.1) && ((d13.1.2.2.2.2.2 == d15.1.2.2.2.2.2) && true)))))) false) (d13.2 == d15.2) false) ((d17.1.1 == d19.1.1) && ((d17.1.2.1 == d19.1.2.1) && ((d17.1.2.2.1 == d19.1.2.2.1) && ((d17.1.2.2.2.1 == d19.1.2.2.2.1) && ((d17.1.2.2.2.2.1 == d19.1.2.2.2.2.1) && ((d17.1.2.2.2.2.2 == d19.1.2.2.2.2.2) && true)))))) false) (d17.2 == d19.2) false) = false → J21 false) ∧ True))) (fun d23 => K (cond (cond (cond (cond (cond (cond ((d9.1.1 == d11.1.1) && ((d9.1.2.1 == d11.1.2.1) && ((d9.1.2.2.1 == d11.1.2.2.1) && ((d9.1.2.2.2.1 == d11.1.2.2.2.1) && ((d9.1.2.2.2.2.1 == d11.1.2.2.2.2.1) && ((d9.1.2.2.2.2.2 == d11.1.2.2.2.2.2) && true)))))) (d9.2 == d11.2) false) ((d13.1.1 == d15.1.1) && ((d13.1.2.1 == d15.1.2.1) && ((d13.1.2.2.1 == d15.1.2.2.1) && ((d13.1.2.2.2.1 == d15.1.2.2.2.1) && ((d13.1.2.2.2.2.1 == d15.1.2.2.2.2.1) && ((d13.1.2.2.2.2.2 == d15.1.2.2.2.2.2) && true)))))) false) (d13.2 == d15.2) false) ((d17.1.1 == d19.1.1) && ((d17.1.2.1 == d19.1.2.1) && ((d17.1.2.2.1 == d19.1.2.2.1) && ((d17.1.2.2.2.1 == d19.1.2.2.2.1) && ((d17.1.2.2.2.2.1 == d19.1.2.2.2.2.1) && ((d17.1.2.2.2.2.2 == d19.1.2.2.2.2.2) && true)))))) false) (d17.2 == d19.2) false) d23 false) ()))))))))))))
theorem GY {P : Pg} (h : Has P Cb) {x : DP AJ.ps} {K : DP AJ.rs → DP (ptrs AJ.ps) → Prop} (hw : Ek P x K) : Fn P Yd AJ x K :=
 Cd (c := C3) h rfl rfl (by kernel_rfl) (Eq.mpr (show B9 P Cb AJ C3 x K = _ by kernel_rfl) hw)
def Hd : Bj :=
 (.seq (.region [o1 4 (.asg kF)]) (.seq (.region [im 5 1, im 6 0, o1 7 (.Dk 6), o1 8 (.bin .lss 5 7), im 9 8, gt 10 9 (.mv 0), gt 11 9 (.mv 1), gt 12 9 (.ixS 10 11), gt 13 9 (.bin
 .geq 12 (.c (.int .u8 48))), o1 14 (.pick 9 13 kF), im 15 14, gt 16 15 (.mv 0), gt 17 15 (.mv 1), gt 18 15 (.ixS 16 17), gt 19 15 (.bin .leq 18 (.c (.int .u8 57))), o1 20 (.pick 15
 19 kF), ia 4 20]) .ret))
def Fb : AFn := ⟨ Sz, Hd.erase, [.tmp 4], 2⟩
def JJ (P : Pg) (x : ((List UInt8) × Int)) (K : Bool → Unit → Prop) : Prop :=
 (((decide (x.2 < (x.1.length : Int))) = true → 0 ≤ x.2 ∧ x.2 < (x.1.length : Int))) ∧
 (((cond (decide (x.2 < (x.1.length : Int))) (decide (((x.1.getD x.2.toNat 0).toNat : Int) ≥ (48 : Int))) false) = true → 0 ≤ x.2 ∧ x.2 < (x.1.length : Int))) ∧
 K (cond (cond (decide (x.2 < (x.1.length : Int))) (decide (((x.1.getD x.2.toNat 0).toNat : Int) ≥ (48 : Int))) false) (decide (((x.1.getD x.2.toNat 0).toNat : Int) ≤ (57 : Int))) false) ()
theorem NU {P : Pg} (h : Has P Fb) {x : DP BO.ps} {K : DP BO.rs → DP (ptrs BO.ps) → Prop} (hw : JJ P x K) : Fn P Sz BO x K :=
 Cd (c := Hd) h rfl rfl (by kernel_rfl) (Eq.mpr (show B9 P Fb BO Hd x K = _ by kernel_rfl) hw)
def Gz : Bj :=
 (.seq (.region [ia 4 (kI 0), ia 5 (kI 0), o1 6 (.asg kF)]) (.seq (.seq (.region [im 9 1, o1 10 (.bin .lss 9 (kI 0)), im 11 10, gf 12 11 (.mv 0), gf 13 11 (.mv 1), oS ⟨some 14,
 .call Sz [12, 13], some (11, false)⟩ BO, gf 15 11 (.un .not 14), o1 16 (.pick 11 kT 15)]) (.cond 16 (.seq (.region [ia 4 (kI 0), ia 5 (kI 0), o1 6
 (.asg kF)]) .ret) .skip)) (.seq (.region [im 17 1, ia 7 (kI 0), ia 8 17]) (.seq (.frame (rg [7, 8] 18 14) [] false (.join [.si 7, .si 8] (.block 0 (.loop [.si 7, .si 8] (.seq (.seq
 (.region [im 18 0, im 19 8, oS ⟨some 20, .call Sz [18, 19], none⟩ BO]) (.cond 20 .skip (.exit 0))) (.seq (.frame (rg [7] 23 9) [] false (.join [.si 7]
 (.block 1 (.region [im 23 7, o1 24 (.bin .mul (kI 10) 23), im 25 0, im 26 8, o1 27 (.ixS 25 26), o1 28 (.bin .sub 27 (.c (.int .u8 48))), o1 29 (.conv (.toInt .i64) 28), o1 30
 (.bin .add 24 29), o1 31 (.mm false 30 (kI 2147483648)), ia 7 31])))) (.region [im 21 8, o1 22 (.bin .add 21 (kI 1)), ia 8 22]))))))) (.seq (.seq (.region [im 32 7, o1 33 (.bin
 .gtr 32 (kI 2147483647)), im 34 33, gf 35 34 (.mv 0), gf 36 34 (.mv 1), gf 37 34 (.ixS 35 36), gf 38 34 (.bin .eql 37 (.c (.int .u8 48))), gf 39 34 (.mv 38), gt 40 39 (.mv 8), gt
 41 39 (.mv 1), gt 42 39 (.bin .add 41 (kI 1)), gt 43 39 (.bin .gtr 40 42), gf 44 34 (.pick 39 43 kF), o1 45 (.pick 34 kT 44)]) (.cond 45 (.seq (.region [ia 4 (kI 0), ia 5 (kI 0),
 o1 6 (.asg kF)]) .ret) .skip)) (.seq (.region [im 46 7, im 47 8, ia 4 46, ia 5 47, o1 6 (.asg kT)]) .ret))))))
def EF : AFn := ⟨ "mergelens/scan.Number", Gz.erase, [.tmp 4, .tmp 5, .tmp 6], 2⟩
def I2 (P : Pg) (x : ((List UInt8) × Int)) (K : (Int × (Int × Bool)) → Unit → Prop) : Prop :=
 Ai (D := Bool) (fun J1 => (((decide (x.2 < (0 : Int))) = false → Fn P Sz BO x (fun (d2 : Bool) _ => J1 d2)) ∧ (((decide (x.2 < (0 : Int))) = true → J1 false) ∧ True))) (fun d3 => (((cond (decide (x.2 < (0 : Int))) true (!d3)) = true → K ((0 : Int), ((0 : Int), false)) ()) ∧ ((cond (decide (x.2 < (0 : Int))) true (!d3)) = false → Ai (D := (Int × Int)) (fun J4 => BP (D := (Int × Int)) ((0 : Int), x.2) (fun d6 J7 => Fn P Sz BO (x.1, d6.2) (fun (d8 : Bool) (e9 : Unit) => ((d8 = true → Ai (D := Int) (fun J10 => (0 ≤ d6.2 ∧ d6.2 < (x.1.length : Int)) ∧
 J10 (if (2147483648 : Int) < (i64.wrap ((i64.wrap ((10 : Int) * d6.1)) + (i64.wrap (u8.wrap (((x.1.getD d6.2.toNat 0).toNat : Int) - (48 : Int)))))) then (2147483648 : Int) else (i64.wrap ((i64.wrap ((10 : Int) * d6.1)) + (i64.wrap (u8.wrap (((x.1.getD d6.2.toNat 0).toNat : Int) - (48 : Int)))))))) (fun d11 => J7 (d11, (i64.wrap (d6.2 + (1 : Int)))))) ∧ (d8 = false → J4 d6))))) (fun d5 => (((decide (d5.1 > (2147483647 : Int))) = false → 0 ≤ x.2 ∧ x.2 < (x.1.length : Int))) ∧
 (((cond (decide (d5.1 > (2147483647 : Int))) true (cond (((x.1.getD x.2.toNat 0).toNat : Int) == (48 : Int)) (decide (d5.2 > (i64.wrap (x.2 + (1 : Int))))) false)) = true → K ((0 : Int), ((0 : Int), false)) ()) ∧ ((cond (decide (d5.1 > (2147483647 : Int))) true (cond (((x.1.getD x.2.toNat 0).toNat : Int) == (48 : Int)) (decide (d5.2 > (i64.wrap (x.2 + (1 : Int))))) false)) = false → K (d5.1, (d5.2, true)) ()))))))
theorem MI {P : Pg} (h : Has P EF) {x : DP Cq.ps} {K : DP Cq.rs → DP (ptrs Cq.ps) → Prop} (hw : I2 P x K) : Fn P "mergelens/scan.Number" Cq x K :=
 Cd (c := Gz) h rfl rfl (by kernel_rfl) (Eq.mpr (show B9 P EF Cq Gz x K = _ by kernel_rfl) hw)
def FY : Bj :=
 (.seq (.region [o1 2 (.asg (.c (.string ⟨#[]⟩)))]) (.seq (.frame (rg [] 2 37) [] false (.join [.sl 2 false .str .leaf] (.block 0 (.seq (.region [im 4 0, o1 5 (.bin .eql 4 (.c (.int
 .u8 34))), im 6 5, gf 7 6 (.mv 0), gf 8 6 (.bin .eql 7 (.c (.int .u8 92))), o1 9 (.pick 6 kT 8), ia 3 9]) (.cond 3 (.seq (.region [im 10 0, o1 11 (.conv .ofInt 10), o1 12 (.bin
 .add (.c (.string ⟨#[92]⟩)) 11), ia 2 12]) .ret) (.seq (.region [im 14 0, o1 15 (.bin .eql 14 (.c (.int .u8 10))), ia 13 15]) (.cond 13 (.seq (.region [o1 2 (.asg (.c (.string
 ⟨#[92, 110]⟩)))]) .ret) (.seq (.region [im 17 0, o1 18 (.bin .eql 17 (.c (.int .u8 9))), ia 16 18]) (.cond 16 (.seq (.region [o1 2 (.asg (.c (.string ⟨#[92, 116]⟩)))]) .ret) (.seq
 (.region [im 20 0, o1 21 (.bin .lss 20 (.c (.int .u8 32))), im 22 21, gf 23 22 (.mv 0), gf 24 22 (.bin .gtr 23 (.c (.int .u8 126))), o1 25 (.pick 22 kT 24), ia 19 25]) (.cond 19
 (.seq (.region [im 26 0, o1 27 (.bin .shr 26 (.c (.int .u64 6))), o1 28 (.bin .add (.c (.int .u8 48)) 27), im 29 0, o1 30 (.bin .shr 29 (.c (.int .u64 3))), o1 31 (.bin .and 30 (.c
 (.int .u8 7))), o1 32 (.bin .add (.c (.int .u8 48)) 31), im 33 0, o1 34 (.bin .and 33 (.c (.int .u8 7))), o1 35 (.bin .add (.c (.int .u8 48)) 34), oT ⟨some 36, .buildSl 1 [(.int
 .u8 0)] 3 [(0, 28), (1, 32), (2, 35)], none⟩ (some ((.int .u8), .leaf)), o1 37 (.conv .bytesToStr 36), o1 38 (.bin .add (.c (.string ⟨#[92]⟩)) 37), ia 2 38]) .ret) .skip)))))))))))
 (.seq (.region [im 39 0, o1 40 (.conv .ofInt 39), ia 2 40]) .ret)))
def D1 : AFn := ⟨ "mergelens/scan.escaped", FY.erase, [.tmp 2], 1⟩
def HD (P : Pg) (x : Int) (K : (List UInt8) → Unit → Prop) : Prop :=
 Ai (D := (List UInt8)) (fun J1 => (((cond (x == (34 : Int)) true (x == (92 : Int))) = true → (List.length ([92] : List UInt8) + List.length (TF x) ≤ 9223372036854775807) ∧
 K (([92] : List UInt8) ++ (TF x)) ()) ∧ ((cond (x == (34 : Int)) true (x == (92 : Int))) = false → (((x == (10 : Int)) = true → K ([92, 110] : List UInt8) ()) ∧ ((x == (10 : Int)) = false → (((x == (9 : Int)) = true → K ([92, 116] : List UInt8) ()) ∧ ((x == (9 : Int)) = false → (((cond (decide (x < (32 : Int))) true (decide (x > (126 : Int)))) = true → (0 ≤ (6 : Int)) ∧
 (0 ≤ (3 : Int)) ∧
 (List.length ([92] : List UInt8) + List.length (strOf ([(u8.wrap ((48 : Int) + (Int.fdiv x (2 ^ (min (Int.toNat (6 : Int)) u8.bits))))), (u8.wrap ((48 : Int) + (u8.wrap ((BitVec.toNat (BitVec.ofInt u8.bits (Int.fdiv x (2 ^ (min (Int.toNat (3 : Int)) u8.bits))) &&& BitVec.ofInt u8.bits (7 : Int)) : Nat) : Int)))), (u8.wrap ((48 : Int) + (u8.wrap ((BitVec.toNat (BitVec.ofInt u8.bits x &&& BitVec.ofInt u8.bits (7 : Int)) : Nat) : Int))))] : List Int)) ≤ 9223372036854775807) ∧
 K (([92] : List UInt8) ++ (strOf ([(u8.wrap ((48 : Int) + (Int.fdiv x (2 ^ (min (Int.toNat (6 : Int)) u8.bits))))), (u8.wrap ((48 : Int) + (u8.wrap ((BitVec.toNat (BitVec.ofInt u8.bits (Int.fdiv x (2 ^ (min (Int.toNat (3 : Int)) u8.bits))) &&& BitVec.ofInt u8.bits (7 : Int)) : Nat) : Int)))), (u8.wrap ((48 : Int) + (u8.wrap ((BitVec.toNat (BitVec.ofInt u8.bits x &&& BitVec.ofInt u8.bits (7 : Int)) : Nat) : Int))))] : List Int))) ()) ∧ ((cond (decide (x < (32 : Int))) true (decide (x > (126 : Int)))) = false → J1 ([] : List UInt8)))))))))) (fun d2 => K (TF x) ())
theorem LO {P : Pg} (h : Has P D1) {x : DP Cx.ps} {K : DP Cx.rs → DP (ptrs Cx.ps) → Prop} (hw : HD P x K) : Fn P "mergelens/scan.escaped" Cx x K :=
 Cd (c := FY) h rfl rfl (by kernel_rfl) (Eq.mpr (show B9 P D1 Cx FY x K = _ by kernel_rfl) hw)
end Go.VS
