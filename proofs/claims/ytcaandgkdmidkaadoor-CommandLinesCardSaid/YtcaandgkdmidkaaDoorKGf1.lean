/- Functions of the program: typed code, and what it says, lifted. -/
import Derived.Test.YtcaandgkdmidkaaDoorKTxSig
import Derived.KernelRfl
set_option linter.unusedVariables false
set_option linter.unusedSimpArgs false
set_option maxRecDepth 8000
namespace Go.VS
open IntKind
def Acz : BE :=
 (.seq (.region [o1 6 (.asg kF)]) (.seq (.region [im 18 1, oS ⟨some 19, .call zS0 [18, (kI 6)], none⟩ Bd, ia 1 19]) (.seq (.region [o1 7 (.asg (.c
 (.string ⟨#[]⟩)))]) (.seq (.region [o1 8 (.asg (.c (.slice none 0 0)))]) (.seq (.region [ia 9 (kI 0)]) (.seq (.seq (.region [ia 10 (kI 0)]) (.frame (rg [7, 8, 9, 10, 11, 12, 13,
 14] 20 40) [1013] false (.join [.sl 7 false .str .leaf, .sl 8 false (.sl AJ) tO, .si 9] (.block 0 (.loop [.sl 7 false .str .leaf, .sl 8 false (.sl AJ) tO, .si 9, .si
 10] (.seq (.seq (.region [im 20 10, im 21 1, o1 22 (.bin .lss 20 21)]) (.cond 22 .skip (.exit 0))) (.seq (.frame (rg [7, 8, 9, 11, 12, 13, 14] 25 35) [1013] false (.join [.sl 7
 false .str .leaf, .sl 8 false (.sl AJ) tO, .si 9] (.block 1 (.seq (.region [im 26 0, im 27 10, o1 28 (.bin .mul (kI 20) 27), oS ⟨some 29, .call
 RN [26, 28], none⟩ BU, oS ⟨some 30, .call Ud [29], none⟩ A5, im 25 30, o1 31 (.ext 25 0), o1 32
 (.ext 25 1), ia 11 31, ia 12 32]) (.seq (.seq (.region [im 33 2, oS ⟨some 34, .call zS0 [33, (kI 9)], none⟩ Bd, im 35 10, o1 36 (.bin .eql 34 35)])
 (.frame [11, 37, 38] [] false (.join [.sl 11 false .str .leaf] (.cond 36 (.region [im 37 11, o1 38 (.bin .add (.c (.string ⟨#[33]⟩)) 37), ia 11 38]) .skip)))) (.seq (.region [im 40
 11, oS ⟨some 41, .call zS2 [40], none⟩ AZ, im 39 41, o1 42 (.ext 39 0), o1 43 (.ext 39 1), o1 13 (.alloc [(.int .i64 0), (.int .i64 0), (.int
 .i64 0), (.int .i64 0), (.bool false), (.string ⟨#[]⟩)]), o0 ⟨none, .store 6 13 42, none⟩, ia 14 43]) (.seq (.seq (.region [im 44 14, o1 45 (.bin .neq 44 (kI 0)), im 46 45, gt 47
 46 (.mv 9), gt 48 46 (.bin .eql 47 (kI 0)), o1 49 (.pick 46 48 kF)]) (.frame [9, 50, 51] [] false (.join [.si 9] (.cond 49 (.region [im 50 10, o1 51 (.bin .add 50 (kI 1)), ia 9
 51]) .skip)))) (.seq (.region [im 52 8, o1 53 (.load true 6 13), oT ⟨some 54, .buildSl 6 [(.int .i64 0), (.int .i64 0), (.int .i64 0), (.int .i64 0), (.bool false), (.string
 ⟨#[]⟩)] 1 [(0, 53)], none⟩ (some (AJ, .leaf)), oT ⟨some 55, .app 6 56 52 54, none⟩ (some (AJ, .leaf)), ia 8 55]) (.region [im 56 7, im 57 11, o1 58 (.bin .add 56 57),
 o1 59 (.bin .add 58 (.c (.string ⟨#[10]⟩))), ia 7 59]))))))))) (.region [im 23 10, o1 24 (.bin .add 23 (kI 1)), ia 10 24])))))))) (.seq (.region [im 61 7, oS ⟨some 62, .call
 VG [61], none⟩ YE, im 60 62, o1 63 (.ext 60 0), o1 64 (.ext 60 1), o1 65 (.ext 60 2), ia 15 63, ia 16 64, ia 17 65]) (.seq (.seq (.region [im
 66 9, o1 67 (.bin .gtr 66 (kI 0))]) (.cond 67 (.seq (.region [im 68 17, o1 69 (.bin .eql 68 (kI 320)), im 70 69, gt 71 70 (.mv 16), gt 72 70 (.mv 9), gt 73 70 (.bin .eql 71 72), o1
 74 (.pick 70 73 kF), im 75 74, gt 76 75 (.mv 15), gt 77 75 (.lenK 76), gt 78 75 (.bin .eql 77 (kI 0)), o1 79 (.pick 75 78 kF), im 80 79, oS ⟨some 81, .call
 zS7 [], some (80, true)⟩ Bg, o1 82 (.pick 80 81 kF), ia 6 82]) .ret) .skip)) (.seq (.region [im 83 17, o1 84 (.bin .eql 83 (kI 0)), im 85
 84, gt 86 85 (.mv 16), gt 87 85 (.bin .eql 86 (kI 0)), o1 88 (.pick 85 87 kF), im 89 88, gt 90 89 (.mv 15), gt 91 89 (.mv 8), oS ⟨some 92, .call VH
 [90, 91], some (89, true)⟩ YF, o1 93 (.pick 89 92 kF), im 94 93, oS ⟨some 95, .call zS7 [], some (94, true)⟩ Bg, o1 96 (.pick 94
 95 kF), ia 6 96]) .ret)))))))))
def Acy : AFn := ⟨ Ab9, Acz.erase, [.tmp 6], 3⟩
def AcA (P : Pg) (x : ((List Int) × (Int × Int))) (K : Bool → Unit → Prop) : Prop :=
 Fn P zS0 Bd (x.2.1, (6 : Int)) (fun (d1 : Int) (e2 : Unit) => Ao (D := ((List UInt8) × ((List Command) × Int))) (fun J3 => Dm (D := ((List UInt8) × ((List Command) × (Int × Int)))) (([] : List UInt8), ([], ((0 : Int), (0 : Int)))) (fun d5 J6 => (((decide (d5.2.2.2 < d1)) = true → Ao (D := ((List UInt8) × ((List Command) × Int))) (fun J7 => Fn P RN BU (x.1, (i64.wrap ((20 : Int) * d5.2.2.2))) (fun (d9 : Command) (e10 : Unit) => Fn P Ud A5 d9 (fun (d11 : ((List UInt8) × Int)) (e12 : Unit) => Fn P zS0 Bd (x.2.2, (9 : Int)) (fun (d13 : Int) (e14 : Unit) => Ao (D := (List UInt8)) (fun J15 => (((d13 == d5.2.2.2) = true → (List.length ([33] : List UInt8) + d11.1.length ≤ 9223372036854775807) ∧
 J15 (([33] : List UInt8) ++ d11.1)) ∧ ((d13 == d5.2.2.2) = false → J15 d11.1))) (fun d16 => Fn P zS2 AZ d16 (fun (d17 : (Command × Int)) (e18 : Unit) => Ao (D := Int) (fun J19 => (((cond (d17.2 != (0 : Int)) (d5.2.2.1 == (0 : Int)) false) = true → J19 (i64.wrap (d5.2.2.2 + (1 : Int)))) ∧ ((cond (d17.2 != (0 : Int)) (d5.2.2.1 == (0 : Int)) false) = false → J19 d5.2.2.1))) (fun d20 => ((d5.2.1.length + List.length ([d17.1] : List Command)) * 56 ≤ 140737488355328) ∧
 (d5.1.length + d16.length ≤ 9223372036854775807) ∧
 (List.length (d5.1 ++ d16) + List.length ([10] : List UInt8) ≤ 9223372036854775807) ∧
 J7 (((d5.1 ++ d16) ++ ([10] : List UInt8)), ((d5.2.1 ++ ([d17.1] : List Command)), d20))))))))) (fun d8 => J6 (d8.1, (d8.2.1, (d8.2.2, (i64.wrap (d5.2.2.2 + (1 : Int)))))))) ∧ ((decide (d5.2.2.2 < d1)) = false → J3 (d5.1, (d5.2.1, d5.2.2.1)))))) (fun d4 => Fn P VG YE d4.1 (fun (d21 : ((List Command) × (Int × Int))) (e22 : Unit) => (((decide (d4.2.2 > (0 : Int))) = true → Ao (D := Bool) (fun J23 => (((cond (cond (d21.2.2 == (320 : Int)) (d21.2.1 == d4.2.2) false) ((d21.1.length : Int) == (0 : Int)) false) = true → Fn P zS7 Bg () (fun (d24 : Bool) _ => J23 d24)) ∧ (((cond (cond (d21.2.2 == (320 : Int)) (d21.2.1 == d4.2.2) false) ((d21.1.length : Int) == (0 : Int)) false) = false → J23 false) ∧ True))) (fun d25 => K (cond (cond (cond (d21.2.2 == (320 : Int)) (d21.2.1 == d4.2.2) false) ((d21.1.length : Int) == (0 : Int)) false) d25 false) ())) ∧ ((decide (d4.2.2 > (0 : Int))) = false → Ao (D := Bool) (fun J26 => (((cond (d21.2.2 == (0 : Int)) (d21.2.1 == (0 : Int)) false) = true → Fn P VH YF (d21.1, d4.2.1) (fun (d27 : Bool) _ => J26 d27)) ∧ (((cond (d21.2.2 == (0 : Int)) (d21.2.1 == (0 : Int)) false) = false → J26 false) ∧ True))) (fun d28 => Ao (D := Bool) (fun J29 => (((cond (cond (d21.2.2 == (0 : Int)) (d21.2.1 == (0 : Int)) false) d28 false) = true → Fn P zS7 Bg () (fun (d30 : Bool) _ => J29 d30)) ∧ (((cond (cond (d21.2.2 == (0 : Int)) (d21.2.1 == (0 : Int)) false) d28 false) = false → J29 false) ∧ True))) (fun d31 => K (cond (cond (cond (d21.2.2 == (0 : Int)) (d21.2.1 == (0 : Int)) false) d28 false) d31 false) ())))))))
theorem AcC {P : Pg} (h : Has P Acy) {x : DP Acx.ps} {K : DP Acx.rs → DP (ptrs Acx.ps) → Prop} (hw : AcA P x K) : Fn P Ab9 Acx x K :=
 CU (c := Acz) h rfl rfl (by kernel_rfl) (Eq.mpr (show CG P Acy Acx Acz x K = _ by kernel_rfl) hw)
def FI : BE :=
 (.seq (.region [o1 2 (.asg (.c (.string ⟨#[]⟩)))]) (.seq (.frame (rg [] 2 37) [] false (.join [.sl 2 false .str .leaf] (.block 0 (.seq (.region [im 4 0, o1 5 (.bin .eql 4 (.c (.int
 .u8 34))), im 6 5, gf 7 6 (.mv 0), gf 8 6 (.bin .eql 7 (.c (.int .u8 92))), o1 9 (.pick 6 kT 8), ia 3 9]) (.cond 3 (.seq (.region [im 10 0, o1 11 (.conv .ofInt 10), o1 12 (.bin
 .add (.c (.string ⟨#[92]⟩)) 11), ia 2 12]) .ret) (.seq (.region [im 14 0, o1 15 (.bin .eql 14 (.c (.int .u8 10))), ia 13 15]) (.cond 13 (.seq (.region [o1 2 (.asg (.c (.string
 ⟨#[92, 110]⟩)))]) .ret) (.seq (.region [im 17 0, o1 18 (.bin .eql 17 (.c (.int .u8 9))), ia 16 18]) (.cond 16 (.seq (.region [o1 2 (.asg (.c (.string ⟨#[92, 116]⟩)))]) .ret) (.seq
 (.region [im 20 0, o1 21 (.bin .lss 20 (.c (.int .u8 32))), im 22 21, gf 23 22 (.mv 0), gf 24 22 (.bin .gtr 23 (.c (.int .u8 126))), o1 25 (.pick 22 kT 24), ia 19 25]) (.cond 19
 (.seq (.region [im 26 0, o1 27 (.bin .shr 26 (.c (.int .u64 6))), o1 28 (.bin .add (.c (.int .u8 48)) 27), im 29 0, o1 30 (.bin .shr 29 (.c (.int .u64 3))), o1 31 (.bin .and 30 (.c
 (.int .u8 7))), o1 32 (.bin .add (.c (.int .u8 48)) 31), im 33 0, o1 34 (.bin .and 33 (.c (.int .u8 7))), o1 35 (.bin .add (.c (.int .u8 48)) 34), oT ⟨some 36, .buildSl 1 [(.int
 .u8 0)] 3 [(0, 28), (1, 32), (2, 35)], none⟩ (some ((.int .u8), .leaf)), o1 37 (.conv .bytesToStr 36), o1 38 (.bin .add (.c (.string ⟨#[92]⟩)) 37), ia 2 38]) .ret) .skip)))))))))))
 (.seq (.region [im 39 0, o1 40 (.conv .ofInt 39), ia 2 40]) .ret)))
def DJ : AFn := ⟨ "mergelens/scan.escaped", FI.erase, [.tmp 2], 1⟩
def Hj (P : Pg) (x : Int) (K : (List UInt8) → Unit → Prop) : Prop :=
 Ao (D := (List UInt8)) (fun J1 => (((cond (x == (34 : Int)) true (x == (92 : Int))) = true → (List.length ([92] : List UInt8) + List.length (SX x) ≤ 9223372036854775807) ∧
 K (([92] : List UInt8) ++ (SX x)) ()) ∧ ((cond (x == (34 : Int)) true (x == (92 : Int))) = false → (((x == (10 : Int)) = true → K ([92, 110] : List UInt8) ()) ∧ ((x == (10 : Int)) = false → (((x == (9 : Int)) = true → K ([92, 116] : List UInt8) ()) ∧ ((x == (9 : Int)) = false → (((cond (decide (x < (32 : Int))) true (decide (x > (126 : Int)))) = true → (0 ≤ (6 : Int)) ∧
 (0 ≤ (3 : Int)) ∧
 (List.length ([92] : List UInt8) + List.length (strOf ([(u8.wrap ((48 : Int) + (Int.fdiv x (2 ^ (min (Int.toNat (6 : Int)) u8.bits))))), (u8.wrap ((48 : Int) + (u8.wrap ((BitVec.toNat (BitVec.ofInt u8.bits (Int.fdiv x (2 ^ (min (Int.toNat (3 : Int)) u8.bits))) &&& BitVec.ofInt u8.bits (7 : Int)) : Nat) : Int)))), (u8.wrap ((48 : Int) + (u8.wrap ((BitVec.toNat (BitVec.ofInt u8.bits x &&& BitVec.ofInt u8.bits (7 : Int)) : Nat) : Int))))] : List Int)) ≤ 9223372036854775807) ∧
 K (([92] : List UInt8) ++ (strOf ([(u8.wrap ((48 : Int) + (Int.fdiv x (2 ^ (min (Int.toNat (6 : Int)) u8.bits))))), (u8.wrap ((48 : Int) + (u8.wrap ((BitVec.toNat (BitVec.ofInt u8.bits (Int.fdiv x (2 ^ (min (Int.toNat (3 : Int)) u8.bits))) &&& BitVec.ofInt u8.bits (7 : Int)) : Nat) : Int)))), (u8.wrap ((48 : Int) + (u8.wrap ((BitVec.toNat (BitVec.ofInt u8.bits x &&& BitVec.ofInt u8.bits (7 : Int)) : Nat) : Int))))] : List Int))) ()) ∧ ((cond (decide (x < (32 : Int))) true (decide (x > (126 : Int)))) = false → J1 ([] : List UInt8)))))))))) (fun d2 => K (SX x) ())
theorem Lo {P : Pg} (h : Has P DJ) {x : DP Cn.ps} {K : DP Cn.rs → DP (ptrs Cn.ps) → Prop} (hw : Hj P x K) : Fn P "mergelens/scan.escaped" Cn x K :=
 CU (c := FI) h rfl rfl (by kernel_rfl) (Eq.mpr (show CG P DJ Cn FI x K = _ by kernel_rfl) hw)
def GY : BE :=
 (.seq (.region [o1 4 (.asg kF)]) (.seq (.region [im 5 1, im 6 0, o1 7 (.GN 6), o1 8 (.bin .lss 5 7), im 9 8, gt 10 9 (.mv 0), gt 11 9 (.mv 1), gt 12 9 (.ixS 10 11), gt 13 9 (.bin
 .geq 12 (.c (.int .u8 48))), o1 14 (.pick 9 13 kF), im 15 14, gt 16 15 (.mv 0), gt 17 15 (.mv 1), gt 18 15 (.ixS 16 17), gt 19 15 (.bin .leq 18 (.c (.int .u8 57))), o1 20 (.pick 15
 19 kF), ia 4 20]) .ret))
def EV : AFn := ⟨ zS9, GY.erase, [.tmp 4], 2⟩
def Jg (P : Pg) (x : ((List UInt8) × Int)) (K : Bool → Unit → Prop) : Prop :=
 (((decide (x.2 < (x.1.length : Int))) = true → 0 ≤ x.2 ∧ x.2 < (x.1.length : Int))) ∧
 (((cond (decide (x.2 < (x.1.length : Int))) (decide (((x.1.getD x.2.toNat 0).toNat : Int) ≥ (48 : Int))) false) = true → 0 ≤ x.2 ∧ x.2 < (x.1.length : Int))) ∧
 K (cond (cond (decide (x.2 < (x.1.length : Int))) (decide (((x.1.getD x.2.toNat 0).toNat : Int) ≥ (48 : Int))) false) (decide (((x.1.getD x.2.toNat 0).toNat : Int) ≤ (57 : Int))) false) ()
theorem Nf {P : Pg} (h : Has P EV) {x : DP BL.ps} {K : DP BL.rs → DP (ptrs BL.ps) → Prop} (hw : Jg P x K) : Fn P zS9 BL x K :=
 CU (c := GY) h rfl rfl (by kernel_rfl) (Eq.mpr (show CG P EV BL GY x K = _ by kernel_rfl) hw)
def Gg : BE :=
 (.seq (.region [ia 4 (kI 0), ia 5 (kI 0), o1 6 (.asg kF)]) (.seq (.seq (.region [im 9 1, o1 10 (.bin .lss 9 (kI 0)), im 11 10, gf 12 11 (.mv 0), gf 13 11 (.mv 1), oS ⟨some 14,
 .call zS9 [12, 13], some (11, false)⟩ BL, gf 15 11 (.un .not 14), o1 16 (.pick 11 kT 15)]) (.cond 16 (.seq (.region [ia 4 (kI 0), ia 5 (kI 0), o1 6
 (.asg kF)]) .ret) .skip)) (.seq (.region [im 17 1, ia 7 (kI 0), ia 8 17]) (.seq (.frame (rg [7, 8] 18 14) [] false (.join [.si 7, .si 8] (.block 0 (.loop [.si 7, .si 8] (.seq (.seq
 (.region [im 18 0, im 19 8, oS ⟨some 20, .call zS9 [18, 19], none⟩ BL]) (.cond 20 .skip (.exit 0))) (.seq (.frame (rg [7] 23 9) [] false (.join [.si 7]
 (.block 1 (.region [im 23 7, o1 24 (.bin .mul (kI 10) 23), im 25 0, im 26 8, o1 27 (.ixS 25 26), o1 28 (.bin .sub 27 (.c (.int .u8 48))), o1 29 (.conv (.toInt .i64) 28), o1 30
 (.bin .add 24 29), o1 31 (.mm false 30 (kI 2147483648)), ia 7 31])))) (.region [im 21 8, o1 22 (.bin .add 21 (kI 1)), ia 8 22]))))))) (.seq (.seq (.region [im 32 7, o1 33 (.bin
 .gtr 32 (kI 2147483647)), im 34 33, gf 35 34 (.mv 0), gf 36 34 (.mv 1), gf 37 34 (.ixS 35 36), gf 38 34 (.bin .eql 37 (.c (.int .u8 48))), gf 39 34 (.mv 38), gt 40 39 (.mv 8), gt
 41 39 (.mv 1), gt 42 39 (.bin .add 41 (kI 1)), gt 43 39 (.bin .gtr 40 42), gf 44 34 (.pick 39 43 kF), o1 45 (.pick 34 kT 44)]) (.cond 45 (.seq (.region [ia 4 (kI 0), ia 5 (kI 0),
 o1 6 (.asg kF)]) .ret) .skip)) (.seq (.region [im 46 7, im 47 8, ia 4 46, ia 5 47, o1 6 (.asg kT)]) .ret))))))
def Eo : AFn := ⟨ "mergelens/scan.Number", Gg.erase, [.tmp 4, .tmp 5, .tmp 6], 2⟩
def Ir (P : Pg) (x : ((List UInt8) × Int)) (K : (Int × (Int × Bool)) → Unit → Prop) : Prop :=
 Ao (D := Bool) (fun J1 => (((decide (x.2 < (0 : Int))) = false → Fn P zS9 BL x (fun (d2 : Bool) _ => J1 d2)) ∧ (((decide (x.2 < (0 : Int))) = true → J1 false) ∧ True))) (fun d3 => (((cond (decide (x.2 < (0 : Int))) true (!d3)) = true → K ((0 : Int), ((0 : Int), false)) ()) ∧ ((cond (decide (x.2 < (0 : Int))) true (!d3)) = false → Ao (D := (Int × Int)) (fun J4 => Dm (D := (Int × Int)) ((0 : Int), x.2) (fun d6 J7 => Fn P zS9 BL (x.1, d6.2) (fun (d8 : Bool) (e9 : Unit) => ((d8 = true → Ao (D := Int) (fun J10 => (0 ≤ d6.2 ∧ d6.2 < (x.1.length : Int)) ∧
 J10 (if (2147483648 : Int) < (i64.wrap ((i64.wrap ((10 : Int) * d6.1)) + (i64.wrap (u8.wrap (((x.1.getD d6.2.toNat 0).toNat : Int) - (48 : Int)))))) then (2147483648 : Int) else (i64.wrap ((i64.wrap ((10 : Int) * d6.1)) + (i64.wrap (u8.wrap (((x.1.getD d6.2.toNat 0).toNat : Int) - (48 : Int)))))))) (fun d11 => J7 (d11, (i64.wrap (d6.2 + (1 : Int)))))) ∧ (d8 = false → J4 d6))))) (fun d5 => (((decide (d5.1 > (2147483647 : Int))) = false → 0 ≤ x.2 ∧ x.2 < (x.1.length : Int))) ∧
 (((cond (decide (d5.1 > (2147483647 : Int))) true (cond (((x.1.getD x.2.toNat 0).toNat : Int) == (48 : Int)) (decide (d5.2 > (i64.wrap (x.2 + (1 : Int))))) false)) = true → K ((0 : Int), ((0 : Int), false)) ()) ∧ ((cond (decide (d5.1 > (2147483647 : Int))) true (cond (((x.1.getD x.2.toNat 0).toNat : Int) == (48 : Int)) (decide (d5.2 > (i64.wrap (x.2 + (1 : Int))))) false)) = false → K (d5.1, (d5.2, true)) ()))))))
theorem Mf {P : Pg} (h : Has P Eo) {x : DP Cf.ps} {K : DP Cf.rs → DP (ptrs Cf.ps) → Prop} (hw : Ir P x K) : Fn P "mergelens/scan.Number" Cf x K :=
 CU (c := Gg) h rfl rfl (by kernel_rfl) (Eq.mpr (show CG P Eo Cf Gg x K = _ by kernel_rfl) hw)
end Go.VS
