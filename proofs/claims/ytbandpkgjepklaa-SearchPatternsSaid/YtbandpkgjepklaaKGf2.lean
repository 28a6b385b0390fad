/- Functions of the program: typed code, and what it says, lifted. -/
import Derived.Test.YtbandpkgjepklaaKTxSig
import Derived.KernelRfl
set_option linter.unusedVariables false
set_option linter.unusedSimpArgs false
set_option maxRecDepth 8000
open Int renaming toNat → Qa0, tdiv → Qa3, tmod → Qa5
open BitVec renaming ofInt → Qa1, toNat → Qa4
open List renaming getD → Qa2
namespace Go.VS
open IntKind
def CV : Be :=
 (.seq (.region [ia 2 (kI 0)]) (.seq (.seq (.region [im 4 0, o1 5 (.nilc 4), fa 6 2 5, ld 7 6, o1 8 (.bin .eql 7 (kI 50))]) (.frame [9] [] false (.join [] (.cond 8 (.region [o1 9
 (.mkI 26 (kI 1)), o0 ⟨none, .panic 9, none⟩]) .skip)))) (.seq (.region [im 10 0, o1 11 (.nilc 10), fa 12 1 11, ld 13 12, o1 14 (.bin .add 13 (kI 1)), o1 15 (.nilc 10), fa 16 1 15,
 o0 ⟨none, .store 1 16 14, none⟩]) (.seq (.region [im 17 0, o1 18 (.nilc 17), fa 19 2 18, ld 20 19, o1 21 (.bin .add 20 (kI 1)), o1 22 (.nilc 17), fa 23 2 22, o0 ⟨none, .store 1 23
 21, none⟩]) (.seq (.region [im 24 0, oS ⟨some 25, .call Un [24], none⟩ AQ, ia 3 25]) (.seq (.region [im 26 0, o1 27 (.nilc 26),
 fa 28 2 27, ld 29 28, o1 30 (.bin .sub 29 (kI 1)), o1 31 (.nilc 26), fa 32 2 31, o0 ⟨none, .store 1 32 30, none⟩]) (.seq (.seq (.region [im 33 0, oS ⟨some 34, .call
 zS1 [33, (.c (.int .u8 41))], none⟩ As, o1 35 (.un .not 34)]) (.frame [36] [] false (.join [] (.cond 35 (.region [o1 36 (.mkI 26 (kI
 40)), o0 ⟨none, .panic 36, none⟩]) .skip)))) (.seq (.region [im 37 3, ia 2 37]) .ret))))))))
def A4 : AFn := ⟨ Uq, CV.erase, [.tmp 2], 1⟩
def Ek (P : Pg) (x : Aa) (K : Int → Aa → Prop) : Prop :=
 Ag (D := Unit) (fun J1 => (((x.2.2.1 == (50 : Int)) = true → P.kp (.iface 26 (.int .i64 (1 : Int)))) ∧ ((x.2.2.1 == (50 : Int)) = false → J1 ()))) (fun d2 => Fn P Un AQ (x.1, ((i64.wrap (x.2.1 + (1 : Int))), ((i64.wrap (x.2.2.1 + (1 : Int))), x.2.2.2))) (fun (d3 : Int) (e4 : Aa) => Fn P zS1 As ((e4.1, (e4.2.1, ((i64.wrap (e4.2.2.1 - (1 : Int))), e4.2.2.2))), (41 : Int)) (fun (d5 : Bool) (e6 : Aa) => Ag (D := Unit) (fun J7 => (((!d5) = true → P.kp (.iface 26 (.int .i64 (40 : Int)))) ∧ ((!d5) = false → J7 ()))) (fun d8 => K d3 e6))))
theorem G8 {P : Pg} (h : Has P A4) {x : DP AP.ps} {K : DP AP.rs → DP (ptrs AP.ps) → Prop} (hw : Ek P x K) : Fn P Uq AP x K :=
 BI (c := CV) h rfl rfl (by kernel_rfl) (Eq.mpr (show BC P A4 AP CV x K = _ by kernel_rfl) hw)
def Gf : Be :=
 (.seq (.region [o1 2 (.box 0), o1 4 (.alloc [(.int .u64 0), (.int .u64 0), (.int .u64 0), (.int .u64 0)])]) (.seq (.region [im 5 1, o1 6 (.bin .quo 5 (.c (.int .u8 64))), o1 7
 (.ixAr 4 1 2 6), ld 8 7, im 9 1, o1 10 (.bin .rem 9 (.c (.int .u8 64))), o1 11 (.bin .shl (.c (.int .u64 1)) 10), o1 12 (.bin .or 8 11), o1 13 (.ixAr 4 1 2 6), o0 ⟨none, .store 1
 13 12, none⟩]) (.seq (.region [o1 14 (.load true 4 2), o0 ⟨none, .store 4 4 14, none⟩]) .ret)))
def Ey : AFn := ⟨ zS8, Gf.erase, [.cell 4 true 4], 2⟩
def IV (P : Pg) (x : ((Int × (Int × (Int × Int))) × Int)) (K : (Int × (Int × (Int × Int))) → Unit → Prop) : Prop :=
 ((64 : Int) ≠ 0) ∧
 (0 ≤ (u8.wrap (Qa3 x.2 (64 : Int))) ∧ (u8.wrap (Qa3 x.2 (64 : Int))) < ((4 : Nat) : Int)) ∧
 ((Qa0 (u8.wrap (Qa3 x.2 (64 : Int)))) < 4) ∧
 ((64 : Int) ≠ 0) ∧
 (0 ≤ (Qa5 x.2 (64 : Int))) ∧
 (0 ≤ (u8.wrap (Qa3 x.2 (64 : Int))) ∧ (u8.wrap (Qa3 x.2 (64 : Int))) < ((4 : Nat) : Int)) ∧
 ((Qa0 (u8.wrap (Qa3 x.2 (64 : Int)))) < 4) ∧
 K ((if (Qa0 (u8.wrap (Qa3 x.2 (64 : Int)))) = 0 then (u64.wrap ((Qa4 (Qa1 u64.bits (Qa2 [x.1.1, x.1.2.1, x.1.2.2.1, x.1.2.2.2] (Qa0 (u8.wrap (Qa3 x.2 (64 : Int)))) (0 : Int)) ||| Qa1 u64.bits (u64.wrap ((1 : Int) * 2 ^ (min (Qa0 (Qa5 x.2 (64 : Int))) u64.bits)))) : Nat) : Int)) else x.1.1), ((if (Qa0 (u8.wrap (Qa3 x.2 (64 : Int)))) = 1 then (u64.wrap ((Qa4 (Qa1 u64.bits (Qa2 [x.1.1, x.1.2.1, x.1.2.2.1, x.1.2.2.2] (Qa0 (u8.wrap (Qa3 x.2 (64 : Int)))) (0 : Int)) ||| Qa1 u64.bits (u64.wrap ((1 : Int) * 2 ^ (min (Qa0 (Qa5 x.2 (64 : Int))) u64.bits)))) : Nat) : Int)) else x.1.2.1), ((if (Qa0 (u8.wrap (Qa3 x.2 (64 : Int)))) = 2 then (u64.wrap ((Qa4 (Qa1 u64.bits (Qa2 [x.1.1, x.1.2.1, x.1.2.2.1, x.1.2.2.2] (Qa0 (u8.wrap (Qa3 x.2 (64 : Int)))) (0 : Int)) ||| Qa1 u64.bits (u64.wrap ((1 : Int) * 2 ^ (min (Qa0 (Qa5 x.2 (64 : Int))) u64.bits)))) : Nat) : Int)) else x.1.2.2.1), (if (Qa0 (u8.wrap (Qa3 x.2 (64 : Int)))) = 3 then (u64.wrap ((Qa4 (Qa1 u64.bits (Qa2 [x.1.1, x.1.2.1, x.1.2.2.1, x.1.2.2.2] (Qa0 (u8.wrap (Qa3 x.2 (64 : Int)))) (0 : Int)) ||| Qa1 u64.bits (u64.wrap ((1 : Int) * 2 ^ (min (Qa0 (Qa5 x.2 (64 : Int))) u64.bits)))) : Nat) : Int)) else x.1.2.2.2)))) ()
theorem MQ {P : Pg} (h : Has P Ey) {x : DP AO.ps} {K : DP AO.rs → DP (ptrs AO.ps) → Prop} (hw : IV P x K) : Fn P zS8 AO x K :=
 BI (c := Gf) h rfl rfl (by kernel_rfl) (Eq.mpr (show BC P Ey AO Gf x K = _ by kernel_rfl) hw)
def EP : Be :=
 (.seq (.region [o1 2 (.asg (.c (.int .u8 0)))]) (.seq (.region [im 6 0, oS ⟨some 7, .call zS7 [6], none⟩ AF, im 5 7, o1 8 (.ext 5 0),
 o1 9 (.ext 5 1), ia 3 8, ia 4 9]) (.seq (.seq (.region [im 10 4, o1 11 (.un .not 10)]) (.frame [12] [] false (.join [] (.cond 11 (.region [o1 12 (.mkI 26 (kI 40)), o0 ⟨none, .panic
 12, none⟩]) .skip)))) (.seq (.region [im 13 0, o1 14 (.nilc 13), fa 15 1 14, ld 16 15, o1 17 (.bin .add 16 (kI 1)), o1 18 (.nilc 13), fa 19 1 18, o0 ⟨none, .store 1 19 17, none⟩])
 (.seq (.region [im 20 3, ia 2 20]) .ret)))))
def Dq : AFn := ⟨ OV, EP.erase, [.tmp 2], 1⟩
def GX (P : Pg) (x : Aa) (K : Int → Aa → Prop) : Prop :=
 Fn P zS7 AF x (fun (d1 : (Int × Bool)) (e2 : Aa) => Ag (D := Unit) (fun J3 => (((!d1.2) = true → P.kp (.iface 26 (.int .i64 (40 : Int)))) ∧ ((!d1.2) = false → J3 ()))) (fun d4 => K d1.1 (e2.1, ((i64.wrap (e2.2.1 + (1 : Int))), e2.2.2))))
theorem Kw {P : Pg} (h : Has P Dq) {x : DP AS.ps} {K : DP AS.rs → DP (ptrs AS.ps) → Prop} (hw : GX P x K) : Fn P OV AS x K :=
 BI (c := EP) h rfl rfl (by kernel_rfl) (Eq.mpr (show BC P Dq AS EP x K = _ by kernel_rfl) hw)
def ER : Be :=
 (.seq (.region [o1 3 (.box 0), o1 6 (.alloc [(.int .u64 0), (.int .u64 0), (.int .u64 0), (.int .u64 0)])]) (.seq (.seq (.region [im 8 1, o1 9 (.conv (.toInt .i64) 8), ia 7 9])
 (.frame (rg [7] 10 10) [1003] false (.join [.bx 1003 (.pair (.int .u64) (.pair (.int .u64) (.pair (.int .u64) (.int .u64)))) .leaf] (.block 0 (.loop [.si 7, .bx 1003 (.pair (.int
 .u64) (.pair (.int .u64) (.pair (.int .u64) (.int .u64)))) .leaf] (.seq (.seq (.region [im 10 7, im 11 2, o1 12 (.conv (.toInt .i64) 11), o1 13 (.bin .leq 10 12)]) (.cond 13 .skip
 (.exit 0))) (.seq (.frame (rg [] 16 4) [1003] false (.join [.bx 1003 (.pair (.int .u64) (.pair (.int .u64) (.pair (.int .u64) (.int .u64)))) .leaf] (.block 1 (.region [o1 16 (.load
 true 4 3), im 17 7, o1 18 (.conv (.toInt .u8) 17), oS ⟨some 19, .call zS8 [16, 18], none⟩ AO, o0 ⟨none, .store 4 3 19, none⟩])))) (.region
 [im 14 7, o1 15 (.bin .add 14 (kI 1)), ia 7 15])))))))) (.seq (.region [o1 20 (.load true 4 3), o0 ⟨none, .store 4 6 20, none⟩]) .ret)))
def Dr : AFn := ⟨ zS0, ER.erase, [.cell 6 true 4], 3⟩
def GY (P : Pg) (x : ((Int × (Int × (Int × Int))) × (Int × Int))) (K : (Int × (Int × (Int × Int))) → Unit → Prop) : Prop :=
 Ag (D := (Int × (Int × (Int × Int)))) (fun J1 => B0 (D := (Int × (Int × (Int × (Int × Int))))) ((i64.wrap x.2.1), x.1) (fun d3 J4 => (((decide (d3.1 ≤ (i64.wrap x.2.2))) = true → Ag (D := (Int × (Int × (Int × Int)))) (fun J5 => Fn P zS8 AO (d3.2, (u8.wrap d3.1)) (fun (d7 : (Int × (Int × (Int × Int)))) _ => J5 d7)) (fun d6 => J4 ((i64.wrap (d3.1 + (1 : Int))), d6))) ∧ ((decide (d3.1 ≤ (i64.wrap x.2.2))) = false → J1 d3.2)))) (fun d2 => K d2 ())
theorem Kx {P : Pg} (h : Has P Dr) {x : DP Ao.ps} {K : DP Ao.rs → DP (ptrs Ao.ps) → Prop} (hw : GY P x K) : Fn P zS0 Ao x K :=
 BI (c := ER) h rfl rfl (by kernel_rfl) (Eq.mpr (show BC P Dr Ao ER x K = _ by kernel_rfl) hw)
def FI : Be :=
 (.seq (.region [o1 2 (.box 0), o1 4 (.alloc [(.int .u64 0), (.int .u64 0), (.int .u64 0), (.int .u64 0)])]) (.seq (.seq (.region [im 5 1]) (.frame (rg [] 6 35) [1004] false (.join
 [.bx 1004 (.pair (.int .u64) (.pair (.int .u64) (.pair (.int .u64) (.int .u64)))) .leaf] (.block 0 (.seq (.region [o1 7 (.bin .eql 5 (.c (.string ⟨#[97, 108, 112, 104, 97]⟩))), ia
 6 7]) (.cond 6 (.seq (.region [o1 8 (.load true 4 2), oS ⟨some 9, .call zS0 [8, (.c (.int .u8 97)), (.c (.int .u8 122))], none⟩ Ao, oS
 ⟨some 10, .call zS0 [9, (.c (.int .u8 65)), (.c (.int .u8 90))], none⟩ Ao, o0 ⟨none, .store 4 4 10, none⟩]) .ret) (.seq (.region [o1 12
 (.bin .eql 5 (.c (.string ⟨#[100, 105, 103, 105, 116]⟩))), ia 11 12]) (.cond 11 (.seq (.region [o1 13 (.load true 4 2), oS ⟨some 14, .call zS0 [13, (.c
 (.int .u8 48)), (.c (.int .u8 57))], none⟩ Ao, o0 ⟨none, .store 4 4 14, none⟩]) .ret) (.seq (.region [o1 16 (.bin .eql 5 (.c (.string ⟨#[97, 108, 110, 117,
 109]⟩))), ia 15 16]) (.cond 15 (.seq (.region [o1 17 (.load true 4 2), oS ⟨some 18, .call zS0 [17, (.c (.int .u8 97)), (.c (.int .u8 122))], none⟩
 Ao, oS ⟨some 19, .call zS0 [18, (.c (.int .u8 65)), (.c (.int .u8 90))], none⟩ Ao, oS ⟨some 20, .call
 zS0 [19, (.c (.int .u8 48)), (.c (.int .u8 57))], none⟩ Ao, o0 ⟨none, .store 4 4 20, none⟩]) .ret) (.seq (.region [o1 22 (.bin .eql 5
 (.c (.string ⟨#[117, 112, 112, 101, 114]⟩))), ia 21 22]) (.cond 21 (.seq (.region [o1 23 (.load true 4 2), oS ⟨some 24, .call zS0 [23, (.c (.int .u8
 65)), (.c (.int .u8 90))], none⟩ Ao, o0 ⟨none, .store 4 4 24, none⟩]) .ret) (.seq (.region [o1 26 (.bin .eql 5 (.c (.string ⟨#[108, 111, 119, 101, 114]⟩))), ia 25
 26]) (.cond 25 (.seq (.region [o1 27 (.load true 4 2), oS ⟨some 28, .call zS0 [27, (.c (.int .u8 97)), (.c (.int .u8 122))], none⟩ Ao,
 o0 ⟨none, .store 4 4 28, none⟩]) .ret) (.seq (.region [o1 30 (.bin .eql 5 (.c (.string ⟨#[115, 112, 97, 99, 101]⟩))), ia 29 30]) (.cond 29 (.seq (.region [o1 31 (.load true 4 2),
 oS ⟨some 32, .call zS0 [31, (.c (.int .u8 9)), (.c (.int .u8 13))], none⟩ Ao, oS ⟨some 33, .call zS8 [32, (.c
 (.int .u8 32))], none⟩ AO, o0 ⟨none, .store 4 4 33, none⟩]) .ret) (.seq (.region [o1 35 (.bin .eql 5 (.c (.string ⟨#[112, 117, 110, 99, 116]⟩))), ia 34 35]) (.cond 34
 (.seq (.region [o1 36 (.load true 4 2), oS ⟨some 37, .call zS0 [36, (.c (.int .u8 33)), (.c (.int .u8 47))], none⟩ Ao, oS ⟨some 38,
 .call zS0 [37, (.c (.int .u8 58)), (.c (.int .u8 64))], none⟩ Ao, oS ⟨some 39, .call zS0 [38, (.c (.int .u8
 91)), (.c (.int .u8 96))], none⟩ Ao, oS ⟨some 40, .call zS0 [39, (.c (.int .u8 123)), (.c (.int .u8 126))], none⟩ Ao,
 o0 ⟨none, .store 4 4 40, none⟩]) .ret) .skip)))))))))))))))))) (.region [o1 41 (.mkI 26 (kI 40)), o0 ⟨none, .panic 41, none⟩])))
def Ee : AFn := ⟨ Ajj, FI.erase, [.cell 4 true 4], 2⟩
def Ik (P : Pg) (x : ((Int × (Int × (Int × Int))) × (List UInt8))) (K : (Int × (Int × (Int × Int))) → Unit → Prop) : Prop :=
 Ag (D := (Int × (Int × (Int × Int)))) (fun J1 => (((x.2 == ([97, 108, 112, 104, 97] : List UInt8)) = true → Fn P zS0 Ao (x.1, ((97 : Int), (122 : Int))) (fun (d3 : (Int × (Int × (Int × Int)))) _ => Fn P zS0 Ao (d3, ((65 : Int), (90 : Int))) (fun (d5 : (Int × (Int × (Int × Int)))) _ => K d5 ()))) ∧ ((x.2 == ([97, 108, 112, 104, 97] : List UInt8)) = false → (((x.2 == ([100, 105, 103, 105, 116] : List UInt8)) = true → Fn P zS0 Ao (x.1, ((48 : Int), (57 : Int))) (fun (d7 : (Int × (Int × (Int × Int)))) _ => K d7 ())) ∧ ((x.2 == ([100, 105, 103, 105, 116] : List UInt8)) = false → (((x.2 == ([97, 108, 110, 117, 109] : List UInt8)) = true → Fn P zS0 Ao (x.1, ((97 : Int), (122 : Int))) (fun (d9 : (Int × (Int × (Int × Int)))) _ => Fn P zS0 Ao (d9, ((65 : Int), (90 : Int))) (fun (d11 : (Int × (Int × (Int × Int)))) _ => Fn P zS0 Ao (d11, ((48 : Int), (57 : Int))) (fun (d13 : (Int × (Int × (Int × Int)))) _ => K d13 ())))) ∧ ((x.2 == ([97, 108, 110, 117, 109] : List UInt8)) = false → (((x.2 == ([117, 112, 112, 101, 114] : List UInt8)) = true → Fn P zS0 Ao (x.1, ((65 : Int), (90 : Int))) (fun (d15 : (Int × (Int × (Int × Int)))) _ => K d15 ())) ∧ ((x.2 == ([117, 112, 112, 101, 114] : List UInt8)) = false → (((x.2 == ([108, 111, 119, 101, 114] : List UInt8)) = true → Fn P zS0 Ao (x.1, ((97 : Int), (122 : Int))) (fun (d17 : (Int × (Int × (Int × Int)))) _ => K d17 ())) ∧ ((x.2 == ([108, 111, 119, 101, 114] : List UInt8)) = false → (((x.2 == ([115, 112, 97, 99, 101] : List UInt8)) = true → Fn P zS0 Ao (x.1, ((9 : Int), (13 : Int))) (fun (d19 : (Int × (Int × (Int × Int)))) _ => Fn P zS8 AO (d19, (32 : Int)) (fun (d21 : (Int × (Int × (Int × Int)))) _ => K d21 ()))) ∧ ((x.2 == ([115, 112, 97, 99, 101] : List UInt8)) = false → (((x.2 == ([112, 117, 110, 99, 116] : List UInt8)) = true → Fn P zS0 Ao (x.1, ((33 : Int), (47 : Int))) (fun (d23 : (Int × (Int × (Int × Int)))) _ => Fn P zS0 Ao (d23, ((58 : Int), (64 : Int))) (fun (d25 : (Int × (Int × (Int × Int)))) _ => Fn P zS0 Ao (d25, ((91 : Int), (96 : Int))) (fun (d27 : (Int × (Int × (Int × Int)))) _ => Fn P zS0 Ao (d27, ((123 : Int), (126 : Int))) (fun (d29 : (Int × (Int × (Int × Int)))) _ => K d29 ()))))) ∧ ((x.2 == ([112, 117, 110, 99, 116] : List UInt8)) = false → J1 ((0 : Int), ((0 : Int), ((0 : Int), (0 : Int))))))))))))))))))) (fun d2 => P.kp (.iface 26 (.int .i64 (40 : Int))))
theorem Mc {P : Pg} (h : Has P Ee) {x : DP BV.ps} {K : DP BV.rs → DP (ptrs BV.ps) → Prop} (hw : Ik P x K) : Fn P Ajj BV x K :=
 BI (c := FI) h rfl rfl (by kernel_rfl) (Eq.mpr (show BC P Ee BV FI x K = _ by kernel_rfl) hw)
def EM : Be :=
 (.seq (.region [o1 3 (.box 1), o1 4 (.alloc [(.int .u64 0), (.int .u64 0), (.int .u64 0), (.int .u64 0)])]) (.seq (.seq (.frame (rg [5, 6] 12 13) [] false (.join [.sl 5 false .str
 .leaf, .sl 6 false .bool .leaf] (.draw [(.first (im 13 0) (.first (o1 14 (.nilc 13)) (.first (fa 15 0 14) (.first (ld 16 15) (.first (im 17 0) (.first (o1 18 (.nilc 17)) (.first
 (fa 19 1 18) (.first (ld 20 19) (.first (o1 21 (.slS 16 (some 20) none)) (.alt (oS ⟨some 22, .call "strings.CutPrefix" [21, (.c (.string ⟨#[91, 58]⟩))], none⟩ Ds)
 (.first (im 12 22) (.alt (o1 23 (.ext 12 0)) (.alt (o1 24 (.ext 12 1)) (.alt (ia 5 23) (.alt (ia 6 24) .done .stop) .stop) (.alt (ia 5 23) (.alt (o1 24 (.ext 12 1)) (.alt (ia 6 24)
 .done .stop) .stop) .stop)) (.alt (o1 24 (.ext 12 1)) (.alt (o1 23 (.ext 12 0)) (.alt (ia 5 23) (.alt (ia 6 24) .done .stop) .stop) .stop) .stop))) .stop))))))))))]))) (.seq
 (.region [im 25 6]) (.cond 25 (.seq (.region [im 27 5, oS ⟨some 28, .call "strings.Cut" [27, (.c (.string ⟨#[58, 93]⟩))], none⟩ Gp, im 26 28, o1 29 (.ext 26 0), o1 30
 (.ext 26 1), o1 31 (.ext 26 2), ia 7 29, ia 8 30, ia 9 31]) (.seq (.seq (.region [im 32 9, o1 33 (.un .not 32)]) (.frame [34] [] false (.join [] (.cond 33 (.region [o1 34 (.mkI 26
 (kI 40)), o0 ⟨none, .panic 34, none⟩]) .skip)))) (.seq (.region [im 35 0, o1 36 (.nilc 35), fa 37 1 36, ld 38 37, im 39 7, o1 40 (.lenS 39), o1 41 (.bin .add (kI 2) 40), o1 42
 (.bin .add 41 (kI 2)), o1 43 (.bin .add 38 42), o1 44 (.nilc 35), fa 45 1 44, o0 ⟨none, .store 1 45 43, none⟩]) (.seq (.region [o1 46 (.load true 4 3), im 47 7, oS ⟨some 48, .call
 Ajj [46, 47], none⟩ BV, o0 ⟨none, .store 4 4 48, none⟩]) .ret)))) .skip))) (.seq (.region [im 49 0, oS ⟨some 50, .call
 OV [49], none⟩ AS, ia 10 50]) (.seq (.frame (rg [11] 51 9) [] false (.join [.sl 11 false .str .leaf] (.draw [(.first (im 51 0)
 (.first (o1 52 (.nilc 51)) (.first (fa 53 0 52) (.first (ld 54 53) (.first (im 55 0) (.first (o1 56 (.nilc 55)) (.first (fa 57 1 56) (.first (ld 58 57) (.first (o1 59 (.slS 54
 (some 58) none)) (.alt (ia 11 59) .done .stop))))))))))]))) (.seq (.seq (.region [im 60 11, o1 61 (.lenS 60), o1 62 (.bin .lss 61 (kI 2)), im 63 62, gf 64 63 (.mv 11), gf 65 63
 (.ixS 64 (kI 0)), gf 66 63 (.bin .neq 65 (.c (.int .u8 45))), o1 67 (.pick 63 kT 66), im 68 67, gf 69 68 (.mv 11), gf 70 68 (.ixS 69 (kI 1)), gf 71 68 (.bin .eql 70 (.c (.int .u8
 93))), o1 72 (.pick 68 kT 71)]) (.cond 72 (.seq (.region [o1 73 (.load true 4 3), im 74 10, oS ⟨some 75, .call zS8 [73, 74], none⟩ AO, o0
 ⟨none, .store 4 4 75, none⟩]) .ret) .skip)) (.seq (.seq (.region [im 76 11, o1 77 (.ixS 76 (kI 1)), im 78 10, o1 79 (.bin .lss 77 78)]) (.frame [80] [] false (.join [] (.cond 79
 (.region [o1 80 (.mkI 26 (kI 40)), o0 ⟨none, .panic 80, none⟩]) .skip)))) (.seq (.region [im 81 0, o1 82 (.nilc 81), fa 83 1 82, ld 84 83, o1 85 (.bin .add 84 (kI 2)), o1 86 (.nilc
 81), fa 87 1 86, o0 ⟨none, .store 1 87 85, none⟩]) (.seq (.frame (rg [] 88 5) [1004] false (.join [.bx 1004 (.pair (.int .u64) (.pair (.int .u64) (.pair (.int .u64) (.int .u64))))
 .leaf] (.draw [(.first (o1 88 (.load true 4 3)) (.first (im 89 10) (.first (im 90 11) (.first (o1 91 (.ixS 90 (kI 1))) (.alt (oS ⟨some 92, .call zS0
 [88, 89, 91], none⟩ Ao) (.alt (o0 ⟨none, .store 4 4 92, none⟩) .done .stop) .stop)))))]))) .ret))))))))
def Dm : AFn := ⟨ Uo, EM.erase, [.cell 4 true 4], 2⟩
def GU (P : Pg) (x : (Aa × (Int × (Int × (Int × Int))))) (K : (Int × (Int × (Int × Int))) → Aa → Prop) : Prop :=
 Ag (D := ((List UInt8) × Bool)) (fun J1 => (0 ≤ x.1.2.1 ∧ x.1.2.1 ≤ (x.1.1.length : Int)) ∧
 (Fn P "strings.CutPrefix" Ds ((List.drop x.1.2.1.toNat x.1.1), ([91, 58] : List UInt8)) (fun (d3 : ((List UInt8) × Bool)) _ => ((((J1 d3) ∧ True) ∧ True) ∧ ((((J1 d3) ∧ True) ∧ True) ∧ True)) ∧ (((((J1 d3) ∧ True) ∧ True) ∧ True) ∧ True))) ∧ True) (fun d2 => ((d2.2 = true → Fn P "strings.Cut" Gp (d2.1, ([58, 93] : List UInt8)) (fun (d5 : ((List UInt8) × ((List UInt8) × Bool))) _ => Ag (D := Unit) (fun J7 => (((!d5.2.2) = true → P.kp (.iface 26 (.int .i64 (40 : Int)))) ∧ ((!d5.2.2) = false → J7 ()))) (fun d8 => Fn P Ajj BV (x.2, d5.1) (fun (d9 : (Int × (Int × (Int × Int)))) _ => K d9 (x.1.1, ((i64.wrap (x.1.2.1 + (i64.wrap ((i64.wrap ((2 : Int) + (d5.1.length : Int))) + (2 : Int))))), x.1.2.2)))))) ∧ (d2.2 = false → Fn P OV AS x.1 (fun (d11 : Int) (e12 : Aa) => Ag (D := (List UInt8)) (fun J13 => (0 ≤ e12.2.1 ∧ e12.2.1 ≤ (e12.1.length : Int)) ∧
 (J13 (List.drop e12.2.1.toNat e12.1)) ∧ True) (fun d14 => (((decide ((d14.length : Int) < (2 : Int))) = false → 0 ≤ (0 : Int) ∧ (0 : Int) < (d14.length : Int))) ∧
 (((cond (decide ((d14.length : Int) < (2 : Int))) true (((UInt8.toNat (Qa2 d14 (Qa0 (0 : Int)) 0) : Nat) : Int) != (45 : Int))) = false → 0 ≤ (1 : Int) ∧ (1 : Int) < (d14.length : Int))) ∧
 (((cond (cond (decide ((d14.length : Int) < (2 : Int))) true (((UInt8.toNat (Qa2 d14 (Qa0 (0 : Int)) 0) : Nat) : Int) != (45 : Int))) true (((UInt8.toNat (Qa2 d14 (Qa0 (1 : Int)) 0) : Nat) : Int) == (93 : Int))) = true → Fn P zS8 AO (x.2, d11) (fun (d15 : (Int × (Int × (Int × Int)))) _ => K d15 e12)) ∧ ((cond (cond (decide ((d14.length : Int) < (2 : Int))) true (((UInt8.toNat (Qa2 d14 (Qa0 (0 : Int)) 0) : Nat) : Int) != (45 : Int))) true (((UInt8.toNat (Qa2 d14 (Qa0 (1 : Int)) 0) : Nat) : Int) == (93 : Int))) = false → (0 ≤ (1 : Int) ∧ (1 : Int) < (d14.length : Int)) ∧
 Ag (D := Unit) (fun J17 => (((decide (((UInt8.toNat (Qa2 d14 (Qa0 (1 : Int)) 0) : Nat) : Int) < d11)) = true → P.kp (.iface 26 (.int .i64 (40 : Int)))) ∧ ((decide (((UInt8.toNat (Qa2 d14 (Qa0 (1 : Int)) 0) : Nat) : Int) < d11)) = false → J17 ()))) (fun d18 => Ag (D := (Int × (Int × (Int × Int)))) (fun J19 => (0 ≤ (1 : Int) ∧ (1 : Int) < (d14.length : Int)) ∧
 (Fn P zS0 Ao (x.2, (d11, ((UInt8.toNat (Qa2 d14 (Qa0 (1 : Int)) 0) : Nat) : Int))) (fun (d21 : (Int × (Int × (Int × Int)))) _ => (J19 d21) ∧ True)) ∧ True) (fun d20 => K d20 (e12.1, ((i64.wrap (e12.2.1 + (2 : Int))), e12.2.2)))))))))))
theorem Ks {P : Pg} (h : Has P Dm) {x : DP A9.ps} {K : DP A9.rs → DP (ptrs A9.ps) → Prop} (hw : GU P x K) : Fn P Uo A9 x K :=
 BI (c := EM) h rfl rfl (by kernel_rfl) (Eq.mpr (show BC P Dm A9 EM x K = _ by kernel_rfl) hw)
def DT : Be :=
 (.seq (.region [o1 1 (.box 0), o1 2 (.alloc [(.int .u64 0), (.int .u64 0), (.int .u64 0), (.int .u64 0)])]) (.seq (.seq (.region [o1 4 (.mv (kI 0))]) (.frame (rg [] 3 11) [1001]
 false (.join [.bx 1001 (.pair (.int .u64) (.pair (.int .u64) (.pair (.int .u64) (.int .u64)))) .leaf] (.block 0 (.loop [.si 4, .bx 1001 (.pair (.int .u64) (.pair (.int .u64) (.pair
 (.int .u64) (.int .u64)))) .leaf] (.seq (.region [o1 5 (.bin .lss 4 (kI 4))]) (.seq (.cond 5 .skip (.exit 0)) (.seq (.frame (rg [3] 6 7) [1001] false (.join [.bx 1001 (.pair (.int
 .u64) (.pair (.int .u64) (.pair (.int .u64) (.int .u64)))) .leaf] (.block 1 (.seq (.region [im 6 4, ia 3 6]) (.region [im 7 3, im 8 3, o1 9 (.ixAr 4 1 1 8), ld 10 9, o1 11 (.un
 .xor 10), o1 12 (.ixAr 4 1 1 7), o0 ⟨none, .store 1 12 11, none⟩]))))) (.region [o1 13 (.bin .add 4 (kI 1)), im 4 13]))))))))) (.seq (.region [o1 14 (.load true 4 1), o0 ⟨none,
 .store 4 2 14, none⟩]) .ret)))
def CG : AFn := ⟨ Up, DT.erase, [.cell 2 true 4], 1⟩
def Fu (P : Pg) (x : (Int × (Int × (Int × Int)))) (K : (Int × (Int × (Int × Int))) → Unit → Prop) : Prop :=
 Ag (D := (Int × (Int × (Int × Int)))) (fun J1 => B0 (D := (Int × (Int × (Int × (Int × Int))))) ((0 : Int), x) (fun d3 J4 => (((decide (d3.1 < (4 : Int))) = true → Ag (D := (Int × (Int × (Int × Int)))) (fun J5 => (0 ≤ d3.1 ∧ d3.1 < ((4 : Nat) : Int)) ∧
 (d3.1.toNat < 4) ∧
 (0 ≤ d3.1 ∧ d3.1 < ((4 : Nat) : Int)) ∧
 (d3.1.toNat < 4) ∧
 J5 ((if d3.1.toNat = 0 then (u64.wrap ((Qa4 (Qa1 u64.bits (if u64.signed then -1 else u64.max) ^^^ Qa1 u64.bits (Qa2 [d3.2.1, d3.2.2.1, d3.2.2.2.1, d3.2.2.2.2] d3.1.toNat (0 : Int))) : Nat) : Int)) else d3.2.1), ((if d3.1.toNat = 1 then (u64.wrap ((Qa4 (Qa1 u64.bits (if u64.signed then -1 else u64.max) ^^^ Qa1 u64.bits (Qa2 [d3.2.1, d3.2.2.1, d3.2.2.2.1, d3.2.2.2.2] d3.1.toNat (0 : Int))) : Nat) : Int)) else d3.2.2.1), ((if d3.1.toNat = 2 then (u64.wrap ((Qa4 (Qa1 u64.bits (if u64.signed then -1 else u64.max) ^^^ Qa1 u64.bits (Qa2 [d3.2.1, d3.2.2.1, d3.2.2.2.1, d3.2.2.2.2] d3.1.toNat (0 : Int))) : Nat) : Int)) else d3.2.2.2.1), (if d3.1.toNat = 3 then (u64.wrap ((Qa4 (Qa1 u64.bits (if u64.signed then -1 else u64.max) ^^^ Qa1 u64.bits (Qa2 [d3.2.1, d3.2.2.1, d3.2.2.2.1, d3.2.2.2.2] d3.1.toNat (0 : Int))) : Nat) : Int)) else d3.2.2.2.2))))) (fun d6 => J4 ((i64.wrap (d3.1 + (1 : Int))), d6))) ∧ ((decide (d3.1 < (4 : Int))) = false → J1 d3.2)))) (fun d2 => K d2 ())
theorem I1 {P : Pg} (h : Has P CG) {x : DP AR.ps} {K : DP AR.rs → DP (ptrs AR.ps) → Prop} (hw : Fu P x K) : Fn P Up AR x K :=
 BI (c := DT) h rfl rfl (by kernel_rfl) (Eq.mpr (show BC P CG AR DT x K = _ by kernel_rfl) hw)
def Fb : Be :=
 (.seq (.region [o1 3 (.box 1), ia 4 (kI 0)]) (.seq (.region [im 5 0, o1 6 (.load true 4 3), o1 7 (.build [(.int .i64 0), (.int .u64 0), (.int .u64 0), (.int .u64 0), (.int .u64 0),
 (.int .i64 0), (.int .i64 0), (.slice none 0 0)] [(0, 1, (kI 1)), (1, 4, 6)]), oS ⟨some 8, .call zS6 [5, 7], none⟩ AG, ia 4 8]) .ret))
def DH : AFn := ⟨ zS9, Fb.erase, [.tmp 4], 2⟩
def Hz (P : Pg) (x : (Aa × (Int × (Int × (Int × Int))))) (K : Int → Aa → Prop) : Prop :=
 Fn P zS6 AG (x.1, ((1 : Int), (x.2, ((0 : Int), ((0 : Int), []))))) (fun (d1 : Int) (e2 : Aa) => K d1 e2)
theorem LA {P : Pg} (h : Has P DH) {x : DP AM.ps} {K : DP AM.rs → DP (ptrs AM.ps) → Prop} (hw : Hz P x K) : Fn P zS9 AM x K :=
 BI (c := Fb) h rfl rfl (by kernel_rfl) (Eq.mpr (show BC P DH AM Fb x K = _ by kernel_rfl) hw)
def Eu : Be :=
 (.seq (.region [ia 2 (kI 0)]) (.seq (.region [im 5 0, o1 6 (.nilc 5), fa 7 1 6, ld 8 7, o1 9 (.bin .add 8 (kI 1)), o1 10 (.nilc 5), fa 11 1 10, o0 ⟨none, .store 1 11 9, none⟩])
 (.seq (.region [im 12 0, oS ⟨some 13, .call zS1 [12, (.c (.int .u8 94))], none⟩ As, ia 3 13]) (.seq (.region [im 14 0, o1 15 (.build
 [(.int .u64 0), (.int .u64 0), (.int .u64 0), (.int .u64 0)] []), oS ⟨some 16, .call Uo [14, 15], none⟩ A9, o1 4 (.alloc [(.int .u64
 0), (.int .u64 0), (.int .u64 0), (.int .u64 0)]), o0 ⟨none, .store 4 4 16, none⟩]) (.seq (.frame (rg [] 17 6) [0, 1004] true (.join [.bx 0 Aw (.pair .leaf (.pair .leaf
 (.pair .leaf (.node .own (.pair .leaf (.pair .leaf (.pair .leaf (.pair .leaf tM)))))))), .bx 1004 (.pair (.int .u64) (.pair (.int .u64) (.pair (.int .u64) (.int .u64)))) .leaf]
 (.block 0 (.loop [.bx 0 Aw (.pair .leaf (.pair .leaf (.pair .leaf (.node .own (.pair .leaf (.pair .leaf (.pair .leaf (.pair .leaf tM)))))))), .bx 1004 (.pair (.int .u64)
 (.pair (.int .u64) (.pair (.int .u64) (.int .u64)))) .leaf] (.seq (.seq (.region [im 17 0, oS ⟨some 18, .call zS1 [17, (.c (.int .u8 93))], none⟩
 As, o1 19 (.un .not 18)]) (.cond 19 .skip (.exit 0))) (.frame [20, 21, 22] [0, 1004] true (.join [.bx 0 Aw (.pair .leaf (.pair .leaf (.pair .leaf (.node
 .own (.pair .leaf (.pair .leaf (.pair .leaf (.pair .leaf tM)))))))), .bx 1004 (.pair (.int .u64) (.pair (.int .u64) (.pair (.int .u64) (.int .u64)))) .leaf] (.block 1 (.region [im
 20 0, o1 21 (.load true 4 4), oS ⟨some 22, .call Uo [20, 21], none⟩ A9, o0 ⟨none, .store 4 4 22, none⟩]))))))))) (.seq (.seq (.region
 [im 23 3]) (.frame [24, 25] [1004] false (.join [.bx 1004 (.pair (.int .u64) (.pair (.int .u64) (.pair (.int .u64) (.int .u64)))) .leaf] (.cond 23 (.region [o1 24 (.load true 4 4),
 oS ⟨some 25, .call Up [24], none⟩ AR, o0 ⟨none, .store 4 4 25, none⟩]) .skip)))) (.seq (.region [im 26 0, o1 27 (.load true 4
 4), oS ⟨some 28, .call zS9 [26, 27], none⟩ AM, ia 2 28]) .ret)))))))
def C9 : AFn := ⟨ Ur, Eu.erase, [.tmp 2], 1⟩
def GA (P : Pg) (x : Aa) (K : Int → Aa → Prop) : Prop :=
 Fn P zS1 As ((x.1, ((i64.wrap (x.2.1 + (1 : Int))), x.2.2)), (94 : Int)) (fun (d1 : Bool) (e2 : Aa) => Fn P Uo A9 (e2, ((0 : Int), ((0 : Int), ((0 : Int), (0 : Int))))) (fun (d3 : (Int × (Int × (Int × Int)))) (e4 : Aa) => Ag (D := (Aa × (Int × (Int × (Int × Int))))) (fun J5 => B0 (D := (Aa × (Int × (Int × (Int × Int))))) (e4, d3) (fun d7 J8 => Fn P zS1 As (d7.1, (93 : Int)) (fun (d9 : Bool) (e10 : Aa) => (((!d9) = true → Ag (D := (Aa × (Int × (Int × (Int × Int))))) (fun J11 => Fn P Uo A9 (e10, d7.2) (fun (d13 : (Int × (Int × (Int × Int)))) (e14 : Aa) => J11 (e14, d13))) (fun d12 => J8 d12)) ∧ ((!d9) = false → J5 (e10, d7.2)))))) (fun d6 => Ag (D := (Int × (Int × (Int × Int)))) (fun J15 => ((d1 = true → Fn P Up AR d6.2 (fun (d17 : (Int × (Int × (Int × Int)))) _ => J15 d17)) ∧ (d1 = false → J15 d6.2))) (fun d16 => Fn P zS9 AM (d6.1, d16) (fun (d19 : Int) (e20 : Aa) => K d19 e20)))))
theorem JQ {P : Pg} (h : Has P C9) {x : DP B9.ps} {K : DP B9.rs → DP (ptrs B9.ps) → Prop} (hw : GA P x K) : Fn P Ur B9 x K :=
 BI (c := Eu) h rfl rfl (by kernel_rfl) (Eq.mpr (show BC P C9 B9 Eu x K = _ by kernel_rfl) hw)
def E9 : Be :=
 (.seq (.region [ia 2 (kI 0)]) (.seq (.region [im 3 0, o1 4 (.nilc 3), fa 5 1 4, ld 6 5, o1 7 (.bin .add 6 (kI 1)), o1 8 (.nilc 3), fa 9 1 8, o0 ⟨none, .store 1 9 7, none⟩]) (.seq
 (.region [im 10 0, o1 11 (.build [(.int .u64 0), (.int .u64 0), (.int .u64 0), (.int .u64 0)] []), oS ⟨some 12, .call Up [11], none⟩
 AR, oS ⟨some 13, .call zS9 [10, 12], none⟩ AM, ia 2 13]) .ret)))
def DF : AFn := ⟨ Us, E9.erase, [.tmp 2], 1⟩
def Hx (P : Pg) (x : Aa) (K : Int → Aa → Prop) : Prop :=
 Fn P Up AR ((0 : Int), ((0 : Int), ((0 : Int), (0 : Int)))) (fun (d1 : (Int × (Int × (Int × Int)))) _ => Fn P zS9 AM ((x.1, ((i64.wrap (x.2.1 + (1 : Int))), x.2.2)), d1) (fun (d3 : Int) (e4 : Aa) => K d3 e4))
theorem Ly {P : Pg} (h : Has P DF) {x : DP Cs.ps} {K : DP Cs.rs → DP (ptrs Cs.ps) → Prop} (hw : Hx P x K) : Fn P Us Cs x K :=
 BI (c := E9) h rfl rfl (by kernel_rfl) (Eq.mpr (show BC P DF Cs E9 x K = _ by kernel_rfl) hw)
def D9 : Be :=
 (.seq (.region [ia 2 (kI 0)]) (.seq (.region [im 3 0, o1 4 (.nilc 3), fa 5 1 4, ld 6 5, o1 7 (.bin .add 6 (kI 1)), o1 8 (.nilc 3), fa 9 1 8, o0 ⟨none, .store 1 9 7, none⟩]) (.seq
 (.region [im 10 0, o1 11 (.build [(.int .u64 0), (.int .u64 0), (.int .u64 0), (.int .u64 0)] []), im 12 0, oS ⟨some 13, .call OV [12], none⟩
 AS, oS ⟨some 14, .call zS8 [11, 13], none⟩ AO, oS ⟨some 15, .call zS9 [10, 14], none⟩
 AM, ia 2 15]) .ret)))
def CZ : AFn := ⟨ Ut, D9.erase, [.tmp 2], 1⟩
def FQ (P : Pg) (x : Aa) (K : Int → Aa → Prop) : Prop :=
 Fn P OV AS (x.1, ((i64.wrap (x.2.1 + (1 : Int))), x.2.2)) (fun (d1 : Int) (e2 : Aa) => Fn P zS8 AO (((0 : Int), ((0 : Int), ((0 : Int), (0 : Int)))), d1) (fun (d3 : (Int × (Int × (Int × Int)))) _ => Fn P zS9 AM (e2, d3) (fun (d5 : Int) (e6 : Aa) => K d5 e6)))
theorem Jn {P : Pg} (h : Has P CZ) {x : DP BX.ps} {K : DP BX.rs → DP (ptrs BX.ps) → Prop} (hw : FQ P x K) : Fn P Ut BX x K :=
 BI (c := D9) h rfl rfl (by kernel_rfl) (Eq.mpr (show BC P CZ BX D9 x K = _ by kernel_rfl) hw)
def Eb : Be :=
 (.seq (.region [ia 2 (kI 0)]) (.seq (.region [im 3 0, o1 4 (.build [(.int .u64 0), (.int .u64 0), (.int .u64 0), (.int .u64 0)] []), im 5 0, oS ⟨some 6, .call
 OV [5], none⟩ AS, oS ⟨some 7, .call zS8 [4, 6], none⟩ AO, oS ⟨some 8, .call
 zS9 [3, 7], none⟩ AM, ia 2 8]) .ret))
def C1 : AFn := ⟨ XD, Eb.erase, [.tmp 2], 1⟩
def FT (P : Pg) (x : Aa) (K : Int → Aa → Prop) : Prop :=
 Fn P OV AS x (fun (d1 : Int) (e2 : Aa) => Fn P zS8 AO (((0 : Int), ((0 : Int), ((0 : Int), (0 : Int)))), d1) (fun (d3 : (Int × (Int × (Int × Int)))) _ => Fn P zS9 AM (e2, d3) (fun (d5 : Int) (e6 : Aa) => K d5 e6)))
theorem Jp {P : Pg} (h : Has P C1) {x : DP BZ.ps} {K : DP BZ.rs → DP (ptrs BZ.ps) → Prop} (hw : FT P x K) : Fn P XD BZ x K :=
 BI (c := Eb) h rfl rfl (by kernel_rfl) (Eq.mpr (show BC P C1 BZ Eb x K = _ by kernel_rfl) hw)
def Ew : Be :=
 (.seq (.region [ia 4 (kI 0)]) (.seq (.seq (.region [im 10 1]) (.frame (rg [4] 11 8) [0] true (.join [.si 4, .bx 0 Aw (.pair .leaf (.pair .leaf (.pair .leaf (.node .own
 (.pair .leaf (.pair .leaf (.pair .leaf (.pair .leaf tM))))))))] (.block 0 (.seq (.region [o1 12 (.bin .eql 10 (.c (.int .u8 94))), ia 11 12]) (.cond 11 (.seq (.region [im 13 0, oS
 ⟨some 14, .call Sv [13, (kI 2)], none⟩ AY, ia 4 14]) .ret) (.seq (.region [o1 16 (.bin .eql 10 (.c (.int .u8 36))), ia 15 16])
 (.cond 15 (.seq (.region [im 17 0, oS ⟨some 18, .call Sv [17, (kI 3)], none⟩ AY, ia 4 18]) .ret) .skip)))))))) (.seq (.region [im
 19 0, im 20 1, oS ⟨some 21, .call Ajg [19, 20], none⟩ BH, ia 5 21]) (.seq (.region [im 22 5, oS ⟨some 23, .callv 22 [], none⟩
 AP, ia 6 23]) (.seq (.region [im 25 0, oS ⟨some 26, .call Aji [25], none⟩ A7, im 24 26, o1 27
 (.ext 24 0), o1 28 (.ext 24 1), o1 29 (.ext 24 2), ia 7 27, ia 8 28, ia 9 29]) (.seq (.seq (.region [im 30 9, o1 31 (.un .not 30)]) (.cond 31 (.seq (.region [im 32 6, ia 4 32])
 .ret) .skip)) (.seq (.region [im 33 0, im 34 7, im 35 8, im 36 6, ⟨⟨some 37, .buildSl 1 [(.int .i64 0)] 1 [(0, 36)], none⟩, some (bI, .leaf), ⟨[], []⟩, true, none, false, false⟩,
 o1 38 (.build [(.int .i64 0), (.int .u64 0), (.int .u64 0), (.int .u64 0), (.int .u64 0), (.int .i64 0), (.int .i64 0), (.slice none 0 0)] [(0, 1, (kI 6)), (5, 1, 34), (6, 1, 35),
 (7, 1, 37)]), oS ⟨some 39, .call zS6 [33, 38], none⟩ AG, ia 4 39]) .ret)))))))
def B8 : AFn := ⟨ Ajk, Ew.erase, [.tmp 4], 2⟩
def GC (P : Pg) (x : (Aa × Int)) (K : Int → Aa → Prop) : Prop :=
 Ag (D := (Int × Aa)) (fun J1 => (((x.2 == (94 : Int)) = true → Fn P Sv AY (x.1, (2 : Int)) (fun (d3 : Int) (e4 : Aa) => K d3 e4)) ∧ ((x.2 == (94 : Int)) = false → (((x.2 == (36 : Int)) = true → Fn P Sv AY (x.1, (3 : Int)) (fun (d5 : Int) (e6 : Aa) => K d5 e6)) ∧ ((x.2 == (36 : Int)) = false → J1 ((0 : Int), x.1)))))) (fun d2 => Fn P Ajg BH (d2.2, x.2) (fun (d7 : Int) (e8 : Aa) => Fn P (Qa2 [Uq, Ur, Us, Ut, XD] d7.toNat "") AP e8 (fun (d9 : Int) (e10 : Aa) => Fn P Aji A7 e10 (fun (d11 : (Int × (Int × Bool))) (e12 : Aa) => (((!d11.2.2) = true → K d9 e12) ∧ ((!d11.2.2) = false → Fn P zS6 AG (e12, ((6 : Int), (((0 : Int), ((0 : Int), ((0 : Int), (0 : Int)))), (d11.1, (d11.2.1, ([d9] : List Int)))))) (fun (d13 : Int) (e14 : Aa) => K d13 e14)))))))
theorem JS {P : Pg} (h : Has P B8) {x : DP Bv.ps} {K : DP Bv.rs → DP (ptrs Bv.ps) → Prop} (hw : GC P x K) : Fn P Ajk Bv x K :=
 BI (c := Ew) h rfl rfl (by kernel_rfl) (Eq.mpr (show BC P B8 Bv Ew x K = _ by kernel_rfl) hw)
def CU : Be :=
 (.seq (.region [ia 2 (kI 0)]) (.seq (.region [o1 3 (.asg (.c (.slice none 0 0)))]) (.frame (rg [] 2 28) [0] true (.block 0 (.loop [.si 2, .sl 3 false (.sl bI) tO, .bx 0
 Aw (.pair .leaf (.pair .leaf (.pair .leaf (.node .own (.pair .leaf (.pair .leaf (.pair .leaf (.pair .leaf tM))))))))] (.frame (rg [] 2 28) [0] true (.join [.si 2, .sl 3
 false (.sl bI) tO, .bx 0 Aw (.pair .leaf (.pair .leaf (.pair .leaf (.node .own (.pair .leaf (.pair .leaf (.pair .leaf (.pair .leaf tM))))))))] (.block 1 (.seq (.region
 [im 7 0, oS ⟨some 8, .call zS7 [7], none⟩ AF, im 6 8, o1 9 (.ext 6 0), o1 10 (.ext 6 1), ia 4 9, ia 5 10]) (.seq (.seq (.region [im 11
 5, o1 12 (.un .not 11), im 13 12, gf 14 13 (.mv 4), gf 15 13 (.bin .eql 14 (.c (.int .u8 124))), o1 16 (.pick 13 kT 15), im 17 16, gf 18 17 (.mv 4), gf 19 17 (.bin .eql 18 (.c
 (.int .u8 41))), o1 20 (.pick 17 kT 19)]) (.cond 20 (.seq (.frz [3] (.region [im 21 0, im 22 3, oS ⟨some 23, .call Su [21, (kI 4), 22], none⟩
 A5, ia 2 23])) .ret) .skip)) (.region [im 24 3, im 25 0, im 26 4, oS ⟨some 27, .call Ajk [25, 26], none⟩ Bv, oT
 ⟨some 28, .buildSl 1 [(.int .i64 0)] 1 [(0, 27)], none⟩ (some (bI, .leaf)), oT ⟨some 29, .app 1 8 24 28, none⟩ (some (bI, .leaf)), ia 3 29])))))))))))
def Bm : AFn := ⟨ VK, CU.erase, [.tmp 2], 1⟩
def Ej (P : Pg) (x : Aa) (K : Int → Aa → Prop) : Prop :=
 B0 (D := (Int × ((List Int) × Aa))) ((0 : Int), ([], x)) (fun d1 J2 => Ag (D := (Int × ((List Int) × Aa))) (fun J3 => Fn P zS7 AF d1.2.2 (fun (d5 : (Int × Bool)) (e6 : Aa) => (((cond (cond (!d5.2) true (d5.1 == (124 : Int))) true (d5.1 == (41 : Int))) = true → Fn P Su A5 (e6, ((4 : Int), d1.2.1)) (fun (d7 : Int) (e8 : Aa) => K d7 e8)) ∧ ((cond (cond (!d5.2) true (d5.1 == (124 : Int))) true (d5.1 == (41 : Int))) = false → Fn P Ajk Bv (e6, d5.1) (fun (d9 : Int) (e10 : Aa) => ((d1.2.1.length + List.length ([d9] : List Int)) * 8 ≤ 140737488355328) ∧
 J3 (d1.1, ((d1.2.1 ++ ([d9] : List Int)), e10))))))) (fun d4 => J2 d4))
theorem G7 {P : Pg} (h : Has P Bm) {x : DP AJ.ps} {K : DP AJ.rs → DP (ptrs AJ.ps) → Prop} (hw : Ej P x K) : Fn P VK AJ x K :=
 BI (c := CU) h rfl rfl (by kernel_rfl) (Eq.mpr (show BC P Bm AJ CU x K = _ by kernel_rfl) hw)
def DS : Be :=
 (.seq (.region [ia 2 (kI 0)]) (.seq (.region [im 4 0, oS ⟨some 5, .call VK [4], none⟩ AJ, oT ⟨some 6, .buildSl 1 [(.int
 .i64 0)] 1 [(0, 5)], none⟩ (some (bI, .leaf)), ia 3 6]) (.seq (.frame (rg [3] 7 7) [0] true (.join [.sl 3 false (.sl bI) tO, .bx 0 Aw (.pair .leaf (.pair .leaf (.pair
 .leaf (.node .own (.pair .leaf (.pair .leaf (.pair .leaf (.pair .leaf tM))))))))] (.block 0 (.loop [.sl 3 false (.sl bI) tO, .bx 0 Aw (.pair .leaf (.pair .leaf (.pair
 .leaf (.node .own (.pair .leaf (.pair .leaf (.pair .leaf (.pair .leaf tM))))))))] (.seq (.seq (.region [im 7 0, oS ⟨some 8, .call zS1 [7, (.c (.int .u8
 124))], none⟩ As]) (.cond 8 .skip (.exit 0))) (.frame (rg [3] 9 5) [0] true (.join [.sl 3 false (.sl bI) tO, .bx 0 Aw (.pair .leaf (.pair .leaf (.pair
 .leaf (.node .own (.pair .leaf (.pair .leaf (.pair .leaf (.pair .leaf tM))))))))] (.block 1 (.region [im 9 3, im 10 0, oS ⟨some 11, .call VK
 [10], none⟩ AJ, oT ⟨some 12, .buildSl 1 [(.int .i64 0)] 1 [(0, 11)], none⟩ (some (bI, .leaf)), oT ⟨some 13, .app 1 8 9 12, none⟩ (some (bI, .leaf)), ia 3
 13]))))))))) (.seq (.frz [3] (.region [im 14 0, im 15 3, oS ⟨some 16, .call Su [14, (kI 5), 15], none⟩ A5, ia 2 16])) .ret))))
def BS : AFn := ⟨ Un, DS.erase, [.tmp 2], 1⟩
def Ft (P : Pg) (x : Aa) (K : Int → Aa → Prop) : Prop :=
 Fn P VK AJ x (fun (d1 : Int) (e2 : Aa) => Ag (D := ((List Int) × Aa)) (fun J3 => B0 (D := ((List Int) × Aa)) (([d1] : List Int), e2) (fun d5 J6 => Fn P zS1 As (d5.2, (124 : Int)) (fun (d7 : Bool) (e8 : Aa) => ((d7 = true → Ag (D := ((List Int) × Aa)) (fun J9 => Fn P VK AJ e8 (fun (d11 : Int) (e12 : Aa) => ((d5.1.length + List.length ([d11] : List Int)) * 8 ≤ 140737488355328) ∧
 J9 ((d5.1 ++ ([d11] : List Int)), e12))) (fun d10 => J6 d10)) ∧ (d7 = false → J3 (d5.1, e8)))))) (fun d4 => Fn P Su A5 (d4.2, ((5 : Int), d4.1)) (fun (d13 : Int) (e14 : Aa) => K d13 e14)))
theorem IZ {P : Pg} (h : Has P BS) {x : DP AQ.ps} {K : DP AQ.rs → DP (ptrs AQ.ps) → Prop} (hw : Ft P x K) : Fn P Un AQ x K :=
 BI (c := DS) h rfl rfl (by kernel_rfl) (Eq.mpr (show BC P BS AQ DS x K = _ by kernel_rfl) hw)
end Go.VS
