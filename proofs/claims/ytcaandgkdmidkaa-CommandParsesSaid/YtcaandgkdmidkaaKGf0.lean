/- Functions of the program: typed code, and what it says, lifted. -/
import Derived.Test.YtcaandgkdmidkaaKTxSig
import Derived.KernelRfl
set_option linter.unusedVariables false
set_option linter.unusedSimpArgs false
set_option maxRecDepth 8000
namespace Go.VS
open IntKind
def Du : Bj :=
 (.seq (.region [o1 2 (.asg (.c (.int .u8 0))), o1 3 (.asg kF)]) (.seq (.region [ia 4 (kI 0)]) (.seq (.seq (.region [o1 5 (.mv (kI 0))]) (.frame (rg [] 2 61) [0] false (.join [.sl 2
 false (.int .u8) .leaf, .sl 3 false .bool .leaf, .si 4, .bx 0 (.pair .str bI) .leaf] (.block 0 (.loop [.sl 2 false (.int .u8) .leaf, .sl 3 false .bool .leaf, .si 4, .si 5, .bx 0
 (.pair .str bI) .leaf] (.seq (.region [o1 6 (.bin .lss 5 (kI 3))]) (.seq (.cond 6 .skip (.exit 0)) (.seq (.frame (rg [2, 3, 4] 7 55) [0] false (.join [.sl 2 false (.int .u8) .leaf,
 .sl 3 false .bool .leaf, .si 4, .bx 0 (.pair .str bI) .leaf] (.block 1 (.seq (.seq (.draw [(.first (im 7 0) (.first (o1 8 (.nilc 7)) (.first (fa 9 1 8) (.first (ld 10 9) (.first
 (im 11 0) (.first (o1 12 (.nilc 11)) (.first (fa 13 0 12) (.first (ld 14 13) (.first (o1 15 (.Dk 14)) (.first (o1 16 (.bin .geq 10 15)) (.first (im 17 16) (.first (gf 18 17 (.mv
 0)) (.first (gf 19 17 (.nilc 18)) (.first (gf 20 17 (.fAddr 0 19)) (.first (gf 21 17 (.load false 1 20)) (.first (gf 22 17 (.mv 0)) (.first (gf 23 17 (.nilc 22)) (.first (gf 24 17
 (.fAddr 1 23)) (.first (gf 25 17 (.load false 1 24)) (.first (gf 26 17 (.ixS 21 25)) (.first (gf 27 17 (.bin .lss 26 (.c (.int .u8 48)))) (.first (o1 28 (.pick 17 kT 27)) (.first
 (im 29 28) (.first (gf 30 29 (.mv 0)) (.first (gf 31 29 (.nilc 30)) (.first (gf 32 29 (.fAddr 0 31)) (.first (gf 33 29 (.load false 1 32)) (.first (gf 34 29 (.mv 0)) (.first (gf 35
 29 (.nilc 34)) (.first (gf 36 29 (.fAddr 1 35)) (.first (gf 37 29 (.load false 1 36)) (.first (gf 38 29 (.ixS 33 37)) (.first (gf 39 29 (.bin .gtr 38 (.c (.int .u8 55)))) (.first
 (o1 40 (.pick 29 kT 39)) .done))))))))))))))))))))))))))))))))))]) (.cond 40 (.seq (.region [o1 2 (.asg (.c (.int .u8 0))), o1 3 (.asg kF)]) .ret) .skip)) (.seq (.frame (rg [4] 41
 14) [] false (.join [.si 4] (.draw [(.first (im 41 4) (.first (o1 42 (.bin .mul (kI 8) 41)) (.first (im 43 0) (.first (o1 44 (.nilc 43)) (.first (fa 45 0 44) (.first (ld 46 45)
 (.first (im 47 0) (.first (o1 48 (.nilc 47)) (.first (fa 49 1 48) (.first (ld 50 49) (.first (o1 51 (.ixS 46 50)) (.first (o1 52 (.bin .sub 51 (.c (.int .u8 48)))) (.first (o1 53
 (.conv (.toInt .i64) 52)) (.first (o1 54 (.bin .add 42 53)) (.alt (ia 4 54) .done .stop)))))))))))))))]))) (.region [im 55 0, o1 56 (.nilc 55), fa 57 1 56, ld 58 57, o1 59 (.bin
 .add 58 (kI 1)), o1 60 (.nilc 55), fa 61 1 60, o0 ⟨none, .store 1 61 59, none⟩])))))) (.region [o1 62 (.bin .add 5 (kI 1)), im 5 62]))))))))) (.seq (.region [im 63 4, o1 64 (.conv
 (.toInt .u8) 63), im 65 4, o1 66 (.bin .lss 65 (kI 256)), ia 2 64, ia 3 66]) .ret))))
def Ct : AFn := ⟨ V9, Du.erase, [.tmp 2, .tmp 3], 1⟩
def E4 (P : Pg) (x : ((List UInt8) × Int)) (K : (Int × Bool) → ((List UInt8) × Int) → Prop) : Prop :=
 Ai (D := (Int × (Bool × (Int × ((List UInt8) × Int))))) (fun J1 => BP (D := (Int × (Bool × (Int × (Int × ((List UInt8) × Int)))))) ((0 : Int), (false, ((0 : Int), ((0 : Int), x)))) (fun d3 J4 => (((decide (d3.2.2.2.1 < (3 : Int))) = true → Ai (D := (Int × (Bool × (Int × ((List UInt8) × Int))))) (fun J5 => (((decide (d3.2.2.2.2.2 ≥ (d3.2.2.2.2.1.length : Int))) = false → 0 ≤ d3.2.2.2.2.2 ∧ d3.2.2.2.2.2 < (d3.2.2.2.2.1.length : Int))) ∧
 (((cond (decide (d3.2.2.2.2.2 ≥ (d3.2.2.2.2.1.length : Int))) true (decide (((d3.2.2.2.2.1.getD d3.2.2.2.2.2.toNat 0).toNat : Int) < (48 : Int)))) = false → 0 ≤ d3.2.2.2.2.2 ∧ d3.2.2.2.2.2 < (d3.2.2.2.2.1.length : Int))) ∧
 (((cond (cond (decide (d3.2.2.2.2.2 ≥ (d3.2.2.2.2.1.length : Int))) true (decide (((d3.2.2.2.2.1.getD d3.2.2.2.2.2.toNat 0).toNat : Int) < (48 : Int)))) true (decide (((d3.2.2.2.2.1.getD d3.2.2.2.2.2.toNat 0).toNat : Int) > (55 : Int)))) = true → K ((0 : Int), false) d3.2.2.2.2) ∧ ((cond (cond (decide (d3.2.2.2.2.2 ≥ (d3.2.2.2.2.1.length : Int))) true (decide (((d3.2.2.2.2.1.getD d3.2.2.2.2.2.toNat 0).toNat : Int) < (48 : Int)))) true (decide (((d3.2.2.2.2.1.getD d3.2.2.2.2.2.toNat 0).toNat : Int) > (55 : Int)))) = false → Ai (D := Int) (fun J7 => (0 ≤ d3.2.2.2.2.2 ∧ d3.2.2.2.2.2 < (d3.2.2.2.2.1.length : Int)) ∧
 (J7 (i64.wrap ((i64.wrap ((8 : Int) * d3.2.2.1)) + (i64.wrap (u8.wrap (((d3.2.2.2.2.1.getD d3.2.2.2.2.2.toNat 0).toNat : Int) - (48 : Int))))))) ∧ True) (fun d8 => J5 (d3.1, (d3.2.1, (d8, (d3.2.2.2.2.1, (i64.wrap (d3.2.2.2.2.2 + (1 : Int))))))))))) (fun d6 => J4 (d6.1, (d6.2.1, (d6.2.2.1, ((i64.wrap (d3.2.2.2.1 + (1 : Int))), d6.2.2.2)))))) ∧ ((decide (d3.2.2.2.1 < (3 : Int))) = false → J1 (d3.1, (d3.2.1, (d3.2.2.1, d3.2.2.2.2))))))) (fun d2 => K ((u8.wrap d2.2.2.1), (decide (d2.2.2.1 < (256 : Int)))) d2.2.2.2)
theorem HK {P : Pg} (h : Has P Ct) {x : DP A3.ps} {K : DP A3.rs → DP (ptrs A3.ps) → Prop} (hw : E4 P x K) : Fn P V9 A3 x K :=
 Cd (c := Du) h rfl rfl (by kernel_rfl) (Eq.mpr (show B9 P Ct A3 Du x K = _ by kernel_rfl) hw)
def Dd : Bj :=
 (.seq (.region [o1 2 (.asg (.c (.int .u8 0))), o1 3 (.asg kF)]) (.seq (.seq (.draw [(.first (im 5 0) (.first (o1 6 (.nilc 5)) (.first (fa 7 1 6) (.first (ld 8 7) (.first (im 9 0)
 (.first (o1 10 (.nilc 9)) (.first (fa 11 0 10) (.first (ld 12 11) (.first (o1 13 (.Dk 12)) (.first (o1 14 (.bin .geq 8 13)) .done))))))))))]) (.cond 14 (.seq (.region [o1 2 (.asg
 (.c (.int .u8 0))), o1 3 (.asg kF)]) .ret) .skip)) (.seq (.seq (.frame (rg [4] 15 9) [] false (.join [.sl 4 false (.int .u8) .leaf] (.draw [(.first (im 15 0) (.first (o1 16 (.nilc
 15)) (.first (fa 17 0 16) (.first (ld 18 17) (.first (im 19 0) (.first (o1 20 (.nilc 19)) (.first (fa 21 1 20) (.first (ld 22 21) (.first (o1 23 (.ixS 18 22)) (.alt (ia 4 23) .done
 .stop))))))))))]))) (.seq (.region [im 24 4]) (.frame (rg [2, 3] 25 29) [0] false (.join [.sl 2 false (.int .u8) .leaf, .sl 3 false .bool .leaf, .bx 0 (.pair .str bI) .leaf]
 (.block 0 (.seq (.seq (.region [o1 26 (.bin .eql 24 (.c (.int .u8 34))), ia 25 26]) (.frame [25, 27] [] false (.join [.sl 25 false .bool .leaf] (.cond 25 .skip (.region [o1 27
 (.bin .eql 24 (.c (.int .u8 92))), ia 25 27]))))) (.cond 25 (.seq (.region [im 28 0, o1 29 (.nilc 28), fa 30 1 29, ld 31 30, o1 32 (.bin .add 31 (kI 1)), o1 33 (.nilc 28), fa 34 1
 33, o0 ⟨none, .store 1 34 32, none⟩]) (.seq (.region [im 35 4, ia 2 35, o1 3 (.asg kT)]) .ret)) (.seq (.region [o1 37 (.bin .eql 24 (.c (.int .u8 110))), ia 36 37]) (.cond 36 (.seq
 (.region [im 38 0, o1 39 (.nilc 38), fa 40 1 39, ld 41 40, o1 42 (.bin .add 41 (kI 1)), o1 43 (.nilc 38), fa 44 1 43, o0 ⟨none, .store 1 44 42, none⟩]) (.seq (.region [o1 2 (.asg
 (.c (.int .u8 10))), o1 3 (.asg kT)]) .ret)) (.seq (.region [o1 46 (.bin .eql 24 (.c (.int .u8 116))), ia 45 46]) (.cond 45 (.seq (.region [im 47 0, o1 48 (.nilc 47), fa 49 1 48,
 ld 50 49, o1 51 (.bin .add 50 (kI 1)), o1 52 (.nilc 47), fa 53 1 52, o0 ⟨none, .store 1 53 51, none⟩]) (.seq (.region [o1 2 (.asg (.c (.int .u8 9))), o1 3 (.asg kT)]) .ret))
 .skip))))))))))) (.seq (.region [im 54 0, oS ⟨some 55, .call V9 [54], none⟩ A3, o1 56 (.ext 55 0), o1 57 (.ext 55 1), ia 2 56, ia 3
 57]) .ret))))
def Cg : AFn := ⟨ Wa, Dd.erase, [.tmp 2, .tmp 3], 1⟩
def EP (P : Pg) (x : ((List UInt8) × Int)) (K : (Int × Bool) → ((List UInt8) × Int) → Prop) : Prop :=
 (((decide (x.2 ≥ (x.1.length : Int))) = true → K ((0 : Int), false) x) ∧ ((decide (x.2 ≥ (x.1.length : Int))) = false → Ai (D := Int) (fun J1 => (0 ≤ x.2 ∧ x.2 < (x.1.length : Int)) ∧
 (J1 ((x.1.getD x.2.toNat 0).toNat : Int)) ∧ True) (fun d2 => Ai (D := (Int × (Bool × ((List UInt8) × Int)))) (fun J3 => Ai (D := Bool) (fun J5 => (((d2 == (34 : Int)) = true → J5 (d2 == (34 : Int))) ∧ ((d2 == (34 : Int)) = false → J5 (d2 == (92 : Int))))) (fun d6 => ((d6 = true → K (d2, true) (x.1, (i64.wrap (x.2 + (1 : Int))))) ∧ (d6 = false → (((d2 == (110 : Int)) = true → K ((10 : Int), true) (x.1, (i64.wrap (x.2 + (1 : Int))))) ∧ ((d2 == (110 : Int)) = false → (((d2 == (116 : Int)) = true → K ((9 : Int), true) (x.1, (i64.wrap (x.2 + (1 : Int))))) ∧ ((d2 == (116 : Int)) = false → J3 ((0 : Int), (false, x)))))))))) (fun d4 => Fn P V9 A3 d4.2.2 (fun (d7 : (Int × Bool)) (e8 : ((List UInt8) × Int)) => K d7 e8)))))
theorem Hs {P : Pg} (h : Has P Cg) {x : DP AS.ps} {K : DP AS.rs → DP (ptrs AS.ps) → Prop} (hw : EP P x K) : Fn P Wa AS x K :=
 Cd (c := Dd) h rfl rfl (by kernel_rfl) (Eq.mpr (show B9 P Cg AS Dd x K = _ by kernel_rfl) hw)
def De : Bj :=
 (.seq (.region [o1 2 (.asg (.c (.string ⟨#[]⟩))), o1 3 (.asg kF)]) (.seq (.region [o1 4 (.asg (.c (.slice none 0 0)))]) (.seq (.frame (rg [] 2 48) [0] true (.join [.sl 2 false .str
 .leaf, .sl 3 false .bool .leaf, .bx 0 (.pair .str bI) .leaf] (.block 0 (.loop [.sl 2 false .str .leaf, .sl 3 false .bool .leaf, .sl 4 false (.sl (.int .u8)) tO, .bx 0 (.pair .str
 bI) .leaf] (.seq (.seq (.draw [(.first (im 7 0) (.first (o1 8 (.nilc 7)) (.first (fa 9 1 8) (.first (ld 10 9) (.first (im 11 0) (.first (o1 12 (.nilc 11)) (.first (fa 13 0 12)
 (.first (ld 14 13) (.first (o1 15 (.Dk 14)) (.first (o1 16 (.bin .lss 10 15)) .done))))))))))]) (.cond 16 .skip (.exit 0))) (.frame (rg [2, 3, 4, 5, 6] 17 33) [0] true (.join
 [.sl 2 false .str .leaf, .sl 3 false .bool .leaf, .sl 4 false (.sl (.int .u8)) tO, .bx 0 (.pair .str bI) .leaf] (.block 1 (.seq (.frame (rg [5] 17 9) [] false (.join [.sl 5 false
 (.int .u8) .leaf] (.draw [(.first (im 17 0) (.first (o1 18 (.nilc 17)) (.first (fa 19 0 18) (.first (ld 20 19) (.first (im 21 0) (.first (o1 22 (.nilc 21)) (.first (fa 23 1 22)
 (.first (ld 24 23) (.first (o1 25 (.ixS 20 24)) (.alt (ia 5 25) .done .stop))))))))))]))) (.seq (.region [im 26 0, o1 27 (.nilc 26), fa 28 1 27, ld 29 28, o1 30 (.bin .add 29 (kI
 1)), o1 31 (.nilc 26), fa 32 1 31, o0 ⟨none, .store 1 32 30, none⟩]) (.seq (.seq (.region [im 33 5, o1 34 (.bin .eql 33 (.c (.int .u8 34)))]) (.cond 34 (.seq (.region [im 35 4, o1
 36 (.conv .bytesToStr 35), ia 2 36, o1 3 (.asg kT)]) .ret) .skip)) (.seq (.seq (.region [im 37 5, o1 38 (.bin .eql 37 (.c (.int .u8 92)))]) (.frame (rg [2, 3, 5, 6] 39 7) [0] true
 (.join [.sl 2 false .str .leaf, .sl 3 false .bool .leaf, .sl 5 false (.int .u8) .leaf, .bx 0 (.pair .str bI) .leaf] (.cond 38 (.seq (.region [o1 6 (.asg kF)]) (.seq (.region [im 40
 0, oS ⟨some 41, .call Wa [40], none⟩ AS, im 39 41, o1 42 (.ext 39 0), o1 43 (.ext 39 1), ia 5 42, ia 6 43]) (.seq (.region [im 44
 6, o1 45 (.un .not 44)]) (.cond 45 (.seq (.region [o1 2 (.asg (.c (.string ⟨#[]⟩))), o1 3 (.asg kF)]) .ret) .skip)))) .skip)))) (.region [im 46 4, im 47 5, oT ⟨some 48, .buildSl 1
 [(.int .u8 0)] 1 [(0, 47)], none⟩ (some ((.int .u8), .leaf)), oT ⟨some 49, .app 1 1 46 48, none⟩ (some ((.int .u8), .leaf)), ia 4 49]))))))))))))) (.seq (.region [o1 2 (.asg (.c
 (.string ⟨#[]⟩))), o1 3 (.asg kF)]) .ret))))
def Ci : AFn := ⟨ Wb, De.erase, [.tmp 2, .tmp 3], 1⟩
def ER (P : Pg) (x : ((List UInt8) × Int)) (K : ((List UInt8) × Bool) → ((List UInt8) × Int) → Prop) : Prop :=
 Ai (D := ((List UInt8) × (Bool × ((List UInt8) × Int)))) (fun J1 => BP (D := ((List UInt8) × (Bool × ((List Int) × ((List UInt8) × Int))))) (([] : List UInt8), (false, ([], x))) (fun d3 J4 => (((decide (d3.2.2.2.2 < (d3.2.2.2.1.length : Int))) = true → Ai (D := ((List UInt8) × (Bool × ((List Int) × ((List UInt8) × Int))))) (fun J5 => Ai (D := Int) (fun J7 => (0 ≤ d3.2.2.2.2 ∧ d3.2.2.2.2 < (d3.2.2.2.1.length : Int)) ∧
 (J7 ((d3.2.2.2.1.getD d3.2.2.2.2.toNat 0).toNat : Int)) ∧ True) (fun d8 => (((d8 == (34 : Int)) = true → K ((strOf d3.2.2.1), true) (d3.2.2.2.1, (i64.wrap (d3.2.2.2.2 + (1 : Int))))) ∧ ((d8 == (34 : Int)) = false → Ai (D := ((List UInt8) × (Bool × (Int × ((List UInt8) × Int))))) (fun J9 => (((d8 == (92 : Int)) = true → Fn P Wa AS (d3.2.2.2.1, (i64.wrap (d3.2.2.2.2 + (1 : Int)))) (fun (d11 : (Int × Bool)) (e12 : ((List UInt8) × Int)) => (((!d11.2) = true → K (([] : List UInt8), false) e12) ∧ ((!d11.2) = false → J9 (d3.1, (d3.2.1, (d11.1, e12))))))) ∧ ((d8 == (92 : Int)) = false → J9 (d3.1, (d3.2.1, (d8, (d3.2.2.2.1, (i64.wrap (d3.2.2.2.2 + (1 : Int)))))))))) (fun d10 => ((d3.2.2.1.length + List.length ([d10.2.2.1] : List Int)) * 1 ≤ 140737488355328) ∧
 J5 (d10.1, (d10.2.1, ((d3.2.2.1 ++ ([d10.2.2.1] : List Int)), d10.2.2.2)))))))) (fun d6 => J4 d6)) ∧ ((decide (d3.2.2.2.2 < (d3.2.2.2.1.length : Int))) = false → J1 (d3.1, (d3.2.1, d3.2.2.2)))))) (fun d2 => K (([] : List UInt8), false) d2.2.2)
theorem Ht {P : Pg} (h : Has P Ci) {x : DP AU.ps} {K : DP AU.rs → DP (ptrs AU.ps) → Prop} (hw : ER P x K) : Fn P Wb AU x K :=
 Cd (c := De) h rfl rfl (by kernel_rfl) (Eq.mpr (show B9 P Ci AU De x K = _ by kernel_rfl) hw)
def He : Bj :=
 (.seq (.region [o1 2 (.asg kF)]) (.seq (.region [im 3 0, o1 4 (.bin .geq 3 (.c (.int .u8 33))), im 5 4, gt 6 5 (.mv 0), gt 7 5 (.bin .leq 6 (.c (.int .u8 126))), o1 8 (.pick 5 7
 kF), im 9 8, gt 10 9 (.mv 0), gt 11 9 (.bin .neq 10 (.c (.int .u8 34))), o1 12 (.pick 9 11 kF), im 13 12, gt 14 13 (.mv 0), gt 15 13 (.bin .neq 14 (.c (.int .u8 92))), o1 16 (.pick
 13 15 kF), ia 2 16]) .ret))
def Fc : AFn := ⟨ Wc, He.erase, [.tmp 2], 1⟩
def JK (P : Pg) (x : Int) (K : Bool → Unit → Prop) : Prop :=
 K (cond (cond (cond (decide (x ≥ (33 : Int))) (decide (x ≤ (126 : Int))) false) (x != (34 : Int)) false) (x != (92 : Int)) false) ()
theorem NV {P : Pg} (h : Has P Fc) {x : DP Ck.ps} {K : DP Ck.rs → DP (ptrs Ck.ps) → Prop} (hw : JK P x K) : Fn P Wc Ck x K :=
 Cd (c := He) h rfl rfl (by kernel_rfl) (Eq.mpr (show B9 P Fc Ck He x K = _ by kernel_rfl) hw)
def DN : Bj :=
 (.seq (.region [o1 2 (.asg (.c (.string ⟨#[]⟩))), o1 3 (.asg kF)]) (.seq (.region [im 7 0, o1 8 (.nilc 7), fa 9 1 8, ld 10 9, ia 4 10]) (.seq (.region [o1 5 (.asg (.c (.string
 ⟨#[]⟩)))]) (.seq (.seq (.region [im 11 4, im 12 0, o1 13 (.nilc 12), fa 14 0 13, ld 15 14, o1 16 (.Dk 15), o1 17 (.bin .lss 11 16), im 18 17, gt 19 18 (.mv 0), gt 20 18 (.nilc
 19), gt 21 18 (.fAddr 0 20), gt 22 18 (.load false 1 21), gt 23 18 (.mv 4), gt 24 18 (.ixS 22 23), gt 25 18 (.bin .eql 24 (.c (.int .u8 34))), o1 26 (.pick 18 25 kF)]) (.frame (rg
 [2, 3, 5, 6] 27 53) [0] true (.join [.sl 2 false .str .leaf, .sl 3 false .bool .leaf, .sl 5 false .str .leaf, .bx 0 (.pair .str bI) .leaf] (.cond 26 (.seq (.region [im 27 0, o1 28
 (.nilc 27), fa 29 1 28, ld 30 29, o1 31 (.bin .add 30 (kI 1)), o1 32 (.nilc 27), fa 33 1 32, o0 ⟨none, .store 1 33 31, none⟩]) (.seq (.region [o1 6 (.asg kF)]) (.seq (.region [im
 35 0, oS ⟨some 36, .call Wb [35], none⟩ AU, im 34 36, o1 37 (.ext 34 0), o1 38 (.ext 34 1), ia 5 37, ia 6 38]) (.seq (.region [im
 39 6, o1 40 (.un .not 39)]) (.cond 40 (.seq (.region [o1 2 (.asg (.c (.string ⟨#[]⟩))), o1 3 (.asg kF)]) .ret) .skip))))) (.seq (.frame (rg [] 41 29) [0] false (.join [.bx 0 (.pair
 .str bI) .leaf] (.block 0 (.loop [.bx 0 (.pair .str bI) .leaf] (.seq (.seq (.frame (rg [] 41 22) [] false (.join [.sl 62 false .bool .leaf] (.draw [(.first (im 41 0) (.first (o1 42
 (.nilc 41)) (.first (fa 43 1 42) (.first (ld 44 43) (.first (im 45 0) (.first (o1 46 (.nilc 45)) (.first (fa 47 0 46) (.first (ld 48 47) (.first (o1 49 (.Dk 48)) (.first (o1 50
 (.bin .lss 44 49)) (.first (im 51 50) (.first (gt 52 51 (.mv 0)) (.first (gt 53 51 (.nilc 52)) (.first (gt 54 51 (.fAddr 0 53)) (.first (gt 55 51 (.load false 1 54)) (.first (gt 56
 51 (.mv 0)) (.first (gt 57 51 (.nilc 56)) (.first (gt 58 51 (.fAddr 1 57)) (.first (gt 59 51 (.load false 1 58)) (.first (gt 60 51 (.ixS 55 59)) (.alt (oS ⟨some 61, .call
 Wc [60], some (51, true)⟩ Ck) (.first (o1 62 (.pick 51 61 kF)) .done) .stop)))))))))))))))))))))]))) (.cond 62 .skip (.exit 0))) (.frame (rg [] 63 7)
 [0] false (.join [.bx 0 (.pair .str bI) .leaf] (.block 1 (.region [im 63 0, o1 64 (.nilc 63), fa 65 1 64, ld 66 65, o1 67 (.bin .add 66 (kI 1)), o1 68 (.nilc 63), fa 69 1 68, o0
 ⟨none, .store 1 69 67, none⟩]))))))))) (.frame (rg [5] 70 10) [] false (.join [.sl 5 false .str .leaf] (.draw [(.first (im 70 0) (.first (o1 71 (.nilc 70)) (.first (fa 72 0 71)
 (.first (ld 73 72) (.first (im 74 4) (.first (im 75 0) (.first (o1 76 (.nilc 75)) (.first (fa 77 1 76) (.first (ld 78 77) (.first (o1 79 (.slS 73 (some 74) (some 78))) (.alt (ia 5
 79) .done .stop)))))))))))])))))))) (.seq (.frame (rg [2, 3] 80 14) [] false (.join [.sl 2 false .str .leaf, .sl 3 false .bool .leaf] (.draw [(.first (im 80 5) (.first (im 81 5)
 (.first (im 83 0) (.first (o1 84 (.nilc 83)) (.first (fa 85 0 84) (.first (im 87 4) (.first (im 88 0) (.first (o1 89 (.nilc 88)) (.first (fa 90 1 89) (.alt (oS ⟨some 82, .call
 zS4 [81], none⟩ Bx) (.alt (ld 86 85) (.alt (ld 91 90) (.first (o1 92 (.slS 86 (some 87) (some 91))) (.first (o1 93 (.bin .eql 82 92)) (.alt (ia 2 80)
 (.alt (ia 3 93) .done .stop) .stop))) (.alt (ia 2 80) (.first (ld 91 90) (.first (o1 92 (.slS 86 (some 87) (some 91))) (.first (o1 93 (.bin .eql 82 92)) (.alt (ia 3 93) .done
 .stop)))) .stop)) (.alt (ld 91 90) (.alt (ld 86 85) (.first (o1 92 (.slS 86 (some 87) (some 91))) (.first (o1 93 (.bin .eql 82 92)) (.alt (ia 2 80) (.alt (ia 3 93) .done .stop)
 .stop))) (.alt (ia 2 80) (.first (ld 86 85) (.first (o1 92 (.slS 86 (some 87) (some 91))) (.first (o1 93 (.bin .eql 82 92)) (.alt (ia 3 93) .done .stop)))) .stop)) (.alt (ia 2 80)
 (.first (ld 86 85) (.first (ld 91 90) (.first (o1 92 (.slS 86 (some 87) (some 91))) (.first (o1 93 (.bin .eql 82 92)) (.alt (ia 3 93) .done .stop))))) .stop))) (.alt (ld 86 85)
 (.alt (oS ⟨some 82, .call zS4 [81], none⟩ Bx) (.alt (ld 91 90) (.first (o1 92 (.slS 86 (some 87) (some 91))) (.first (o1 93 (.bin .eql 82 92)) (.alt
 (ia 2 80) (.alt (ia 3 93) .done .stop) .stop))) (.alt (ia 2 80) (.first (ld 91 90) (.first (o1 92 (.slS 86 (some 87) (some 91))) (.first (o1 93 (.bin .eql 82 92)) (.alt (ia 3 93)
 .done .stop)))) .stop)) (.alt (ld 91 90) (.first (o1 92 (.slS 86 (some 87) (some 91))) (.alt (oS ⟨some 82, .call zS4 [81], none⟩ Bx) (.first (o1 93
 (.bin .eql 82 92)) (.alt (ia 2 80) (.alt (ia 3 93) .done .stop) .stop)) .stop)) .stop)) (.alt (ld 91 90) (.alt (oS ⟨some 82, .call zS4 [81], none⟩ Bx)
 (.alt (ld 86 85) (.first (o1 92 (.slS 86 (some 87) (some 91))) (.first (o1 93 (.bin .eql 82 92)) (.alt (ia 2 80) (.alt (ia 3 93) .done .stop) .stop))) (.alt (ia 2 80) (.first (ld
 86 85) (.first (o1 92 (.slS 86 (some 87) (some 91))) (.first (o1 93 (.bin .eql 82 92)) (.alt (ia 3 93) .done .stop)))) .stop)) (.alt (ld 86 85) (.first (o1 92 (.slS 86 (some 87)
 (some 91))) (.alt (oS ⟨some 82, .call zS4 [81], none⟩ Bx) (.first (o1 93 (.bin .eql 82 92)) (.alt (ia 2 80) (.alt (ia 3 93) .done .stop) .stop))
 .stop)) .stop)) .stop))))))))))))]))) .ret)))))
def CF : AFn := ⟨ Wd, DN.erase, [.tmp 2, .tmp 3], 1⟩
def FA (P : Pg) (x : ((List UInt8) × Int)) (K : ((List UInt8) × Bool) → ((List UInt8) × Int) → Prop) : Prop :=
 (((decide (x.2 < (x.1.length : Int))) = true → 0 ≤ x.2 ∧ x.2 < (x.1.length : Int))) ∧
 Ai (D := ((List UInt8) × (Bool × ((List UInt8) × ((List UInt8) × Int))))) (fun J1 => (((cond (decide (x.2 < (x.1.length : Int))) (((x.1.getD x.2.toNat 0).toNat : Int) == (34 : Int)) false) = true → Fn P Wb AU (x.1, (i64.wrap (x.2 + (1 : Int)))) (fun (d3 : ((List UInt8) × Bool)) (e4 : ((List UInt8) × Int)) => (((!d3.2) = true → K (([] : List UInt8), false) e4) ∧ ((!d3.2) = false → J1 (([] : List UInt8), (false, (d3.1, e4))))))) ∧ ((cond (decide (x.2 < (x.1.length : Int))) (((x.1.getD x.2.toNat 0).toNat : Int) == (34 : Int)) false) = false → Ai (D := ((List UInt8) × Int)) (fun J5 => BP (D := ((List UInt8) × Int)) x (fun d7 J8 => Ai (D := Bool) (fun J9 => (((decide (d7.2 < (d7.1.length : Int))) = true → 0 ≤ d7.2 ∧ d7.2 < (d7.1.length : Int))) ∧
 (Ai (D := Bool) (fun J11 => (((decide (d7.2 < (d7.1.length : Int))) = true → Fn P Wc Ck ((d7.1.getD d7.2.toNat 0).toNat : Int) (fun (d12 : Bool) _ => J11 d12)) ∧ (((decide (d7.2 < (d7.1.length : Int))) = false → J11 false) ∧ True))) (fun d13 => J9 (cond (decide (d7.2 < (d7.1.length : Int))) d13 false))) ∧ True) (fun d10 => ((d10 = true → Ai (D := ((List UInt8) × Int)) (fun J14 => J14 (d7.1, (i64.wrap (d7.2 + (1 : Int))))) (fun d15 => J8 d15)) ∧ (d10 = false → J5 d7))))) (fun d6 => Ai (D := (List UInt8)) (fun J16 => (0 ≤ x.2 ∧ x.2 ≤ d6.2 ∧ d6.2 ≤ (d6.1.length : Int)) ∧
 (J16 (List.drop x.2.toNat (List.take d6.2.toNat d6.1))) ∧ True) (fun d17 => J1 (([] : List UInt8), (false, (d17, d6)))))))) (fun d2 => Ai (D := ((List UInt8) × Bool)) (fun J18 => (Fn P zS4 Bx d2.2.2.1 (fun (d20 : (List UInt8)) (e21 : Unit) => (((0 ≤ x.2 ∧ x.2 ≤ d2.2.2.2.2 ∧ d2.2.2.2.2 ≤ (d2.2.2.2.1.length : Int)) ∧
 ((J18 (d2.2.2.1, (d20 == (List.drop x.2.toNat (List.take d2.2.2.2.2.toNat d2.2.2.2.1))))) ∧ True) ∧ True) ∧ (((0 ≤ x.2 ∧ x.2 ≤ d2.2.2.2.2 ∧ d2.2.2.2.2 ≤ (d2.2.2.2.1.length : Int)) ∧
 (J18 (d2.2.2.1, (d20 == (List.drop x.2.toNat (List.take d2.2.2.2.2.toNat d2.2.2.2.1))))) ∧ True) ∧ True)) ∧ ((((0 ≤ x.2 ∧ x.2 ≤ d2.2.2.2.2 ∧ d2.2.2.2.2 ≤ (d2.2.2.2.1.length : Int)) ∧
 ((J18 (d2.2.2.1, (d20 == (List.drop x.2.toNat (List.take d2.2.2.2.2.toNat d2.2.2.2.1))))) ∧ True) ∧ True) ∧ (((0 ≤ x.2 ∧ x.2 ≤ d2.2.2.2.2 ∧ d2.2.2.2.2 ≤ (d2.2.2.2.1.length : Int)) ∧
 (J18 (d2.2.2.1, (d20 == (List.drop x.2.toNat (List.take d2.2.2.2.2.toNat d2.2.2.2.1))))) ∧ True) ∧ True)) ∧ (((0 ≤ x.2 ∧ x.2 ≤ d2.2.2.2.2 ∧ d2.2.2.2.2 ≤ (d2.2.2.2.1.length : Int)) ∧
 (J18 (d2.2.2.1, (d20 == (List.drop x.2.toNat (List.take d2.2.2.2.2.toNat d2.2.2.2.1))))) ∧ True) ∧ True)))) ∧ (((Fn P zS4 Bx d2.2.2.1 (fun (d22 : (List UInt8)) (e23 : Unit) => ((0 ≤ x.2 ∧ x.2 ≤ d2.2.2.2.2 ∧ d2.2.2.2.2 ≤ (d2.2.2.2.1.length : Int)) ∧
 ((J18 (d2.2.2.1, (d22 == (List.drop x.2.toNat (List.take d2.2.2.2.2.toNat d2.2.2.2.1))))) ∧ True) ∧ True) ∧ (((0 ≤ x.2 ∧ x.2 ≤ d2.2.2.2.2 ∧ d2.2.2.2.2 ≤ (d2.2.2.2.1.length : Int)) ∧
 (J18 (d2.2.2.1, (d22 == (List.drop x.2.toNat (List.take d2.2.2.2.2.toNat d2.2.2.2.1))))) ∧ True) ∧ True))) ∧ (((0 ≤ x.2 ∧ x.2 ≤ d2.2.2.2.2 ∧ d2.2.2.2.2 ≤ (d2.2.2.2.1.length : Int)) ∧
 (Fn P zS4 Bx d2.2.2.1 (fun (d24 : (List UInt8)) (e25 : Unit) => ((J18 (d2.2.2.1, (d24 == (List.drop x.2.toNat (List.take d2.2.2.2.2.toNat d2.2.2.2.1))))) ∧ True) ∧ True)) ∧ True) ∧ True)) ∧ (((Fn P zS4 Bx d2.2.2.1 (fun (d26 : (List UInt8)) (e27 : Unit) => ((0 ≤ x.2 ∧ x.2 ≤ d2.2.2.2.2 ∧ d2.2.2.2.2 ≤ (d2.2.2.2.1.length : Int)) ∧
 ((J18 (d2.2.2.1, (d26 == (List.drop x.2.toNat (List.take d2.2.2.2.2.toNat d2.2.2.2.1))))) ∧ True) ∧ True) ∧ (((0 ≤ x.2 ∧ x.2 ≤ d2.2.2.2.2 ∧ d2.2.2.2.2 ≤ (d2.2.2.2.1.length : Int)) ∧
 (J18 (d2.2.2.1, (d26 == (List.drop x.2.toNat (List.take d2.2.2.2.2.toNat d2.2.2.2.1))))) ∧ True) ∧ True))) ∧ (((0 ≤ x.2 ∧ x.2 ≤ d2.2.2.2.2 ∧ d2.2.2.2.2 ≤ (d2.2.2.2.1.length : Int)) ∧
 (Fn P zS4 Bx d2.2.2.1 (fun (d28 : (List UInt8)) (e29 : Unit) => ((J18 (d2.2.2.1, (d28 == (List.drop x.2.toNat (List.take d2.2.2.2.2.toNat d2.2.2.2.1))))) ∧ True) ∧ True)) ∧ True) ∧ True)) ∧ True))) (fun d19 => K d19 d2.2.2.2))
theorem IJ {P : Pg} (h : Has P CF) {x : DP A7.ps} {K : DP A7.rs → DP (ptrs A7.ps) → Prop} (hw : FA P x K) : Fn P Wd A7 x K :=
 Cd (c := DN) h rfl rfl (by kernel_rfl) (Eq.mpr (show B9 P CF A7 DN x K = _ by kernel_rfl) hw)
def Hc : Bj :=
 (.seq (.region [o1 2 (.asg (.c (.slice none 0 0))), o1 3 (.asg kF)]) (.seq (.seq (.region [im 9 0, o1 10 (.bin .eql 9 (.c (.string ⟨#[]⟩)))]) (.cond 10 (.seq (.region [o1 2 (.asg
 (.c (.slice none 0 0))), o1 3 (.asg kT)]) .ret) .skip)) (.seq (.region [im 11 0, o1 12 (.build [(.string ⟨#[]⟩), (.int .i64 0)] [(0, 1, 11)]), o1 13 (.box 12), ia 4 13]) (.seq
 (.region [im 14 4, o1 15 (.mkf (Wd, true) [14]), ia 5 15]) (.seq (.region [o1 6 (.asg (.c (.slice none 0 0)))]) (.frame (rg [2, 3, 6, 7, 8] 16 33)
 [1013] true (.block 0 (.loop [.sl 2 false (.sl .str) tO, .sl 3 false .bool .leaf, .sl 6 false (.sl .str) tO, .bx 1013 (.pair .str bI) .leaf] (.frame (rg [2, 3, 6, 7, 8] 16 33)
 [1013] true (.join [.sl 2 false (.sl .str) tO, .sl 3 false .bool .leaf, .sl 6 false (.sl .str) tO, .bx 1013 (.pair .str bI) .leaf] (.block 1 (.seq (.region [im 17 5, oS ⟨some 18,
 .callv 17 [], none⟩ A7, im 16 18, o1 19 (.ext 16 0), o1 20 (.ext 16 1), ia 7 19, ia 8 20]) (.seq (.seq (.region [im 21 8, o1 22 (.un .not 21)]) (.cond 22 (.seq
 (.region [o1 2 (.asg (.c (.slice none 0 0))), o1 3 (.asg kF)]) .ret) .skip)) (.seq (.region [im 23 6, im 24 7, oT ⟨some 25, .buildSl 1 [(.string ⟨#[]⟩)] 1 [(0, 24)], none⟩ (some
 (.str, .leaf)), oT ⟨some 26, .app 1 16 23 25, none⟩ (some (.str, .leaf)), ia 6 26]) (.seq (.seq (.region [im 27 4, o1 28 (.nilc 27), fa 29 1 28, ld 30 29, im 31 0, o1 32 (.Dk
 31), o1 33 (.bin .eql 30 32)]) (.cond 33 (.seq (.region [im 34 6, ia 2 34, o1 3 (.asg kT)]) .ret) .skip)) (.seq (.seq (.region [im 35 0, im 36 4, o1 37 (.nilc 36), fa 38 1 37, ld
 39 38, o1 40 (.ixS 35 39), o1 41 (.bin .neq 40 (.c (.int .u8 32)))]) (.cond 41 (.seq (.region [o1 2 (.asg (.c (.slice none 0 0))), o1 3 (.asg kF)]) .ret) .skip)) (.region [im 42 4,
 o1 43 (.nilc 42), fa 44 1 43, ld 45 44, o1 46 (.bin .add 45 (kI 1)), o1 47 (.nilc 42), fa 48 1 47, o0 ⟨none, .store 1 48 46, none⟩])))))))))))))))))
def Fa : AFn := ⟨ We, Hc.erase, [.tmp 2, .tmp 3], 1⟩
def JI (P : Pg) (x : (List UInt8)) (K : ((List (List UInt8)) × Bool) → Unit → Prop) : Prop :=
 (((x == ([] : List UInt8)) = true → K ([], true) ()) ∧ ((x == ([] : List UInt8)) = false → BP (D := ((List (List UInt8)) × (Bool × ((List (List UInt8)) × ((List UInt8) × Int))))) ([], (false, ([], (x, (0 : Int))))) (fun d1 J2 => Ai (D := ((List (List UInt8)) × (Bool × ((List (List UInt8)) × ((List UInt8) × Int))))) (fun J3 => Fn P Wd A7 d1.2.2.2 (fun (d5 : ((List UInt8) × Bool)) (e6 : ((List UInt8) × Int)) => (((!d5.2) = true → K ([], false) ()) ∧ ((!d5.2) = false → ((d1.2.2.1.length + List.length ([d5.1] : List (List UInt8))) * 16 ≤ 140737488355328) ∧
 (((e6.2 == (x.length : Int)) = true → K ((d1.2.2.1 ++ ([d5.1] : List (List UInt8))), true) ()) ∧ ((e6.2 == (x.length : Int)) = false → (0 ≤ e6.2 ∧ e6.2 < (x.length : Int)) ∧
 (((((x.getD e6.2.toNat 0).toNat : Int) != (32 : Int)) = true → K ([], false) ()) ∧ ((((x.getD e6.2.toNat 0).toNat : Int) != (32 : Int)) = false → J3 (d1.1, (d1.2.1, ((d1.2.2.1 ++ ([d5.1] : List (List UInt8))), (e6.1, (i64.wrap (e6.2 + (1 : Int))))))))))))))) (fun d4 => J2 d4))))
theorem NT {P : Pg} (h : Has P Fa) {x : DP Cj.ps} {K : DP Cj.rs → DP (ptrs Cj.ps) → Prop} (hw : JI P x K) : Fn P We Cj x K :=
 Cd (c := Hc) h rfl rfl (by kernel_rfl) (Eq.mpr (show B9 P Fa Cj Hc x K = _ by kernel_rfl) hw)
def E0 : Bj :=
 (.seq (.region [o1 0 (.asg (.c (.slice none 0 0)))]) (.seq (.region [o1 1 (.build [(.string ⟨#[]⟩), (.int .i64 0), (.bool false), (.bool false), (.bool false), (.bool false)] [(0,
 1, (.c (.string ⟨#[108, 111, 103]⟩))), (1, 1, (kI 1))]), o1 2 (.build [(.string ⟨#[]⟩), (.int .i64 0), (.bool false), (.bool false), (.bool false), (.bool false)] [(0, 1, (.c
 (.string ⟨#[115, 104, 111, 119]⟩))), (1, 1, (kI 2))]), o1 3 (.build [(.string ⟨#[]⟩), (.int .i64 0), (.bool false), (.bool false), (.bool false), (.bool false)] [(0, 1, (.c
 (.string ⟨#[100, 105, 102, 102]⟩))), (1, 1, (kI 3)), (3, 1, kT), (4, 1, kT), (5, 1, kT)]), o1 4 (.build [(.string ⟨#[]⟩), (.int .i64 0), (.bool false), (.bool false), (.bool
 false), (.bool false)] [(0, 1, (.c (.string ⟨#[99, 111, 109, 98, 105, 110, 101, 100]⟩))), (1, 1, (kI 4)), (4, 1, kT), (5, 1, kT)]), o1 5 (.build [(.string ⟨#[]⟩), (.int .i64 0),
 (.bool false), (.bool false), (.bool false), (.bool false)] [(0, 1, (.c (.string ⟨#[99, 99]⟩))), (1, 1, (kI 4)), (2, 1, kT), (4, 1, kT), (5, 1, kT)]), o1 6 (.build [(.string
 ⟨#[]⟩), (.int .i64 0), (.bool false), (.bool false), (.bool false), (.bool false)] [(0, 1, (.c (.string ⟨#[108, 105, 116, 101, 114, 97, 108]⟩))), (1, 1, (kI 5)), (5, 1, kT)]), o1 7
 (.build [(.string ⟨#[]⟩), (.int .i64 0), (.bool false), (.bool false), (.bool false), (.bool false)] [(0, 1, (.c (.string ⟨#[114, 101, 103, 101, 120]⟩))), (1, 1, (kI 6)), (5, 1,
 kT)]), o1 8 (.build [(.string ⟨#[]⟩), (.int .i64 0), (.bool false), (.bool false), (.bool false), (.bool false)] [(0, 1, (.c (.string ⟨#[108, 105, 110, 101, 115]⟩))), (1, 1, (kI
 7)), (3, 1, kT), (4, 1, kT), (5, 1, kT)]), o1 9 (.build [(.string ⟨#[]⟩), (.int .i64 0), (.bool false), (.bool false), (.bool false), (.bool false)] [(0, 1, (.c (.string ⟨#[98,
 108, 97, 109, 101]⟩))), (1, 1, (kI 8)), (5, 1, kT)]), o1 10 (.build [(.string ⟨#[]⟩), (.int .i64 0), (.bool false), (.bool false), (.bool false), (.bool false)] [(0, 1, (.c
 (.string ⟨#[98, 97, 115, 101, 115]⟩))), (1, 1, (kI 9)), (3, 1, kT)]), oT ⟨some 11, .buildSl 6 [(.string ⟨#[]⟩), (.int .i64 0), (.bool false), (.bool false), (.bool false), (.bool
 false)] 10 [(0, 1), (1, 2), (2, 3), (3, 4), (4, 5), (5, 6), (6, 7), (7, 8), (8, 9), (9, 10)], none⟩ (some (Dy, .leaf)), ia 0 11]) .ret))
def DF : AFn := ⟨ Wg, E0.erase, [.tmp 0], 0⟩
def Hk (P : Pg) (x : Unit) (K : (List Ao) → Unit → Prop) : Prop :=
 K ([(([108, 111, 103] : List UInt8), ((1 : Int), (false, (false, (false, false))))), (([115, 104, 111, 119] : List UInt8), ((2 : Int), (false, (false, (false, false))))), (([100, 105, 102, 102] : List UInt8), ((3 : Int), (false, (true, (true, true))))), (([99, 111, 109, 98, 105, 110, 101, 100] : List UInt8), ((4 : Int), (false, (false, (true, true))))), (([99, 99] : List UInt8), ((4 : Int), (true, (false, (true, true))))), (([108, 105, 116, 101, 114, 97, 108] : List UInt8), ((5 : Int), (false, (false, (false, true))))), (([114, 101, 103, 101, 120] : List UInt8), ((6 : Int), (false, (false, (false, true))))), (([108, 105, 110, 101, 115] : List UInt8), ((7 : Int), (false, (true, (true, true))))), (([98, 108, 97, 109, 101] : List UInt8), ((8 : Int), (false, (false, (false, true))))), (([98, 97, 115, 101, 115] : List UInt8), ((9 : Int), (false, (true, (false, false)))))] : List Ao) ()
theorem K3 {P : Pg} (h : Has P DF) {x : DP BE.ps} {K : DP BE.rs → DP (ptrs BE.ps) → Prop} (hw : Hk P x K) : Fn P Wg BE x K :=
 Cd (c := E0) h rfl rfl (by kernel_rfl) (Eq.mpr (show B9 P DF BE E0 x K = _ by kernel_rfl) hw)
def EZ : Bj :=
 (.seq (.region [o1 2 (.alloc [(.int .i64 0), (.int .i64 0), (.int .i64 0), (.int .i64 0), (.bool false), (.string ⟨#[]⟩)]), ia 3 (kI 0)]) (.seq (.region [im 11 0, oS ⟨some 12,
 .call We [11], none⟩ Cj, im 10 12, o1 13 (.ext 10 0), o1 14 (.ext 10 1), ia 4 13, ia 5 14]) (.seq (.seq (.region [im 15 5, o1 16 (.un .not 15), im 17
 16, gf 18 17 (.mv 4), gf 19 17 (.lenK 18), gf 20 17 (.bin .eql 19 (kI 0)), o1 21 (.pick 17 kT 20)]) (.cond 21 (.seq (.region [o1 22 (.build [(.int .i64 0), (.int .i64 0), (.int
 .i64 0), (.int .i64 0), (.bool false), (.string ⟨#[]⟩)] []), o0 ⟨none, .store 6 2 22, none⟩, ia 3 (kI 320)]) .ret) .skip)) (.seq (.seq (.region [oS ⟨some 23, .call
 Wg [], none⟩ BE, o1 24 (.lenK 23), o1 25 (.mv (kI 0))]) (.frame (rg [3, 7, 8, 9] 25 20) [1002, 1007, 1008] false (.join [.si 3, .bx 1002
 AM .leaf] (.block 0 (.loop [.si 3, .si 25, .bx 1002 AM .leaf] (.seq (.region [o1 26 (.bin .lss 25 24)]) (.seq (.cond 26 .skip (.exit 0)) (.seq (.frame (rg [3, 7, 8, 9]
 27 17) [1002, 1007, 1008] false (.join [.si 3, .bx 1002 AM .leaf] (.block 1 (.seq (.region [o1 27 (.ixA 6 23 25), o1 28 (.load true 6 27), o1 7 (.alloc [(.string ⟨#[]⟩),
 (.int .i64 0), (.bool false), (.bool false), (.bool false), (.bool false)]), o0 ⟨none, .store 6 7 28, none⟩]) (.seq (.seq (.draw [(.first (fa 29 0 7) (.first (ld 30 29) (.first (im
 31 4) (.first (o1 32 (.ixA 1 31 (kI 0))) (.first (ld 33 32) (.first (o1 34 (.bin .neq 30 33)) .done))))))]) (.cond 34 (.exit 1) .skip)) (.seq (.frame (rg [8, 9] 35 7) [1008] false
 (.join [.pt 8 1008 0, .sl 9 false .bool .leaf, .bx 1008 AM .leaf] (.draw [(.first (im 37 4) (.first (o1 38 (.slK 1 37 (some (kI 1)) none)) (.alt (o1 36 (.load true 6 7))
 (.alt (oS ⟨some 39, .call zS8 [36, 38], none⟩ AP) (.first (im 35 39) (.alt (o1 40 (.ext 35 0)) (.alt (o1 41 (.ext 35 1)) (.alt (o1 8
 (.alloc [(.int .i64 0), (.int .i64 0), (.int .i64 0), (.int .i64 0), (.bool false), (.string ⟨#[]⟩)])) (.alt (o0 ⟨none, .store 6 8 40, none⟩) (.alt (ia 9 41) .done .stop) .stop)
 .stop) (.alt (o1 8 (.alloc [(.int .i64 0), (.int .i64 0), (.int .i64 0), (.int .i64 0), (.bool false), (.string ⟨#[]⟩)])) (.alt (o1 41 (.ext 35 1)) (.alt (o0 ⟨none, .store 6 8 40,
 none⟩) (.alt (ia 9 41) .done .stop) .stop) (.alt (o0 ⟨none, .store 6 8 40, none⟩) (.alt (o1 41 (.ext 35 1)) (.alt (ia 9 41) .done .stop) .stop) .stop)) .stop)) (.alt (o1 41 (.ext
 35 1)) (.alt (o1 40 (.ext 35 0)) (.alt (o1 8 (.alloc [(.int .i64 0), (.int .i64 0), (.int .i64 0), (.int .i64 0), (.bool false), (.string ⟨#[]⟩)])) (.alt (o0 ⟨none, .store 6 8 40,
 none⟩) (.alt (ia 9 41) .done .stop) .stop) .stop) (.alt (o1 8 (.alloc [(.int .i64 0), (.int .i64 0), (.int .i64 0), (.int .i64 0), (.bool false), (.string ⟨#[]⟩)])) (.alt (o1 40
 (.ext 35 0)) (.alt (o0 ⟨none, .store 6 8 40, none⟩) (.alt (ia 9 41) .done .stop) .stop) .stop) .stop)) (.alt (o1 8 (.alloc [(.int .i64 0), (.int .i64 0), (.int .i64 0), (.int .i64
 0), (.bool false), (.string ⟨#[]⟩)])) (.alt (o1 40 (.ext 35 0)) (.alt (o1 41 (.ext 35 1)) (.alt (o0 ⟨none, .store 6 8 40, none⟩) (.alt (ia 9 41) .done .stop) .stop) (.alt (o0
 ⟨none, .store 6 8 40, none⟩) (.alt (o1 41 (.ext 35 1)) (.alt (ia 9 41) .done .stop) .stop) .stop)) (.alt (o1 41 (.ext 35 1)) (.alt (o1 40 (.ext 35 0)) (.alt (o0 ⟨none, .store 6 8
 40, none⟩) (.alt (ia 9 41) .done .stop) .stop) .stop) .stop)) .stop)))) (.alt (o1 8 (.alloc [(.int .i64 0), (.int .i64 0), (.int .i64 0), (.int .i64 0), (.bool false), (.string
 ⟨#[]⟩)])) (.alt (oS ⟨some 39, .call zS8 [36, 38], none⟩ AP) (.first (im 35 39) (.alt (o1 40 (.ext 35 0)) (.alt (o1 41 (.ext 35 1))
 (.alt (o0 ⟨none, .store 6 8 40, none⟩) (.alt (ia 9 41) .done .stop) .stop) (.alt (o0 ⟨none, .store 6 8 40, none⟩) (.alt (o1 41 (.ext 35 1)) (.alt (ia 9 41) .done .stop) .stop)
 .stop)) (.alt (o1 41 (.ext 35 1)) (.alt (o1 40 (.ext 35 0)) (.alt (o0 ⟨none, .store 6 8 40, none⟩) (.alt (ia 9 41) .done .stop) .stop) .stop) .stop))) .stop) .stop)) (.alt (o1 8
 (.alloc [(.int .i64 0), (.int .i64 0), (.int .i64 0), (.int .i64 0), (.bool false), (.string ⟨#[]⟩)])) (.first (o1 36 (.load true 6 7)) (.alt (oS ⟨some 39, .call
 zS8 [36, 38], none⟩ AP) (.first (im 35 39) (.alt (o1 40 (.ext 35 0)) (.alt (o1 41 (.ext 35 1)) (.alt (o0 ⟨none, .store 6 8 40, none⟩)
 (.alt (ia 9 41) .done .stop) .stop) (.alt (o0 ⟨none, .store 6 8 40, none⟩) (.alt (o1 41 (.ext 35 1)) (.alt (ia 9 41) .done .stop) .stop) .stop)) (.alt (o1 41 (.ext 35 1)) (.alt (o1
 40 (.ext 35 0)) (.alt (o0 ⟨none, .store 6 8 40, none⟩) (.alt (ia 9 41) .done .stop) .stop) .stop) .stop))) .stop)) .stop))))]))) (.seq (.region [im 42 9]) (.cond 42 (.seq (.region
 [o1 43 (.load true 6 8), o0 ⟨none, .store 6 2 43, none⟩, ia 3 (kI 0)]) .ret) .skip)))))))) (.region [o1 44 (.bin .add 25 (kI 1)), im 25 44]))))))))) (.seq (.region [o1 45 (.build
 [(.int .i64 0), (.int .i64 0), (.int .i64 0), (.int .i64 0), (.bool false), (.string ⟨#[]⟩)] []), o0 ⟨none, .store 6 2 45, none⟩, ia 3 (kI 320)]) .ret)))))
def DE : AFn := ⟨ zS0, EZ.erase, [.cell 2 true 6, .tmp 3], 1⟩
def Hj (P : Pg) (x : (List UInt8)) (K : (Command × Int) → Unit → Prop) : Prop :=
 Fn P We Cj x (fun (d1 : ((List (List UInt8)) × Bool)) (e2 : Unit) => (((cond (!d1.2) true ((d1.1.length : Int) == (0 : Int))) = true → K (((0 : Int), ((0 : Int), ((0 : Int), ((0 : Int), (false, ([] : List UInt8)))))), (320 : Int)) ()) ∧ ((cond (!d1.2) true ((d1.1.length : Int) == (0 : Int))) = false → Fn P Wg BE () (fun (d3 : (List Ao)) (e4 : Unit) => Ai (D := (Int × Command)) (fun J5 => BP (D := (Int × (Int × Command))) ((0 : Int), ((0 : Int), ((0 : Int), ((0 : Int), ((0 : Int), ((0 : Int), (false, ([] : List UInt8)))))))) (fun d7 J8 => (((decide (d7.2.1 < (d3.length : Int))) = true → Ai (D := (Int × Command)) (fun J9 => (0 ≤ d7.2.1 ∧ d7.2.1 < (d3.length : Int)) ∧
 (d7.2.1.toNat < d3.length) ∧
 (0 ≤ (0 : Int) ∧ (0 : Int) < (d1.1.length : Int)) ∧
 ((Int.toNat (0 : Int)) < d1.1.length) ∧
 (((!((List.getD d3 d7.2.1.toNat A2).1 == (List.getD d1.1 (Int.toNat (0 : Int)) []))) = true → J9 (d7.1, d7.2.2)) ∧ ((!((List.getD d3 d7.2.1.toNat A2).1 == (List.getD d1.1 (Int.toNat (0 : Int)) []))) = false → Ai (D := (Bool × Command)) (fun J11 => (0 ≤ (1 : Int) ∧ (1 : Int) ≤ (d1.1.length : Int)) ∧
 ((((Int.toNat (1 : Int)) + (d1.1.length - Int.toNat (1 : Int)) ≤ d1.1.length) ∧
 Fn P zS8 AP ((List.getD d3 d7.2.1.toNat A2), (List.take (d1.1.length - Int.toNat (1 : Int)) (List.drop (Int.toNat (1 : Int)) d1.1))) (fun (d13 : (Command × Bool)) (e14 : Unit) => (((((J11 (d13.2, d13.1)) ∧ True) ∧ True) ∧ True) ∧ (((((J11 (d13.2, d13.1)) ∧ True) ∧ True) ∧ ((((J11 (d13.2, d13.1)) ∧ True) ∧ True) ∧ True)) ∧ True)) ∧ ((((((J11 (d13.2, d13.1)) ∧ True) ∧ True) ∧ True) ∧ (((((J11 (d13.2, d13.1)) ∧ True) ∧ True) ∧ True) ∧ True)) ∧ ((((((J11 (d13.2, d13.1)) ∧ True) ∧ True) ∧ ((((J11 (d13.2, d13.1)) ∧ True) ∧ True) ∧ True)) ∧ (((((J11 (d13.2, d13.1)) ∧ True) ∧ True) ∧ True) ∧ True)) ∧ True)))) ∧ (((((Int.toNat (1 : Int)) + (d1.1.length - Int.toNat (1 : Int)) ≤ d1.1.length) ∧
 Fn P zS8 AP ((List.getD d3 d7.2.1.toNat A2), (List.take (d1.1.length - Int.toNat (1 : Int)) (List.drop (Int.toNat (1 : Int)) d1.1))) (fun (d15 : (Command × Bool)) (e16 : Unit) => ((((J11 (d15.2, d15.1)) ∧ True) ∧ True) ∧ ((((J11 (d15.2, d15.1)) ∧ True) ∧ True) ∧ True)) ∧ (((((J11 (d15.2, d15.1)) ∧ True) ∧ True) ∧ True) ∧ True))) ∧ True) ∧ True)) ∧ (((((Int.toNat (1 : Int)) + (d1.1.length - Int.toNat (1 : Int)) ≤ d1.1.length) ∧
 Fn P zS8 AP ((List.getD d3 d7.2.1.toNat A2), (List.take (d1.1.length - Int.toNat (1 : Int)) (List.drop (Int.toNat (1 : Int)) d1.1))) (fun (d17 : (Command × Bool)) (e18 : Unit) => ((((J11 (d17.2, d17.1)) ∧ True) ∧ True) ∧ ((((J11 (d17.2, d17.1)) ∧ True) ∧ True) ∧ True)) ∧ (((((J11 (d17.2, d17.1)) ∧ True) ∧ True) ∧ True) ∧ True))) ∧ True) ∧ True)) (fun d12 => ((d12.1 = true → K (d12.2, (0 : Int)) ()) ∧ (d12.1 = false → J9 (d7.1, d7.2.2))))))) (fun d10 => J8 (d10.1, ((i64.wrap (d7.2.1 + (1 : Int))), d10.2)))) ∧ ((decide (d7.2.1 < (d3.length : Int))) = false → J5 (d7.1, d7.2.2))))) (fun d6 => K (((0 : Int), ((0 : Int), ((0 : Int), ((0 : Int), (false, ([] : List UInt8)))))), (320 : Int)) ())))))
theorem K2 {P : Pg} (h : Has P DE) {x : DP AD.ps} {K : DP AD.rs → DP (ptrs AD.ps) → Prop} (hw : Hj P x K) : Fn P zS0 AD x K :=
 Cd (c := EZ) h rfl rfl (by kernel_rfl) (Eq.mpr (show B9 P DE AD EZ x K = _ by kernel_rfl) hw)
def Gt : Bj :=
 (.seq (.region [o1 0 (.asg kF)]) (.seq (.region [oS ⟨some 6, .call zS0 [(.c (.string ⟨#[108, 105, 110, 101, 115, 32, 51, 32, 48, 32, 50, 32, 120]⟩))], none⟩
 AD, im 5 6, o1 7 (.ext 5 0), o1 8 (.ext 5 1), o1 1 (.alloc [(.int .i64 0), (.int .i64 0), (.int .i64 0), (.int .i64 0), (.bool false), (.string ⟨#[]⟩)]), o0 ⟨none,
 .store 6 1 7, none⟩, ia 2 8]) (.seq (.region [oS ⟨some 10, .call zS0 [(.c (.string ⟨#[108, 111, 103, 32, 48, 49]⟩))], none⟩ AD, im 9 10, o1 11
 (.ext 9 0), o1 12 (.ext 9 1), o1 3 (.alloc [(.int .i64 0), (.int .i64 0), (.int .i64 0), (.int .i64 0), (.bool false), (.string ⟨#[]⟩)]), o0 ⟨none, .store 6 3 11, none⟩, ia 4 12])
 (.seq (.region [im 13 2, o1 14 (.bin .eql 13 (kI 0)), im 15 14, gt 16 15 (.mv 4), gt 17 15 (.bin .eql 16 (kI 320)), o1 18 (.pick 15 17 kF), im 19 18, gt 20 19 (.load true 6 1), o0
 ⟨some 21, .build [(.int .i64 0), (.int .i64 0), (.int .i64 0), (.int .i64 0), (.bool false), (.string ⟨#[]⟩)] [(0, 1, (kI 7)), (1, 1, (kI 3)), (3, 1, (kI 2)), (5, 1, (.c (.string
 ⟨#[120]⟩)))], some (19, true)⟩, gt 22 19 (.eqA false [.int, .int, .int, .int, .bool, .str] 20 21), o1 23 (.pick 19 22 kF), ia 0 23]) .ret))))
def Ez : AFn := ⟨ zS9, Gt.erase, [.tmp 0], 0⟩
def IV (P : Pg) (x : Unit) (K : Bool → Unit → Prop) : Prop :=
 Fn P zS0 AD ([108, 105, 110, 101, 115, 32, 51, 32, 48, 32, 50, 32, 120] : List UInt8) (fun (d1 : (Command × Int)) (e2 : Unit) => Fn P zS0 AD ([108, 111, 103, 32, 48, 49] : List UInt8) (fun (d3 : (Command × Int)) (e4 : Unit) => K (cond (cond (d1.2 == (0 : Int)) (d3.2 == (320 : Int)) false) ((d1.1.1 == (7 : Int)) && ((d1.1.2.1 == (3 : Int)) && ((d1.1.2.2.1 == (0 : Int)) && ((d1.1.2.2.2.1 == (2 : Int)) && ((d1.1.2.2.2.2.1 == false) && ((d1.1.2.2.2.2.2 == ([120] : List UInt8)) && true)))))) false) ()))
theorem MB {P : Pg} (h : Has P Ez) {x : DP Bh.ps} {K : DP Bh.rs → DP (ptrs Bh.ps) → Prop} (hw : IV P x K) : Fn P zS9 Bh x K :=
 Cd (c := Gt) h rfl rfl (by kernel_rfl) (Eq.mpr (show B9 P Ez Bh Gt x K = _ by kernel_rfl) hw)
def G9 : Bj :=
 (.seq (.region [o1 4 (.asg (.c (.string ⟨#[]⟩))), o1 5 (.asg (.c (.string ⟨#[]⟩)))]) (.seq (.seq (.region [im 6 0]) (.frame (rg [4, 5] 7 19) [] false (.join [.sl 4 false .str
 .leaf, .sl 5 false .str .leaf] (.block 0 (.seq (.region [o1 8 (.bin .eql 6 (kI 1)), ia 7 8]) (.cond 7 (.seq (.region [o1 4 (.asg (.c (.string ⟨#[108, 111, 103]⟩))), o1 5 (.asg (.c
 (.string ⟨#[97]⟩)))]) .ret) (.seq (.region [o1 10 (.bin .eql 6 (kI 2)), ia 9 10]) (.cond 9 (.seq (.region [o1 4 (.asg (.c (.string ⟨#[115, 104, 111, 119]⟩))), o1 5 (.asg (.c
 (.string ⟨#[97]⟩)))]) .ret) (.seq (.region [o1 12 (.bin .eql 6 (kI 3)), ia 11 12]) (.cond 11 (.seq (.region [o1 4 (.asg (.c (.string ⟨#[100, 105, 102, 102]⟩))), o1 5 (.asg (.c
 (.string ⟨#[97, 98, 99, 116]⟩)))]) .ret) (.seq (.region [o1 14 (.bin .eql 6 (kI 4)), ia 13 14]) (.cond 13 (.seq (.seq (.region [im 15 1]) (.cond 15 (.seq (.region [o1 4 (.asg (.c
 (.string ⟨#[99, 99]⟩))), o1 5 (.asg (.c (.string ⟨#[97, 99, 116]⟩)))]) .ret) .skip)) (.seq (.region [o1 4 (.asg (.c (.string ⟨#[99, 111, 109, 98, 105, 110, 101, 100]⟩))), o1 5
 (.asg (.c (.string ⟨#[97, 99, 116]⟩)))]) .ret)) (.seq (.region [o1 17 (.bin .eql 6 (kI 5)), ia 16 17]) (.cond 16 (.seq (.region [o1 4 (.asg (.c (.string ⟨#[108, 105, 116, 101, 114,
 97, 108]⟩))), o1 5 (.asg (.c (.string ⟨#[97, 116]⟩)))]) .ret) (.seq (.region [o1 19 (.bin .eql 6 (kI 6)), ia 18 19]) (.cond 18 (.seq (.region [o1 4 (.asg (.c (.string ⟨#[114, 101,
 103, 101, 120]⟩))), o1 5 (.asg (.c (.string ⟨#[97, 116]⟩)))]) .ret) (.seq (.region [o1 21 (.bin .eql 6 (kI 7)), ia 20 21]) (.cond 20 (.seq (.region [o1 4 (.asg (.c (.string ⟨#[108,
 105, 110, 101, 115]⟩))), o1 5 (.asg (.c (.string ⟨#[97, 98, 99, 116]⟩)))]) .ret) (.seq (.region [o1 23 (.bin .eql 6 (kI 8)), ia 22 23]) (.cond 22 (.seq (.region [o1 4 (.asg (.c
 (.string ⟨#[98, 108, 97, 109, 101]⟩))), o1 5 (.asg (.c (.string ⟨#[97, 116]⟩)))]) .ret) (.seq (.region [o1 25 (.bin .eql 6 (kI 9)), ia 24 25]) (.cond 24 (.seq (.region [o1 4 (.asg
 (.c (.string ⟨#[98, 97, 115, 101, 115]⟩))), o1 5 (.asg (.c (.string ⟨#[97, 98]⟩)))]) .ret) .skip)))))))))))))))))))))) (.seq (.region [o1 4 (.asg (.c (.string ⟨#[]⟩))), o1 5 (.asg
 (.c (.string ⟨#[]⟩)))]) .ret)))
def E7 : AFn := ⟨ zS3, G9.erase, [.tmp 4, .tmp 5], 2⟩
def JF (P : Pg) (x : (Int × Bool)) (K : ((List UInt8) × (List UInt8)) → Unit → Prop) : Prop :=
 Ai (D := ((List UInt8) × (List UInt8))) (fun J1 => (((x.1 == (1 : Int)) = true → K (([108, 111, 103] : List UInt8), ([97] : List UInt8)) ()) ∧ ((x.1 == (1 : Int)) = false → (((x.1 == (2 : Int)) = true → K (([115, 104, 111, 119] : List UInt8), ([97] : List UInt8)) ()) ∧ ((x.1 == (2 : Int)) = false → (((x.1 == (3 : Int)) = true → K (([100, 105, 102, 102] : List UInt8), ([97, 98, 99, 116] : List UInt8)) ()) ∧ ((x.1 == (3 : Int)) = false → (((x.1 == (4 : Int)) = true → ((x.2 = true → K (([99, 99] : List UInt8), ([97, 99, 116] : List UInt8)) ()) ∧ (x.2 = false → K (([99, 111, 109, 98, 105, 110, 101, 100] : List UInt8), ([97, 99, 116] : List UInt8)) ()))) ∧ ((x.1 == (4 : Int)) = false → (((x.1 == (5 : Int)) = true → K (([108, 105, 116, 101, 114, 97, 108] : List UInt8), ([97, 116] : List UInt8)) ()) ∧ ((x.1 == (5 : Int)) = false → (((x.1 == (6 : Int)) = true → K (([114, 101, 103, 101, 120] : List UInt8), ([97, 116] : List UInt8)) ()) ∧ ((x.1 == (6 : Int)) = false → (((x.1 == (7 : Int)) = true → K (([108, 105, 110, 101, 115] : List UInt8), ([97, 98, 99, 116] : List UInt8)) ()) ∧ ((x.1 == (7 : Int)) = false → (((x.1 == (8 : Int)) = true → K (([98, 108, 97, 109, 101] : List UInt8), ([97, 116] : List UInt8)) ()) ∧ ((x.1 == (8 : Int)) = false → (((x.1 == (9 : Int)) = true → K (([98, 97, 115, 101, 115] : List UInt8), ([97, 98] : List UInt8)) ()) ∧ ((x.1 == (9 : Int)) = false → J1 (([] : List UInt8), ([] : List UInt8))))))))))))))))))))) (fun d2 => K (([] : List UInt8), ([] : List UInt8)) ())
theorem NQ {P : Pg} (h : Has P E7) {x : DP AZ.ps} {K : DP AZ.rs → DP (ptrs AZ.ps) → Prop} (hw : JF P x K) : Fn P zS3 AZ x K :=
 Cd (c := G9) h rfl rfl (by kernel_rfl) (Eq.mpr (show B9 P E7 AZ G9 x K = _ by kernel_rfl) hw)
def FV : Bj :=
 (.seq (.region [o1 2 (.asg (.c (.string ⟨#[]⟩)))]) (.seq (.seq (.region [im 3 0, o1 4 (.bin .lss 3 (kI 0)), im 5 4, gf 6 5 (.mv 0), gf 7 5 (.bin .gtr 6 (kI 2147483647)), o1 8
 (.pick 5 kT 7)]) (.cond 8 (.seq (.region [o1 2 (.asg (.c (.string ⟨#[]⟩)))]) .ret) .skip)) (.seq (.seq (.region [im 9 0, o1 10 (.bin .lss 9 (kI 10))]) (.cond 10 (.seq (.region [im
 11 0, im 12 0, o1 13 (.bin .add 12 (kI 1)), o1 14 (.slS (.c (.string ⟨#[48, 49, 50, 51, 52, 53, 54, 55, 56, 57]⟩)) (some 11) (some 13)), ia 2 14]) .ret) .skip)) (.seq (.frame (rg
 [2] 15 10) [] false (.join [.sl 2 false .str .leaf] (.draw [(.first (im 15 0) (.first (o1 16 (.bin .quo 15 (kI 10))) (.first (im 18 0) (.first (o1 19 (.bin .rem 18 (kI 10)))
 (.first (im 20 0) (.first (o1 21 (.bin .rem 20 (kI 10))) (.first (o1 22 (.bin .add 21 (kI 1))) (.first (o1 23 (.slS (.c (.string ⟨#[48, 49, 50, 51, 52, 53, 54, 55, 56, 57]⟩)) (some
 19) (some 22))) (.alt (oS ⟨some 17, .call zS2 [16], none⟩ AK) (.first (o1 24 (.bin .add 17 23)) (.alt (ia 2 24) .done .stop))
 .stop)))))))))]))) .ret))))
def DY : AFn := ⟨ zS2, FV.erase, [.tmp 2], 1⟩
def HA (P : Pg) (x : Int) (K : (List UInt8) → Unit → Prop) : Prop :=
 (((cond (decide (x < (0 : Int))) true (decide (x > (2147483647 : Int)))) = true → K ([] : List UInt8) ()) ∧ ((cond (decide (x < (0 : Int))) true (decide (x > (2147483647 : Int)))) = false → (((decide (x < (10 : Int))) = true → (0 ≤ x ∧ x ≤ (i64.wrap (x + (1 : Int))) ∧ (i64.wrap (x + (1 : Int))) ≤ ((List.length ([48, 49, 50, 51, 52, 53, 54, 55, 56, 57] : List UInt8) : Nat) : Int)) ∧
 K (List.drop x.toNat (List.take (Int.toNat (i64.wrap (x + (1 : Int)))) ([48, 49, 50, 51, 52, 53, 54, 55, 56, 57] : List UInt8))) ()) ∧ ((decide (x < (10 : Int))) = false → Ai (D := (List UInt8)) (fun J1 => ((10 : Int) ≠ 0) ∧
 ((10 : Int) ≠ 0) ∧
 ((10 : Int) ≠ 0) ∧
 (0 ≤ (Int.tmod x (10 : Int)) ∧ (Int.tmod x (10 : Int)) ≤ (i64.wrap ((Int.tmod x (10 : Int)) + (1 : Int))) ∧ (i64.wrap ((Int.tmod x (10 : Int)) + (1 : Int))) ≤ ((List.length ([48, 49, 50, 51, 52, 53, 54, 55, 56, 57] : List UInt8) : Nat) : Int)) ∧
 (Fn P zS2 AK (i64.wrap (Int.tdiv x (10 : Int))) (fun (d3 : (List UInt8)) (e4 : Unit) => (d3.length + List.length (List.drop (Int.toNat (Int.tmod x (10 : Int))) (List.take (Int.toNat (i64.wrap ((Int.tmod x (10 : Int)) + (1 : Int)))) ([48, 49, 50, 51, 52, 53, 54, 55, 56, 57] : List UInt8))) ≤ 9223372036854775807) ∧
 (J1 (d3 ++ (List.drop (Int.toNat (Int.tmod x (10 : Int))) (List.take (Int.toNat (i64.wrap ((Int.tmod x (10 : Int)) + (1 : Int)))) ([48, 49, 50, 51, 52, 53, 54, 55, 56, 57] : List UInt8))))) ∧ True)) ∧ True) (fun d2 => K d2 ())))))
theorem LL {P : Pg} (h : Has P DY) {x : DP AK.ps} {K : DP AK.rs → DP (ptrs AK.ps) → Prop} (hw : HA P x K) : Fn P zS2 AK x K :=
 Cd (c := FV) h rfl rfl (by kernel_rfl) (Eq.mpr (show B9 P DY AK FV x K = _ by kernel_rfl) hw)
def Ha : Bj :=
 (.seq (.region [o1 2 (.asg kF)]) (.seq (.region [im 3 0, o1 4 (.bin .geq 3 (kI 0)), im 5 4, gt 6 5 (.mv 0), gt 7 5 (.bin .leq 6 (kI 2147483647)), o1 8 (.pick 5 7 kF), ia 2 8])
 .ret))
def E8 : AFn := ⟨ zS5, Ha.erase, [.tmp 2], 1⟩
def JG (P : Pg) (x : Int) (K : Bool → Unit → Prop) : Prop :=
 K (cond (decide (x ≥ (0 : Int))) (decide (x ≤ (2147483647 : Int))) false) ()
theorem NR {P : Pg} (h : Has P E8) {x : DP Bd.ps} {K : DP Bd.rs → DP (ptrs Bd.ps) → Prop} (hw : JG P x K) : Fn P zS5 Bd x K :=
 Cd (c := Ha) h rfl rfl (by kernel_rfl) (Eq.mpr (show B9 P E8 Bd Ha x K = _ by kernel_rfl) hw)
def Gu : Bj :=
 (.seq (.region [o1 2 (.asg kF)]) (.seq (.region [im 3 0, o1 4 (.bin .geq 3 (.c (.int .u8 33))), im 5 4, gt 6 5 (.mv 0), gt 7 5 (.bin .leq 6 (.c (.int .u8 126))), o1 8 (.pick 5 7
 kF), im 9 8, gt 10 9 (.mv 0), gt 11 9 (.bin .neq 10 (.c (.int .u8 34))), o1 12 (.pick 9 11 kF), im 13 12, gt 14 13 (.mv 0), gt 15 13 (.bin .neq 14 (.c (.int .u8 92))), o1 16 (.pick
 13 15 kF), ia 2 16]) .ret))
def EA : AFn := ⟨ Sy, Gu.erase, [.tmp 2], 1⟩
def IW (P : Pg) (x : Int) (K : Bool → Unit → Prop) : Prop :=
 K (cond (cond (cond (decide (x ≥ (33 : Int))) (decide (x ≤ (126 : Int))) false) (x != (34 : Int)) false) (x != (92 : Int)) false) ()
theorem MD {P : Pg} (h : Has P EA) {x : DP Bu.ps} {K : DP Bu.rs → DP (ptrs Bu.ps) → Prop} (hw : IW P x K) : Fn P Sy Bu x K :=
 Cd (c := Gu) h rfl rfl (by kernel_rfl) (Eq.mpr (show B9 P EA Bu Gu x K = _ by kernel_rfl) hw)
def Gv : Bj :=
 (.seq (.region [o1 2 (.asg (.c (.string ⟨#[]⟩)))]) (.seq (.region [im 7 0, o1 8 (.bin .neq 7 (.c (.string ⟨#[]⟩))), ia 3 8]) (.seq (.region [o1 4 (.asg (.c (.string ⟨#[34]⟩)))])
 (.seq (.seq (.region [ia 5 (kI 0)]) (.frame (rg [3, 4, 5, 6] 9 78) [] false (.join [.sl 3 false .bool .leaf, .sl 4 false .str .leaf] (.block 0 (.loop [.sl 3 false .bool .leaf, .sl
 4 false .str .leaf, .si 5] (.seq (.seq (.region [im 9 5, im 10 0, o1 11 (.Dk 10), o1 12 (.bin .lss 9 11)]) (.cond 12 .skip (.exit 0))) (.seq (.frame (rg [3, 4, 6] 15 72) [] false
 (.join [.sl 3 false .bool .leaf, .sl 4 false .str .leaf] (.block 1 (.seq (.region [im 15 0, im 16 5, o1 17 (.ixS 15 16), ia 6 17]) (.seq (.region [im 18 3, im 19 18, gt 20 19 (.mv
 6), oS ⟨some 21, .call Sy [20], some (19, true)⟩ Bu, o1 22 (.pick 19 21 kF), ia 3 22]) (.frame (rg [4] 23 64) [] false (.join [.sl 4 false
 .str .leaf] (.block 2 (.seq (.region [im 31 6, o1 32 (.bin .eql 31 (.c (.int .u8 34))), im 33 32, gf 34 33 (.mv 6), gf 35 33 (.bin .eql 34 (.c (.int .u8 92))), o1 36 (.pick 33 kT
 35), ia 30 36]) (.frame (rg [4, 23, 24, 25, 26, 27, 28, 29] 37 50) [] false (.join [.sl 4 false .str .leaf] (.cond 30 (.region [im 37 4, o1 38 (.bin .add 37 (.c (.string
 ⟨#[92]⟩))), im 39 0, im 40 5, im 41 5, o1 42 (.bin .add 41 (kI 1)), o1 43 (.slS 39 (some 40) (some 42)), o1 44 (.bin .add 38 43), ia 4 44]) (.seq (.region [im 46 6, o1 47 (.bin
 .eql 46 (.c (.int .u8 10))), ia 45 47]) (.frame (rg [4, 23, 24, 25, 26, 27, 28, 29] 48 39) [] false (.join [.sl 4 false .str .leaf] (.cond 45 (.region [im 48 4, o1 49 (.bin .add 48
 (.c (.string ⟨#[92, 110]⟩))), ia 4 49]) (.seq (.region [im 51 6, o1 52 (.bin .eql 51 (.c (.int .u8 9))), ia 50 52]) (.frame (rg [4, 23, 24, 25, 26, 27, 28, 29] 53 34) [] false
 (.join [.sl 4 false .str .leaf] (.cond 50 (.region [im 53 4, o1 54 (.bin .add 53 (.c (.string ⟨#[92, 116]⟩))), ia 4 54]) (.seq (.region [im 56 6, o1 57 (.bin .lss 56 (.c (.int .u8
 32))), im 58 57, gf 59 58 (.mv 6), gf 60 58 (.bin .gtr 59 (.c (.int .u8 126))), o1 61 (.pick 58 kT 60), ia 55 61]) (.frame (rg [4, 23, 24, 25, 26, 27, 28, 29] 62 25) [] false
 (.join [.sl 4 false .str .leaf] (.cond 55 (.frame (rg [4] 62 25) [] false (.join [.sl 4 false .str .leaf] (.draw [(.first (im 62 4) (.first (o1 63 (.bin .add 62 (.c (.string
 ⟨#[92]⟩)))) (.first (im 64 6) (.first (o1 65 (.bin .quo 64 (.c (.int .u8 64)))) (.first (im 66 6) (.first (o1 67 (.bin .quo 66 (.c (.int .u8 64)))) (.first (o1 68 (.bin .add 67 (.c
 (.int .u8 1)))) (.first (o1 69 (.slS (.c (.string ⟨#[48, 49, 50, 51, 52, 53, 54, 55]⟩)) (some 65) (some 68))) (.first (o1 70 (.bin .add 63 69)) (.first (im 71 6) (.first (o1 72
 (.bin .quo 71 (.c (.int .u8 8)))) (.first (o1 73 (.bin .rem 72 (.c (.int .u8 8)))) (.first (im 74 6) (.first (o1 75 (.bin .quo 74 (.c (.int .u8 8)))) (.first (o1 76 (.bin .rem 75
 (.c (.int .u8 8)))) (.first (o1 77 (.bin .add 76 (.c (.int .u8 1)))) (.first (o1 78 (.slS (.c (.string ⟨#[48, 49, 50, 51, 52, 53, 54, 55]⟩)) (some 73) (some 77))) (.first (o1 79
 (.bin .add 70 78)) (.first (im 80 6) (.first (o1 81 (.bin .rem 80 (.c (.int .u8 8)))) (.first (im 82 6) (.first (o1 83 (.bin .rem 82 (.c (.int .u8 8)))) (.first (o1 84 (.bin .add
 83 (.c (.int .u8 1)))) (.first (o1 85 (.slS (.c (.string ⟨#[48, 49, 50, 51, 52, 53, 54, 55]⟩)) (some 81) (some 84))) (.first (o1 86 (.bin .add 79 85)) (.alt (ia 4 86) .done
 .stop))))))))))))))))))))))))))]))) (.region [im 23 4, im 24 0, im 25 5, im 26 5, o1 27 (.bin .add 26 (kI 1)), o1 28 (.slS 24 (some 25) (some 27)), o1 29 (.bin .add 23 28), ia 4
 29]))))))))))))))))))))))))) (.region [im 13 5, o1 14 (.bin .add 13 (kI 1)), ia 5 14])))))))) (.seq (.seq (.region [im 87 3]) (.cond 87 (.seq (.region [im 88 0, ia 2 88]) .ret)
 .skip)) (.seq (.region [im 89 4, o1 90 (.bin .add 89 (.c (.string ⟨#[34]⟩))), ia 2 90]) .ret))))))
def EB : AFn := ⟨ Rp, Gv.erase, [.tmp 2], 1⟩
def IX (P : Pg) (x : (List UInt8)) (K : (List UInt8) → Unit → Prop) : Prop :=
 Ai (D := (Bool × (List UInt8))) (fun J1 => BP (D := (Bool × ((List UInt8) × Int))) ((!(x == ([] : List UInt8))), (([34] : List UInt8), (0 : Int))) (fun d3 J4 => (((decide (d3.2.2 < (x.length : Int))) = true → Ai (D := (Bool × (List UInt8))) (fun J5 => (0 ≤ d3.2.2 ∧ d3.2.2 < (x.length : Int)) ∧
 Ai (D := Bool) (fun J7 => ((d3.1 = true → Fn P Sy Bu ((x.getD d3.2.2.toNat 0).toNat : Int) (fun (d8 : Bool) _ => J7 d8)) ∧ ((d3.1 = false → J7 false) ∧ True))) (fun d9 => Ai (D := (List UInt8)) (fun J10 => Ai (D := (List UInt8)) (fun J12 => (((cond (((x.getD d3.2.2.toNat 0).toNat : Int) == (34 : Int)) true (((x.getD d3.2.2.toNat 0).toNat : Int) == (92 : Int))) = true → (d3.2.1.length + List.length ([92] : List UInt8) ≤ 9223372036854775807) ∧
 (0 ≤ d3.2.2 ∧ d3.2.2 ≤ (i64.wrap (d3.2.2 + (1 : Int))) ∧ (i64.wrap (d3.2.2 + (1 : Int))) ≤ (x.length : Int)) ∧
 (List.length (d3.2.1 ++ ([92] : List UInt8)) + List.length (List.drop d3.2.2.toNat (List.take (Int.toNat (i64.wrap (d3.2.2 + (1 : Int)))) x)) ≤ 9223372036854775807) ∧
 J12 ((d3.2.1 ++ ([92] : List UInt8)) ++ (List.drop d3.2.2.toNat (List.take (Int.toNat (i64.wrap (d3.2.2 + (1 : Int)))) x)))) ∧ ((cond (((x.getD d3.2.2.toNat 0).toNat : Int) == (34 : Int)) true (((x.getD d3.2.2.toNat 0).toNat : Int) == (92 : Int))) = false → Ai (D := (List UInt8)) (fun J14 => (((((x.getD d3.2.2.toNat 0).toNat : Int) == (10 : Int)) = true → (d3.2.1.length + List.length ([92, 110] : List UInt8) ≤ 9223372036854775807) ∧
 J14 (d3.2.1 ++ ([92, 110] : List UInt8))) ∧ ((((x.getD d3.2.2.toNat 0).toNat : Int) == (10 : Int)) = false → Ai (D := (List UInt8)) (fun J16 => (((((x.getD d3.2.2.toNat 0).toNat : Int) == (9 : Int)) = true → (d3.2.1.length + List.length ([92, 116] : List UInt8) ≤ 9223372036854775807) ∧
 J16 (d3.2.1 ++ ([92, 116] : List UInt8))) ∧ ((((x.getD d3.2.2.toNat 0).toNat : Int) == (9 : Int)) = false → Ai (D := (List UInt8)) (fun J18 => (((cond (decide (((x.getD d3.2.2.toNat 0).toNat : Int) < (32 : Int))) true (decide (((x.getD d3.2.2.toNat 0).toNat : Int) > (126 : Int)))) = true → Ai (D := (List UInt8)) (fun J20 => (d3.2.1.length + List.length ([92] : List UInt8) ≤ 9223372036854775807) ∧
 ((64 : Int) ≠ 0) ∧
 ((64 : Int) ≠ 0) ∧
 (0 ≤ (u8.wrap (Int.tdiv ((x.getD d3.2.2.toNat 0).toNat : Int) (64 : Int))) ∧ (u8.wrap (Int.tdiv ((x.getD d3.2.2.toNat 0).toNat : Int) (64 : Int))) ≤ (u8.wrap ((u8.wrap (Int.tdiv ((x.getD d3.2.2.toNat 0).toNat : Int) (64 : Int))) + (1 : Int))) ∧ (u8.wrap ((u8.wrap (Int.tdiv ((x.getD d3.2.2.toNat 0).toNat : Int) (64 : Int))) + (1 : Int))) ≤ ((List.length ([48, 49, 50, 51, 52, 53, 54, 55] : List UInt8) : Nat) : Int)) ∧
 (List.length (d3.2.1 ++ ([92] : List UInt8)) + List.length (List.drop (Int.toNat (u8.wrap (Int.tdiv ((x.getD d3.2.2.toNat 0).toNat : Int) (64 : Int)))) (List.take (Int.toNat (u8.wrap ((u8.wrap (Int.tdiv ((x.getD d3.2.2.toNat 0).toNat : Int) (64 : Int))) + (1 : Int)))) ([48, 49, 50, 51, 52, 53, 54, 55] : List UInt8))) ≤ 9223372036854775807) ∧
 ((8 : Int) ≠ 0) ∧
 ((8 : Int) ≠ 0) ∧
 ((8 : Int) ≠ 0) ∧
 ((8 : Int) ≠ 0) ∧
 (0 ≤ (Int.tmod (u8.wrap (Int.tdiv ((x.getD d3.2.2.toNat 0).toNat : Int) (8 : Int))) (8 : Int)) ∧ (Int.tmod (u8.wrap (Int.tdiv ((x.getD d3.2.2.toNat 0).toNat : Int) (8 : Int))) (8 : Int)) ≤ (u8.wrap ((Int.tmod (u8.wrap (Int.tdiv ((x.getD d3.2.2.toNat 0).toNat : Int) (8 : Int))) (8 : Int)) + (1 : Int))) ∧ (u8.wrap ((Int.tmod (u8.wrap (Int.tdiv ((x.getD d3.2.2.toNat 0).toNat : Int) (8 : Int))) (8 : Int)) + (1 : Int))) ≤ ((List.length ([48, 49, 50, 51, 52, 53, 54, 55] : List UInt8) : Nat) : Int)) ∧
 (List.length ((d3.2.1 ++ ([92] : List UInt8)) ++ (List.drop (Int.toNat (u8.wrap (Int.tdiv ((x.getD d3.2.2.toNat 0).toNat : Int) (64 : Int)))) (List.take (Int.toNat (u8.wrap ((u8.wrap (Int.tdiv ((x.getD d3.2.2.toNat 0).toNat : Int) (64 : Int))) + (1 : Int)))) ([48, 49, 50, 51, 52, 53, 54, 55] : List UInt8)))) + List.length (List.drop (Int.toNat (Int.tmod (u8.wrap (Int.tdiv ((x.getD d3.2.2.toNat 0).toNat : Int) (8 : Int))) (8 : Int))) (List.take (Int.toNat (u8.wrap ((Int.tmod (u8.wrap (Int.tdiv ((x.getD d3.2.2.toNat 0).toNat : Int) (8 : Int))) (8 : Int)) + (1 : Int)))) ([48, 49, 50, 51, 52, 53, 54, 55] : List UInt8))) ≤ 9223372036854775807) ∧
 ((8 : Int) ≠ 0) ∧
 ((8 : Int) ≠ 0) ∧
 (0 ≤ (Int.tmod ((x.getD d3.2.2.toNat 0).toNat : Int) (8 : Int)) ∧ (Int.tmod ((x.getD d3.2.2.toNat 0).toNat : Int) (8 : Int)) ≤ (u8.wrap ((Int.tmod ((x.getD d3.2.2.toNat 0).toNat : Int) (8 : Int)) + (1 : Int))) ∧ (u8.wrap ((Int.tmod ((x.getD d3.2.2.toNat 0).toNat : Int) (8 : Int)) + (1 : Int))) ≤ ((List.length ([48, 49, 50, 51, 52, 53, 54, 55] : List UInt8) : Nat) : Int)) ∧
 (List.length (((d3.2.1 ++ ([92] : List UInt8)) ++ (List.drop (Int.toNat (u8.wrap (Int.tdiv ((x.getD d3.2.2.toNat 0).toNat : Int) (64 : Int)))) (List.take (Int.toNat (u8.wrap ((u8.wrap (Int.tdiv ((x.getD d3.2.2.toNat 0).toNat : Int) (64 : Int))) + (1 : Int)))) ([48, 49, 50, 51, 52, 53, 54, 55] : List UInt8)))) ++ (List.drop (Int.toNat (Int.tmod (u8.wrap (Int.tdiv ((x.getD d3.2.2.toNat 0).toNat : Int) (8 : Int))) (8 : Int))) (List.take (Int.toNat (u8.wrap ((Int.tmod (u8.wrap (Int.tdiv ((x.getD d3.2.2.toNat 0).toNat : Int) (8 : Int))) (8 : Int)) + (1 : Int)))) ([48, 49, 50, 51, 52, 53, 54, 55] : List UInt8)))) + List.length (List.drop (Int.toNat (Int.tmod ((x.getD d3.2.2.toNat 0).toNat : Int) (8 : Int))) (List.take (Int.toNat (u8.wrap ((Int.tmod ((x.getD d3.2.2.toNat 0).toNat : Int) (8 : Int)) + (1 : Int)))) ([48, 49, 50, 51, 52, 53, 54, 55] : List UInt8))) ≤ 9223372036854775807) ∧
 (J20 ((((d3.2.1 ++ ([92] : List UInt8)) ++ (List.drop (Int.toNat (u8.wrap (Int.tdiv ((x.getD d3.2.2.toNat 0).toNat : Int) (64 : Int)))) (List.take (Int.toNat (u8.wrap ((u8.wrap (Int.tdiv ((x.getD d3.2.2.toNat 0).toNat : Int) (64 : Int))) + (1 : Int)))) ([48, 49, 50, 51, 52, 53, 54, 55] : List UInt8)))) ++ (List.drop (Int.toNat (Int.tmod (u8.wrap (Int.tdiv ((x.getD d3.2.2.toNat 0).toNat : Int) (8 : Int))) (8 : Int))) (List.take (Int.toNat (u8.wrap ((Int.tmod (u8.wrap (Int.tdiv ((x.getD d3.2.2.toNat 0).toNat : Int) (8 : Int))) (8 : Int)) + (1 : Int)))) ([48, 49, 50, 51, 52, 53, 54, 55] : List UInt8)))) ++ (List.drop (Int.toNat (Int.tmod ((x.getD d3.2.2.toNat 0).toNat : Int) (8 : Int))) (List.take (Int.toNat (u8.wrap ((Int.tmod ((x.getD d3.2.2.toNat 0).toNat : Int) (8 : Int)) + (1 : Int)))) ([48, 49, 50, 51, 52, 53, 54, 55] : List UInt8))))) ∧ True) (fun d21 => J18 d21)) ∧ ((cond (decide (((x.getD d3.2.2.toNat 0).toNat : Int) < (32 : Int))) true (decide (((x.getD d3.2.2.toNat 0).toNat : Int) > (126 : Int)))) = false → (0 ≤ d3.2.2 ∧ d3.2.2 ≤ (i64.wrap (d3.2.2 + (1 : Int))) ∧ (i64.wrap (d3.2.2 + (1 : Int))) ≤ (x.length : Int)) ∧
 (d3.2.1.length + List.length (List.drop d3.2.2.toNat (List.take (Int.toNat (i64.wrap (d3.2.2 + (1 : Int)))) x)) ≤ 9223372036854775807) ∧
 J18 (d3.2.1 ++ (List.drop d3.2.2.toNat (List.take (Int.toNat (i64.wrap (d3.2.2 + (1 : Int)))) x)))))) (fun d19 => J16 d19)))) (fun d17 => J14 d17)))) (fun d15 => J12 d15)))) (fun d13 => J10 d13)) (fun d11 => J5 ((cond d3.1 d9 false), d11)))) (fun d6 => J4 (d6.1, (d6.2, (i64.wrap (d3.2.2 + (1 : Int))))))) ∧ ((decide (d3.2.2 < (x.length : Int))) = false → J1 (d3.1, d3.2.1))))) (fun d2 => ((d2.1 = true → K x ()) ∧ (d2.1 = false → (d2.2.length + List.length ([34] : List UInt8) ≤ 9223372036854775807) ∧
 K (d2.2 ++ ([34] : List UInt8)) ())))
theorem ME {P : Pg} (h : Has P EB) {x : DP Bi.ps} {K : DP Bi.rs → DP (ptrs Bi.ps) → Prop} (hw : IX P x K) : Fn P Rp Bi x K :=
 Cd (c := Gv) h rfl rfl (by kernel_rfl) (Eq.mpr (show B9 P EB Bi Gv x K = _ by kernel_rfl) hw)
def FX : Bj :=
 (.seq (.region [o1 1 (.box 0), o1 2 (.asg (.c (.string ⟨#[]⟩))), ia 3 (kI 0)]) (.seq (.region [fa 11 0 1, ld 12 11, fa 13 4 1, ld 14 13, oS ⟨some 15, .call
 zS3 [12, 14], none⟩ AZ, im 10 15, o1 16 (.ext 10 0), o1 17 (.ext 10 1), ia 4 16, ia 5 17]) (.seq (.region [o1 18 (.load true 6 1), o1 6
 (.alloc [(.int .i64 0), (.int .i64 0), (.int .i64 0), (.int .i64 0), (.bool false), (.string ⟨#[]⟩)]), o0 ⟨none, .store 6 6 18, none⟩]) (.seq (.region [fa 19 0 6, o0 ⟨none, .store
 1 19 (kI 0), none⟩]) (.seq (.seq (.region [fa 20 0 1, ld 21 20, o1 22 (.bin .eql 21 (kI 4))]) (.frame [23] [1006] false (.join [.bx 1006 AM .leaf] (.cond 22 (.region [fa 23 4
 6, o0 ⟨none, .store 1 23 kF, none⟩]) .skip)))) (.seq (.region [im 24 4, ia 7 24]) (.seq (.region [im 25 4, o1 26 (.bin .neq 25 (.c (.string ⟨#[]⟩))), ia 8 26]) (.seq (.seq (.region
 [ia 9 (kI 0)]) (.frame (rg [7, 8, 9] 27 61) [1006] false (.join [.sl 7 false .str .leaf, .sl 8 false .bool .leaf, .bx 1006 AM .leaf] (.block 0 (.loop [.sl 7 false .str .leaf,
 .sl 8 false .bool .leaf, .si 9, .bx 1006 AM .leaf] (.seq (.seq (.region [im 27 9, im 28 5, o1 29 (.Dk 28), o1 30 (.bin .lss 27 29)]) (.cond 30 .skip (.exit 0))) (.seq
 (.frame (rg [7, 8] 33 55) [1006] false (.join [.sl 7 false .str .leaf, .sl 8 false .bool .leaf, .bx 1006 AM .leaf] (.block 1 (.seq (.region [im 33 5, im 34 9, o1 35 (.ixS 33
 34)]) (.frame (rg [7, 8] 36 52) [1006] false (.join [.sl 7 false .str .leaf, .sl 8 false .bool .leaf, .bx 1006 AM .leaf] (.block 2 (.seq (.region [o1 44 (.bin .eql 35 (.c
 (.int .u8 97))), ia 43 44]) (.frame (rg [7, 8, 36, 37, 38, 39, 40, 41, 42] 45 43) [1006] false (.join [.sl 7 false .str .leaf, .sl 8 false .bool .leaf, .bx 1006 AM .leaf]
 (.cond 43 (.seq (.region [im 45 7, o1 46 (.bin .add 45 (.c (.string ⟨#[32]⟩))), fa 47 1 1, ld 48 47, oS ⟨some 49, .call zS2 [48], none⟩
 AK, o1 50 (.bin .add 46 49), ia 7 50]) (.seq (.region [im 51 8, im 52 51, gt 53 52 (.fAddr 1 1), gt 54 52 (.load false 1 53), oS ⟨some 55, .call
 zS5 [54], some (52, true)⟩ Bd, o1 56 (.pick 52 55 kF), ia 8 56]) (.region [fa 57 1 6, o0 ⟨none, .store 1 57 (kI 0), none⟩]))) (.seq (.region
 [o1 59 (.bin .eql 35 (.c (.int .u8 98))), ia 58 59]) (.frame (rg [7, 8, 36, 37, 38, 39, 40, 41, 42] 60 28) [1006] false (.join [.sl 7 false .str .leaf, .sl 8 false .bool .leaf, .bx
 1006 AM .leaf] (.cond 58 (.seq (.region [im 60 7, o1 61 (.bin .add 60 (.c (.string ⟨#[32]⟩))), fa 62 2 1, ld 63 62, oS ⟨some 64, .call zS2 [63],
 none⟩ AK, o1 65 (.bin .add 61 64), ia 7 65]) (.seq (.region [im 66 8, im 67 66, gt 68 67 (.fAddr 2 1), gt 69 67 (.load false 1 68), oS ⟨some 70, .call
 zS5 [69], some (67, true)⟩ Bd, o1 71 (.pick 67 70 kF), ia 8 71]) (.region [fa 72 2 6, o0 ⟨none, .store 1 72 (kI 0), none⟩]))) (.seq (.region
 [o1 74 (.bin .eql 35 (.c (.int .u8 99))), ia 73 74]) (.frame (rg [7, 8, 36, 37, 38, 39, 40, 41, 42] 75 13) [1006] false (.join [.sl 7 false .str .leaf, .sl 8 false .bool .leaf, .bx
 1006 AM .leaf] (.cond 73 (.seq (.region [im 75 7, o1 76 (.bin .add 75 (.c (.string ⟨#[32]⟩))), fa 77 3 1, ld 78 77, oS ⟨some 79, .call zS2 [78],
 none⟩ AK, o1 80 (.bin .add 76 79), ia 7 80]) (.seq (.region [im 81 8, im 82 81, gt 83 82 (.fAddr 3 1), gt 84 82 (.load false 1 83), oS ⟨some 85, .call
 zS5 [84], some (82, true)⟩ Bd, o1 86 (.pick 82 85 kF), ia 8 86]) (.region [fa 87 3 6, o0 ⟨none, .store 1 87 (kI 0), none⟩]))) (.seq (.region
 [im 36 7, o1 37 (.bin .add 36 (.c (.string ⟨#[32]⟩))), fa 38 5 1, ld 39 38, oS ⟨some 40, .call Rp [39], none⟩ Bi, o1 41 (.bin .add 37 40),
 ia 7 41]) (.region [fa 42 5 6, o0 ⟨none, .store 1 42 (.c (.string ⟨#[]⟩)), none⟩]))))))))))))))))))))) (.region [im 31 9, o1 32 (.bin .add 31 (kI 1)), ia 9 32])))))))) (.seq (.seq
 (.region [im 88 8, o1 89 (.un .not 88), im 90 89, gf 91 90 (.fAddr 1 6), gf 92 90 (.load false 1 91), gf 93 90 (.bin .neq 92 (kI 0)), o1 94 (.pick 90 kT 93), im 95 94, gf 96 95
 (.fAddr 2 6), gf 97 95 (.load false 1 96), gf 98 95 (.bin .neq 97 (kI 0)), o1 99 (.pick 95 kT 98), im 100 99, gf 101 100 (.fAddr 3 6), gf 102 100 (.load false 1 101), gf 103 100
 (.bin .neq 102 (kI 0)), o1 104 (.pick 100 kT 103), im 105 104, gf 106 105 (.fAddr 4 6), gf 107 105 (.load false 1 106), o1 108 (.pick 105 kT 107), im 109 108, gf 110 109 (.fAddr 5
 6), gf 111 109 (.load false 1 110), o0 ⟨some 112, .bin .neq 111 (.c (.string ⟨#[]⟩)), some (109, false)⟩, o1 113 (.pick 109 kT 112)]) (.cond 113 (.seq (.region [o1 2 (.asg (.c
 (.string ⟨#[]⟩))), ia 3 (kI 2)]) .ret) .skip)) (.seq (.region [im 114 7, ia 2 114, ia 3 (kI 0)]) .ret))))))))))
def D0 : AFn := ⟨ Rq, FX.erase, [.tmp 2, .tmp 3], 1⟩
def HC (P : Pg) (x : Command) (K : ((List UInt8) × Int) → Unit → Prop) : Prop :=
 Fn P zS3 AZ (x.1, x.2.2.2.2.1) (fun (d1 : ((List UInt8) × (List UInt8))) (e2 : Unit) => Ai (D := Command) (fun J3 => (((x.1 == (4 : Int)) = true → J3 ((0 : Int), (x.2.1, (x.2.2.1, (x.2.2.2.1, (false, x.2.2.2.2.2)))))) ∧ ((x.1 == (4 : Int)) = false → J3 ((0 : Int), x.2)))) (fun d4 => Ai (D := ((List UInt8) × (Bool × Command))) (fun J5 => BP (D := ((List UInt8) × (Bool × (Int × Command)))) (d1.1, ((!(d1.1 == ([] : List UInt8))), ((0 : Int), d4))) (fun d7 J8 => (((decide (d7.2.2.1 < (d1.2.length : Int))) = true → Ai (D := ((List UInt8) × (Bool × Command))) (fun J9 => (0 ≤ d7.2.2.1 ∧ d7.2.2.1 < (d1.2.length : Int)) ∧
 Ai (D := ((List UInt8) × (Bool × Command))) (fun J11 => Ai (D := ((List UInt8) × (Bool × Command))) (fun J13 => (((((d1.2.getD d7.2.2.1.toNat 0).toNat : Int) == (97 : Int)) = true → (d7.1.length + List.length ([32] : List UInt8) ≤ 9223372036854775807) ∧
 Fn P zS2 AK x.2.1 (fun (d15 : (List UInt8)) (e16 : Unit) => (List.length (d7.1 ++ ([32] : List UInt8)) + d15.length ≤ 9223372036854775807) ∧
 Ai (D := Bool) (fun J17 => ((d7.2.1 = true → Fn P zS5 Bd x.2.1 (fun (d18 : Bool) _ => J17 d18)) ∧ ((d7.2.1 = false → J17 false) ∧ True))) (fun d19 => J13 (((d7.1 ++ ([32] : List UInt8)) ++ d15), ((cond d7.2.1 d19 false), (d7.2.2.2.1, ((0 : Int), d7.2.2.2.2.2))))))) ∧ ((((d1.2.getD d7.2.2.1.toNat 0).toNat : Int) == (97 : Int)) = false → Ai (D := ((List UInt8) × (Bool × Command))) (fun J20 => (((((d1.2.getD d7.2.2.1.toNat 0).toNat : Int) == (98 : Int)) = true → (d7.1.length + List.length ([32] : List UInt8) ≤ 9223372036854775807) ∧
 Fn P zS2 AK x.2.2.1 (fun (d22 : (List UInt8)) (e23 : Unit) => (List.length (d7.1 ++ ([32] : List UInt8)) + d22.length ≤ 9223372036854775807) ∧
 Ai (D := Bool) (fun J24 => ((d7.2.1 = true → Fn P zS5 Bd x.2.2.1 (fun (d25 : Bool) _ => J24 d25)) ∧ ((d7.2.1 = false → J24 false) ∧ True))) (fun d26 => J20 (((d7.1 ++ ([32] : List UInt8)) ++ d22), ((cond d7.2.1 d26 false), (d7.2.2.2.1, (d7.2.2.2.2.1, ((0 : Int), d7.2.2.2.2.2.2)))))))) ∧ ((((d1.2.getD d7.2.2.1.toNat 0).toNat : Int) == (98 : Int)) = false → Ai (D := ((List UInt8) × (Bool × Command))) (fun J27 => (((((d1.2.getD d7.2.2.1.toNat 0).toNat : Int) == (99 : Int)) = true → (d7.1.length + List.length ([32] : List UInt8) ≤ 9223372036854775807) ∧
 Fn P zS2 AK x.2.2.2.1 (fun (d29 : (List UInt8)) (e30 : Unit) => (List.length (d7.1 ++ ([32] : List UInt8)) + d29.length ≤ 9223372036854775807) ∧
 Ai (D := Bool) (fun J31 => ((d7.2.1 = true → Fn P zS5 Bd x.2.2.2.1 (fun (d32 : Bool) _ => J31 d32)) ∧ ((d7.2.1 = false → J31 false) ∧ True))) (fun d33 => J27 (((d7.1 ++ ([32] : List UInt8)) ++ d29), ((cond d7.2.1 d33 false), (d7.2.2.2.1, (d7.2.2.2.2.1, (d7.2.2.2.2.2.1, ((0 : Int), d7.2.2.2.2.2.2.2))))))))) ∧ ((((d1.2.getD d7.2.2.1.toNat 0).toNat : Int) == (99 : Int)) = false → (d7.1.length + List.length ([32] : List UInt8) ≤ 9223372036854775807) ∧
 Fn P Rp Bi x.2.2.2.2.2 (fun (d34 : (List UInt8)) (e35 : Unit) => (List.length (d7.1 ++ ([32] : List UInt8)) + d34.length ≤ 9223372036854775807) ∧
 J27 (((d7.1 ++ ([32] : List UInt8)) ++ d34), (d7.2.1, (d7.2.2.2.1, (d7.2.2.2.2.1, (d7.2.2.2.2.2.1, (d7.2.2.2.2.2.2.1, (d7.2.2.2.2.2.2.2.1, ([] : List UInt8)))))))))))) (fun d28 => J20 d28)))) (fun d21 => J13 d21)))) (fun d14 => J11 d14)) (fun d12 => J9 d12)) (fun d10 => J8 (d10.1, (d10.2.1, ((i64.wrap (d7.2.2.1 + (1 : Int))), d10.2.2))))) ∧ ((decide (d7.2.2.1 < (d1.2.length : Int))) = false → J5 (d7.1, (d7.2.1, d7.2.2.2)))))) (fun d6 => (((cond (cond (cond (cond (cond (!d6.2.1) true (d6.2.2.2.1 != (0 : Int))) true (d6.2.2.2.2.1 != (0 : Int))) true (d6.2.2.2.2.2.1 != (0 : Int))) true d6.2.2.2.2.2.2.1) true (!(d6.2.2.2.2.2.2.2 == ([] : List UInt8)))) = true → K (([] : List UInt8), (2 : Int)) ()) ∧ ((cond (cond (cond (cond (cond (!d6.2.1) true (d6.2.2.2.1 != (0 : Int))) true (d6.2.2.2.2.1 != (0 : Int))) true (d6.2.2.2.2.2.1 != (0 : Int))) true d6.2.2.2.2.2.2.1) true (!(d6.2.2.2.2.2.2.2 == ([] : List UInt8)))) = false → K (d6.1, (0 : Int)) ())))))
theorem LN {P : Pg} (h : Has P D0) {x : DP A6.ps} {K : DP A6.rs → DP (ptrs A6.ps) → Prop} (hw : HC P x K) : Fn P Rq A6 x K :=
 Cd (c := FX) h rfl rfl (by kernel_rfl) (Eq.mpr (show B9 P D0 A6 FX x K = _ by kernel_rfl) hw)
def Lj : Bj :=
 (.seq (.region [ia 4 (kI 0)]) (.seq (.region [im 5 0, o1 6 (.conv (.toInt .u64) 5), im 7 1, o1 8 (.conv (.toInt .u64) 7), o1 9 (.bin .rem 6 8), o1 10 (.conv (.toInt .i64) 9), ia 4
 10]) .ret))
def Ig : AFn := ⟨ zS1, Lj.erase, [.tmp 4], 2⟩
def Oa (P : Pg) (x : (Int × Int)) (K : Int → Unit → Prop) : Prop :=
 ((u64.wrap x.2) ≠ 0) ∧
 K (i64.wrap (Int.tmod (u64.wrap x.1) (u64.wrap x.2))) ()
theorem RM {P : Pg} (h : Has P Ig) {x : DP Bq.ps} {K : DP Bq.rs → DP (ptrs Bq.ps) → Prop} (hw : Oa P x K) : Fn P zS1 Bq x K :=
 Cd (c := Lj) h rfl rfl (by kernel_rfl) (Eq.mpr (show B9 P Ig Bq Lj x K = _ by kernel_rfl) hw)
def ND : Bj :=
 (.seq (.region [ia 4 (kI 0)]) (.seq (.region [im 6 1, o1 7 (.bin .add 6 (kI 1)), o1 8 (.conv (.toInt .u64) 7), o1 9 (.bin .mul 8 (.c (.int .u64 11400714819323198485))), ia 5 9])
 (.seq (.seq (.region [im 10 0, o1 11 (.lenK 10), o1 12 (.bin .gtr 11 (kI 0))]) (.frame (rg [5] 13 10) [] false (.join [.sl 5 false (.int .u64) .leaf] (.cond 12 (.region [im 13 5,
 im 14 0, im 15 1, im 16 0, o1 17 (.lenK 16), o1 18 (.bin .rem 15 17), o1 19 (.ixA 1 14 18), ld 20 19, o1 21 (.conv (.toInt .u64) 20), o1 22 (.bin .xor 13 21), ia 5 22]) .skip))))
 (.seq (.region [im 23 5, im 24 5, o1 25 (.bin .shr 24 (.c (.int .u64 31))), o1 26 (.bin .xor 23 25), o1 27 (.bin .mul 26 (.c (.int .u64 13787848793156543929))), ia 5 27]) (.seq
 (.region [im 28 5, im 29 5, o1 30 (.bin .shr 29 (.c (.int .u64 29))), o1 31 (.bin .xor 28 30), o1 32 (.bin .shr 31 (.c (.int .u64 1))), o1 33 (.conv (.toInt .i64) 32), ia 4 33])
 .ret)))))
def JC : AFn := ⟨ zS6, ND.erase, [.tmp 4], 2⟩
def PW (P : Pg) (x : ((List Int) × Int)) (K : Int → Unit → Prop) : Prop :=
 Ai (D := Int) (fun J1 => (((decide ((x.1.length : Int) > (0 : Int))) = true → ((x.1.length : Int) ≠ 0) ∧
 (0 ≤ (Int.tmod x.2 (x.1.length : Int)) ∧ (Int.tmod x.2 (x.1.length : Int)) < (x.1.length : Int)) ∧
 ((Int.toNat (Int.tmod x.2 (x.1.length : Int))) < x.1.length) ∧
 J1 (u64.wrap ((BitVec.toNat (BitVec.ofInt u64.bits (u64.wrap ((u64.wrap (i64.wrap (x.2 + (1 : Int)))) * (11400714819323198485 : Int))) ^^^ BitVec.ofInt u64.bits (u64.wrap (List.getD x.1 (Int.toNat (Int.tmod x.2 (x.1.length : Int))) (0 : Int)))) : Nat) : Int))) ∧ ((decide ((x.1.length : Int) > (0 : Int))) = false → J1 (u64.wrap ((u64.wrap (i64.wrap (x.2 + (1 : Int)))) * (11400714819323198485 : Int)))))) (fun d2 => (0 ≤ (31 : Int)) ∧
 (0 ≤ (29 : Int)) ∧
 (0 ≤ (1 : Int)) ∧
 K (i64.wrap (Int.fdiv (u64.wrap ((BitVec.toNat (BitVec.ofInt u64.bits (u64.wrap ((u64.wrap ((BitVec.toNat (BitVec.ofInt u64.bits d2 ^^^ BitVec.ofInt u64.bits (Int.fdiv d2 (2 ^ (min (Int.toNat (31 : Int)) u64.bits)))) : Nat) : Int)) * (13787848793156543929 : Int))) ^^^ BitVec.ofInt u64.bits (Int.fdiv (u64.wrap ((u64.wrap ((BitVec.toNat (BitVec.ofInt u64.bits d2 ^^^ BitVec.ofInt u64.bits (Int.fdiv d2 (2 ^ (min (Int.toNat (31 : Int)) u64.bits)))) : Nat) : Int)) * (13787848793156543929 : Int))) (2 ^ (min (Int.toNat (29 : Int)) u64.bits)))) : Nat) : Int)) (2 ^ (min (Int.toNat (1 : Int)) u64.bits)))) ())
theorem TK {P : Pg} (h : Has P JC) {x : DP Cw.ps} {K : DP Cw.rs → DP (ptrs Cw.ps) → Prop} (hw : PW P x K) : Fn P zS6 Cw x K :=
 Cd (c := ND) h rfl rfl (by kernel_rfl) (Eq.mpr (show B9 P JC Cw ND x K = _ by kernel_rfl) hw)
def Jv : Bj :=
 (.seq (.region [o1 2 (.asg (.c (.string ⟨#[]⟩)))]) (.seq (.region [oT ⟨some 3, .buildSl 1 [(.string ⟨#[]⟩)] 10 [(0, (.c (.string ⟨#[97]⟩))), (1, (.c (.string ⟨#[98]⟩))), (2, (.c
 (.string ⟨#[99]⟩))), (3, (.c (.string ⟨#[97, 98]⟩))), (4, (.c (.string ⟨#[98, 97]⟩))), (5, (.c (.string ⟨#[]⟩))), (6, (.c (.string ⟨#[97, 97]⟩))), (7, (.c (.string ⟨#[98, 32,
 97]⟩))), (8, (.c (.string ⟨#[120, 43, 121]⟩))), (9, (.c (.string ⟨#[92]⟩)))], none⟩ (some (.str, .leaf)), im 4 0, oS ⟨some 5, .call zS1 [4, (kI 10)], none⟩
 Bq, o1 6 (.ixA 1 3 5), ld 7 6, ia 2 7]) .ret))
def GS : AFn := ⟨ Wh, Jv.erase, [.tmp 2], 1⟩
abbrev HZ : List (List UInt8) := ([([97] : List UInt8), ([98] : List UInt8), ([99] : List UInt8), ([97, 98] : List UInt8), ([98, 97] : List UInt8), ([] : List UInt8), ([97, 97] : List UInt8), ([98, 32, 97] : List UInt8), ([120, 43, 121] : List UInt8), ([92] : List UInt8)] : List (List UInt8))
def Mj (P : Pg) (x : Int) (K : (List UInt8) → Unit → Prop) : Prop :=
 Fn P zS1 Bq (x, (10 : Int)) (fun (d1 : Int) (e2 : Unit) => (0 ≤ d1 ∧ d1 < ((List.length HZ : Nat) : Int)) ∧
 (d1.toNat < List.length HZ) ∧
 K (List.getD HZ d1.toNat []) ())
theorem Qi {P : Pg} (h : Has P GS) {x : DP C7.ps} {K : DP C7.rs → DP (ptrs C7.ps) → Prop} (hw : Mj P x K) : Fn P Wh C7 x K :=
 Cd (c := Jv) h rfl rfl (by kernel_rfl) (Eq.mpr (show B9 P GS C7 Jv x K = _ by kernel_rfl) hw)
def G8 : Bj :=
 (.seq (.region [o1 4 (.alloc [(.int .i64 0), (.int .i64 0), (.int .i64 0), (.int .i64 0), (.bool false), (.string ⟨#[]⟩)])]) (.seq (.region [im 11 0, im 12 1, oS ⟨some 13, .call
 zS6 [11, 12], none⟩ Cw, oS ⟨some 14, .call zS1 [13, (kI 9)], none⟩ Bq, o1 15 (.bin .add (kI 1) 14), ia 5 15]) (.seq
 (.region [im 16 5, im 17 5, o1 18 (.bin .eql 17 (kI 4)), im 19 18, gt 20 19 (.mv 0), gt 21 19 (.mv 1), gt 22 19 (.bin .add 21 (kI 1)), oS ⟨some 23, .call
 zS6 [20, 22], some (19, true)⟩ Cw, gt 24 19 (.bin .rem 23 (kI 2)), gt 25 19 (.bin .eql 24 (kI 0)), o1 26 (.pick 19 25 kF), o1 27 (.build [(.int .i64
 0), (.int .i64 0), (.int .i64 0), (.int .i64 0), (.bool false), (.string ⟨#[]⟩)] [(0, 1, 16), (4, 1, 26)]), o1 6 (.alloc [(.int .i64 0), (.int .i64 0), (.int .i64 0), (.int .i64
 0), (.bool false), (.string ⟨#[]⟩)]), o0 ⟨none, .store 6 6 27, none⟩]) (.seq (.region [fa 29 0 6, ld 30 29, fa 31 4 6, ld 32 31, oS ⟨some 33, .call zS3
 [30, 32], none⟩ AZ, im 28 33, o1 34 (.ext 28 0), o1 35 (.ext 28 1), ia 7 34, ia 8 35]) (.seq (.seq (.region [ia 9 (kI 0)]) (.frame (rg [9, 10] 36 31) [1006] false (.join
 [.bx 1006 AM .leaf] (.block 0 (.loop [.si 9, .bx 1006 AM .leaf] (.seq (.seq (.region [im 36 9, im 37 8, o1 38 (.Dk 37), o1 39 (.bin .lss 36 38)]) (.cond 39 .skip
 (.exit 0))) (.seq (.frame (rg [10] 42 25) [1006] false (.join [.bx 1006 AM .leaf] (.block 1 (.seq (.region [im 42 0, im 43 1, o1 44 (.bin .add 43 (kI 2)), im 45 9, o1 46
 (.bin .add 44 45), oS ⟨some 47, .call zS6 [42, 46], none⟩ Cw, oS ⟨some 48, .call zS1 [47, (kI 12)], none⟩ Bq, ia 10
 48]) (.seq (.region [im 49 8, im 50 9, o1 51 (.ixS 49 50)]) (.frame (rg [] 52 15) [1006] false (.join [.bx 1006 AM .leaf] (.block 2 (.seq (.region [o1 56 (.bin .eql 51 (.c
 (.int .u8 97))), ia 55 56]) (.frame (rg [52, 53, 54] 57 10) [1006] false (.join [.bx 1006 AM .leaf] (.cond 55 (.region [im 57 10, fa 58 1 6, o0 ⟨none, .store 1 58 57, none⟩])
 (.seq (.region [o1 60 (.bin .eql 51 (.c (.int .u8 98))), ia 59 60]) (.frame (rg [52, 53, 54] 61 6) [1006] false (.join [.bx 1006 AM .leaf] (.cond 59 (.region [im 61 10, fa 62
 2 6, o0 ⟨none, .store 1 62 61, none⟩]) (.seq (.region [o1 64 (.bin .eql 51 (.c (.int .u8 99))), ia 63 64]) (.frame [52, 53, 54, 65, 66] [1006] false (.join [.bx 1006 AM
 .leaf] (.cond 63 (.region [im 65 10, fa 66 3 6, o0 ⟨none, .store 1 66 65, none⟩]) (.region [im 52 10, oS ⟨some 53, .call Wh [52], none⟩ C7, fa 54
 5 6, o0 ⟨none, .store 1 54 53, none⟩]))))))))))))))))))))) (.region [im 40 9, o1 41 (.bin .add 40 (kI 1)), ia 9 41])))))))) (.seq (.region [o1 67 (.load true 6 6), o0 ⟨none, .store
 6 4 67, none⟩]) .ret))))))
def E6 : AFn := ⟨ UK, G8.erase, [.cell 4 true 6], 2⟩
def JE (P : Pg) (x : ((List Int) × Int)) (K : Command → Unit → Prop) : Prop :=
 Fn P zS6 Cw x (fun (d1 : Int) (e2 : Unit) => Fn P zS1 Bq (d1, (9 : Int)) (fun (d3 : Int) (e4 : Unit) => Ai (D := Int) (fun J5 => ((((i64.wrap ((1 : Int) + d3)) == (4 : Int)) = true → Fn P zS6 Cw (x.1, (i64.wrap (x.2 + (1 : Int)))) (fun (d6 : Int) _ => J5 d6)) ∧ ((((i64.wrap ((1 : Int) + d3)) == (4 : Int)) = false → J5 (0 : Int)) ∧ True))) (fun d7 => ((((i64.wrap ((1 : Int) + d3)) == (4 : Int)) = true → (2 : Int) ≠ 0)) ∧
 Fn P zS3 AZ ((i64.wrap ((1 : Int) + d3)), (cond ((i64.wrap ((1 : Int) + d3)) == (4 : Int)) ((Int.tmod d7 (2 : Int)) == (0 : Int)) false)) (fun (d8 : ((List UInt8) × (List UInt8))) (e9 : Unit) => Ai (D := Command) (fun J10 => BP (D := (Int × Command)) ((0 : Int), ((i64.wrap ((1 : Int) + d3)), ((0 : Int), ((0 : Int), ((0 : Int), ((cond ((i64.wrap ((1 : Int) + d3)) == (4 : Int)) ((Int.tmod d7 (2 : Int)) == (0 : Int)) false), ([] : List UInt8))))))) (fun d12 J13 => (((decide (d12.1 < (d8.2.length : Int))) = true → Ai (D := Command) (fun J14 => Fn P zS6 Cw (x.1, (i64.wrap ((i64.wrap (x.2 + (2 : Int))) + d12.1))) (fun (d16 : Int) (e17 : Unit) => Fn P zS1 Bq (d16, (12 : Int)) (fun (d18 : Int) (e19 : Unit) => (0 ≤ d12.1 ∧ d12.1 < (d8.2.length : Int)) ∧
 Ai (D := Command) (fun J20 => Ai (D := Command) (fun J22 => (((((d8.2.getD d12.1.toNat 0).toNat : Int) == (97 : Int)) = true → J22 (d12.2.1, (d18, d12.2.2.2))) ∧ ((((d8.2.getD d12.1.toNat 0).toNat : Int) == (97 : Int)) = false → Ai (D := Command) (fun J24 => (((((d8.2.getD d12.1.toNat 0).toNat : Int) == (98 : Int)) = true → J24 (d12.2.1, (d12.2.2.1, (d18, d12.2.2.2.2)))) ∧ ((((d8.2.getD d12.1.toNat 0).toNat : Int) == (98 : Int)) = false → Ai (D := Command) (fun J26 => (((((d8.2.getD d12.1.toNat 0).toNat : Int) == (99 : Int)) = true → J26 (d12.2.1, (d12.2.2.1, (d12.2.2.2.1, (d18, d12.2.2.2.2.2))))) ∧ ((((d8.2.getD d12.1.toNat 0).toNat : Int) == (99 : Int)) = false → Fn P Wh C7 d18 (fun (d28 : (List UInt8)) (e29 : Unit) => J26 (d12.2.1, (d12.2.2.1, (d12.2.2.2.1, (d12.2.2.2.2.1, (d12.2.2.2.2.2.1, d28))))))))) (fun d27 => J24 d27)))) (fun d25 => J22 d25)))) (fun d23 => J20 d23)) (fun d21 => J14 d21)))) (fun d15 => J13 ((i64.wrap (d12.1 + (1 : Int))), d15))) ∧ ((decide (d12.1 < (d8.2.length : Int))) = false → J10 d12.2)))) (fun d11 => K d11 ())))))
theorem NP {P : Pg} (h : Has P E6) {x : DP BZ.ps} {K : DP BZ.rs → DP (ptrs BZ.ps) → Prop} (hw : JE P x K) : Fn P UK BZ x K :=
 Cd (c := G8) h rfl rfl (by kernel_rfl) (Eq.mpr (show B9 P E6 BZ G8 x K = _ by kernel_rfl) hw)
def Gs : Bj :=
 (.seq (.region [o1 8 (.asg (.c (.string ⟨#[]⟩)))]) (.seq (.region [im 10 2, im 11 0, o1 12 (.Dk 11), o1 13 (.bin .add 12 (kI 1)), oS ⟨some 14, .call zS1
 [10, 13], none⟩ Bq, ia 9 14]) (.seq (.seq (.region [im 15 1, oS ⟨some 16, .call zS1 [15, (kI 4)], none⟩ Bq]) (.frame (rg [8] 17 45) [] false
 (.join [.sl 8 false .str .leaf] (.block 0 (.seq (.region [o1 18 (.bin .eql 16 (kI 0)), ia 17 18]) (.cond 17 (.seq (.frame (rg [8] 19 12) [] false (.join [.sl 8 false .str .leaf]
 (.draw [(.first (im 19 0) (.first (im 20 9) (.first (o1 21 (.slS 19 none (some 20))) (.first (im 22 3) (.first (o1 23 (.conv (.toInt .u8) 22)) (.first (im 27 0) (.first (im 28 9)
 (.first (o1 29 (.slS 27 (some 28) none)) (.alt (oT ⟨some 24, .buildSl 1 [(.int .u8 0)] 1 [(0, 23)], none⟩ (some ((.int .u8), .leaf))) (.first (o1 25 (.conv .bytesToStr 24)) (.first
 (o1 26 (.bin .add 21 25)) (.first (o1 30 (.bin .add 26 29)) (.alt (ia 8 30) .done .stop)))) .stop)))))))))]))) .ret) (.seq (.region [o1 32 (.bin .eql 16 (kI 1)), ia 31 32]) (.cond
 31 (.seq (.frame (rg [8] 33 11) [] false (.join [.sl 8 false .str .leaf] (.draw [(.first (im 33 0) (.first (im 34 9) (.first (o1 35 (.slS 33 none (some 34))) (.first (im 36 0)
 (.first (im 37 9) (.first (o1 38 (.bin .add 37 (kI 1))) (.first (im 39 0) (.first (o1 40 (.Dk 39)) (.first (o1 41 (.mm false 38 40)) (.first (o1 42 (.slS 36 (some 41) none))
 (.first (o1 43 (.bin .add 35 42)) (.alt (ia 8 43) .done .stop))))))))))))]))) .ret) (.seq (.region [o1 45 (.bin .eql 16 (kI 2)), ia 44 45]) (.cond 44 (.seq (.frame (rg [8] 46 16)
 [] false (.join [.sl 8 false .str .leaf] (.draw [(.first (im 46 0) (.first (im 47 9) (.first (o1 48 (.slS 46 none (some 47))) (.first (im 49 3) (.first (o1 50 (.conv (.toInt .u8)
 49)) (.first (im 54 0) (.first (im 55 9) (.first (o1 56 (.bin .add 55 (kI 1))) (.first (im 57 0) (.first (o1 58 (.Dk 57)) (.first (o1 59 (.mm false 56 58)) (.first (o1 60 (.slS
 54 (some 59) none)) (.alt (oT ⟨some 51, .buildSl 1 [(.int .u8 0)] 1 [(0, 50)], none⟩ (some ((.int .u8), .leaf))) (.first (o1 52 (.conv .bytesToStr 51)) (.first (o1 53 (.bin .add 48
 52)) (.first (o1 61 (.bin .add 53 60)) (.alt (ia 8 61) .done .stop)))) .stop)))))))))))))]))) .ret) .skip)))))))))) (.seq (.region [im 62 0, ia 8 62]) .ret))))
def Ey : AFn := ⟨ Wi, Gs.erase, [.tmp 8], 4⟩
def IU (P : Pg) (x : ((List UInt8) × (Int × (Int × Int)))) (K : (List UInt8) → Unit → Prop) : Prop :=
 Fn P zS1 Bq (x.2.2.1, (i64.wrap ((x.1.length : Int) + (1 : Int)))) (fun (d1 : Int) (e2 : Unit) => Fn P zS1 Bq (x.2.1, (4 : Int)) (fun (d3 : Int) (e4 : Unit) => Ai (D := (List UInt8)) (fun J5 => (((d3 == (0 : Int)) = true → Ai (D := (List UInt8)) (fun J7 => (0 ≤ d1 ∧ d1 ≤ (x.1.length : Int)) ∧
 (0 ≤ d1 ∧ d1 ≤ (x.1.length : Int)) ∧
 ((List.length (List.take d1.toNat x.1) + List.length (strOf ([(u8.wrap x.2.2.2)] : List Int)) ≤ 9223372036854775807) ∧
 (List.length ((List.take d1.toNat x.1) ++ (strOf ([(u8.wrap x.2.2.2)] : List Int))) + List.length (List.drop d1.toNat x.1) ≤ 9223372036854775807) ∧
 (J7 (((List.take d1.toNat x.1) ++ (strOf ([(u8.wrap x.2.2.2)] : List Int))) ++ (List.drop d1.toNat x.1))) ∧ True) ∧ True) (fun d8 => K d8 ())) ∧ ((d3 == (0 : Int)) = false → (((d3 == (1 : Int)) = true → Ai (D := (List UInt8)) (fun J9 => (0 ≤ d1 ∧ d1 ≤ (x.1.length : Int)) ∧
 (0 ≤ (if (x.1.length : Int) < (i64.wrap (d1 + (1 : Int))) then (x.1.length : Int) else (i64.wrap (d1 + (1 : Int)))) ∧ (if (x.1.length : Int) < (i64.wrap (d1 + (1 : Int))) then (x.1.length : Int) else (i64.wrap (d1 + (1 : Int)))) ≤ (x.1.length : Int)) ∧
 (List.length (List.take d1.toNat x.1) + List.length (List.drop (Int.toNat (if (x.1.length : Int) < (i64.wrap (d1 + (1 : Int))) then (x.1.length : Int) else (i64.wrap (d1 + (1 : Int))))) x.1) ≤ 9223372036854775807) ∧
 (J9 ((List.take d1.toNat x.1) ++ (List.drop (Int.toNat (if (x.1.length : Int) < (i64.wrap (d1 + (1 : Int))) then (x.1.length : Int) else (i64.wrap (d1 + (1 : Int))))) x.1))) ∧ True) (fun d10 => K d10 ())) ∧ ((d3 == (1 : Int)) = false → (((d3 == (2 : Int)) = true → Ai (D := (List UInt8)) (fun J11 => (0 ≤ d1 ∧ d1 ≤ (x.1.length : Int)) ∧
 (0 ≤ (if (x.1.length : Int) < (i64.wrap (d1 + (1 : Int))) then (x.1.length : Int) else (i64.wrap (d1 + (1 : Int)))) ∧ (if (x.1.length : Int) < (i64.wrap (d1 + (1 : Int))) then (x.1.length : Int) else (i64.wrap (d1 + (1 : Int)))) ≤ (x.1.length : Int)) ∧
 ((List.length (List.take d1.toNat x.1) + List.length (strOf ([(u8.wrap x.2.2.2)] : List Int)) ≤ 9223372036854775807) ∧
 (List.length ((List.take d1.toNat x.1) ++ (strOf ([(u8.wrap x.2.2.2)] : List Int))) + List.length (List.drop (Int.toNat (if (x.1.length : Int) < (i64.wrap (d1 + (1 : Int))) then (x.1.length : Int) else (i64.wrap (d1 + (1 : Int))))) x.1) ≤ 9223372036854775807) ∧
 (J11 (((List.take d1.toNat x.1) ++ (strOf ([(u8.wrap x.2.2.2)] : List Int))) ++ (List.drop (Int.toNat (if (x.1.length : Int) < (i64.wrap (d1 + (1 : Int))) then (x.1.length : Int) else (i64.wrap (d1 + (1 : Int))))) x.1))) ∧ True) ∧ True) (fun d12 => K d12 ())) ∧ ((d3 == (2 : Int)) = false → J5 ([] : List UInt8)))))))) (fun d6 => K x.1 ())))
theorem MA {P : Pg} (h : Has P Ey) {x : DP B2.ps} {K : DP B2.rs → DP (ptrs B2.ps) → Prop} (hw : IU P x K) : Fn P Wi B2 x K :=
 Cd (c := Gs) h rfl rfl (by kernel_rfl) (Eq.mpr (show B9 P Ey B2 Gs x K = _ by kernel_rfl) hw)
def Gx : Bj :=
 (.seq (.region [o1 4 (.asg (.c (.int .u8 0))), o1 5 (.asg kF)]) (.seq (.region [ia 6 (kI 0)]) (.seq (.seq (.region [im 8 1, ia 7 8]) (.frame (rg [4, 5, 6, 7] 9 30) [] false (.join
 [.sl 4 false (.int .u8) .leaf, .sl 5 false .bool .leaf, .si 6] (.block 0 (.loop [.sl 4 false (.int .u8) .leaf, .sl 5 false .bool .leaf, .si 6, .si 7] (.seq (.seq (.region [im 9 7,
 im 10 1, o1 11 (.bin .add 10 (kI 3)), o1 12 (.bin .lss 9 11)]) (.cond 12 .skip (.exit 0))) (.seq (.frame (rg [4, 5, 6] 15 24) [] false (.join [.sl 4 false (.int .u8) .leaf, .sl 5
 false .bool .leaf, .si 6] (.block 1 (.seq (.seq (.region [im 15 7, im 16 0, o1 17 (.Dk 16), o1 18 (.bin .geq 15 17), im 19 18, gf 20 19 (.mv 0), gf 21 19 (.mv 7), gf 22 19 (.ixS
 20 21), gf 23 19 (.bin .lss 22 (.c (.int .u8 48))), o1 24 (.pick 19 kT 23), im 25 24, gf 26 25 (.mv 0), gf 27 25 (.mv 7), gf 28 25 (.ixS 26 27), gf 29 25 (.bin .gtr 28 (.c (.int
 .u8 55))), o1 30 (.pick 25 kT 29)]) (.cond 30 (.seq (.region [o1 4 (.asg (.c (.int .u8 0))), o1 5 (.asg kF)]) .ret) .skip)) (.region [im 31 6, o1 32 (.bin .mul (kI 8) 31), im 33 0,
 im 34 7, o1 35 (.ixS 33 34), o1 36 (.bin .sub 35 (.c (.int .u8 48))), o1 37 (.conv (.toInt .i64) 36), o1 38 (.bin .add 32 37), ia 6 38]))))) (.region [im 13 7, o1 14 (.bin .add 13
 (kI 1)), ia 7 14])))))))) (.seq (.region [im 39 6, o1 40 (.conv (.toInt .u8) 39), im 41 6, o1 42 (.bin .lss 41 (kI 256)), ia 4 40, ia 5 42]) .ret))))
def ED : AFn := ⟨ Wj, Gx.erase, [.tmp 4, .tmp 5], 2⟩
def IZ (P : Pg) (x : ((List UInt8) × Int)) (K : (Int × Bool) → Unit → Prop) : Prop :=
 Ai (D := (Int × (Bool × Int))) (fun J1 => BP (D := (Int × (Bool × (Int × Int)))) ((0 : Int), (false, ((0 : Int), x.2))) (fun d3 J4 => (((decide (d3.2.2.2 < (i64.wrap (x.2 + (3 : Int))))) = true → Ai (D := (Int × (Bool × Int))) (fun J5 => (((decide (d3.2.2.2 ≥ (x.1.length : Int))) = false → 0 ≤ d3.2.2.2 ∧ d3.2.2.2 < (x.1.length : Int))) ∧
 (((cond (decide (d3.2.2.2 ≥ (x.1.length : Int))) true (decide (((x.1.getD d3.2.2.2.toNat 0).toNat : Int) < (48 : Int)))) = false → 0 ≤ d3.2.2.2 ∧ d3.2.2.2 < (x.1.length : Int))) ∧
 (((cond (cond (decide (d3.2.2.2 ≥ (x.1.length : Int))) true (decide (((x.1.getD d3.2.2.2.toNat 0).toNat : Int) < (48 : Int)))) true (decide (((x.1.getD d3.2.2.2.toNat 0).toNat : Int) > (55 : Int)))) = true → K ((0 : Int), false) ()) ∧ ((cond (cond (decide (d3.2.2.2 ≥ (x.1.length : Int))) true (decide (((x.1.getD d3.2.2.2.toNat 0).toNat : Int) < (48 : Int)))) true (decide (((x.1.getD d3.2.2.2.toNat 0).toNat : Int) > (55 : Int)))) = false → (0 ≤ d3.2.2.2 ∧ d3.2.2.2 < (x.1.length : Int)) ∧
 J5 (d3.1, (d3.2.1, (i64.wrap ((i64.wrap ((8 : Int) * d3.2.2.1)) + (i64.wrap (u8.wrap (((x.1.getD d3.2.2.2.toNat 0).toNat : Int) - (48 : Int))))))))))) (fun d6 => J4 (d6.1, (d6.2.1, (d6.2.2, (i64.wrap (d3.2.2.2 + (1 : Int)))))))) ∧ ((decide (d3.2.2.2 < (i64.wrap (x.2 + (3 : Int))))) = false → J1 (d3.1, (d3.2.1, d3.2.2.1)))))) (fun d2 => K ((u8.wrap d2.2.2), (decide (d2.2.2 < (256 : Int)))) ())
theorem MG {P : Pg} (h : Has P ED) {x : DP B4.ps} {K : DP B4.rs → DP (ptrs B4.ps) → Prop} (hw : IZ P x K) : Fn P Wj B4 x K :=
 Cd (c := Gx) h rfl rfl (by kernel_rfl) (Eq.mpr (show B9 P ED B4 Gx x K = _ by kernel_rfl) hw)
end Go.VS
