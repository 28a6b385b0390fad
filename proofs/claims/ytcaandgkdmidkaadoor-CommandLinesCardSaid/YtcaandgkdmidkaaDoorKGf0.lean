/- Functions of the program: typed code, and what it says, lifted. -/
import Derived.Test.YtcaandgkdmidkaaDoorKTxSig
import Derived.KernelRfl
set_option linter.unusedVariables false
set_option linter.unusedSimpArgs false
set_option maxRecDepth 8000
namespace Go.VS
open IntKind
def KR : BE :=
 (.seq (.region [ia 4 (kI 0)]) (.seq (.region [im 5 0, o1 6 (.conv (.toInt .u64) 5), im 7 1, o1 8 (.conv (.toInt .u64) 7), o1 9 (.bin .rem 6 8), o1 10 (.conv (.toInt .i64) 9), ia 4
 10]) .ret))
def HT : AFn := ⟨ zS0, KR.erase, [.tmp 4], 2⟩
def Nu (P : Pg) (x : (Int × Int)) (K : Int → Unit → Prop) : Prop :=
 ((u64.wrap x.2) ≠ 0) ∧
 K (i64.wrap (Int.tmod (u64.wrap x.1) (u64.wrap x.2))) ()
theorem Q3 {P : Pg} (h : Has P HT) {x : DP Bd.ps} {K : DP Bd.rs → DP (ptrs Bd.ps) → Prop} (hw : Nu P x K) : Fn P zS0 Bd x K :=
 CU (c := KR) h rfl rfl (by kernel_rfl) (Eq.mpr (show CG P HT Bd KR x K = _ by kernel_rfl) hw)
def EL : BE :=
 (.seq (.region [o1 0 (.asg (.c (.slice none 0 0)))]) (.seq (.region [o1 1 (.build [(.string ⟨#[]⟩), (.int .i64 0), (.bool false), (.bool false), (.bool false), (.bool false)] [(0,
 1, (.c (.string ⟨#[108, 111, 103]⟩))), (1, 1, (kI 1))]), o1 2 (.build [(.string ⟨#[]⟩), (.int .i64 0), (.bool false), (.bool false), (.bool false), (.bool false)] [(0, 1, (.c
 (.string ⟨#[115, 104, 111, 119]⟩))), (1, 1, (kI 2))]), o1 3 (.build [(.string ⟨#[]⟩), (.int .i64 0), (.bool false), (.bool false), (.bool false), (.bool false)] [(0, 1, (.c
 (.string ⟨#[100, 105, 102, 102]⟩))), (1, 1, (kI 3)), (3, 1, kT), (4, 1, kT), (5, 1, kT)]), o1 4 (.build [(.string ⟨#[]⟩), (.int .i64 0), (.bool false), (.bool false), (.bool
 false), (.bool false)] [(0, 1, (.c (.string ⟨#[99, 111, 109, 98, 105, 110, 101, 100]⟩))), (1, 1, (kI 4)), (4, 1, kT), (5, 1, kT)]), o1 5 (.build [(.string ⟨#[]⟩), (.int .i64 0),
 (.bool false), (.bool false), (.bool false), (.bool false)] [(0, 1, (.c (.string ⟨#[99, 99]⟩))), (1, 1, (kI 4)), (2, 1, kT), (4, 1, kT), (5, 1, kT)]), o1 6 (.build [(.string
 ⟨#[]⟩), (.int .i64 0), (.bool false), (.bool false), (.bool false), (.bool false)] [(0, 1, (.c (.string ⟨#[108, 105, 116, 101, 114, 97, 108]⟩))), (1, 1, (kI 5)), (5, 1, kT)]), o1 7
 (.build [(.string ⟨#[]⟩), (.int .i64 0), (.bool false), (.bool false), (.bool false), (.bool false)] [(0, 1, (.c (.string ⟨#[114, 101, 103, 101, 120]⟩))), (1, 1, (kI 6)), (5, 1,
 kT)]), o1 8 (.build [(.string ⟨#[]⟩), (.int .i64 0), (.bool false), (.bool false), (.bool false), (.bool false)] [(0, 1, (.c (.string ⟨#[108, 105, 110, 101, 115]⟩))), (1, 1, (kI
 7)), (3, 1, kT), (4, 1, kT), (5, 1, kT)]), o1 9 (.build [(.string ⟨#[]⟩), (.int .i64 0), (.bool false), (.bool false), (.bool false), (.bool false)] [(0, 1, (.c (.string ⟨#[98,
 108, 97, 109, 101]⟩))), (1, 1, (kI 8)), (5, 1, kT)]), o1 10 (.build [(.string ⟨#[]⟩), (.int .i64 0), (.bool false), (.bool false), (.bool false), (.bool false)] [(0, 1, (.c
 (.string ⟨#[98, 97, 115, 101, 115]⟩))), (1, 1, (kI 9)), (3, 1, kT)]), oT ⟨some 11, .buildSl 6 [(.string ⟨#[]⟩), (.int .i64 0), (.bool false), (.bool false), (.bool false), (.bool
 false)] 10 [(0, 1), (1, 2), (2, 3), (3, 4), (4, 5), (5, 6), (6, 7), (7, 8), (8, 9), (9, 10)], none⟩ (some (Dp, .leaf)), ia 0 11]) .ret))
def Dv : AFn := ⟨ VI, EL.erase, [.tmp 0], 0⟩
def G5 (P : Pg) (x : Unit) (K : (List Al) → Unit → Prop) : Prop :=
 K ([(([108, 111, 103] : List UInt8), ((1 : Int), (false, (false, (false, false))))), (([115, 104, 111, 119] : List UInt8), ((2 : Int), (false, (false, (false, false))))), (([100, 105, 102, 102] : List UInt8), ((3 : Int), (false, (true, (true, true))))), (([99, 111, 109, 98, 105, 110, 101, 100] : List UInt8), ((4 : Int), (false, (false, (true, true))))), (([99, 99] : List UInt8), ((4 : Int), (true, (false, (true, true))))), (([108, 105, 116, 101, 114, 97, 108] : List UInt8), ((5 : Int), (false, (false, (false, true))))), (([114, 101, 103, 101, 120] : List UInt8), ((6 : Int), (false, (false, (false, true))))), (([108, 105, 110, 101, 115] : List UInt8), ((7 : Int), (false, (true, (true, true))))), (([98, 108, 97, 109, 101] : List UInt8), ((8 : Int), (false, (false, (false, true))))), (([98, 97, 115, 101, 115] : List UInt8), ((9 : Int), (false, (true, (false, false)))))] : List Al) ()
theorem Kv {P : Pg} (h : Has P Dv) {x : DP Bx.ps} {K : DP Bx.rs → DP (ptrs Bx.ps) → Prop} (hw : G5 P x K) : Fn P VI Bx x K :=
 CU (c := EL) h rfl rfl (by kernel_rfl) (Eq.mpr (show CG P Dv Bx EL x K = _ by kernel_rfl) hw)
def GZ : BE :=
 (.seq (.region [o1 2 (.asg kF)]) (.seq (.region [im 3 0, o1 4 (.bin .geq 3 (.c (.int .u8 33))), im 5 4, gt 6 5 (.mv 0), gt 7 5 (.bin .leq 6 (.c (.int .u8 126))), o1 8 (.pick 5 7
 kF), im 9 8, gt 10 9 (.mv 0), gt 11 9 (.bin .neq 10 (.c (.int .u8 34))), o1 12 (.pick 9 11 kF), im 13 12, gt 14 13 (.mv 0), gt 15 13 (.bin .neq 14 (.c (.int .u8 92))), o1 16 (.pick
 13 15 kF), ia 2 16]) .ret))
def EW : AFn := ⟨ VJ, GZ.erase, [.tmp 2], 1⟩
def Jh (P : Pg) (x : Int) (K : Bool → Unit → Prop) : Prop :=
 K (cond (cond (cond (decide (x ≥ (33 : Int))) (decide (x ≤ (126 : Int))) false) (x != (34 : Int)) false) (x != (92 : Int)) false) ()
theorem Ng {P : Pg} (h : Has P EW) {x : DP Ca.ps} {K : DP Ca.rs → DP (ptrs Ca.ps) → Prop} (hw : Jh P x K) : Fn P VJ Ca x K :=
 CU (c := GZ) h rfl rfl (by kernel_rfl) (Eq.mpr (show CG P EW Ca GZ x K = _ by kernel_rfl) hw)
def Dl : BE :=
 (.seq (.region [o1 2 (.asg (.c (.int .u8 0))), o1 3 (.asg kF)]) (.seq (.region [ia 4 (kI 0)]) (.seq (.seq (.region [o1 5 (.mv (kI 0))]) (.frame (rg [] 2 61) [0] false (.join [.sl 2
 false (.int .u8) .leaf, .sl 3 false .bool .leaf, .si 4, .bx 0 (.pair .str bI) .leaf] (.block 0 (.loop [.sl 2 false (.int .u8) .leaf, .sl 3 false .bool .leaf, .si 4, .si 5, .bx 0
 (.pair .str bI) .leaf] (.seq (.region [o1 6 (.bin .lss 5 (kI 3))]) (.seq (.cond 6 .skip (.exit 0)) (.seq (.frame (rg [2, 3, 4] 7 55) [0] false (.join [.sl 2 false (.int .u8) .leaf,
 .sl 3 false .bool .leaf, .si 4, .bx 0 (.pair .str bI) .leaf] (.block 1 (.seq (.seq (.draw [(.first (im 7 0) (.first (o1 8 (.nilc 7)) (.first (fa 9 1 8) (.first (ld 10 9) (.first
 (im 11 0) (.first (o1 12 (.nilc 11)) (.first (fa 13 0 12) (.first (ld 14 13) (.first (o1 15 (.GN 14)) (.first (o1 16 (.bin .geq 10 15)) (.first (im 17 16) (.first (gf 18 17 (.mv
 0)) (.first (gf 19 17 (.nilc 18)) (.first (gf 20 17 (.fAddr 0 19)) (.first (gf 21 17 (.load false 1 20)) (.first (gf 22 17 (.mv 0)) (.first (gf 23 17 (.nilc 22)) (.first (gf 24 17
 (.fAddr 1 23)) (.first (gf 25 17 (.load false 1 24)) (.first (gf 26 17 (.ixS 21 25)) (.first (gf 27 17 (.bin .lss 26 (.c (.int .u8 48)))) (.first (o1 28 (.pick 17 kT 27)) (.first
 (im 29 28) (.first (gf 30 29 (.mv 0)) (.first (gf 31 29 (.nilc 30)) (.first (gf 32 29 (.fAddr 0 31)) (.first (gf 33 29 (.load false 1 32)) (.first (gf 34 29 (.mv 0)) (.first (gf 35
 29 (.nilc 34)) (.first (gf 36 29 (.fAddr 1 35)) (.first (gf 37 29 (.load false 1 36)) (.first (gf 38 29 (.ixS 33 37)) (.first (gf 39 29 (.bin .gtr 38 (.c (.int .u8 55)))) (.first
 (o1 40 (.pick 29 kT 39)) .done))))))))))))))))))))))))))))))))))]) (.cond 40 (.seq (.region [o1 2 (.asg (.c (.int .u8 0))), o1 3 (.asg kF)]) .ret) .skip)) (.seq (.frame (rg [4] 41
 14) [] false (.join [.si 4] (.draw [(.first (im 41 4) (.first (o1 42 (.bin .mul (kI 8) 41)) (.first (im 43 0) (.first (o1 44 (.nilc 43)) (.first (fa 45 0 44) (.first (ld 46 45)
 (.first (im 47 0) (.first (o1 48 (.nilc 47)) (.first (fa 49 1 48) (.first (ld 50 49) (.first (o1 51 (.ixS 46 50)) (.first (o1 52 (.bin .sub 51 (.c (.int .u8 48)))) (.first (o1 53
 (.conv (.toInt .i64) 52)) (.first (o1 54 (.bin .add 42 53)) (.alt (ia 4 54) .done .stop)))))))))))))))]))) (.region [im 55 0, o1 56 (.nilc 55), fa 57 1 56, ld 58 57, o1 59 (.bin
 .add 58 (kI 1)), o1 60 (.nilc 55), fa 61 1 60, o0 ⟨none, .store 1 61 59, none⟩])))))) (.region [o1 62 (.bin .add 5 (kI 1)), im 5 62]))))))))) (.seq (.region [im 63 4, o1 64 (.conv
 (.toInt .u8) 63), im 65 4, o1 66 (.bin .lss 65 (kI 256)), ia 2 64, ia 3 66]) .ret))))
def Cj : AFn := ⟨ VK, Dl.erase, [.tmp 2, .tmp 3], 1⟩
def EO (P : Pg) (x : ((List UInt8) × Int)) (K : (Int × Bool) → ((List UInt8) × Int) → Prop) : Prop :=
 Ao (D := (Int × (Bool × (Int × ((List UInt8) × Int))))) (fun J1 => Dm (D := (Int × (Bool × (Int × (Int × ((List UInt8) × Int)))))) ((0 : Int), (false, ((0 : Int), ((0 : Int), x)))) (fun d3 J4 => (((decide (d3.2.2.2.1 < (3 : Int))) = true → Ao (D := (Int × (Bool × (Int × ((List UInt8) × Int))))) (fun J5 => (((decide (d3.2.2.2.2.2 ≥ (d3.2.2.2.2.1.length : Int))) = false → 0 ≤ d3.2.2.2.2.2 ∧ d3.2.2.2.2.2 < (d3.2.2.2.2.1.length : Int))) ∧
 (((cond (decide (d3.2.2.2.2.2 ≥ (d3.2.2.2.2.1.length : Int))) true (decide (((d3.2.2.2.2.1.getD d3.2.2.2.2.2.toNat 0).toNat : Int) < (48 : Int)))) = false → 0 ≤ d3.2.2.2.2.2 ∧ d3.2.2.2.2.2 < (d3.2.2.2.2.1.length : Int))) ∧
 (((cond (cond (decide (d3.2.2.2.2.2 ≥ (d3.2.2.2.2.1.length : Int))) true (decide (((d3.2.2.2.2.1.getD d3.2.2.2.2.2.toNat 0).toNat : Int) < (48 : Int)))) true (decide (((d3.2.2.2.2.1.getD d3.2.2.2.2.2.toNat 0).toNat : Int) > (55 : Int)))) = true → K ((0 : Int), false) d3.2.2.2.2) ∧ ((cond (cond (decide (d3.2.2.2.2.2 ≥ (d3.2.2.2.2.1.length : Int))) true (decide (((d3.2.2.2.2.1.getD d3.2.2.2.2.2.toNat 0).toNat : Int) < (48 : Int)))) true (decide (((d3.2.2.2.2.1.getD d3.2.2.2.2.2.toNat 0).toNat : Int) > (55 : Int)))) = false → Ao (D := Int) (fun J7 => (0 ≤ d3.2.2.2.2.2 ∧ d3.2.2.2.2.2 < (d3.2.2.2.2.1.length : Int)) ∧
 (J7 (i64.wrap ((i64.wrap ((8 : Int) * d3.2.2.1)) + (i64.wrap (u8.wrap (((d3.2.2.2.2.1.getD d3.2.2.2.2.2.toNat 0).toNat : Int) - (48 : Int))))))) ∧ True) (fun d8 => J5 (d3.1, (d3.2.1, (d8, (d3.2.2.2.2.1, (i64.wrap (d3.2.2.2.2.2 + (1 : Int))))))))))) (fun d6 => J4 (d6.1, (d6.2.1, (d6.2.2.1, ((i64.wrap (d3.2.2.2.1 + (1 : Int))), d6.2.2.2)))))) ∧ ((decide (d3.2.2.2.1 < (3 : Int))) = false → J1 (d3.1, (d3.2.1, (d3.2.2.1, d3.2.2.2.2))))))) (fun d2 => K ((u8.wrap d2.2.2.1), (decide (d2.2.2.1 < (256 : Int)))) d2.2.2.2)
theorem Hs {P : Pg} (h : Has P Cj) {x : DP A2.ps} {K : DP A2.rs → DP (ptrs A2.ps) → Prop} (hw : EO P x K) : Fn P VK A2 x K :=
 CU (c := Dl) h rfl rfl (by kernel_rfl) (Eq.mpr (show CG P Cj A2 Dl x K = _ by kernel_rfl) hw)
def C6 : BE :=
 (.seq (.region [o1 2 (.asg (.c (.int .u8 0))), o1 3 (.asg kF)]) (.seq (.seq (.draw [(.first (im 5 0) (.first (o1 6 (.nilc 5)) (.first (fa 7 1 6) (.first (ld 8 7) (.first (im 9 0)
 (.first (o1 10 (.nilc 9)) (.first (fa 11 0 10) (.first (ld 12 11) (.first (o1 13 (.GN 12)) (.first (o1 14 (.bin .geq 8 13)) .done))))))))))]) (.cond 14 (.seq (.region [o1 2 (.asg
 (.c (.int .u8 0))), o1 3 (.asg kF)]) .ret) .skip)) (.seq (.seq (.frame (rg [4] 15 9) [] false (.join [.sl 4 false (.int .u8) .leaf] (.draw [(.first (im 15 0) (.first (o1 16 (.nilc
 15)) (.first (fa 17 0 16) (.first (ld 18 17) (.first (im 19 0) (.first (o1 20 (.nilc 19)) (.first (fa 21 1 20) (.first (ld 22 21) (.first (o1 23 (.ixS 18 22)) (.alt (ia 4 23) .done
 .stop))))))))))]))) (.seq (.region [im 24 4]) (.frame (rg [2, 3] 25 29) [0] false (.join [.sl 2 false (.int .u8) .leaf, .sl 3 false .bool .leaf, .bx 0 (.pair .str bI) .leaf]
 (.block 0 (.seq (.seq (.region [o1 26 (.bin .eql 24 (.c (.int .u8 34))), ia 25 26]) (.frame [25, 27] [] false (.join [.sl 25 false .bool .leaf] (.cond 25 .skip (.region [o1 27
 (.bin .eql 24 (.c (.int .u8 92))), ia 25 27]))))) (.cond 25 (.seq (.region [im 28 0, o1 29 (.nilc 28), fa 30 1 29, ld 31 30, o1 32 (.bin .add 31 (kI 1)), o1 33 (.nilc 28), fa 34 1
 33, o0 ⟨none, .store 1 34 32, none⟩]) (.seq (.region [im 35 4, ia 2 35, o1 3 (.asg kT)]) .ret)) (.seq (.region [o1 37 (.bin .eql 24 (.c (.int .u8 110))), ia 36 37]) (.cond 36 (.seq
 (.region [im 38 0, o1 39 (.nilc 38), fa 40 1 39, ld 41 40, o1 42 (.bin .add 41 (kI 1)), o1 43 (.nilc 38), fa 44 1 43, o0 ⟨none, .store 1 44 42, none⟩]) (.seq (.region [o1 2 (.asg
 (.c (.int .u8 10))), o1 3 (.asg kT)]) .ret)) (.seq (.region [o1 46 (.bin .eql 24 (.c (.int .u8 116))), ia 45 46]) (.cond 45 (.seq (.region [im 47 0, o1 48 (.nilc 47), fa 49 1 48,
 ld 50 49, o1 51 (.bin .add 50 (kI 1)), o1 52 (.nilc 47), fa 53 1 52, o0 ⟨none, .store 1 53 51, none⟩]) (.seq (.region [o1 2 (.asg (.c (.int .u8 9))), o1 3 (.asg kT)]) .ret))
 .skip))))))))))) (.seq (.region [im 54 0, oS ⟨some 55, .call VK [54], none⟩ A2, o1 56 (.ext 55 0), o1 57 (.ext 55 1), ia 2 56, ia 3
 57]) .ret))))
def B7 : AFn := ⟨ VL, C6.erase, [.tmp 2, .tmp 3], 1⟩
def Ez (P : Pg) (x : ((List UInt8) × Int)) (K : (Int × Bool) → ((List UInt8) × Int) → Prop) : Prop :=
 (((decide (x.2 ≥ (x.1.length : Int))) = true → K ((0 : Int), false) x) ∧ ((decide (x.2 ≥ (x.1.length : Int))) = false → Ao (D := Int) (fun J1 => (0 ≤ x.2 ∧ x.2 < (x.1.length : Int)) ∧
 (J1 ((x.1.getD x.2.toNat 0).toNat : Int)) ∧ True) (fun d2 => Ao (D := (Int × (Bool × ((List UInt8) × Int)))) (fun J3 => Ao (D := Bool) (fun J5 => (((d2 == (34 : Int)) = true → J5 (d2 == (34 : Int))) ∧ ((d2 == (34 : Int)) = false → J5 (d2 == (92 : Int))))) (fun d6 => ((d6 = true → K (d2, true) (x.1, (i64.wrap (x.2 + (1 : Int))))) ∧ (d6 = false → (((d2 == (110 : Int)) = true → K ((10 : Int), true) (x.1, (i64.wrap (x.2 + (1 : Int))))) ∧ ((d2 == (110 : Int)) = false → (((d2 == (116 : Int)) = true → K ((9 : Int), true) (x.1, (i64.wrap (x.2 + (1 : Int))))) ∧ ((d2 == (116 : Int)) = false → J3 ((0 : Int), (false, x)))))))))) (fun d4 => Fn P VK A2 d4.2.2 (fun (d7 : (Int × Bool)) (e8 : ((List UInt8) × Int)) => K d7 e8)))))
theorem Hd {P : Pg} (h : Has P B7) {x : DP AQ.ps} {K : DP AQ.rs → DP (ptrs AQ.ps) → Prop} (hw : Ez P x K) : Fn P VL AQ x K :=
 CU (c := C6) h rfl rfl (by kernel_rfl) (Eq.mpr (show CG P B7 AQ C6 x K = _ by kernel_rfl) hw)
def C7 : BE :=
 (.seq (.region [o1 2 (.asg (.c (.string ⟨#[]⟩))), o1 3 (.asg kF)]) (.seq (.region [o1 4 (.asg (.c (.slice none 0 0)))]) (.seq (.frame (rg [] 2 48) [0] true (.join [.sl 2 false .str
 .leaf, .sl 3 false .bool .leaf, .bx 0 (.pair .str bI) .leaf] (.block 0 (.loop [.sl 2 false .str .leaf, .sl 3 false .bool .leaf, .sl 4 false (.sl (.int .u8)) tO, .bx 0 (.pair .str
 bI) .leaf] (.seq (.seq (.draw [(.first (im 7 0) (.first (o1 8 (.nilc 7)) (.first (fa 9 1 8) (.first (ld 10 9) (.first (im 11 0) (.first (o1 12 (.nilc 11)) (.first (fa 13 0 12)
 (.first (ld 14 13) (.first (o1 15 (.GN 14)) (.first (o1 16 (.bin .lss 10 15)) .done))))))))))]) (.cond 16 .skip (.exit 0))) (.frame (rg [2, 3, 4, 5, 6] 17 33) [0] true (.join
 [.sl 2 false .str .leaf, .sl 3 false .bool .leaf, .sl 4 false (.sl (.int .u8)) tO, .bx 0 (.pair .str bI) .leaf] (.block 1 (.seq (.frame (rg [5] 17 9) [] false (.join [.sl 5 false
 (.int .u8) .leaf] (.draw [(.first (im 17 0) (.first (o1 18 (.nilc 17)) (.first (fa 19 0 18) (.first (ld 20 19) (.first (im 21 0) (.first (o1 22 (.nilc 21)) (.first (fa 23 1 22)
 (.first (ld 24 23) (.first (o1 25 (.ixS 20 24)) (.alt (ia 5 25) .done .stop))))))))))]))) (.seq (.region [im 26 0, o1 27 (.nilc 26), fa 28 1 27, ld 29 28, o1 30 (.bin .add 29 (kI
 1)), o1 31 (.nilc 26), fa 32 1 31, o0 ⟨none, .store 1 32 30, none⟩]) (.seq (.seq (.region [im 33 5, o1 34 (.bin .eql 33 (.c (.int .u8 34)))]) (.cond 34 (.seq (.region [im 35 4, o1
 36 (.conv .bytesToStr 35), ia 2 36, o1 3 (.asg kT)]) .ret) .skip)) (.seq (.seq (.region [im 37 5, o1 38 (.bin .eql 37 (.c (.int .u8 92)))]) (.frame (rg [2, 3, 5, 6] 39 7) [0] true
 (.join [.sl 2 false .str .leaf, .sl 3 false .bool .leaf, .sl 5 false (.int .u8) .leaf, .bx 0 (.pair .str bI) .leaf] (.cond 38 (.seq (.region [o1 6 (.asg kF)]) (.seq (.region [im 40
 0, oS ⟨some 41, .call VL [40], none⟩ AQ, im 39 41, o1 42 (.ext 39 0), o1 43 (.ext 39 1), ia 5 42, ia 6 43]) (.seq (.region [im 44
 6, o1 45 (.un .not 44)]) (.cond 45 (.seq (.region [o1 2 (.asg (.c (.string ⟨#[]⟩))), o1 3 (.asg kF)]) .ret) .skip)))) .skip)))) (.region [im 46 4, im 47 5, oT ⟨some 48, .buildSl 1
 [(.int .u8 0)] 1 [(0, 47)], none⟩ (some ((.int .u8), .leaf)), oT ⟨some 49, .app 1 1 46 48, none⟩ (some ((.int .u8), .leaf)), ia 4 49]))))))))))))) (.seq (.region [o1 2 (.asg (.c
 (.string ⟨#[]⟩))), o1 3 (.asg kF)]) .ret))))
def B8 : AFn := ⟨ VM, C7.erase, [.tmp 2, .tmp 3], 1⟩
def EA (P : Pg) (x : ((List UInt8) × Int)) (K : ((List UInt8) × Bool) → ((List UInt8) × Int) → Prop) : Prop :=
 Ao (D := ((List UInt8) × (Bool × ((List UInt8) × Int)))) (fun J1 => Dm (D := ((List UInt8) × (Bool × ((List Int) × ((List UInt8) × Int))))) (([] : List UInt8), (false, ([], x))) (fun d3 J4 => (((decide (d3.2.2.2.2 < (d3.2.2.2.1.length : Int))) = true → Ao (D := ((List UInt8) × (Bool × ((List Int) × ((List UInt8) × Int))))) (fun J5 => Ao (D := Int) (fun J7 => (0 ≤ d3.2.2.2.2 ∧ d3.2.2.2.2 < (d3.2.2.2.1.length : Int)) ∧
 (J7 ((d3.2.2.2.1.getD d3.2.2.2.2.toNat 0).toNat : Int)) ∧ True) (fun d8 => (((d8 == (34 : Int)) = true → K ((strOf d3.2.2.1), true) (d3.2.2.2.1, (i64.wrap (d3.2.2.2.2 + (1 : Int))))) ∧ ((d8 == (34 : Int)) = false → Ao (D := ((List UInt8) × (Bool × (Int × ((List UInt8) × Int))))) (fun J9 => (((d8 == (92 : Int)) = true → Fn P VL AQ (d3.2.2.2.1, (i64.wrap (d3.2.2.2.2 + (1 : Int)))) (fun (d11 : (Int × Bool)) (e12 : ((List UInt8) × Int)) => (((!d11.2) = true → K (([] : List UInt8), false) e12) ∧ ((!d11.2) = false → J9 (d3.1, (d3.2.1, (d11.1, e12))))))) ∧ ((d8 == (92 : Int)) = false → J9 (d3.1, (d3.2.1, (d8, (d3.2.2.2.1, (i64.wrap (d3.2.2.2.2 + (1 : Int)))))))))) (fun d10 => ((d3.2.2.1.length + List.length ([d10.2.2.1] : List Int)) * 1 ≤ 140737488355328) ∧
 J5 (d10.1, (d10.2.1, ((d3.2.2.1 ++ ([d10.2.2.1] : List Int)), d10.2.2.2)))))))) (fun d6 => J4 d6)) ∧ ((decide (d3.2.2.2.2 < (d3.2.2.2.1.length : Int))) = false → J1 (d3.1, (d3.2.1, d3.2.2.2)))))) (fun d2 => K (([] : List UInt8), false) d2.2.2)
theorem He {P : Pg} (h : Has P B8) {x : DP AR.ps} {K : DP AR.rs → DP (ptrs AR.ps) → Prop} (hw : EA P x K) : Fn P VM AR x K :=
 CU (c := C7) h rfl rfl (by kernel_rfl) (Eq.mpr (show CG P B8 AR C7 x K = _ by kernel_rfl) hw)
def DB : BE :=
 (.seq (.region [o1 2 (.asg (.c (.string ⟨#[]⟩))), o1 3 (.asg kF)]) (.seq (.region [im 7 0, o1 8 (.nilc 7), fa 9 1 8, ld 10 9, ia 4 10]) (.seq (.region [o1 5 (.asg (.c (.string
 ⟨#[]⟩)))]) (.seq (.seq (.region [im 11 4, im 12 0, o1 13 (.nilc 12), fa 14 0 13, ld 15 14, o1 16 (.GN 15), o1 17 (.bin .lss 11 16), im 18 17, gt 19 18 (.mv 0), gt 20 18 (.nilc
 19), gt 21 18 (.fAddr 0 20), gt 22 18 (.load false 1 21), gt 23 18 (.mv 4), gt 24 18 (.ixS 22 23), gt 25 18 (.bin .eql 24 (.c (.int .u8 34))), o1 26 (.pick 18 25 kF)]) (.frame (rg
 [2, 3, 5, 6] 27 53) [0] true (.join [.sl 2 false .str .leaf, .sl 3 false .bool .leaf, .sl 5 false .str .leaf, .bx 0 (.pair .str bI) .leaf] (.cond 26 (.seq (.region [im 27 0, o1 28
 (.nilc 27), fa 29 1 28, ld 30 29, o1 31 (.bin .add 30 (kI 1)), o1 32 (.nilc 27), fa 33 1 32, o0 ⟨none, .store 1 33 31, none⟩]) (.seq (.region [o1 6 (.asg kF)]) (.seq (.region [im
 35 0, oS ⟨some 36, .call VM [35], none⟩ AR, im 34 36, o1 37 (.ext 34 0), o1 38 (.ext 34 1), ia 5 37, ia 6 38]) (.seq (.region [im
 39 6, o1 40 (.un .not 39)]) (.cond 40 (.seq (.region [o1 2 (.asg (.c (.string ⟨#[]⟩))), o1 3 (.asg kF)]) .ret) .skip))))) (.seq (.frame (rg [] 41 29) [0] false (.join [.bx 0 (.pair
 .str bI) .leaf] (.block 0 (.loop [.bx 0 (.pair .str bI) .leaf] (.seq (.seq (.frame (rg [] 41 22) [] false (.join [.sl 62 false .bool .leaf] (.draw [(.first (im 41 0) (.first (o1 42
 (.nilc 41)) (.first (fa 43 1 42) (.first (ld 44 43) (.first (im 45 0) (.first (o1 46 (.nilc 45)) (.first (fa 47 0 46) (.first (ld 48 47) (.first (o1 49 (.GN 48)) (.first (o1 50
 (.bin .lss 44 49)) (.first (im 51 50) (.first (gt 52 51 (.mv 0)) (.first (gt 53 51 (.nilc 52)) (.first (gt 54 51 (.fAddr 0 53)) (.first (gt 55 51 (.load false 1 54)) (.first (gt 56
 51 (.mv 0)) (.first (gt 57 51 (.nilc 56)) (.first (gt 58 51 (.fAddr 1 57)) (.first (gt 59 51 (.load false 1 58)) (.first (gt 60 51 (.ixS 55 59)) (.alt (oS ⟨some 61, .call
 VJ [60], some (51, true)⟩ Ca) (.first (o1 62 (.pick 51 61 kF)) .done) .stop)))))))))))))))))))))]))) (.cond 62 .skip (.exit 0))) (.frame (rg [] 63 7)
 [0] false (.join [.bx 0 (.pair .str bI) .leaf] (.block 1 (.region [im 63 0, o1 64 (.nilc 63), fa 65 1 64, ld 66 65, o1 67 (.bin .add 66 (kI 1)), o1 68 (.nilc 63), fa 69 1 68, o0
 ⟨none, .store 1 69 67, none⟩]))))))))) (.frame (rg [5] 70 10) [] false (.join [.sl 5 false .str .leaf] (.draw [(.first (im 70 0) (.first (o1 71 (.nilc 70)) (.first (fa 72 0 71)
 (.first (ld 73 72) (.first (im 74 4) (.first (im 75 0) (.first (o1 76 (.nilc 75)) (.first (fa 77 1 76) (.first (ld 78 77) (.first (o1 79 (.slS 73 (some 74) (some 78))) (.alt (ia 5
 79) .done .stop)))))))))))])))))))) (.seq (.frame (rg [2, 3] 80 14) [] false (.join [.sl 2 false .str .leaf, .sl 3 false .bool .leaf] (.draw [(.first (im 80 5) (.first (im 81 5)
 (.first (im 83 0) (.first (o1 84 (.nilc 83)) (.first (fa 85 0 84) (.first (im 87 4) (.first (im 88 0) (.first (o1 89 (.nilc 88)) (.first (fa 90 1 89) (.alt (oS ⟨some 82, .call
 zS3 [81], none⟩ Bq) (.alt (ld 86 85) (.alt (ld 91 90) (.first (o1 92 (.slS 86 (some 87) (some 91))) (.first (o1 93 (.bin .eql 82 92)) (.alt (ia 2 80)
 (.alt (ia 3 93) .done .stop) .stop))) (.alt (ia 2 80) (.first (ld 91 90) (.first (o1 92 (.slS 86 (some 87) (some 91))) (.first (o1 93 (.bin .eql 82 92)) (.alt (ia 3 93) .done
 .stop)))) .stop)) (.alt (ld 91 90) (.alt (ld 86 85) (.first (o1 92 (.slS 86 (some 87) (some 91))) (.first (o1 93 (.bin .eql 82 92)) (.alt (ia 2 80) (.alt (ia 3 93) .done .stop)
 .stop))) (.alt (ia 2 80) (.first (ld 86 85) (.first (o1 92 (.slS 86 (some 87) (some 91))) (.first (o1 93 (.bin .eql 82 92)) (.alt (ia 3 93) .done .stop)))) .stop)) (.alt (ia 2 80)
 (.first (ld 86 85) (.first (ld 91 90) (.first (o1 92 (.slS 86 (some 87) (some 91))) (.first (o1 93 (.bin .eql 82 92)) (.alt (ia 3 93) .done .stop))))) .stop))) (.alt (ld 86 85)
 (.alt (oS ⟨some 82, .call zS3 [81], none⟩ Bq) (.alt (ld 91 90) (.first (o1 92 (.slS 86 (some 87) (some 91))) (.first (o1 93 (.bin .eql 82 92)) (.alt
 (ia 2 80) (.alt (ia 3 93) .done .stop) .stop))) (.alt (ia 2 80) (.first (ld 91 90) (.first (o1 92 (.slS 86 (some 87) (some 91))) (.first (o1 93 (.bin .eql 82 92)) (.alt (ia 3 93)
 .done .stop)))) .stop)) (.alt (ld 91 90) (.first (o1 92 (.slS 86 (some 87) (some 91))) (.alt (oS ⟨some 82, .call zS3 [81], none⟩ Bq) (.first (o1 93
 (.bin .eql 82 92)) (.alt (ia 2 80) (.alt (ia 3 93) .done .stop) .stop)) .stop)) .stop)) (.alt (ld 91 90) (.alt (oS ⟨some 82, .call zS3 [81], none⟩ Bq)
 (.alt (ld 86 85) (.first (o1 92 (.slS 86 (some 87) (some 91))) (.first (o1 93 (.bin .eql 82 92)) (.alt (ia 2 80) (.alt (ia 3 93) .done .stop) .stop))) (.alt (ia 2 80) (.first (ld
 86 85) (.first (o1 92 (.slS 86 (some 87) (some 91))) (.first (o1 93 (.bin .eql 82 92)) (.alt (ia 3 93) .done .stop)))) .stop)) (.alt (ld 86 85) (.first (o1 92 (.slS 86 (some 87)
 (some 91))) (.alt (oS ⟨some 82, .call zS3 [81], none⟩ Bq) (.first (o1 93 (.bin .eql 82 92)) (.alt (ia 2 80) (.alt (ia 3 93) .done .stop) .stop))
 .stop)) .stop)) .stop))))))))))))]))) .ret)))))
def Cu : AFn := ⟨ VN, DB.erase, [.tmp 2, .tmp 3], 1⟩
def Fj (P : Pg) (x : ((List UInt8) × Int)) (K : ((List UInt8) × Bool) → ((List UInt8) × Int) → Prop) : Prop :=
 (((decide (x.2 < (x.1.length : Int))) = true → 0 ≤ x.2 ∧ x.2 < (x.1.length : Int))) ∧
 Ao (D := ((List UInt8) × (Bool × ((List UInt8) × ((List UInt8) × Int))))) (fun J1 => (((cond (decide (x.2 < (x.1.length : Int))) (((x.1.getD x.2.toNat 0).toNat : Int) == (34 : Int)) false) = true → Fn P VM AR (x.1, (i64.wrap (x.2 + (1 : Int)))) (fun (d3 : ((List UInt8) × Bool)) (e4 : ((List UInt8) × Int)) => (((!d3.2) = true → K (([] : List UInt8), false) e4) ∧ ((!d3.2) = false → J1 (([] : List UInt8), (false, (d3.1, e4))))))) ∧ ((cond (decide (x.2 < (x.1.length : Int))) (((x.1.getD x.2.toNat 0).toNat : Int) == (34 : Int)) false) = false → Ao (D := ((List UInt8) × Int)) (fun J5 => Dm (D := ((List UInt8) × Int)) x (fun d7 J8 => Ao (D := Bool) (fun J9 => (((decide (d7.2 < (d7.1.length : Int))) = true → 0 ≤ d7.2 ∧ d7.2 < (d7.1.length : Int))) ∧
 (Ao (D := Bool) (fun J11 => (((decide (d7.2 < (d7.1.length : Int))) = true → Fn P VJ Ca ((d7.1.getD d7.2.toNat 0).toNat : Int) (fun (d12 : Bool) _ => J11 d12)) ∧ (((decide (d7.2 < (d7.1.length : Int))) = false → J11 false) ∧ True))) (fun d13 => J9 (cond (decide (d7.2 < (d7.1.length : Int))) d13 false))) ∧ True) (fun d10 => ((d10 = true → Ao (D := ((List UInt8) × Int)) (fun J14 => J14 (d7.1, (i64.wrap (d7.2 + (1 : Int))))) (fun d15 => J8 d15)) ∧ (d10 = false → J5 d7))))) (fun d6 => Ao (D := (List UInt8)) (fun J16 => (0 ≤ x.2 ∧ x.2 ≤ d6.2 ∧ d6.2 ≤ (d6.1.length : Int)) ∧
 (J16 (List.drop x.2.toNat (List.take d6.2.toNat d6.1))) ∧ True) (fun d17 => J1 (([] : List UInt8), (false, (d17, d6)))))))) (fun d2 => Ao (D := ((List UInt8) × Bool)) (fun J18 => (Fn P zS3 Bq d2.2.2.1 (fun (d20 : (List UInt8)) (e21 : Unit) => (((0 ≤ x.2 ∧ x.2 ≤ d2.2.2.2.2 ∧ d2.2.2.2.2 ≤ (d2.2.2.2.1.length : Int)) ∧
 ((J18 (d2.2.2.1, (d20 == (List.drop x.2.toNat (List.take d2.2.2.2.2.toNat d2.2.2.2.1))))) ∧ True) ∧ True) ∧ (((0 ≤ x.2 ∧ x.2 ≤ d2.2.2.2.2 ∧ d2.2.2.2.2 ≤ (d2.2.2.2.1.length : Int)) ∧
 (J18 (d2.2.2.1, (d20 == (List.drop x.2.toNat (List.take d2.2.2.2.2.toNat d2.2.2.2.1))))) ∧ True) ∧ True)) ∧ ((((0 ≤ x.2 ∧ x.2 ≤ d2.2.2.2.2 ∧ d2.2.2.2.2 ≤ (d2.2.2.2.1.length : Int)) ∧
 ((J18 (d2.2.2.1, (d20 == (List.drop x.2.toNat (List.take d2.2.2.2.2.toNat d2.2.2.2.1))))) ∧ True) ∧ True) ∧ (((0 ≤ x.2 ∧ x.2 ≤ d2.2.2.2.2 ∧ d2.2.2.2.2 ≤ (d2.2.2.2.1.length : Int)) ∧
 (J18 (d2.2.2.1, (d20 == (List.drop x.2.toNat (List.take d2.2.2.2.2.toNat d2.2.2.2.1))))) ∧ True) ∧ True)) ∧ (((0 ≤ x.2 ∧ x.2 ≤ d2.2.2.2.2 ∧ d2.2.2.2.2 ≤ (d2.2.2.2.1.length : Int)) ∧
 (J18 (d2.2.2.1, (d20 == (List.drop x.2.toNat (List.take d2.2.2.2.2.toNat d2.2.2.2.1))))) ∧ True) ∧ True)))) ∧ (((Fn P zS3 Bq d2.2.2.1 (fun (d22 : (List UInt8)) (e23 : Unit) => ((0 ≤ x.2 ∧ x.2 ≤ d2.2.2.2.2 ∧ d2.2.2.2.2 ≤ (d2.2.2.2.1.length : Int)) ∧
 ((J18 (d2.2.2.1, (d22 == (List.drop x.2.toNat (List.take d2.2.2.2.2.toNat d2.2.2.2.1))))) ∧ True) ∧ True) ∧ (((0 ≤ x.2 ∧ x.2 ≤ d2.2.2.2.2 ∧ d2.2.2.2.2 ≤ (d2.2.2.2.1.length : Int)) ∧
 (J18 (d2.2.2.1, (d22 == (List.drop x.2.toNat (List.take d2.2.2.2.2.toNat d2.2.2.2.1))))) ∧ True) ∧ True))) ∧ (((0 ≤ x.2 ∧ x.2 ≤ d2.2.2.2.2 ∧ d2.2.2.2.2 ≤ (d2.2.2.2.1.length : Int)) ∧
 (Fn P zS3 Bq d2.2.2.1 (fun (d24 : (List UInt8)) (e25 : Unit) => ((J18 (d2.2.2.1, (d24 == (List.drop x.2.toNat (List.take d2.2.2.2.2.toNat d2.2.2.2.1))))) ∧ True) ∧ True)) ∧ True) ∧ True)) ∧ (((Fn P zS3 Bq d2.2.2.1 (fun (d26 : (List UInt8)) (e27 : Unit) => ((0 ≤ x.2 ∧ x.2 ≤ d2.2.2.2.2 ∧ d2.2.2.2.2 ≤ (d2.2.2.2.1.length : Int)) ∧
 ((J18 (d2.2.2.1, (d26 == (List.drop x.2.toNat (List.take d2.2.2.2.2.toNat d2.2.2.2.1))))) ∧ True) ∧ True) ∧ (((0 ≤ x.2 ∧ x.2 ≤ d2.2.2.2.2 ∧ d2.2.2.2.2 ≤ (d2.2.2.2.1.length : Int)) ∧
 (J18 (d2.2.2.1, (d26 == (List.drop x.2.toNat (List.take d2.2.2.2.2.toNat d2.2.2.2.1))))) ∧ True) ∧ True))) ∧ (((0 ≤ x.2 ∧ x.2 ≤ d2.2.2.2.2 ∧ d2.2.2.2.2 ≤ (d2.2.2.2.1.length : Int)) ∧
 (Fn P zS3 Bq d2.2.2.1 (fun (d28 : (List UInt8)) (e29 : Unit) => ((J18 (d2.2.2.1, (d28 == (List.drop x.2.toNat (List.take d2.2.2.2.2.toNat d2.2.2.2.1))))) ∧ True) ∧ True)) ∧ True) ∧ True)) ∧ True))) (fun d19 => K d19 d2.2.2.2))
theorem Ii {P : Pg} (h : Has P Cu) {x : DP A6.ps} {K : DP A6.rs → DP (ptrs A6.ps) → Prop} (hw : Fj P x K) : Fn P VN A6 x K :=
 CU (c := DB) h rfl rfl (by kernel_rfl) (Eq.mpr (show CG P Cu A6 DB x K = _ by kernel_rfl) hw)
def GX : BE :=
 (.seq (.region [o1 2 (.asg (.c (.slice none 0 0))), o1 3 (.asg kF)]) (.seq (.seq (.region [im 9 0, o1 10 (.bin .eql 9 (.c (.string ⟨#[]⟩)))]) (.cond 10 (.seq (.region [o1 2 (.asg
 (.c (.slice none 0 0))), o1 3 (.asg kT)]) .ret) .skip)) (.seq (.region [im 11 0, o1 12 (.build [(.string ⟨#[]⟩), (.int .i64 0)] [(0, 1, 11)]), o1 13 (.box 12), ia 4 13]) (.seq
 (.region [im 14 4, o1 15 (.mkf (VN, true) [14]), ia 5 15]) (.seq (.region [o1 6 (.asg (.c (.slice none 0 0)))]) (.frame (rg [2, 3, 6, 7, 8] 16 33)
 [1013] true (.block 0 (.loop [.sl 2 false (.sl .str) tO, .sl 3 false .bool .leaf, .sl 6 false (.sl .str) tO, .bx 1013 (.pair .str bI) .leaf] (.frame (rg [2, 3, 6, 7, 8] 16 33)
 [1013] true (.join [.sl 2 false (.sl .str) tO, .sl 3 false .bool .leaf, .sl 6 false (.sl .str) tO, .bx 1013 (.pair .str bI) .leaf] (.block 1 (.seq (.region [im 17 5, oS ⟨some 18,
 .callv 17 [], none⟩ A6, im 16 18, o1 19 (.ext 16 0), o1 20 (.ext 16 1), ia 7 19, ia 8 20]) (.seq (.seq (.region [im 21 8, o1 22 (.un .not 21)]) (.cond 22 (.seq
 (.region [o1 2 (.asg (.c (.slice none 0 0))), o1 3 (.asg kF)]) .ret) .skip)) (.seq (.region [im 23 6, im 24 7, oT ⟨some 25, .buildSl 1 [(.string ⟨#[]⟩)] 1 [(0, 24)], none⟩ (some
 (.str, .leaf)), oT ⟨some 26, .app 1 16 23 25, none⟩ (some (.str, .leaf)), ia 6 26]) (.seq (.seq (.region [im 27 4, o1 28 (.nilc 27), fa 29 1 28, ld 30 29, im 31 0, o1 32 (.GN
 31), o1 33 (.bin .eql 30 32)]) (.cond 33 (.seq (.region [im 34 6, ia 2 34, o1 3 (.asg kT)]) .ret) .skip)) (.seq (.seq (.region [im 35 0, im 36 4, o1 37 (.nilc 36), fa 38 1 37, ld
 39 38, o1 40 (.ixS 35 39), o1 41 (.bin .neq 40 (.c (.int .u8 32)))]) (.cond 41 (.seq (.region [o1 2 (.asg (.c (.slice none 0 0))), o1 3 (.asg kF)]) .ret) .skip)) (.region [im 42 4,
 o1 43 (.nilc 42), fa 44 1 43, ld 45 44, o1 46 (.bin .add 45 (kI 1)), o1 47 (.nilc 42), fa 48 1 47, o0 ⟨none, .store 1 48 46, none⟩])))))))))))))))))
def EU : AFn := ⟨ VO, GX.erase, [.tmp 2, .tmp 3], 1⟩
def Jf (P : Pg) (x : (List UInt8)) (K : ((List (List UInt8)) × Bool) → Unit → Prop) : Prop :=
 (((x == ([] : List UInt8)) = true → K ([], true) ()) ∧ ((x == ([] : List UInt8)) = false → Dm (D := ((List (List UInt8)) × (Bool × ((List (List UInt8)) × ((List UInt8) × Int))))) ([], (false, ([], (x, (0 : Int))))) (fun d1 J2 => Ao (D := ((List (List UInt8)) × (Bool × ((List (List UInt8)) × ((List UInt8) × Int))))) (fun J3 => Fn P VN A6 d1.2.2.2 (fun (d5 : ((List UInt8) × Bool)) (e6 : ((List UInt8) × Int)) => (((!d5.2) = true → K ([], false) ()) ∧ ((!d5.2) = false → ((d1.2.2.1.length + List.length ([d5.1] : List (List UInt8))) * 16 ≤ 140737488355328) ∧
 (((e6.2 == (x.length : Int)) = true → K ((d1.2.2.1 ++ ([d5.1] : List (List UInt8))), true) ()) ∧ ((e6.2 == (x.length : Int)) = false → (0 ≤ e6.2 ∧ e6.2 < (x.length : Int)) ∧
 (((((x.getD e6.2.toNat 0).toNat : Int) != (32 : Int)) = true → K ([], false) ()) ∧ ((((x.getD e6.2.toNat 0).toNat : Int) != (32 : Int)) = false → J3 (d1.1, (d1.2.1, ((d1.2.2.1 ++ ([d5.1] : List (List UInt8))), (e6.1, (i64.wrap (e6.2 + (1 : Int))))))))))))))) (fun d4 => J2 d4))))
theorem Nd {P : Pg} (h : Has P EU) {x : DP B9.ps} {K : DP B9.rs → DP (ptrs B9.ps) → Prop} (hw : Jf P x K) : Fn P VO B9 x K :=
 CU (c := GX) h rfl rfl (by kernel_rfl) (Eq.mpr (show CG P EU B9 GX x K = _ by kernel_rfl) hw)
def EK : BE :=
 (.seq (.region [o1 2 (.alloc [(.int .i64 0), (.int .i64 0), (.int .i64 0), (.int .i64 0), (.bool false), (.string ⟨#[]⟩)]), ia 3 (kI 0)]) (.seq (.region [im 11 0, oS ⟨some 12,
 .call VO [11], none⟩ B9, im 10 12, o1 13 (.ext 10 0), o1 14 (.ext 10 1), ia 4 13, ia 5 14]) (.seq (.seq (.region [im 15 5, o1 16 (.un .not 15), im 17
 16, gf 18 17 (.mv 4), gf 19 17 (.lenK 18), gf 20 17 (.bin .eql 19 (kI 0)), o1 21 (.pick 17 kT 20)]) (.cond 21 (.seq (.region [o1 22 (.build [(.int .i64 0), (.int .i64 0), (.int
 .i64 0), (.int .i64 0), (.bool false), (.string ⟨#[]⟩)] []), o0 ⟨none, .store 6 2 22, none⟩, ia 3 (kI 320)]) .ret) .skip)) (.seq (.seq (.region [oS ⟨some 23, .call
 VI [], none⟩ Bx, o1 24 (.lenK 23), o1 25 (.mv (kI 0))]) (.frame (rg [3, 7, 8, 9] 25 20) [1002, 1007, 1008] false (.join [.si 3, .bx 1002
 AJ .leaf] (.block 0 (.loop [.si 3, .si 25, .bx 1002 AJ .leaf] (.seq (.region [o1 26 (.bin .lss 25 24)]) (.seq (.cond 26 .skip (.exit 0)) (.seq (.frame (rg [3, 7, 8, 9]
 27 17) [1002, 1007, 1008] false (.join [.si 3, .bx 1002 AJ .leaf] (.block 1 (.seq (.region [o1 27 (.ixA 6 23 25), o1 28 (.load true 6 27), o1 7 (.alloc [(.string ⟨#[]⟩),
 (.int .i64 0), (.bool false), (.bool false), (.bool false), (.bool false)]), o0 ⟨none, .store 6 7 28, none⟩]) (.seq (.seq (.draw [(.first (fa 29 0 7) (.first (ld 30 29) (.first (im
 31 4) (.first (o1 32 (.ixA 1 31 (kI 0))) (.first (ld 33 32) (.first (o1 34 (.bin .neq 30 33)) .done))))))]) (.cond 34 (.exit 1) .skip)) (.seq (.frame (rg [8, 9] 35 7) [1008] false
 (.join [.pt 8 1008 0, .sl 9 false .bool .leaf, .bx 1008 AJ .leaf] (.draw [(.first (im 37 4) (.first (o1 38 (.slK 1 37 (some (kI 1)) none)) (.alt (o1 36 (.load true 6 7))
 (.alt (oS ⟨some 39, .call zS6 [36, 38], none⟩ AO) (.first (im 35 39) (.alt (o1 40 (.ext 35 0)) (.alt (o1 41 (.ext 35 1)) (.alt (o1 8
 (.alloc [(.int .i64 0), (.int .i64 0), (.int .i64 0), (.int .i64 0), (.bool false), (.string ⟨#[]⟩)])) (.alt (o0 ⟨none, .store 6 8 40, none⟩) (.alt (ia 9 41) .done .stop) .stop)
 .stop) (.alt (o1 8 (.alloc [(.int .i64 0), (.int .i64 0), (.int .i64 0), (.int .i64 0), (.bool false), (.string ⟨#[]⟩)])) (.alt (o1 41 (.ext 35 1)) (.alt (o0 ⟨none, .store 6 8 40,
 none⟩) (.alt (ia 9 41) .done .stop) .stop) (.alt (o0 ⟨none, .store 6 8 40, none⟩) (.alt (o1 41 (.ext 35 1)) (.alt (ia 9 41) .done .stop) .stop) .stop)) .stop)) (.alt (o1 41 (.ext
 35 1)) (.alt (o1 40 (.ext 35 0)) (.alt (o1 8 (.alloc [(.int .i64 0), (.int .i64 0), (.int .i64 0), (.int .i64 0), (.bool false), (.string ⟨#[]⟩)])) (.alt (o0 ⟨none, .store 6 8 40,
 none⟩) (.alt (ia 9 41) .done .stop) .stop) .stop) (.alt (o1 8 (.alloc [(.int .i64 0), (.int .i64 0), (.int .i64 0), (.int .i64 0), (.bool false), (.string ⟨#[]⟩)])) (.alt (o1 40
 (.ext 35 0)) (.alt (o0 ⟨none, .store 6 8 40, none⟩) (.alt (ia 9 41) .done .stop) .stop) .stop) .stop)) (.alt (o1 8 (.alloc [(.int .i64 0), (.int .i64 0), (.int .i64 0), (.int .i64
 0), (.bool false), (.string ⟨#[]⟩)])) (.alt (o1 40 (.ext 35 0)) (.alt (o1 41 (.ext 35 1)) (.alt (o0 ⟨none, .store 6 8 40, none⟩) (.alt (ia 9 41) .done .stop) .stop) (.alt (o0
 ⟨none, .store 6 8 40, none⟩) (.alt (o1 41 (.ext 35 1)) (.alt (ia 9 41) .done .stop) .stop) .stop)) (.alt (o1 41 (.ext 35 1)) (.alt (o1 40 (.ext 35 0)) (.alt (o0 ⟨none, .store 6 8
 40, none⟩) (.alt (ia 9 41) .done .stop) .stop) .stop) .stop)) .stop)))) (.alt (o1 8 (.alloc [(.int .i64 0), (.int .i64 0), (.int .i64 0), (.int .i64 0), (.bool false), (.string
 ⟨#[]⟩)])) (.alt (oS ⟨some 39, .call zS6 [36, 38], none⟩ AO) (.first (im 35 39) (.alt (o1 40 (.ext 35 0)) (.alt (o1 41 (.ext 35 1))
 (.alt (o0 ⟨none, .store 6 8 40, none⟩) (.alt (ia 9 41) .done .stop) .stop) (.alt (o0 ⟨none, .store 6 8 40, none⟩) (.alt (o1 41 (.ext 35 1)) (.alt (ia 9 41) .done .stop) .stop)
 .stop)) (.alt (o1 41 (.ext 35 1)) (.alt (o1 40 (.ext 35 0)) (.alt (o0 ⟨none, .store 6 8 40, none⟩) (.alt (ia 9 41) .done .stop) .stop) .stop) .stop))) .stop) .stop)) (.alt (o1 8
 (.alloc [(.int .i64 0), (.int .i64 0), (.int .i64 0), (.int .i64 0), (.bool false), (.string ⟨#[]⟩)])) (.first (o1 36 (.load true 6 7)) (.alt (oS ⟨some 39, .call
 zS6 [36, 38], none⟩ AO) (.first (im 35 39) (.alt (o1 40 (.ext 35 0)) (.alt (o1 41 (.ext 35 1)) (.alt (o0 ⟨none, .store 6 8 40, none⟩)
 (.alt (ia 9 41) .done .stop) .stop) (.alt (o0 ⟨none, .store 6 8 40, none⟩) (.alt (o1 41 (.ext 35 1)) (.alt (ia 9 41) .done .stop) .stop) .stop)) (.alt (o1 41 (.ext 35 1)) (.alt (o1
 40 (.ext 35 0)) (.alt (o0 ⟨none, .store 6 8 40, none⟩) (.alt (ia 9 41) .done .stop) .stop) .stop) .stop))) .stop)) .stop))))]))) (.seq (.region [im 42 9]) (.cond 42 (.seq (.region
 [o1 43 (.load true 6 8), o0 ⟨none, .store 6 2 43, none⟩, ia 3 (kI 0)]) .ret) .skip)))))))) (.region [o1 44 (.bin .add 25 (kI 1)), im 25 44]))))))))) (.seq (.region [o1 45 (.build
 [(.int .i64 0), (.int .i64 0), (.int .i64 0), (.int .i64 0), (.bool false), (.string ⟨#[]⟩)] []), o0 ⟨none, .store 6 2 45, none⟩, ia 3 (kI 320)]) .ret)))))
def Du : AFn := ⟨ zS2, EK.erase, [.cell 2 true 6, .tmp 3], 1⟩
def G4 (P : Pg) (x : (List UInt8)) (K : (Command × Int) → Unit → Prop) : Prop :=
 Fn P VO B9 x (fun (d1 : ((List (List UInt8)) × Bool)) (e2 : Unit) => (((cond (!d1.2) true ((d1.1.length : Int) == (0 : Int))) = true → K (((0 : Int), ((0 : Int), ((0 : Int), ((0 : Int), (false, ([] : List UInt8)))))), (320 : Int)) ()) ∧ ((cond (!d1.2) true ((d1.1.length : Int) == (0 : Int))) = false → Fn P VI Bx () (fun (d3 : (List Al)) (e4 : Unit) => Ao (D := (Int × Command)) (fun J5 => Dm (D := (Int × (Int × Command))) ((0 : Int), ((0 : Int), ((0 : Int), ((0 : Int), ((0 : Int), ((0 : Int), (false, ([] : List UInt8)))))))) (fun d7 J8 => (((decide (d7.2.1 < (d3.length : Int))) = true → Ao (D := (Int × Command)) (fun J9 => (0 ≤ d7.2.1 ∧ d7.2.1 < (d3.length : Int)) ∧
 (d7.2.1.toNat < d3.length) ∧
 (0 ≤ (0 : Int) ∧ (0 : Int) < (d1.1.length : Int)) ∧
 ((Int.toNat (0 : Int)) < d1.1.length) ∧
 (((!((List.getD d3 d7.2.1.toNat A1).1 == (List.getD d1.1 (Int.toNat (0 : Int)) []))) = true → J9 (d7.1, d7.2.2)) ∧ ((!((List.getD d3 d7.2.1.toNat A1).1 == (List.getD d1.1 (Int.toNat (0 : Int)) []))) = false → Ao (D := (Bool × Command)) (fun J11 => (0 ≤ (1 : Int) ∧ (1 : Int) ≤ (d1.1.length : Int)) ∧
 ((((Int.toNat (1 : Int)) + (d1.1.length - Int.toNat (1 : Int)) ≤ d1.1.length) ∧
 Fn P zS6 AO ((List.getD d3 d7.2.1.toNat A1), (List.take (d1.1.length - Int.toNat (1 : Int)) (List.drop (Int.toNat (1 : Int)) d1.1))) (fun (d13 : (Command × Bool)) (e14 : Unit) => (((((J11 (d13.2, d13.1)) ∧ True) ∧ True) ∧ True) ∧ (((((J11 (d13.2, d13.1)) ∧ True) ∧ True) ∧ ((((J11 (d13.2, d13.1)) ∧ True) ∧ True) ∧ True)) ∧ True)) ∧ ((((((J11 (d13.2, d13.1)) ∧ True) ∧ True) ∧ True) ∧ (((((J11 (d13.2, d13.1)) ∧ True) ∧ True) ∧ True) ∧ True)) ∧ ((((((J11 (d13.2, d13.1)) ∧ True) ∧ True) ∧ ((((J11 (d13.2, d13.1)) ∧ True) ∧ True) ∧ True)) ∧ (((((J11 (d13.2, d13.1)) ∧ True) ∧ True) ∧ True) ∧ True)) ∧ True)))) ∧ (((((Int.toNat (1 : Int)) + (d1.1.length - Int.toNat (1 : Int)) ≤ d1.1.length) ∧
 Fn P zS6 AO ((List.getD d3 d7.2.1.toNat A1), (List.take (d1.1.length - Int.toNat (1 : Int)) (List.drop (Int.toNat (1 : Int)) d1.1))) (fun (d15 : (Command × Bool)) (e16 : Unit) => ((((J11 (d15.2, d15.1)) ∧ True) ∧ True) ∧ ((((J11 (d15.2, d15.1)) ∧ True) ∧ True) ∧ True)) ∧ (((((J11 (d15.2, d15.1)) ∧ True) ∧ True) ∧ True) ∧ True))) ∧ True) ∧ True)) ∧ (((((Int.toNat (1 : Int)) + (d1.1.length - Int.toNat (1 : Int)) ≤ d1.1.length) ∧
 Fn P zS6 AO ((List.getD d3 d7.2.1.toNat A1), (List.take (d1.1.length - Int.toNat (1 : Int)) (List.drop (Int.toNat (1 : Int)) d1.1))) (fun (d17 : (Command × Bool)) (e18 : Unit) => ((((J11 (d17.2, d17.1)) ∧ True) ∧ True) ∧ ((((J11 (d17.2, d17.1)) ∧ True) ∧ True) ∧ True)) ∧ (((((J11 (d17.2, d17.1)) ∧ True) ∧ True) ∧ True) ∧ True))) ∧ True) ∧ True)) (fun d12 => ((d12.1 = true → K (d12.2, (0 : Int)) ()) ∧ (d12.1 = false → J9 (d7.1, d7.2.2))))))) (fun d10 => J8 (d10.1, ((i64.wrap (d7.2.1 + (1 : Int))), d10.2)))) ∧ ((decide (d7.2.1 < (d3.length : Int))) = false → J5 (d7.1, d7.2.2))))) (fun d6 => K (((0 : Int), ((0 : Int), ((0 : Int), ((0 : Int), (false, ([] : List UInt8)))))), (320 : Int)) ())))))
theorem Ku {P : Pg} (h : Has P Du) {x : DP AZ.ps} {K : DP AZ.rs → DP (ptrs AZ.ps) → Prop} (hw : G4 P x K) : Fn P zS2 AZ x K :=
 CU (c := EK) h rfl rfl (by kernel_rfl) (Eq.mpr (show CG P Du AZ EK x K = _ by kernel_rfl) hw)
def Gb : BE :=
 (.seq (.region [o1 0 (.asg kF)]) (.seq (.region [oS ⟨some 6, .call zS2 [(.c (.string ⟨#[108, 105, 110, 101, 115, 32, 51, 32, 48, 32, 50, 32, 120]⟩))], none⟩
 AZ, im 5 6, o1 7 (.ext 5 0), o1 8 (.ext 5 1), o1 1 (.alloc [(.int .i64 0), (.int .i64 0), (.int .i64 0), (.int .i64 0), (.bool false), (.string ⟨#[]⟩)]), o0 ⟨none,
 .store 6 1 7, none⟩, ia 2 8]) (.seq (.region [oS ⟨some 10, .call zS2 [(.c (.string ⟨#[108, 111, 103, 32, 48, 49]⟩))], none⟩ AZ, im 9 10, o1 11
 (.ext 9 0), o1 12 (.ext 9 1), o1 3 (.alloc [(.int .i64 0), (.int .i64 0), (.int .i64 0), (.int .i64 0), (.bool false), (.string ⟨#[]⟩)]), o0 ⟨none, .store 6 3 11, none⟩, ia 4 12])
 (.seq (.region [im 13 2, o1 14 (.bin .eql 13 (kI 0)), im 15 14, gt 16 15 (.mv 4), gt 17 15 (.bin .eql 16 (kI 320)), o1 18 (.pick 15 17 kF), im 19 18, gt 20 19 (.load true 6 1), o0
 ⟨some 21, .build [(.int .i64 0), (.int .i64 0), (.int .i64 0), (.int .i64 0), (.bool false), (.string ⟨#[]⟩)] [(0, 1, (kI 7)), (1, 1, (kI 3)), (3, 1, (kI 2)), (5, 1, (.c (.string
 ⟨#[120]⟩)))], some (19, true)⟩, gt 22 19 (.eqA false [.int, .int, .int, .int, .bool, .str] 20 21), o1 23 (.pick 19 22 kF), ia 0 23]) .ret))))
def Ek : AFn := ⟨ zS7, Gb.erase, [.tmp 0], 0⟩
def Im (P : Pg) (x : Unit) (K : Bool → Unit → Prop) : Prop :=
 Fn P zS2 AZ ([108, 105, 110, 101, 115, 32, 51, 32, 48, 32, 50, 32, 120] : List UInt8) (fun (d1 : (Command × Int)) (e2 : Unit) => Fn P zS2 AZ ([108, 111, 103, 32, 48, 49] : List UInt8) (fun (d3 : (Command × Int)) (e4 : Unit) => K (cond (cond (d1.2 == (0 : Int)) (d3.2 == (320 : Int)) false) ((d1.1.1 == (7 : Int)) && ((d1.1.2.1 == (3 : Int)) && ((d1.1.2.2.1 == (0 : Int)) && ((d1.1.2.2.2.1 == (2 : Int)) && ((d1.1.2.2.2.2.1 == false) && ((d1.1.2.2.2.2.2 == ([120] : List UInt8)) && true)))))) false) ()))
theorem Ma {P : Pg} (h : Has P Ek) {x : DP Bg.ps} {K : DP Bg.rs → DP (ptrs Bg.ps) → Prop} (hw : Im P x K) : Fn P zS7 Bg x K :=
 CU (c := Gb) h rfl rfl (by kernel_rfl) (Eq.mpr (show CG P Ek Bg Gb x K = _ by kernel_rfl) hw)
def I4 : BE :=
 (.seq (.region [o1 2 (.asg (.c (.string ⟨#[]⟩)))]) (.seq (.region [oT ⟨some 3, .buildSl 1 [(.string ⟨#[]⟩)] 10 [(0, (.c (.string ⟨#[97]⟩))), (1, (.c (.string ⟨#[98]⟩))), (2, (.c
 (.string ⟨#[99]⟩))), (3, (.c (.string ⟨#[97, 98]⟩))), (4, (.c (.string ⟨#[98, 97]⟩))), (5, (.c (.string ⟨#[]⟩))), (6, (.c (.string ⟨#[97, 97]⟩))), (7, (.c (.string ⟨#[98, 32,
 97]⟩))), (8, (.c (.string ⟨#[120, 43, 121]⟩))), (9, (.c (.string ⟨#[92]⟩)))], none⟩ (some (.str, .leaf)), im 4 0, oS ⟨some 5, .call zS0 [4, (kI 10)], none⟩
 Bd, o1 6 (.ixA 1 3 5), ld 7 6, ia 2 7]) .ret))
def GG : AFn := ⟨ XC, I4.erase, [.tmp 2], 1⟩
abbrev HI : List (List UInt8) := ([([97] : List UInt8), ([98] : List UInt8), ([99] : List UInt8), ([97, 98] : List UInt8), ([98, 97] : List UInt8), ([] : List UInt8), ([97, 97] : List UInt8), ([98, 32, 97] : List UInt8), ([120, 43, 121] : List UInt8), ([92] : List UInt8)] : List (List UInt8))
def LR (P : Pg) (x : Int) (K : (List UInt8) → Unit → Prop) : Prop :=
 Fn P zS0 Bd (x, (10 : Int)) (fun (d1 : Int) (e2 : Unit) => (0 ≤ d1 ∧ d1 < ((List.length HI : Nat) : Int)) ∧
 (d1.toNat < List.length HI) ∧
 K (List.getD HI d1.toNat []) ())
theorem PE {P : Pg} (h : Has P GG) {x : DP CW.ps} {K : DP CW.rs → DP (ptrs CW.ps) → Prop} (hw : LR P x K) : Fn P XC CW x K :=
 CU (c := I4) h rfl rfl (by kernel_rfl) (Eq.mpr (show CG P GG CW I4 x K = _ by kernel_rfl) hw)
def MZ : BE :=
 (.seq (.region [ia 4 (kI 0)]) (.seq (.region [im 6 1, o1 7 (.bin .add 6 (kI 1)), o1 8 (.conv (.toInt .u64) 7), o1 9 (.bin .mul 8 (.c (.int .u64 11400714819323198485))), ia 5 9])
 (.seq (.seq (.region [im 10 0, o1 11 (.lenK 10), o1 12 (.bin .gtr 11 (kI 0))]) (.frame (rg [5] 13 10) [] false (.join [.sl 5 false (.int .u64) .leaf] (.cond 12 (.region [im 13 5,
 im 14 0, im 15 1, im 16 0, o1 17 (.lenK 16), o1 18 (.bin .rem 15 17), o1 19 (.ixA 1 14 18), ld 20 19, o1 21 (.conv (.toInt .u64) 20), o1 22 (.bin .xor 13 21), ia 5 22]) .skip))))
 (.seq (.region [im 23 5, im 24 5, o1 25 (.bin .shr 24 (.c (.int .u64 31))), o1 26 (.bin .xor 23 25), o1 27 (.bin .mul 26 (.c (.int .u64 13787848793156543929))), ia 5 27]) (.seq
 (.region [im 28 5, im 29 5, o1 30 (.bin .shr 29 (.c (.int .u64 29))), o1 31 (.bin .xor 28 30), o1 32 (.bin .shr 31 (.c (.int .u64 1))), o1 33 (.conv (.toInt .i64) 32), ia 4 33])
 .ret)))))
def Jb : AFn := ⟨ zS4, MZ.erase, [.tmp 4], 2⟩
def Pd (P : Pg) (x : ((List Int) × Int)) (K : Int → Unit → Prop) : Prop :=
 Ao (D := Int) (fun J1 => (((decide ((x.1.length : Int) > (0 : Int))) = true → ((x.1.length : Int) ≠ 0) ∧
 (0 ≤ (Int.tmod x.2 (x.1.length : Int)) ∧ (Int.tmod x.2 (x.1.length : Int)) < (x.1.length : Int)) ∧
 ((Int.toNat (Int.tmod x.2 (x.1.length : Int))) < x.1.length) ∧
 J1 (u64.wrap ((BitVec.toNat (BitVec.ofInt u64.bits (u64.wrap ((u64.wrap (i64.wrap (x.2 + (1 : Int)))) * (11400714819323198485 : Int))) ^^^ BitVec.ofInt u64.bits (u64.wrap (List.getD x.1 (Int.toNat (Int.tmod x.2 (x.1.length : Int))) (0 : Int)))) : Nat) : Int))) ∧ ((decide ((x.1.length : Int) > (0 : Int))) = false → J1 (u64.wrap ((u64.wrap (i64.wrap (x.2 + (1 : Int)))) * (11400714819323198485 : Int)))))) (fun d2 => (0 ≤ (31 : Int)) ∧
 (0 ≤ (29 : Int)) ∧
 (0 ≤ (1 : Int)) ∧
 K (i64.wrap (Int.fdiv (u64.wrap ((BitVec.toNat (BitVec.ofInt u64.bits (u64.wrap ((u64.wrap ((BitVec.toNat (BitVec.ofInt u64.bits d2 ^^^ BitVec.ofInt u64.bits (Int.fdiv d2 (2 ^ (min (Int.toNat (31 : Int)) u64.bits)))) : Nat) : Int)) * (13787848793156543929 : Int))) ^^^ BitVec.ofInt u64.bits (Int.fdiv (u64.wrap ((u64.wrap ((BitVec.toNat (BitVec.ofInt u64.bits d2 ^^^ BitVec.ofInt u64.bits (Int.fdiv d2 (2 ^ (min (Int.toNat (31 : Int)) u64.bits)))) : Nat) : Int)) * (13787848793156543929 : Int))) (2 ^ (min (Int.toNat (29 : Int)) u64.bits)))) : Nat) : Int)) (2 ^ (min (Int.toNat (1 : Int)) u64.bits)))) ())
theorem S0 {P : Pg} (h : Has P Jb) {x : DP Cm.ps} {K : DP Cm.rs → DP (ptrs Cm.ps) → Prop} (hw : Pd P x K) : Fn P zS4 Cm x K :=
 CU (c := MZ) h rfl rfl (by kernel_rfl) (Eq.mpr (show CG P Jb Cm MZ x K = _ by kernel_rfl) hw)
def GV : BE :=
 (.seq (.region [o1 4 (.asg (.c (.string ⟨#[]⟩))), o1 5 (.asg (.c (.string ⟨#[]⟩)))]) (.seq (.seq (.region [im 6 0]) (.frame (rg [4, 5] 7 19) [] false (.join [.sl 4 false .str
 .leaf, .sl 5 false .str .leaf] (.block 0 (.seq (.region [o1 8 (.bin .eql 6 (kI 1)), ia 7 8]) (.cond 7 (.seq (.region [o1 4 (.asg (.c (.string ⟨#[108, 111, 103]⟩))), o1 5 (.asg (.c
 (.string ⟨#[97]⟩)))]) .ret) (.seq (.region [o1 10 (.bin .eql 6 (kI 2)), ia 9 10]) (.cond 9 (.seq (.region [o1 4 (.asg (.c (.string ⟨#[115, 104, 111, 119]⟩))), o1 5 (.asg (.c
 (.string ⟨#[97]⟩)))]) .ret) (.seq (.region [o1 12 (.bin .eql 6 (kI 3)), ia 11 12]) (.cond 11 (.seq (.region [o1 4 (.asg (.c (.string ⟨#[100, 105, 102, 102]⟩))), o1 5 (.asg (.c
 (.string ⟨#[97, 98, 99, 116]⟩)))]) .ret) (.seq (.region [o1 14 (.bin .eql 6 (kI 4)), ia 13 14]) (.cond 13 (.seq (.seq (.region [im 15 1]) (.cond 15 (.seq (.region [o1 4 (.asg (.c
 (.string ⟨#[99, 99]⟩))), o1 5 (.asg (.c (.string ⟨#[97, 99, 116]⟩)))]) .ret) .skip)) (.seq (.region [o1 4 (.asg (.c (.string ⟨#[99, 111, 109, 98, 105, 110, 101, 100]⟩))), o1 5
 (.asg (.c (.string ⟨#[97, 99, 116]⟩)))]) .ret)) (.seq (.region [o1 17 (.bin .eql 6 (kI 5)), ia 16 17]) (.cond 16 (.seq (.region [o1 4 (.asg (.c (.string ⟨#[108, 105, 116, 101, 114,
 97, 108]⟩))), o1 5 (.asg (.c (.string ⟨#[97, 116]⟩)))]) .ret) (.seq (.region [o1 19 (.bin .eql 6 (kI 6)), ia 18 19]) (.cond 18 (.seq (.region [o1 4 (.asg (.c (.string ⟨#[114, 101,
 103, 101, 120]⟩))), o1 5 (.asg (.c (.string ⟨#[97, 116]⟩)))]) .ret) (.seq (.region [o1 21 (.bin .eql 6 (kI 7)), ia 20 21]) (.cond 20 (.seq (.region [o1 4 (.asg (.c (.string ⟨#[108,
 105, 110, 101, 115]⟩))), o1 5 (.asg (.c (.string ⟨#[97, 98, 99, 116]⟩)))]) .ret) (.seq (.region [o1 23 (.bin .eql 6 (kI 8)), ia 22 23]) (.cond 22 (.seq (.region [o1 4 (.asg (.c
 (.string ⟨#[98, 108, 97, 109, 101]⟩))), o1 5 (.asg (.c (.string ⟨#[97, 116]⟩)))]) .ret) (.seq (.region [o1 25 (.bin .eql 6 (kI 9)), ia 24 25]) (.cond 24 (.seq (.region [o1 4 (.asg
 (.c (.string ⟨#[98, 97, 115, 101, 115]⟩))), o1 5 (.asg (.c (.string ⟨#[97, 98]⟩)))]) .ret) .skip)))))))))))))))))))))) (.seq (.region [o1 4 (.asg (.c (.string ⟨#[]⟩))), o1 5 (.asg
 (.c (.string ⟨#[]⟩)))]) .ret)))
def ES : AFn := ⟨ zS8, GV.erase, [.tmp 4, .tmp 5], 2⟩
def Jd (P : Pg) (x : (Int × Bool)) (K : ((List UInt8) × (List UInt8)) → Unit → Prop) : Prop :=
 Ao (D := ((List UInt8) × (List UInt8))) (fun J1 => (((x.1 == (1 : Int)) = true → K (([108, 111, 103] : List UInt8), ([97] : List UInt8)) ()) ∧ ((x.1 == (1 : Int)) = false → (((x.1 == (2 : Int)) = true → K (([115, 104, 111, 119] : List UInt8), ([97] : List UInt8)) ()) ∧ ((x.1 == (2 : Int)) = false → (((x.1 == (3 : Int)) = true → K (([100, 105, 102, 102] : List UInt8), ([97, 98, 99, 116] : List UInt8)) ()) ∧ ((x.1 == (3 : Int)) = false → (((x.1 == (4 : Int)) = true → ((x.2 = true → K (([99, 99] : List UInt8), ([97, 99, 116] : List UInt8)) ()) ∧ (x.2 = false → K (([99, 111, 109, 98, 105, 110, 101, 100] : List UInt8), ([97, 99, 116] : List UInt8)) ()))) ∧ ((x.1 == (4 : Int)) = false → (((x.1 == (5 : Int)) = true → K (([108, 105, 116, 101, 114, 97, 108] : List UInt8), ([97, 116] : List UInt8)) ()) ∧ ((x.1 == (5 : Int)) = false → (((x.1 == (6 : Int)) = true → K (([114, 101, 103, 101, 120] : List UInt8), ([97, 116] : List UInt8)) ()) ∧ ((x.1 == (6 : Int)) = false → (((x.1 == (7 : Int)) = true → K (([108, 105, 110, 101, 115] : List UInt8), ([97, 98, 99, 116] : List UInt8)) ()) ∧ ((x.1 == (7 : Int)) = false → (((x.1 == (8 : Int)) = true → K (([98, 108, 97, 109, 101] : List UInt8), ([97, 116] : List UInt8)) ()) ∧ ((x.1 == (8 : Int)) = false → (((x.1 == (9 : Int)) = true → K (([98, 97, 115, 101, 115] : List UInt8), ([97, 98] : List UInt8)) ()) ∧ ((x.1 == (9 : Int)) = false → J1 (([] : List UInt8), ([] : List UInt8))))))))))))))))))))) (fun d2 => K (([] : List UInt8), ([] : List UInt8)) ())
theorem Nb {P : Pg} (h : Has P ES) {x : DP Bp.ps} {K : DP Bp.rs → DP (ptrs Bp.ps) → Prop} (hw : Jd P x K) : Fn P zS8 Bp x K :=
 CU (c := GV) h rfl rfl (by kernel_rfl) (Eq.mpr (show CG P ES Bp GV x K = _ by kernel_rfl) hw)
def GU : BE :=
 (.seq (.region [o1 4 (.alloc [(.int .i64 0), (.int .i64 0), (.int .i64 0), (.int .i64 0), (.bool false), (.string ⟨#[]⟩)])]) (.seq (.region [im 11 0, im 12 1, oS ⟨some 13, .call
 zS4 [11, 12], none⟩ Cm, oS ⟨some 14, .call zS0 [13, (kI 9)], none⟩ Bd, o1 15 (.bin .add (kI 1) 14), ia 5 15]) (.seq
 (.region [im 16 5, im 17 5, o1 18 (.bin .eql 17 (kI 4)), im 19 18, gt 20 19 (.mv 0), gt 21 19 (.mv 1), gt 22 19 (.bin .add 21 (kI 1)), oS ⟨some 23, .call
 zS4 [20, 22], some (19, true)⟩ Cm, gt 24 19 (.bin .rem 23 (kI 2)), gt 25 19 (.bin .eql 24 (kI 0)), o1 26 (.pick 19 25 kF), o1 27 (.build [(.int .i64
 0), (.int .i64 0), (.int .i64 0), (.int .i64 0), (.bool false), (.string ⟨#[]⟩)] [(0, 1, 16), (4, 1, 26)]), o1 6 (.alloc [(.int .i64 0), (.int .i64 0), (.int .i64 0), (.int .i64
 0), (.bool false), (.string ⟨#[]⟩)]), o0 ⟨none, .store 6 6 27, none⟩]) (.seq (.region [fa 29 0 6, ld 30 29, fa 31 4 6, ld 32 31, oS ⟨some 33, .call zS8
 [30, 32], none⟩ Bp, im 28 33, o1 34 (.ext 28 0), o1 35 (.ext 28 1), ia 7 34, ia 8 35]) (.seq (.seq (.region [ia 9 (kI 0)]) (.frame (rg [9, 10] 36 31) [1006] false (.join
 [.bx 1006 AJ .leaf] (.block 0 (.loop [.si 9, .bx 1006 AJ .leaf] (.seq (.seq (.region [im 36 9, im 37 8, o1 38 (.GN 37), o1 39 (.bin .lss 36 38)]) (.cond 39 .skip
 (.exit 0))) (.seq (.frame (rg [10] 42 25) [1006] false (.join [.bx 1006 AJ .leaf] (.block 1 (.seq (.region [im 42 0, im 43 1, o1 44 (.bin .add 43 (kI 2)), im 45 9, o1 46
 (.bin .add 44 45), oS ⟨some 47, .call zS4 [42, 46], none⟩ Cm, oS ⟨some 48, .call zS0 [47, (kI 12)], none⟩ Bd, ia 10
 48]) (.seq (.region [im 49 8, im 50 9, o1 51 (.ixS 49 50)]) (.frame (rg [] 52 15) [1006] false (.join [.bx 1006 AJ .leaf] (.block 2 (.seq (.region [o1 56 (.bin .eql 51 (.c
 (.int .u8 97))), ia 55 56]) (.frame (rg [52, 53, 54] 57 10) [1006] false (.join [.bx 1006 AJ .leaf] (.cond 55 (.region [im 57 10, fa 58 1 6, o0 ⟨none, .store 1 58 57, none⟩])
 (.seq (.region [o1 60 (.bin .eql 51 (.c (.int .u8 98))), ia 59 60]) (.frame (rg [52, 53, 54] 61 6) [1006] false (.join [.bx 1006 AJ .leaf] (.cond 59 (.region [im 61 10, fa 62
 2 6, o0 ⟨none, .store 1 62 61, none⟩]) (.seq (.region [o1 64 (.bin .eql 51 (.c (.int .u8 99))), ia 63 64]) (.frame [52, 53, 54, 65, 66] [1006] false (.join [.bx 1006 AJ
 .leaf] (.cond 63 (.region [im 65 10, fa 66 3 6, o0 ⟨none, .store 1 66 65, none⟩]) (.region [im 52 10, oS ⟨some 53, .call XC [52], none⟩ CW, fa 54
 5 6, o0 ⟨none, .store 1 54 53, none⟩]))))))))))))))))))))) (.region [im 40 9, o1 41 (.bin .add 40 (kI 1)), ia 9 41])))))))) (.seq (.region [o1 67 (.load true 6 6), o0 ⟨none, .store
 6 4 67, none⟩]) .ret))))))
def ER : AFn := ⟨ RN, GU.erase, [.cell 4 true 6], 2⟩
def Jc (P : Pg) (x : ((List Int) × Int)) (K : Command → Unit → Prop) : Prop :=
 Fn P zS4 Cm x (fun (d1 : Int) (e2 : Unit) => Fn P zS0 Bd (d1, (9 : Int)) (fun (d3 : Int) (e4 : Unit) => Ao (D := Int) (fun J5 => ((((i64.wrap ((1 : Int) + d3)) == (4 : Int)) = true → Fn P zS4 Cm (x.1, (i64.wrap (x.2 + (1 : Int)))) (fun (d6 : Int) _ => J5 d6)) ∧ ((((i64.wrap ((1 : Int) + d3)) == (4 : Int)) = false → J5 (0 : Int)) ∧ True))) (fun d7 => ((((i64.wrap ((1 : Int) + d3)) == (4 : Int)) = true → (2 : Int) ≠ 0)) ∧
 Fn P zS8 Bp ((i64.wrap ((1 : Int) + d3)), (cond ((i64.wrap ((1 : Int) + d3)) == (4 : Int)) ((Int.tmod d7 (2 : Int)) == (0 : Int)) false)) (fun (d8 : ((List UInt8) × (List UInt8))) (e9 : Unit) => Ao (D := Command) (fun J10 => Dm (D := (Int × Command)) ((0 : Int), ((i64.wrap ((1 : Int) + d3)), ((0 : Int), ((0 : Int), ((0 : Int), ((cond ((i64.wrap ((1 : Int) + d3)) == (4 : Int)) ((Int.tmod d7 (2 : Int)) == (0 : Int)) false), ([] : List UInt8))))))) (fun d12 J13 => (((decide (d12.1 < (d8.2.length : Int))) = true → Ao (D := Command) (fun J14 => Fn P zS4 Cm (x.1, (i64.wrap ((i64.wrap (x.2 + (2 : Int))) + d12.1))) (fun (d16 : Int) (e17 : Unit) => Fn P zS0 Bd (d16, (12 : Int)) (fun (d18 : Int) (e19 : Unit) => (0 ≤ d12.1 ∧ d12.1 < (d8.2.length : Int)) ∧
 Ao (D := Command) (fun J20 => Ao (D := Command) (fun J22 => (((((d8.2.getD d12.1.toNat 0).toNat : Int) == (97 : Int)) = true → J22 (d12.2.1, (d18, d12.2.2.2))) ∧ ((((d8.2.getD d12.1.toNat 0).toNat : Int) == (97 : Int)) = false → Ao (D := Command) (fun J24 => (((((d8.2.getD d12.1.toNat 0).toNat : Int) == (98 : Int)) = true → J24 (d12.2.1, (d12.2.2.1, (d18, d12.2.2.2.2)))) ∧ ((((d8.2.getD d12.1.toNat 0).toNat : Int) == (98 : Int)) = false → Ao (D := Command) (fun J26 => (((((d8.2.getD d12.1.toNat 0).toNat : Int) == (99 : Int)) = true → J26 (d12.2.1, (d12.2.2.1, (d12.2.2.2.1, (d18, d12.2.2.2.2.2))))) ∧ ((((d8.2.getD d12.1.toNat 0).toNat : Int) == (99 : Int)) = false → Fn P XC CW d18 (fun (d28 : (List UInt8)) (e29 : Unit) => J26 (d12.2.1, (d12.2.2.1, (d12.2.2.2.1, (d12.2.2.2.2.1, (d12.2.2.2.2.2.1, d28))))))))) (fun d27 => J24 d27)))) (fun d25 => J22 d25)))) (fun d23 => J20 d23)) (fun d21 => J14 d21)))) (fun d15 => J13 ((i64.wrap (d12.1 + (1 : Int))), d15))) ∧ ((decide (d12.1 < (d8.2.length : Int))) = false → J10 d12.2)))) (fun d11 => K d11 ())))))
theorem Na {P : Pg} (h : Has P ER) {x : DP BU.ps} {K : DP BU.rs → DP (ptrs BU.ps) → Prop} (hw : Jc P x K) : Fn P RN BU x K :=
 CU (c := GU) h rfl rfl (by kernel_rfl) (Eq.mpr (show CG P ER BU GU x K = _ by kernel_rfl) hw)
def Gc : BE :=
 (.seq (.region [o1 2 (.asg kF)]) (.seq (.region [im 3 0, o1 4 (.bin .geq 3 (.c (.int .u8 33))), im 5 4, gt 6 5 (.mv 0), gt 7 5 (.bin .leq 6 (.c (.int .u8 126))), o1 8 (.pick 5 7
 kF), im 9 8, gt 10 9 (.mv 0), gt 11 9 (.bin .neq 10 (.c (.int .u8 34))), o1 12 (.pick 9 11 kF), im 13 12, gt 14 13 (.mv 0), gt 15 13 (.bin .neq 14 (.c (.int .u8 92))), o1 16 (.pick
 13 15 kF), ia 2 16]) .ret))
def El : AFn := ⟨ Ab5, Gc.erase, [.tmp 2], 1⟩
def Io (P : Pg) (x : Int) (K : Bool → Unit → Prop) : Prop :=
 K (cond (cond (cond (decide (x ≥ (33 : Int))) (decide (x ≤ (126 : Int))) false) (x != (34 : Int)) false) (x != (92 : Int)) false) ()
theorem Mb {P : Pg} (h : Has P El) {x : DP BX.ps} {K : DP BX.rs → DP (ptrs BX.ps) → Prop} (hw : Io P x K) : Fn P Ab5 BX x K :=
 CU (c := Gc) h rfl rfl (by kernel_rfl) (Eq.mpr (show CG P El BX Gc x K = _ by kernel_rfl) hw)
def Ge : BE :=
 (.seq (.region [o1 2 (.asg (.c (.string ⟨#[]⟩)))]) (.seq (.region [im 7 0, o1 8 (.bin .neq 7 (.c (.string ⟨#[]⟩))), ia 3 8]) (.seq (.region [o1 4 (.asg (.c (.string ⟨#[34]⟩)))])
 (.seq (.seq (.region [ia 5 (kI 0)]) (.frame (rg [3, 4, 5, 6] 9 78) [] false (.join [.sl 3 false .bool .leaf, .sl 4 false .str .leaf] (.block 0 (.loop [.sl 3 false .bool .leaf, .sl
 4 false .str .leaf, .si 5] (.seq (.seq (.region [im 9 5, im 10 0, o1 11 (.GN 10), o1 12 (.bin .lss 9 11)]) (.cond 12 .skip (.exit 0))) (.seq (.frame (rg [3, 4, 6] 15 72) [] false
 (.join [.sl 3 false .bool .leaf, .sl 4 false .str .leaf] (.block 1 (.seq (.region [im 15 0, im 16 5, o1 17 (.ixS 15 16), ia 6 17]) (.seq (.region [im 18 3, im 19 18, gt 20 19 (.mv
 6), oS ⟨some 21, .call Ab5 [20], some (19, true)⟩ BX, o1 22 (.pick 19 21 kF), ia 3 22]) (.frame (rg [4] 23 64) [] false (.join [.sl 4 false
 .str .leaf] (.block 2 (.seq (.region [im 31 6, o1 32 (.bin .eql 31 (.c (.int .u8 34))), im 33 32, gf 34 33 (.mv 6), gf 35 33 (.bin .eql 34 (.c (.int .u8 92))), o1 36 (.pick 33 kT
 35), ia 30 36]) (.frame (rg [4, 23, 24, 25, 26, 27, 28, 29] 37 50) [] false (.join [.sl 4 false .str .leaf] (.cond 30 (.region [im 37 4, o1 38 (.bin .add 37 (.c (.string
 ⟨#[92]⟩))), im 39 0, im 40 5, im 41 5, o1 42 (.bin .add 41 (kI 1)), o1 43 (.slS 39 (some 40) (some 42)), o1 44 (.bin .add 38 43), ia 4 44]) (.seq (.region [im 46 6, o1 47 (.bin
 .eql 46 (.c (.int .u8 10))), ia 45 47]) (.frame (rg [4, 23, 24, 25, 26, 27, 28, 29] 48 39) [] false (.join [.sl 4 false .str .leaf] (.cond 45 (.region [im 48 4, o1 49 (.bin .add 48
 (.c (.string ⟨#[92, 110]⟩))), ia 4 49]) (.seq (.region [im 51 6, o1 52 (.bin .eql 51 (.c (.int .u8 9))), ia 50 52]) (.frame (rg [4, 23, 24, 25, 26, 27, 28, 29] 53 34) [] false
 (.join [.sl 4 false .str .leaf] (.cond 50 (.region [im 53 4, o1 54 (.bin .add 53 (.c (.string ⟨#[92, 116]⟩))), ia 4 54]) (.seq (.region [im 56 6, o1 57 (.bin .lss 56 (.c (.int .u8
 32))), im 58 57, gf 59 58 (.mv 6), gf 60 58 (.bin .gtr 59 (.c (.int .u8 126))), o1 61 (.pick 58 kT 60), ia 55 61]) (.frame (rg [4, 23, 24, 25, 26, 27, 28, 29] 62 25) [] false
 (.join [.sl 4 false .str .leaf] (.cond 55 (.frame (rg [4] 62 25) [] false (.join [.sl 4 false .str .leaf] (.draw [(.first (im 62 4) (.first (o1 63 (.bin .add 62 (.c (.string
 ⟨#[92]⟩)))) (.first (im 64 6) (.first (o1 65 (.bin .quo 64 (.c (.int .u8 64)))) (.first (im 66 6) (.first (o1 67 (.bin .quo 66 (.c (.int .u8 64)))) (.first (o1 68 (.bin .add 67 (.c
 (.int .u8 1)))) (.first (o1 69 (.slS (.c (.string ⟨#[48, 49, 50, 51, 52, 53, 54, 55]⟩)) (some 65) (some 68))) (.first (o1 70 (.bin .add 63 69)) (.first (im 71 6) (.first (o1 72
 (.bin .quo 71 (.c (.int .u8 8)))) (.first (o1 73 (.bin .rem 72 (.c (.int .u8 8)))) (.first (im 74 6) (.first (o1 75 (.bin .quo 74 (.c (.int .u8 8)))) (.first (o1 76 (.bin .rem 75
 (.c (.int .u8 8)))) (.first (o1 77 (.bin .add 76 (.c (.int .u8 1)))) (.first (o1 78 (.slS (.c (.string ⟨#[48, 49, 50, 51, 52, 53, 54, 55]⟩)) (some 73) (some 77))) (.first (o1 79
 (.bin .add 70 78)) (.first (im 80 6) (.first (o1 81 (.bin .rem 80 (.c (.int .u8 8)))) (.first (im 82 6) (.first (o1 83 (.bin .rem 82 (.c (.int .u8 8)))) (.first (o1 84 (.bin .add
 83 (.c (.int .u8 1)))) (.first (o1 85 (.slS (.c (.string ⟨#[48, 49, 50, 51, 52, 53, 54, 55]⟩)) (some 81) (some 84))) (.first (o1 86 (.bin .add 79 85)) (.alt (ia 4 86) .done
 .stop))))))))))))))))))))))))))]))) (.region [im 23 4, im 24 0, im 25 5, im 26 5, o1 27 (.bin .add 26 (kI 1)), o1 28 (.slS 24 (some 25) (some 27)), o1 29 (.bin .add 23 28), ia 4
 29]))))))))))))))))))))))))) (.region [im 13 5, o1 14 (.bin .add 13 (kI 1)), ia 5 14])))))))) (.seq (.seq (.region [im 87 3]) (.cond 87 (.seq (.region [im 88 0, ia 2 88]) .ret)
 .skip)) (.seq (.region [im 89 4, o1 90 (.bin .add 89 (.c (.string ⟨#[34]⟩))), ia 2 90]) .ret))))))
def Em : AFn := ⟨ Uc, Ge.erase, [.tmp 2], 1⟩
def Ip (P : Pg) (x : (List UInt8)) (K : (List UInt8) → Unit → Prop) : Prop :=
 Ao (D := (Bool × (List UInt8))) (fun J1 => Dm (D := (Bool × ((List UInt8) × Int))) ((!(x == ([] : List UInt8))), (([34] : List UInt8), (0 : Int))) (fun d3 J4 => (((decide (d3.2.2 < (x.length : Int))) = true → Ao (D := (Bool × (List UInt8))) (fun J5 => (0 ≤ d3.2.2 ∧ d3.2.2 < (x.length : Int)) ∧
 Ao (D := Bool) (fun J7 => ((d3.1 = true → Fn P Ab5 BX ((x.getD d3.2.2.toNat 0).toNat : Int) (fun (d8 : Bool) _ => J7 d8)) ∧ ((d3.1 = false → J7 false) ∧ True))) (fun d9 => Ao (D := (List UInt8)) (fun J10 => Ao (D := (List UInt8)) (fun J12 => (((cond (((x.getD d3.2.2.toNat 0).toNat : Int) == (34 : Int)) true (((x.getD d3.2.2.toNat 0).toNat : Int) == (92 : Int))) = true → (d3.2.1.length + List.length ([92] : List UInt8) ≤ 9223372036854775807) ∧
 (0 ≤ d3.2.2 ∧ d3.2.2 ≤ (i64.wrap (d3.2.2 + (1 : Int))) ∧ (i64.wrap (d3.2.2 + (1 : Int))) ≤ (x.length : Int)) ∧
 (List.length (d3.2.1 ++ ([92] : List UInt8)) + List.length (List.drop d3.2.2.toNat (List.take (Int.toNat (i64.wrap (d3.2.2 + (1 : Int)))) x)) ≤ 9223372036854775807) ∧
 J12 ((d3.2.1 ++ ([92] : List UInt8)) ++ (List.drop d3.2.2.toNat (List.take (Int.toNat (i64.wrap (d3.2.2 + (1 : Int)))) x)))) ∧ ((cond (((x.getD d3.2.2.toNat 0).toNat : Int) == (34 : Int)) true (((x.getD d3.2.2.toNat 0).toNat : Int) == (92 : Int))) = false → Ao (D := (List UInt8)) (fun J14 => (((((x.getD d3.2.2.toNat 0).toNat : Int) == (10 : Int)) = true → (d3.2.1.length + List.length ([92, 110] : List UInt8) ≤ 9223372036854775807) ∧
 J14 (d3.2.1 ++ ([92, 110] : List UInt8))) ∧ ((((x.getD d3.2.2.toNat 0).toNat : Int) == (10 : Int)) = false → Ao (D := (List UInt8)) (fun J16 => (((((x.getD d3.2.2.toNat 0).toNat : Int) == (9 : Int)) = true → (d3.2.1.length + List.length ([92, 116] : List UInt8) ≤ 9223372036854775807) ∧
 J16 (d3.2.1 ++ ([92, 116] : List UInt8))) ∧ ((((x.getD d3.2.2.toNat 0).toNat : Int) == (9 : Int)) = false → Ao (D := (List UInt8)) (fun J18 => (((cond (decide (((x.getD d3.2.2.toNat 0).toNat : Int) < (32 : Int))) true (decide (((x.getD d3.2.2.toNat 0).toNat : Int) > (126 : Int)))) = true → Ao (D := (List UInt8)) (fun J20 => (d3.2.1.length + List.length ([92] : List UInt8) ≤ 9223372036854775807) ∧
 ((64 : Int) ≠ 0) ∧
 ((64 : Int) ≠ 0) ∧
 (0 ≤ (u8.wrap (Int.tdiv ((x.getD d3.2.2.toNat 0).toNat : Int) (64 : Int))) ∧ (u8.wrap (Int.tdiv ((x.getD d3.2.2.toNat 0).toNat : Int) (64 : Int))) ≤ (u8.wrap ((u8.wrap (Int.tdiv ((x.getD d3.2.2.toNat 0).toNat : Int) (64 : Int))) + (1 : Int))) ∧ (u8.wrap ((u8.wrap (Int.tdiv ((x.getD d3.2.2.toNat 0).toNat : Int) (64 : Int))) + (1 : Int))) ≤ ((List.length ([48, 49, 50, 51, 52, 53, 54, 55] : List UInt8) : Nat) : Int)) ∧
 (List.length (d3.2.1 ++ ([92] : List UInt8)) + List.length (List.drop (Int.toNat (u8.wrap (Int.tdiv ((x.getD d3.2.2.toNat 0).toNat : Int) (64 : Int)))) (List.take (Int.toNat (u8.wrap ((u8.wrap (Int.tdiv ((x.getD d3.2.2.toNat 0).toNat : Int) (64 : Int))) + (1 : Int)))) ([48, 49, 50, 51, 52, 53, 54, 55] : List UInt8))) ≤ 9223372036854775807) ∧
 ((8 : Int) ≠ 0) ∧
 ((8 : Int) ≠ 0) ∧
 ((8 : Int) ≠ 0) ∧
 ((8 : Int) ≠ 0) ∧
 (0 ≤ (Int.tmod (u8.wrap (Int.tdiv ((x.getD d3.2.2.toNat 0).toNat : Int) (8 : Int))) (8 : Int)) ∧ (Int.tmod (u8.wrap (Int.tdiv ((x.getD d3.2.2.toNat 0).toNat : Int) (8 : Int))) (8 : Int)) ≤ (u8.wrap ((Int.tmod (u8.wrap (Int.tdiv ((x.getD d3.2.2.toNat 0).toNat : Int) (8 : Int))) (8 : Int)) + (1 : Int))) ∧ (u8.wrap ((Int.tmod (u8.wrap (Int.tdiv ((x.getD d3.2.2.toNat 0).toNat : Int) (8 : Int))) (8 : Int)) + (1 : Int))) ≤ ((List.length ([48, 49, 50, 51, 52, 53, 54, 55] : List UInt8) : Nat) : Int)) ∧
 (List.length ((d3.2.1 ++ ([92] : List UInt8)) ++ (List.drop (Int.toNat (u8.wrap (Int.tdiv ((x.getD d3.2.2.toNat 0).toNat : Int) (64 : Int)))) (List.take (Int.toNat (u8.wrap ((u8.wrap (Int.tdiv ((x.getD d3.2.2.toNat 0).toNat : Int) (64 : Int))) + (1 : Int)))) ([48, 49, 50, 51, 52, 53, 54, 55] : List UInt8)))) + List.length (List.drop (Int.toNat (Int.tmod (u8.wrap (Int.tdiv ((x.getD d3.2.2.toNat 0).toNat : Int) (8 : Int))) (8 : Int))) (List.take (Int.toNat (u8.wrap ((Int.tmod (u8.wrap (Int.tdiv ((x.getD d3.2.2.toNat 0).toNat : Int) (8 : Int))) (8 : Int)) + (1 : Int)))) ([48, 49, 50, 51, 52, 53, 54, 55] : List UInt8))) ≤ 9223372036854775807) ∧
 ((8 : Int) ≠ 0) ∧
 ((8 : Int) ≠ 0) ∧
 (0 ≤ (Int.tmod ((x.getD d3.2.2.toNat 0).toNat : Int) (8 : Int)) ∧ (Int.tmod ((x.getD d3.2.2.toNat 0).toNat : Int) (8 : Int)) ≤ (u8.wrap ((Int.tmod ((x.getD d3.2.2.toNat 0).toNat : Int) (8 : Int)) + (1 : Int))) ∧ (u8.wrap ((Int.tmod ((x.getD d3.2.2.toNat 0).toNat : Int) (8 : Int)) + (1 : Int))) ≤ ((List.length ([48, 49, 50, 51, 52, 53, 54, 55] : List UInt8) : Nat) : Int)) ∧
 (List.length (((d3.2.1 ++ ([92] : List UInt8)) ++ (List.drop (Int.toNat (u8.wrap (Int.tdiv ((x.getD d3.2.2.toNat 0).toNat : Int) (64 : Int)))) (List.take (Int.toNat (u8.wrap ((u8.wrap (Int.tdiv ((x.getD d3.2.2.toNat 0).toNat : Int) (64 : Int))) + (1 : Int)))) ([48, 49, 50, 51, 52, 53, 54, 55] : List UInt8)))) ++ (List.drop (Int.toNat (Int.tmod (u8.wrap (Int.tdiv ((x.getD d3.2.2.toNat 0).toNat : Int) (8 : Int))) (8 : Int))) (List.take (Int.toNat (u8.wrap ((Int.tmod (u8.wrap (Int.tdiv ((x.getD d3.2.2.toNat 0).toNat : Int) (8 : Int))) (8 : Int)) + (1 : Int)))) ([48, 49, 50, 51, 52, 53, 54, 55] : List UInt8)))) + List.length (List.drop (Int.toNat (Int.tmod ((x.getD d3.2.2.toNat 0).toNat : Int) (8 : Int))) (List.take (Int.toNat (u8.wrap ((Int.tmod ((x.getD d3.2.2.toNat 0).toNat : Int) (8 : Int)) + (1 : Int)))) ([48, 49, 50, 51, 52, 53, 54, 55] : List UInt8))) ≤ 9223372036854775807) ∧
 (J20 ((((d3.2.1 ++ ([92] : List UInt8)) ++ (List.drop (Int.toNat (u8.wrap (Int.tdiv ((x.getD d3.2.2.toNat 0).toNat : Int) (64 : Int)))) (List.take (Int.toNat (u8.wrap ((u8.wrap (Int.tdiv ((x.getD d3.2.2.toNat 0).toNat : Int) (64 : Int))) + (1 : Int)))) ([48, 49, 50, 51, 52, 53, 54, 55] : List UInt8)))) ++ (List.drop (Int.toNat (Int.tmod (u8.wrap (Int.tdiv ((x.getD d3.2.2.toNat 0).toNat : Int) (8 : Int))) (8 : Int))) (List.take (Int.toNat (u8.wrap ((Int.tmod (u8.wrap (Int.tdiv ((x.getD d3.2.2.toNat 0).toNat : Int) (8 : Int))) (8 : Int)) + (1 : Int)))) ([48, 49, 50, 51, 52, 53, 54, 55] : List UInt8)))) ++ (List.drop (Int.toNat (Int.tmod ((x.getD d3.2.2.toNat 0).toNat : Int) (8 : Int))) (List.take (Int.toNat (u8.wrap ((Int.tmod ((x.getD d3.2.2.toNat 0).toNat : Int) (8 : Int)) + (1 : Int)))) ([48, 49, 50, 51, 52, 53, 54, 55] : List UInt8))))) ∧ True) (fun d21 => J18 d21)) ∧ ((cond (decide (((x.getD d3.2.2.toNat 0).toNat : Int) < (32 : Int))) true (decide (((x.getD d3.2.2.toNat 0).toNat : Int) > (126 : Int)))) = false → (0 ≤ d3.2.2 ∧ d3.2.2 ≤ (i64.wrap (d3.2.2 + (1 : Int))) ∧ (i64.wrap (d3.2.2 + (1 : Int))) ≤ (x.length : Int)) ∧
 (d3.2.1.length + List.length (List.drop d3.2.2.toNat (List.take (Int.toNat (i64.wrap (d3.2.2 + (1 : Int)))) x)) ≤ 9223372036854775807) ∧
 J18 (d3.2.1 ++ (List.drop d3.2.2.toNat (List.take (Int.toNat (i64.wrap (d3.2.2 + (1 : Int)))) x)))))) (fun d19 => J16 d19)))) (fun d17 => J14 d17)))) (fun d15 => J12 d15)))) (fun d13 => J10 d13)) (fun d11 => J5 ((cond d3.1 d9 false), d11)))) (fun d6 => J4 (d6.1, (d6.2, (i64.wrap (d3.2.2 + (1 : Int))))))) ∧ ((decide (d3.2.2 < (x.length : Int))) = false → J1 (d3.1, d3.2.1))))) (fun d2 => ((d2.1 = true → K x ()) ∧ (d2.1 = false → (d2.2.length + List.length ([34] : List UInt8) ≤ 9223372036854775807) ∧
 K (d2.2 ++ ([34] : List UInt8)) ())))
theorem Mc {P : Pg} (h : Has P Em) {x : DP BK.ps} {K : DP BK.rs → DP (ptrs BK.ps) → Prop} (hw : Ip P x K) : Fn P Uc BK x K :=
 CU (c := Ge) h rfl rfl (by kernel_rfl) (Eq.mpr (show CG P Em BK Ge x K = _ by kernel_rfl) hw)
def FG : BE :=
 (.seq (.region [o1 2 (.asg (.c (.string ⟨#[]⟩)))]) (.seq (.seq (.region [im 3 0, o1 4 (.bin .lss 3 (kI 0)), im 5 4, gf 6 5 (.mv 0), gf 7 5 (.bin .gtr 6 (kI 2147483647)), o1 8
 (.pick 5 kT 7)]) (.cond 8 (.seq (.region [o1 2 (.asg (.c (.string ⟨#[]⟩)))]) .ret) .skip)) (.seq (.seq (.region [im 9 0, o1 10 (.bin .lss 9 (kI 10))]) (.cond 10 (.seq (.region [im
 11 0, im 12 0, o1 13 (.bin .add 12 (kI 1)), o1 14 (.slS (.c (.string ⟨#[48, 49, 50, 51, 52, 53, 54, 55, 56, 57]⟩)) (some 11) (some 13)), ia 2 14]) .ret) .skip)) (.seq (.frame (rg
 [2] 15 10) [] false (.join [.sl 2 false .str .leaf] (.draw [(.first (im 15 0) (.first (o1 16 (.bin .quo 15 (kI 10))) (.first (im 18 0) (.first (o1 19 (.bin .rem 18 (kI 10)))
 (.first (im 20 0) (.first (o1 21 (.bin .rem 20 (kI 10))) (.first (o1 22 (.bin .add 21 (kI 1))) (.first (o1 23 (.slS (.c (.string ⟨#[48, 49, 50, 51, 52, 53, 54, 55, 56, 57]⟩)) (some
 19) (some 22))) (.alt (oS ⟨some 17, .call zS1 [16], none⟩ AK) (.first (o1 24 (.bin .add 17 23)) (.alt (ia 2 24) .done .stop))
 .stop)))))))))]))) .ret))))
def DH : AFn := ⟨ zS1, FG.erase, [.tmp 2], 1⟩
def Hh (P : Pg) (x : Int) (K : (List UInt8) → Unit → Prop) : Prop :=
 (((cond (decide (x < (0 : Int))) true (decide (x > (2147483647 : Int)))) = true → K ([] : List UInt8) ()) ∧ ((cond (decide (x < (0 : Int))) true (decide (x > (2147483647 : Int)))) = false → (((decide (x < (10 : Int))) = true → (0 ≤ x ∧ x ≤ (i64.wrap (x + (1 : Int))) ∧ (i64.wrap (x + (1 : Int))) ≤ ((List.length ([48, 49, 50, 51, 52, 53, 54, 55, 56, 57] : List UInt8) : Nat) : Int)) ∧
 K (List.drop x.toNat (List.take (Int.toNat (i64.wrap (x + (1 : Int)))) ([48, 49, 50, 51, 52, 53, 54, 55, 56, 57] : List UInt8))) ()) ∧ ((decide (x < (10 : Int))) = false → Ao (D := (List UInt8)) (fun J1 => ((10 : Int) ≠ 0) ∧
 ((10 : Int) ≠ 0) ∧
 ((10 : Int) ≠ 0) ∧
 (0 ≤ (Int.tmod x (10 : Int)) ∧ (Int.tmod x (10 : Int)) ≤ (i64.wrap ((Int.tmod x (10 : Int)) + (1 : Int))) ∧ (i64.wrap ((Int.tmod x (10 : Int)) + (1 : Int))) ≤ ((List.length ([48, 49, 50, 51, 52, 53, 54, 55, 56, 57] : List UInt8) : Nat) : Int)) ∧
 (Fn P zS1 AK (i64.wrap (Int.tdiv x (10 : Int))) (fun (d3 : (List UInt8)) (e4 : Unit) => (d3.length + List.length (List.drop (Int.toNat (Int.tmod x (10 : Int))) (List.take (Int.toNat (i64.wrap ((Int.tmod x (10 : Int)) + (1 : Int)))) ([48, 49, 50, 51, 52, 53, 54, 55, 56, 57] : List UInt8))) ≤ 9223372036854775807) ∧
 (J1 (d3 ++ (List.drop (Int.toNat (Int.tmod x (10 : Int))) (List.take (Int.toNat (i64.wrap ((Int.tmod x (10 : Int)) + (1 : Int)))) ([48, 49, 50, 51, 52, 53, 54, 55, 56, 57] : List UInt8))))) ∧ True)) ∧ True) (fun d2 => K d2 ())))))
theorem Lm {P : Pg} (h : Has P DH) {x : DP AK.ps} {K : DP AK.rs → DP (ptrs AK.ps) → Prop} (hw : Hh P x K) : Fn P zS1 AK x K :=
 CU (c := FG) h rfl rfl (by kernel_rfl) (Eq.mpr (show CG P DH AK FG x K = _ by kernel_rfl) hw)
def GW : BE :=
 (.seq (.region [o1 2 (.asg kF)]) (.seq (.region [im 3 0, o1 4 (.bin .geq 3 (kI 0)), im 5 4, gt 6 5 (.mv 0), gt 7 5 (.bin .leq 6 (kI 2147483647)), o1 8 (.pick 5 7 kF), ia 2 8])
 .ret))
def ET : AFn := ⟨ zS5, GW.erase, [.tmp 2], 1⟩
def Je (P : Pg) (x : Int) (K : Bool → Unit → Prop) : Prop :=
 K (cond (decide (x ≥ (0 : Int))) (decide (x ≤ (2147483647 : Int))) false) ()
theorem Nc {P : Pg} (h : Has P ET) {x : DP Be.ps} {K : DP Be.rs → DP (ptrs Be.ps) → Prop} (hw : Je P x K) : Fn P zS5 Be x K :=
 CU (c := GW) h rfl rfl (by kernel_rfl) (Eq.mpr (show CG P ET Be GW x K = _ by kernel_rfl) hw)
def FH : BE :=
 (.seq (.region [o1 1 (.box 0), o1 2 (.asg (.c (.string ⟨#[]⟩))), ia 3 (kI 0)]) (.seq (.region [fa 11 0 1, ld 12 11, fa 13 4 1, ld 14 13, oS ⟨some 15, .call
 zS8 [12, 14], none⟩ Bp, im 10 15, o1 16 (.ext 10 0), o1 17 (.ext 10 1), ia 4 16, ia 5 17]) (.seq (.region [o1 18 (.load true 6 1), o1 6
 (.alloc [(.int .i64 0), (.int .i64 0), (.int .i64 0), (.int .i64 0), (.bool false), (.string ⟨#[]⟩)]), o0 ⟨none, .store 6 6 18, none⟩]) (.seq (.region [fa 19 0 6, o0 ⟨none, .store
 1 19 (kI 0), none⟩]) (.seq (.seq (.region [fa 20 0 1, ld 21 20, o1 22 (.bin .eql 21 (kI 4))]) (.frame [23] [1006] false (.join [.bx 1006 AJ .leaf] (.cond 22 (.region [fa 23 4
 6, o0 ⟨none, .store 1 23 kF, none⟩]) .skip)))) (.seq (.region [im 24 4, ia 7 24]) (.seq (.region [im 25 4, o1 26 (.bin .neq 25 (.c (.string ⟨#[]⟩))), ia 8 26]) (.seq (.seq (.region
 [ia 9 (kI 0)]) (.frame (rg [7, 8, 9] 27 61) [1006] false (.join [.sl 7 false .str .leaf, .sl 8 false .bool .leaf, .bx 1006 AJ .leaf] (.block 0 (.loop [.sl 7 false .str .leaf,
 .sl 8 false .bool .leaf, .si 9, .bx 1006 AJ .leaf] (.seq (.seq (.region [im 27 9, im 28 5, o1 29 (.GN 28), o1 30 (.bin .lss 27 29)]) (.cond 30 .skip (.exit 0))) (.seq
 (.frame (rg [7, 8] 33 55) [1006] false (.join [.sl 7 false .str .leaf, .sl 8 false .bool .leaf, .bx 1006 AJ .leaf] (.block 1 (.seq (.region [im 33 5, im 34 9, o1 35 (.ixS 33
 34)]) (.frame (rg [7, 8] 36 52) [1006] false (.join [.sl 7 false .str .leaf, .sl 8 false .bool .leaf, .bx 1006 AJ .leaf] (.block 2 (.seq (.region [o1 44 (.bin .eql 35 (.c
 (.int .u8 97))), ia 43 44]) (.frame (rg [7, 8, 36, 37, 38, 39, 40, 41, 42] 45 43) [1006] false (.join [.sl 7 false .str .leaf, .sl 8 false .bool .leaf, .bx 1006 AJ .leaf]
 (.cond 43 (.seq (.region [im 45 7, o1 46 (.bin .add 45 (.c (.string ⟨#[32]⟩))), fa 47 1 1, ld 48 47, oS ⟨some 49, .call zS1 [48], none⟩
 AK, o1 50 (.bin .add 46 49), ia 7 50]) (.seq (.region [im 51 8, im 52 51, gt 53 52 (.fAddr 1 1), gt 54 52 (.load false 1 53), oS ⟨some 55, .call
 zS5 [54], some (52, true)⟩ Be, o1 56 (.pick 52 55 kF), ia 8 56]) (.region [fa 57 1 6, o0 ⟨none, .store 1 57 (kI 0), none⟩]))) (.seq (.region
 [o1 59 (.bin .eql 35 (.c (.int .u8 98))), ia 58 59]) (.frame (rg [7, 8, 36, 37, 38, 39, 40, 41, 42] 60 28) [1006] false (.join [.sl 7 false .str .leaf, .sl 8 false .bool .leaf, .bx
 1006 AJ .leaf] (.cond 58 (.seq (.region [im 60 7, o1 61 (.bin .add 60 (.c (.string ⟨#[32]⟩))), fa 62 2 1, ld 63 62, oS ⟨some 64, .call zS1 [63],
 none⟩ AK, o1 65 (.bin .add 61 64), ia 7 65]) (.seq (.region [im 66 8, im 67 66, gt 68 67 (.fAddr 2 1), gt 69 67 (.load false 1 68), oS ⟨some 70, .call
 zS5 [69], some (67, true)⟩ Be, o1 71 (.pick 67 70 kF), ia 8 71]) (.region [fa 72 2 6, o0 ⟨none, .store 1 72 (kI 0), none⟩]))) (.seq (.region
 [o1 74 (.bin .eql 35 (.c (.int .u8 99))), ia 73 74]) (.frame (rg [7, 8, 36, 37, 38, 39, 40, 41, 42] 75 13) [1006] false (.join [.sl 7 false .str .leaf, .sl 8 false .bool .leaf, .bx
 1006 AJ .leaf] (.cond 73 (.seq (.region [im 75 7, o1 76 (.bin .add 75 (.c (.string ⟨#[32]⟩))), fa 77 3 1, ld 78 77, oS ⟨some 79, .call zS1 [78],
 none⟩ AK, o1 80 (.bin .add 76 79), ia 7 80]) (.seq (.region [im 81 8, im 82 81, gt 83 82 (.fAddr 3 1), gt 84 82 (.load false 1 83), oS ⟨some 85, .call
 zS5 [84], some (82, true)⟩ Be, o1 86 (.pick 82 85 kF), ia 8 86]) (.region [fa 87 3 6, o0 ⟨none, .store 1 87 (kI 0), none⟩]))) (.seq (.region
 [im 36 7, o1 37 (.bin .add 36 (.c (.string ⟨#[32]⟩))), fa 38 5 1, ld 39 38, oS ⟨some 40, .call Uc [39], none⟩ BK, o1 41 (.bin .add 37 40),
 ia 7 41]) (.region [fa 42 5 6, o0 ⟨none, .store 1 42 (.c (.string ⟨#[]⟩)), none⟩]))))))))))))))))))))) (.region [im 31 9, o1 32 (.bin .add 31 (kI 1)), ia 9 32])))))))) (.seq (.seq
 (.region [im 88 8, o1 89 (.un .not 88), im 90 89, gf 91 90 (.fAddr 1 6), gf 92 90 (.load false 1 91), gf 93 90 (.bin .neq 92 (kI 0)), o1 94 (.pick 90 kT 93), im 95 94, gf 96 95
 (.fAddr 2 6), gf 97 95 (.load false 1 96), gf 98 95 (.bin .neq 97 (kI 0)), o1 99 (.pick 95 kT 98), im 100 99, gf 101 100 (.fAddr 3 6), gf 102 100 (.load false 1 101), gf 103 100
 (.bin .neq 102 (kI 0)), o1 104 (.pick 100 kT 103), im 105 104, gf 106 105 (.fAddr 4 6), gf 107 105 (.load false 1 106), o1 108 (.pick 105 kT 107), im 109 108, gf 110 109 (.fAddr 5
 6), gf 111 109 (.load false 1 110), o0 ⟨some 112, .bin .neq 111 (.c (.string ⟨#[]⟩)), some (109, false)⟩, o1 113 (.pick 109 kT 112)]) (.cond 113 (.seq (.region [o1 2 (.asg (.c
 (.string ⟨#[]⟩))), ia 3 (kI 2)]) .ret) .skip)) (.seq (.region [im 114 7, ia 2 114, ia 3 (kI 0)]) .ret))))))))))
def DI : AFn := ⟨ Ud, FH.erase, [.tmp 2, .tmp 3], 1⟩
def Hi (P : Pg) (x : Command) (K : ((List UInt8) × Int) → Unit → Prop) : Prop :=
 Fn P zS8 Bp (x.1, x.2.2.2.2.1) (fun (d1 : ((List UInt8) × (List UInt8))) (e2 : Unit) => Ao (D := Command) (fun J3 => (((x.1 == (4 : Int)) = true → J3 ((0 : Int), (x.2.1, (x.2.2.1, (x.2.2.2.1, (false, x.2.2.2.2.2)))))) ∧ ((x.1 == (4 : Int)) = false → J3 ((0 : Int), x.2)))) (fun d4 => Ao (D := ((List UInt8) × (Bool × Command))) (fun J5 => Dm (D := ((List UInt8) × (Bool × (Int × Command)))) (d1.1, ((!(d1.1 == ([] : List UInt8))), ((0 : Int), d4))) (fun d7 J8 => (((decide (d7.2.2.1 < (d1.2.length : Int))) = true → Ao (D := ((List UInt8) × (Bool × Command))) (fun J9 => (0 ≤ d7.2.2.1 ∧ d7.2.2.1 < (d1.2.length : Int)) ∧
 Ao (D := ((List UInt8) × (Bool × Command))) (fun J11 => Ao (D := ((List UInt8) × (Bool × Command))) (fun J13 => (((((d1.2.getD d7.2.2.1.toNat 0).toNat : Int) == (97 : Int)) = true → (d7.1.length + List.length ([32] : List UInt8) ≤ 9223372036854775807) ∧
 Fn P zS1 AK x.2.1 (fun (d15 : (List UInt8)) (e16 : Unit) => (List.length (d7.1 ++ ([32] : List UInt8)) + d15.length ≤ 9223372036854775807) ∧
 Ao (D := Bool) (fun J17 => ((d7.2.1 = true → Fn P zS5 Be x.2.1 (fun (d18 : Bool) _ => J17 d18)) ∧ ((d7.2.1 = false → J17 false) ∧ True))) (fun d19 => J13 (((d7.1 ++ ([32] : List UInt8)) ++ d15), ((cond d7.2.1 d19 false), (d7.2.2.2.1, ((0 : Int), d7.2.2.2.2.2))))))) ∧ ((((d1.2.getD d7.2.2.1.toNat 0).toNat : Int) == (97 : Int)) = false → Ao (D := ((List UInt8) × (Bool × Command))) (fun J20 => (((((d1.2.getD d7.2.2.1.toNat 0).toNat : Int) == (98 : Int)) = true → (d7.1.length + List.length ([32] : List UInt8) ≤ 9223372036854775807) ∧
 Fn P zS1 AK x.2.2.1 (fun (d22 : (List UInt8)) (e23 : Unit) => (List.length (d7.1 ++ ([32] : List UInt8)) + d22.length ≤ 9223372036854775807) ∧
 Ao (D := Bool) (fun J24 => ((d7.2.1 = true → Fn P zS5 Be x.2.2.1 (fun (d25 : Bool) _ => J24 d25)) ∧ ((d7.2.1 = false → J24 false) ∧ True))) (fun d26 => J20 (((d7.1 ++ ([32] : List UInt8)) ++ d22), ((cond d7.2.1 d26 false), (d7.2.2.2.1, (d7.2.2.2.2.1, ((0 : Int), d7.2.2.2.2.2.2)))))))) ∧ ((((d1.2.getD d7.2.2.1.toNat 0).toNat : Int) == (98 : Int)) = false → Ao (D := ((List UInt8) × (Bool × Command))) (fun J27 => (((((d1.2.getD d7.2.2.1.toNat 0).toNat : Int) == (99 : Int)) = true → (d7.1.length + List.length ([32] : List UInt8) ≤ 9223372036854775807) ∧
 Fn P zS1 AK x.2.2.2.1 (fun (d29 : (List UInt8)) (e30 : Unit) => (List.length (d7.1 ++ ([32] : List UInt8)) + d29.length ≤ 9223372036854775807) ∧
 Ao (D := Bool) (fun J31 => ((d7.2.1 = true → Fn P zS5 Be x.2.2.2.1 (fun (d32 : Bool) _ => J31 d32)) ∧ ((d7.2.1 = false → J31 false) ∧ True))) (fun d33 => J27 (((d7.1 ++ ([32] : List UInt8)) ++ d29), ((cond d7.2.1 d33 false), (d7.2.2.2.1, (d7.2.2.2.2.1, (d7.2.2.2.2.2.1, ((0 : Int), d7.2.2.2.2.2.2.2))))))))) ∧ ((((d1.2.getD d7.2.2.1.toNat 0).toNat : Int) == (99 : Int)) = false → (d7.1.length + List.length ([32] : List UInt8) ≤ 9223372036854775807) ∧
 Fn P Uc BK x.2.2.2.2.2 (fun (d34 : (List UInt8)) (e35 : Unit) => (List.length (d7.1 ++ ([32] : List UInt8)) + d34.length ≤ 9223372036854775807) ∧
 J27 (((d7.1 ++ ([32] : List UInt8)) ++ d34), (d7.2.1, (d7.2.2.2.1, (d7.2.2.2.2.1, (d7.2.2.2.2.2.1, (d7.2.2.2.2.2.2.1, (d7.2.2.2.2.2.2.2.1, ([] : List UInt8)))))))))))) (fun d28 => J20 d28)))) (fun d21 => J13 d21)))) (fun d14 => J11 d14)) (fun d12 => J9 d12)) (fun d10 => J8 (d10.1, (d10.2.1, ((i64.wrap (d7.2.2.1 + (1 : Int))), d10.2.2))))) ∧ ((decide (d7.2.2.1 < (d1.2.length : Int))) = false → J5 (d7.1, (d7.2.1, d7.2.2.2)))))) (fun d6 => (((cond (cond (cond (cond (cond (!d6.2.1) true (d6.2.2.2.1 != (0 : Int))) true (d6.2.2.2.2.1 != (0 : Int))) true (d6.2.2.2.2.2.1 != (0 : Int))) true d6.2.2.2.2.2.2.1) true (!(d6.2.2.2.2.2.2.2 == ([] : List UInt8)))) = true → K (([] : List UInt8), (2 : Int)) ()) ∧ ((cond (cond (cond (cond (cond (!d6.2.1) true (d6.2.2.2.1 != (0 : Int))) true (d6.2.2.2.2.1 != (0 : Int))) true (d6.2.2.2.2.2.1 != (0 : Int))) true d6.2.2.2.2.2.2.1) true (!(d6.2.2.2.2.2.2.2 == ([] : List UInt8)))) = false → K (d6.1, (0 : Int)) ())))))
theorem Ln {P : Pg} (h : Has P DI) {x : DP A5.ps} {K : DP A5.rs → DP (ptrs A5.ps) → Prop} (hw : Hi P x K) : Fn P Ud A5 x K :=
 CU (c := FH) h rfl rfl (by kernel_rfl) (Eq.mpr (show CG P DI A5 FH x K = _ by kernel_rfl) hw)
def ZO : BE :=
 (.seq (.region [o1 2 (.asg kF)]) (.seq (.region [im 3 0, oS ⟨some 4, .call "strings.HasSuffix" [3, (.c (.string ⟨#[10]⟩))], none⟩ YM, ia 2 4]) .ret))
def Zq : AFn := ⟨ Ab6, ZO.erase, [.tmp 2], 1⟩
def Aac (P : Pg) (x : (List UInt8)) (K : Bool → Unit → Prop) : Prop :=
 Fn P "strings.HasSuffix" YM (x, ([10] : List UInt8)) (fun (d1 : Bool) (e2 : Unit) => K d1 ())
theorem AaN {P : Pg} (h : Has P Zq) {x : DP YZ.ps} {K : DP YZ.rs → DP (ptrs YZ.ps) → Prop} (hw : Aac P x K) : Fn P Ab6 YZ x K :=
 CU (c := ZO) h rfl rfl (by kernel_rfl) (Eq.mpr (show CG P Zq YZ ZO x K = _ by kernel_rfl) hw)
def ZN : BE :=
 (.seq (.region [ia 2 (kI 0)]) (.seq (.region [im 4 0, oS ⟨some 5, .call "strings.Count" [4, (.c (.string ⟨#[10]⟩))], none⟩ Y1, ia 3 5]) (.seq (.seq (.region [im 6 0,
 o1 7 (.bin .neq 6 (.c (.string ⟨#[]⟩))), im 8 7, gt 9 8 (.mv 0), oS ⟨some 10, .call Ab6 [9], some (8, true)⟩ YZ, gt 11 8 (.un .not 10), o1 12 (.pick 8
 11 kF)]) (.frame [3, 13, 14] [] false (.join [.si 3] (.cond 12 (.region [im 13 3, o1 14 (.bin .add 13 (kI 1)), ia 3 14]) .skip)))) (.seq (.seq (.region [im 15 0, o1 16 (.GN 15),
 o1 17 (.bin .gtr 16 (kI 1048576)), im 18 17, gf 19 18 (.mv 3), gf 20 18 (.bin .gtr 19 (kI 4096)), o1 21 (.pick 18 kT 20)]) (.cond 21 (.seq (.region [ia 2 (kI 1)]) .ret) .skip))
 (.seq (.region [ia 2 (kI 0)]) .ret)))))
def Zp : AFn := ⟨ Ab7, ZN.erase, [.tmp 2], 1⟩
def Aab (P : Pg) (x : (List UInt8)) (K : Int → Unit → Prop) : Prop :=
 Fn P "strings.Count" Y1 (x, ([10] : List UInt8)) (fun (d1 : Int) (e2 : Unit) => Ao (D := Bool) (fun J3 => (((!(x == ([] : List UInt8))) = true → Fn P Ab6 YZ x (fun (d4 : Bool) _ => J3 d4)) ∧ (((!(x == ([] : List UInt8))) = false → J3 false) ∧ True))) (fun d5 => Ao (D := Int) (fun J6 => (((cond (!(x == ([] : List UInt8))) (!d5) false) = true → J6 (i64.wrap (d1 + (1 : Int)))) ∧ ((cond (!(x == ([] : List UInt8))) (!d5) false) = false → J6 d1))) (fun d7 => (((cond (decide ((x.length : Int) > (1048576 : Int))) true (decide (d7 > (4096 : Int)))) = true → K (1 : Int) ()) ∧ ((cond (decide ((x.length : Int) > (1048576 : Int))) true (decide (d7 > (4096 : Int)))) = false → K (0 : Int) ())))))
theorem AaM {P : Pg} (h : Has P Zp) {x : DP YY.ps} {K : DP YY.rs → DP (ptrs YY.ps) → Prop} (hw : Aab P x K) : Fn P Ab7 YY x K :=
 CU (c := ZN) h rfl rfl (by kernel_rfl) (Eq.mpr (show CG P Zp YY ZN x K = _ by kernel_rfl) hw)
def ZP : BE :=
 (.seq (.region [o1 2 (.asg (.c (.slice none 0 0))), ia 3 (kI 0)]) (.seq (.seq (.region [im 6 0, oS ⟨some 7, .call Ab7 [6], none⟩ YY, ia 4 7]) (.seq
 (.region [im 8 4, o1 9 (.bin .neq 8 (kI 0))]) (.cond 9 (.seq (.region [im 10 4, o1 2 (.asg (.c (.slice none 0 0))), ia 3 10]) .ret) .skip))) (.seq (.region [im 11 0, oS ⟨some 12,
 .call "strings.SplitAfter" [11, (.c (.string ⟨#[10]⟩))], none⟩ YX, ia 5 12]) (.seq (.seq (.region [im 13 5, im 14 5, o1 15 (.lenK 14), o1 16 (.bin .sub 15 (kI
 1)), o1 17 (.ixA 1 13 16), ld 18 17, o1 19 (.bin .eql 18 (.c (.string ⟨#[]⟩)))]) (.frame (rg [5] 20 5) [] false (.join [.sl 5 false (.sl .str) tO] (.cond 19 (.region [im 20 5, im
 21 5, o1 22 (.lenK 21), o1 23 (.bin .sub 22 (kI 1)), o1 24 (.slK 1 20 none (some 23)), ia 5 24]) .skip)))) (.seq (.region [im 25 5, ia 2 25, ia 3 (kI 0)]) .ret)))))
def Zr : AFn := ⟨ Ue, ZP.erase, [.tmp 2, .tmp 3], 1⟩
def Aad (P : Pg) (x : (List UInt8)) (K : ((List (List UInt8)) × Int) → Unit → Prop) : Prop :=
 Fn P Ab7 YY x (fun (d1 : Int) (e2 : Unit) => (((d1 != (0 : Int)) = true → K ([], d1) ()) ∧ ((d1 != (0 : Int)) = false → Fn P "strings.SplitAfter" YX (x, ([10] : List UInt8)) (fun (d3 : (List (List UInt8))) (e4 : Unit) => (0 ≤ (i64.wrap ((d3.length : Int) - (1 : Int))) ∧ (i64.wrap ((d3.length : Int) - (1 : Int))) < (d3.length : Int)) ∧
 ((Int.toNat (i64.wrap ((d3.length : Int) - (1 : Int)))) < d3.length) ∧
 Ao (D := (List (List UInt8))) (fun J5 => ((((List.getD d3 (Int.toNat (i64.wrap ((d3.length : Int) - (1 : Int)))) []) == ([] : List UInt8)) = true → (0 ≤ (i64.wrap ((d3.length : Int) - (1 : Int))) ∧ (i64.wrap ((d3.length : Int) - (1 : Int))) ≤ (d3.length : Int)) ∧
 (0 + (Int.toNat (i64.wrap ((d3.length : Int) - (1 : Int)))) ≤ d3.length) ∧
 J5 (List.take (Int.toNat (i64.wrap ((d3.length : Int) - (1 : Int)))) (List.drop 0 d3))) ∧ (((List.getD d3 (Int.toNat (i64.wrap ((d3.length : Int) - (1 : Int)))) []) == ([] : List UInt8)) = false → J5 d3))) (fun d6 => K (d6, (0 : Int)) ())))))
theorem AaO {P : Pg} (h : Has P Zr) {x : DP YP.ps} {K : DP YP.rs → DP (ptrs YP.ps) → Prop} (hw : Aad P x K) : Fn P Ue YP x K :=
 CU (c := ZP) h rfl rfl (by kernel_rfl) (Eq.mpr (show CG P Zr YP ZP x K = _ by kernel_rfl) hw)
def Zk : BE :=
 (.seq (.region [o1 2 (.asg (.c (.slice none 0 0))), ia 3 (kI 0)]) (.seq (.seq (.region [im 8 0, o1 9 (.GN 8), o1 10 (.bin .gtr 9 (kI 65536))]) (.cond 10 (.seq (.region [o1 2
 (.asg (.c (.slice none 0 0))), ia 3 (kI 1)]) .ret) .skip)) (.seq (.region [im 12 0, oS ⟨some 13, .call Ue [12], none⟩ YP, im 11 13, o1 14 (.ext 11 0),
 o1 15 (.ext 11 1), ia 4 14, ia 5 15]) (.seq (.seq (.region [im 16 5, o1 17 (.bin .neq 16 (kI 0)), im 18 17, gf 19 18 (.mv 4), gf 20 18 (.lenK 19), gf 21 18 (.bin .gtr 20 (kI 100)),
 o1 22 (.pick 18 kT 21)]) (.cond 22 (.seq (.region [o1 2 (.asg (.c (.slice none 0 0))), ia 3 (kI 1)]) .ret) .skip)) (.seq (.seq (.region [im 23 4, o1 24 (.lenK 23), o1 25 (.mv (kI
 0))]) (.frame (rg [4, 6, 7, 23] 25 11) [] false (.join [.sl 4 false (.sl .str) tO] (.block 0 (.loop [.sl 4 false (.sl .str) tO, .rf 23 ⟨.slot 4 0, []⟩ .leaf .str, .si 25] (.seq
 (.region [o1 26 (.bin .lss 25 24)]) (.seq (.cond 26 .skip (.exit 0)) (.seq (.frame (rg [4, 6, 7, 23] 27 8) [] false (.join [.sl 4 false (.sl .str) tO, .rf 23 ⟨.slot 4 0, []⟩ .leaf
 .str] (.block 1 (.seq (.region [im 27 25, o1 28 (.ixA 1 23 25), ld 29 28, ia 6 27, ia 7 29]) (.region [im 30 4, im 31 6, im 32 7, oS ⟨some 33, .call "strings.TrimSuffix" [32, (.c
 (.string ⟨#[10]⟩))], none⟩ YL, o1 34 (.ixA 1 30 31), o0 ⟨none, .store 1 34 33, none⟩]))))) (.region [o1 35 (.bin .add 25 (kI 1)), im 25 35]))))))))) (.seq
 (.region [im 36 4, ia 2 36, ia 3 (kI 0)]) .ret))))))
def Y4 : AFn := ⟨ Ab8, Zk.erase, [.tmp 2, .tmp 3], 1⟩
def ZQ (P : Pg) (x : (List UInt8)) (K : ((List (List UInt8)) × Int) → Unit → Prop) : Prop :=
 (((decide ((x.length : Int) > (65536 : Int))) = true → K ([], (1 : Int)) ()) ∧ ((decide ((x.length : Int) > (65536 : Int))) = false → Fn P Ue YP x (fun (d1 : ((List (List UInt8)) × Int)) (e2 : Unit) => (((cond (d1.2 != (0 : Int)) true (decide ((d1.1.length : Int) > (100 : Int)))) = true → K ([], (1 : Int)) ()) ∧ ((cond (d1.2 != (0 : Int)) true (decide ((d1.1.length : Int) > (100 : Int)))) = false → Ao (D := (List (List UInt8))) (fun J3 => Dm (D := ((List (List UInt8)) × (Int × Int))) (d1.1, ((d1.1.length : Int), (0 : Int))) (fun d5 J6 => (((decide (d5.2.2 < (d1.1.length : Int))) = true → Ao (D := ((List (List UInt8)) × Int)) (fun J7 => (0 ≤ d5.2.2 ∧ d5.2.2 < ((d5.2.1.toNat : Nat) : Int)) ∧
 ((0 + Int.toNat d5.2.2) < d5.1.length) ∧
 Fn P "strings.TrimSuffix" YL ((List.getD d5.1 (0 + Int.toNat d5.2.2) []), ([10] : List UInt8)) (fun (d9 : (List UInt8)) (e10 : Unit) => (0 ≤ d5.2.2 ∧ d5.2.2 < (d5.1.length : Int)) ∧
 (d5.2.2.toNat < d5.1.length) ∧
 J7 ((List.set d5.1 d5.2.2.toNat d9), ((d5.2.1.toNat : Nat) : Int)))) (fun d8 => J6 (d8.1, (((d8.2.toNat : Nat) : Int), (i64.wrap (d5.2.2 + (1 : Int))))))) ∧ ((decide (d5.2.2 < (d1.1.length : Int))) = false → J3 d5.1)))) (fun d4 => K (d4, (0 : Int)) ()))))))
theorem Aao {P : Pg} (h : Has P Y4) {x : DP YI.ps} {K : DP YI.rs → DP (ptrs YI.ps) → Prop} (hw : ZQ P x K) : Fn P Ab8 YI x K :=
 CU (c := Zk) h rfl rfl (by kernel_rfl) (Eq.mpr (show CG P Y4 YI Zk x K = _ by kernel_rfl) hw)
def Zc : BE :=
 (.seq (.region [o1 2 (.asg (.c (.slice none 0 0))), ia 3 (kI 0), ia 4 (kI 0)]) (.seq (.region [im 13 0, oS ⟨some 14, .call Ab8 [13], none⟩ YI, im
 12 14, o1 15 (.ext 12 0), o1 16 (.ext 12 1), ia 5 15, ia 6 16]) (.seq (.seq (.region [im 17 6, o1 18 (.bin .neq 17 (kI 0))]) (.cond 18 (.seq (.region [im 19 6, o1 2 (.asg (.c
 (.slice none 0 0))), ia 3 (kI 0), ia 4 19]) .ret) .skip)) (.seq (.region [o1 7 (.asg (.c (.slice none 0 0)))]) (.seq (.seq (.region [im 20 5, o1 21 (.lenK 20), o1 22 (.mv (kI 0))])
 (.frame (rg [2, 3, 4, 7, 8, 9, 10, 11] 22 20) [1010] false (.join [.sl 2 false (.sl AJ) tO, .si 3, .si 4, .sl 7 false (.sl AJ) tO] (.block 0 (.loop [.sl 2 false (.sl
 AJ) tO, .si 3, .si 4, .sl 7 false (.sl AJ) tO, .si 22] (.seq (.region [o1 23 (.bin .lss 22 21)]) (.seq (.cond 23 .skip (.exit 0)) (.seq (.frame (rg [2, 3, 4, 7, 8, 9,
 10, 11] 24 17) [1010] false (.join [.sl 2 false (.sl AJ) tO, .si 3, .si 4, .sl 7 false (.sl AJ) tO] (.block 1 (.seq (.region [im 24 22, o1 25 (.ixA 1 20 22), ld 26 25,
 ia 8 24, ia 9 26]) (.seq (.region [im 28 9, oS ⟨some 29, .call zS2 [28], none⟩ AZ, im 27 29, o1 30 (.ext 27 0), o1 31 (.ext 27 1), o1 10 (.alloc
 [(.int .i64 0), (.int .i64 0), (.int .i64 0), (.int .i64 0), (.bool false), (.string ⟨#[]⟩)]), o0 ⟨none, .store 6 10 30, none⟩, ia 11 31]) (.seq (.seq (.region [im 32 11, o1 33
 (.bin .neq 32 (kI 0))]) (.cond 33 (.seq (.region [im 34 8, o1 35 (.bin .add 34 (kI 1)), im 36 11, o1 2 (.asg (.c (.slice none 0 0))), ia 3 35, ia 4 36]) .ret) .skip)) (.region [im
 37 7, o1 38 (.load true 6 10), oT ⟨some 39, .buildSl 6 [(.int .i64 0), (.int .i64 0), (.int .i64 0), (.int .i64 0), (.bool false), (.string ⟨#[]⟩)] 1 [(0, 38)], none⟩ (some
 (AJ, .leaf)), oT ⟨some 40, .app 6 56 37 39, none⟩ (some (AJ, .leaf)), ia 7 40]))))))) (.region [o1 41 (.bin .add 22 (kI 1)), im 22 41]))))))))) (.seq (.region [im 42 7,
 ia 2 42, ia 3 (kI 0), ia 4 (kI 0)]) .ret))))))
def Y3 : AFn := ⟨ VG, Zc.erase, [.tmp 2, .tmp 3, .tmp 4], 1⟩
def ZG (P : Pg) (x : (List UInt8)) (K : ((List Command) × (Int × Int)) → Unit → Prop) : Prop :=
 Fn P Ab8 YI x (fun (d1 : ((List (List UInt8)) × Int)) (e2 : Unit) => (((d1.2 != (0 : Int)) = true → K ([], ((0 : Int), d1.2)) ()) ∧ ((d1.2 != (0 : Int)) = false → Ao (D := ((List Command) × (Int × (Int × (List Command))))) (fun J3 => Dm (D := ((List Command) × (Int × (Int × ((List Command) × Int))))) ([], ((0 : Int), ((0 : Int), ([], (0 : Int))))) (fun d5 J6 => (((decide (d5.2.2.2.2 < (d1.1.length : Int))) = true → Ao (D := ((List Command) × (Int × (Int × (List Command))))) (fun J7 => (0 ≤ d5.2.2.2.2 ∧ d5.2.2.2.2 < (d1.1.length : Int)) ∧
 (d5.2.2.2.2.toNat < d1.1.length) ∧
 Fn P zS2 AZ (List.getD d1.1 d5.2.2.2.2.toNat []) (fun (d9 : (Command × Int)) (e10 : Unit) => (((d9.2 != (0 : Int)) = true → K ([], ((i64.wrap (d5.2.2.2.2 + (1 : Int))), d9.2)) ()) ∧ ((d9.2 != (0 : Int)) = false → ((d5.2.2.2.1.length + List.length ([d9.1] : List Command)) * 56 ≤ 140737488355328) ∧
 J7 (d5.1, (d5.2.1, (d5.2.2.1, (d5.2.2.2.1 ++ ([d9.1] : List Command))))))))) (fun d8 => J6 (d8.1, (d8.2.1, (d8.2.2.1, (d8.2.2.2, (i64.wrap (d5.2.2.2.2 + (1 : Int))))))))) ∧ ((decide (d5.2.2.2.2 < (d1.1.length : Int))) = false → J3 (d5.1, (d5.2.1, (d5.2.2.1, d5.2.2.2.1))))))) (fun d4 => K (d4.2.2.2, ((0 : Int), (0 : Int))) ()))))
theorem Aaf {P : Pg} (h : Has P Y3) {x : DP YE.ps} {K : DP YE.rs → DP (ptrs YE.ps) → Prop} (hw : ZG P x K) : Fn P VG YE x K :=
 CU (c := Zc) h rfl rfl (by kernel_rfl) (Eq.mpr (show CG P Y3 YE Zc x K = _ by kernel_rfl) hw)
def Zv : BE :=
 (.seq (.region [o1 4 (.asg kF)]) (.seq (.seq (.region [im 6 0, o1 7 (.lenK 6), im 8 1, o1 9 (.lenK 8), o1 10 (.bin .neq 7 9)]) (.cond 10 (.seq (.region [o1 4 (.asg kF)]) .ret)
 .skip)) (.seq (.seq (.region [ia 5 (kI 0)]) (.frame (rg [4, 5] 11 15) [] false (.join [.sl 4 false .bool .leaf] (.block 0 (.loop [.sl 4 false .bool .leaf, .si 5] (.seq (.seq
 (.region [im 11 5, im 12 0, o1 13 (.lenK 12), o1 14 (.bin .lss 11 13)]) (.cond 14 .skip (.exit 0))) (.seq (.frame (rg [4] 17 9) [] false (.join [.sl 4 false .bool .leaf] (.block 1
 (.seq (.draw [(.first (im 17 0) (.first (im 18 5) (.first (o1 19 (.ixA 6 17 18)) (.first (o1 20 (.load true 6 19)) (.first (im 21 1) (.first (im 22 5) (.first (o1 23 (.ixA 6 21
 22)) (.first (o1 24 (.load true 6 23)) (.first (o1 25 (.eqA true [.int, .int, .int, .int, .bool, .str] 20 24)) .done)))))))))]) (.cond 25 (.seq (.region [o1 4 (.asg kF)]) .ret)
 .skip))))) (.region [im 15 5, o1 16 (.bin .add 15 (kI 1)), ia 5 16])))))))) (.seq (.region [o1 4 (.asg kT)]) .ret))))
def Y6 : AFn := ⟨ VH, Zv.erase, [.tmp 4], 2⟩
def ZT (P : Pg) (x : ((List Command) × (List Command))) (K : Bool → Unit → Prop) : Prop :=
 ((((x.1.length : Int) != (x.2.length : Int)) = true → K false ()) ∧ (((x.1.length : Int) != (x.2.length : Int)) = false → Ao (D := Bool) (fun J1 => Dm (D := (Bool × Int)) (false, (0 : Int)) (fun d3 J4 => (((decide (d3.2 < (x.1.length : Int))) = true → Ao (D := Bool) (fun J5 => (0 ≤ d3.2 ∧ d3.2 < (x.1.length : Int)) ∧
 (d3.2.toNat < x.1.length) ∧
 (0 ≤ d3.2 ∧ d3.2 < (x.2.length : Int)) ∧
 (d3.2.toNat < x.2.length) ∧
 (((!(((List.getD x.1 d3.2.toNat Da).1 == (List.getD x.2 d3.2.toNat Da).1) && (((List.getD x.1 d3.2.toNat Da).2.1 == (List.getD x.2 d3.2.toNat Da).2.1) && (((List.getD x.1 d3.2.toNat Da).2.2.1 == (List.getD x.2 d3.2.toNat Da).2.2.1) && (((List.getD x.1 d3.2.toNat Da).2.2.2.1 == (List.getD x.2 d3.2.toNat Da).2.2.2.1) && (((List.getD x.1 d3.2.toNat Da).2.2.2.2.1 == (List.getD x.2 d3.2.toNat Da).2.2.2.2.1) && (((List.getD x.1 d3.2.toNat Da).2.2.2.2.2 == (List.getD x.2 d3.2.toNat Da).2.2.2.2.2) && true))))))) = true → K false ()) ∧ ((!(((List.getD x.1 d3.2.toNat Da).1 == (List.getD x.2 d3.2.toNat Da).1) && (((List.getD x.1 d3.2.toNat Da).2.1 == (List.getD x.2 d3.2.toNat Da).2.1) && (((List.getD x.1 d3.2.toNat Da).2.2.1 == (List.getD x.2 d3.2.toNat Da).2.2.1) && (((List.getD x.1 d3.2.toNat Da).2.2.2.1 == (List.getD x.2 d3.2.toNat Da).2.2.2.1) && (((List.getD x.1 d3.2.toNat Da).2.2.2.2.1 == (List.getD x.2 d3.2.toNat Da).2.2.2.2.1) && (((List.getD x.1 d3.2.toNat Da).2.2.2.2.2 == (List.getD x.2 d3.2.toNat Da).2.2.2.2.2) && true))))))) = false → J5 d3.1))) (fun d6 => J4 (d6, (i64.wrap (d3.2 + (1 : Int)))))) ∧ ((decide (d3.2 < (x.1.length : Int))) = false → J1 d3.1)))) (fun d2 => K true ())))
theorem Aas {P : Pg} (h : Has P Y6) {x : DP YF.ps} {K : DP YF.rs → DP (ptrs YF.ps) → Prop} (hw : ZT P x K) : Fn P VH YF x K :=
 CU (c := Zv) h rfl rfl (by kernel_rfl) (Eq.mpr (show CG P Y6 YF Zv x K = _ by kernel_rfl) hw)
end Go.VS
