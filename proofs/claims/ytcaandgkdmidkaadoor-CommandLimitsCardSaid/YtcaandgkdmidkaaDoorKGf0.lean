/- Functions of the program: typed code, and what it says, lifted. -/
import Derived.Test.YtcaandgkdmidkaaDoorKTxSig
import Derived.KernelRfl
set_option linter.unusedVariables false
set_option linter.unusedSimpArgs false
set_option maxRecDepth 8000
namespace Go.VS
open IntKind
def EL : BE :=
 (.seq (.region [o1 0 (.asg (.c (.slice none 0 0)))]) (.seq (.region [o1 1 (.build [(.string ⟨#[]⟩), (.int .i64 0), (.bool false), (.bool false), (.bool false), (.bool false)] [(0,
 1, (.c (.string ⟨#[108, 111, 103]⟩))), (1, 1, (kI 1))]), o1 2 (.build [(.string ⟨#[]⟩), (.int .i64 0), (.bool false), (.bool false), (.bool false), (.bool false)] [(0, 1, (.c
 (.string ⟨#[115, 104, 111, 119]⟩))), (1, 1, (kI 2))]), o1 3 (.build [(.string ⟨#[]⟩), (.int .i64 0), (.bool false), (.bool false), (.bool false), (.bool false)] [(0, 1, (.c
 (.string ⟨#[100, 105, 102, 102]⟩))), (1, 1, (kI 3)), (3, 1, kT), (4, 1, kT), (5, 1, kT)]), o1 4 (.build [(.string ⟨#[]⟩), (.int .i64 0), (.bool false), (.bool false), (.bool
 false), (.bool false)] [(0, 1, (.c (.string ⟨#[99, 111, 109, 98, 105, 110, 101, 100]⟩))), (1, 1, (kI 4)), (4, 1, kT), (5, 1, kT)]), o1 5 (.build [(.string ⟨#[]⟩), (.int .i64 0),
 (.bool false), (.bool false), (.bool false), (.bool false)] [(0, 1, (.c (.string ⟨#[99, 99]⟩))), (1, 1, (kI 4)), (2, 1, kT), (4, 1, kT), (5, 1, kT)]), o1 6 (.build [(.string
 ⟨#[]⟩), (.int .i64 0), (.bool false), (.bool false), (.bool false), (.bool false)] [(0, 1, (.c (.string ⟨#[108, 105, 116, 101, 114, 97, 108]⟩))), (1, 1, (kI 5)), (5, 1, kT)]), o1 7
 (.build [(.string ⟨#[]⟩), (.int .i64 0), (.bool false), (.bool false), (.bool false), (.bool false)] [(0, 1, (.c (.string ⟨#[114, 101, 103, 101, 120]⟩))), (1, 1, (kI 6)), (5, 1,
 kT)]), o1 8 (.build [(.string ⟨#[]⟩), (.int .i64 0), (.bool false), (.bool false), (.bool false), (.bool false)] [(0, 1, (.c (.string ⟨#[108, 105, 110, 101, 115]⟩))), (1, 1, (kI
 7)), (3, 1, kT), (4, 1, kT), (5, 1, kT)]), o1 9 (.build [(.string ⟨#[]⟩), (.int .i64 0), (.bool false), (.bool false), (.bool false), (.bool false)] [(0, 1, (.c (.string ⟨#[98,
 108, 97, 109, 101]⟩))), (1, 1, (kI 8)), (5, 1, kT)]), o1 10 (.build [(.string ⟨#[]⟩), (.int .i64 0), (.bool false), (.bool false), (.bool false), (.bool false)] [(0, 1, (.c
 (.string ⟨#[98, 97, 115, 101, 115]⟩))), (1, 1, (kI 9)), (3, 1, kT)]), oT ⟨some 11, .buildSl 6 [(.string ⟨#[]⟩), (.int .i64 0), (.bool false), (.bool false), (.bool false), (.bool
 false)] 10 [(0, 1), (1, 2), (2, 3), (3, 4), (4, 5), (5, 6), (6, 7), (7, 8), (8, 9), (9, 10)], none⟩ (some (Dp, .leaf)), ia 0 11]) .ret))
def Dv : AFn := ⟨ zS7, EL.erase, [.tmp 0], 0⟩
def G5 (P : Pg) (x : Unit) (K : (List Al) → Unit → Prop) : Prop :=
 K ([(([108, 111, 103] : List UInt8), ((1 : Int), (false, (false, (false, false))))), (([115, 104, 111, 119] : List UInt8), ((2 : Int), (false, (false, (false, false))))), (([100, 105, 102, 102] : List UInt8), ((3 : Int), (false, (true, (true, true))))), (([99, 111, 109, 98, 105, 110, 101, 100] : List UInt8), ((4 : Int), (false, (false, (true, true))))), (([99, 99] : List UInt8), ((4 : Int), (true, (false, (true, true))))), (([108, 105, 116, 101, 114, 97, 108] : List UInt8), ((5 : Int), (false, (false, (false, true))))), (([114, 101, 103, 101, 120] : List UInt8), ((6 : Int), (false, (false, (false, true))))), (([108, 105, 110, 101, 115] : List UInt8), ((7 : Int), (false, (true, (true, true))))), (([98, 108, 97, 109, 101] : List UInt8), ((8 : Int), (false, (false, (false, true))))), (([98, 97, 115, 101, 115] : List UInt8), ((9 : Int), (false, (true, (false, false)))))] : List Al) ()
theorem Kv {P : Pg} (h : Has P Dv) {x : DP Bx.ps} {K : DP Bx.rs → DP (ptrs Bx.ps) → Prop} (hw : G5 P x K) : Fn P zS7 Bx x K :=
 CU (c := EL) h rfl rfl (by kernel_rfl) (Eq.mpr (show CG P Dv Bx EL x K = _ by kernel_rfl) hw)
def GZ : BE :=
 (.seq (.region [o1 2 (.asg kF)]) (.seq (.region [im 3 0, o1 4 (.bin .geq 3 (.c (.int .u8 33))), im 5 4, gt 6 5 (.mv 0), gt 7 5 (.bin .leq 6 (.c (.int .u8 126))), o1 8 (.pick 5 7
 kF), im 9 8, gt 10 9 (.mv 0), gt 11 9 (.bin .neq 10 (.c (.int .u8 34))), o1 12 (.pick 9 11 kF), im 13 12, gt 14 13 (.mv 0), gt 15 13 (.bin .neq 14 (.c (.int .u8 92))), o1 16 (.pick
 13 15 kF), ia 2 16]) .ret))
def EW : AFn := ⟨ zS8, GZ.erase, [.tmp 2], 1⟩
def Jh (P : Pg) (x : Int) (K : Bool → Unit → Prop) : Prop :=
 K (cond (cond (cond (decide (x ≥ (33 : Int))) (decide (x ≤ (126 : Int))) false) (x != (34 : Int)) false) (x != (92 : Int)) false) ()
theorem Ng {P : Pg} (h : Has P EW) {x : DP Ca.ps} {K : DP Ca.rs → DP (ptrs Ca.ps) → Prop} (hw : Jh P x K) : Fn P zS8 Ca x K :=
 CU (c := GZ) h rfl rfl (by kernel_rfl) (Eq.mpr (show CG P EW Ca GZ x K = _ by kernel_rfl) hw)
def Dl : BE :=
 (.seq (.region [o1 2 (.asg (.c (.int .u8 0))), o1 3 (.asg kF)]) (.seq (.region [ia 4 (kI 0)]) (.seq (.seq (.region [o1 5 (.mv (kI 0))]) (.frame (rg [] 2 61) [0] false (.join [.sl 2
 false (.int .u8) .leaf, .sl 3 false .bool .leaf, .si 4, .bx 0 (.pair .str bI) .leaf] (.block 0 (.loop [.sl 2 false (.int .u8) .leaf, .sl 3 false .bool .leaf, .si 4, .si 5, .bx 0
 (.pair .str bI) .leaf] (.seq (.region [o1 6 (.bin .lss 5 (kI 3))]) (.seq (.cond 6 .skip (.exit 0)) (.seq (.frame (rg [2, 3, 4] 7 55) [0] false (.join [.sl 2 false (.int .u8) .leaf,
 .sl 3 false .bool .leaf, .si 4, .bx 0 (.pair .str bI) .leaf] (.block 1 (.seq (.seq (.draw [(.first (im 7 0) (.first (o1 8 (.nilc 7)) (.first (fa 9 1 8) (.first (ld 10 9) (.first
 (im 11 0) (.first (o1 12 (.nilc 11)) (.first (fa 13 0 12) (.first (ld 14 13) (.first (o1 15 (.GN 14)) (.first (o1 16 (.bin .geq 10 15)) (.first (im 17 16) (.first (gf 18 17 (.mv
 0)) (.first (gf 19 17 (.nilc 18)) (.first (gf 20 17 (.fAddr 0 19)) (.first (gf 21 17 (.load false 1 20)) (.first (gf 22 17 (.mv 0)) (.first (gf 23 17 (.nilc 22)) (.first (gf 24 17
 (.fAddr 1 23)) (.first (gf 25 17 (.load false 1 24)) (.first (gf 26 17 (.ixS 21 25)) (.first (gf 27 17 (.bin .lss 26 (.c (.int .u8 48)))) (.first (o1 28 (.pick 17 kT 27)) (.first
 (im 29 28) (.first (gf 30 29 (.mv 0)) (.first (gf 31 29 (.nilc 30)) (.first (gf 32 29 (.fAddr 0 31)) (.first (gf 33 29 (.load false 1 32)) (.first (gf 34 29 (.mv 0)) (.first (gf 35
 29 (.nilc 34)) (.first (gf 36 29 (.fAddr 1 35)) (.first (gf 37 29 (.load false 1 36)) (.first (gf 38 29 (.ixS 33 37)) (.first (gf 39 29 (.bin .gtr 38 (.c (.int .u8 55)))) (.first
 (o1 40 (.pick 29 kT 39)) .done))))))))))))))))))))))))))))))))))]) (.cond 40 (.seq (.region [o1 2 (.asg (.c (.int .u8 0))), o1 3 (.asg kF)]) .ret) .skip)) (.seq (.frame (rg [4] 41
 14) [] false (.join [.si 4] (.draw [(.first (im 41 4) (.first (o1 42 (.bin .mul (kI 8) 41)) (.first (im 43 0) (.first (o1 44 (.nilc 43)) (.first (fa 45 0 44) (.first (ld 46 45)
 (.first (im 47 0) (.first (o1 48 (.nilc 47)) (.first (fa 49 1 48) (.first (ld 50 49) (.first (o1 51 (.ixS 46 50)) (.first (o1 52 (.bin .sub 51 (.c (.int .u8 48)))) (.first (o1 53
 (.conv (.toInt .i64) 52)) (.first (o1 54 (.bin .add 42 53)) (.alt (ia 4 54) .done .stop)))))))))))))))]))) (.region [im 55 0, o1 56 (.nilc 55), fa 57 1 56, ld 58 57, o1 59 (.bin
 .add 58 (kI 1)), o1 60 (.nilc 55), fa 61 1 60, o0 ⟨none, .store 1 61 59, none⟩])))))) (.region [o1 62 (.bin .add 5 (kI 1)), im 5 62]))))))))) (.seq (.region [im 63 4, o1 64 (.conv
 (.toInt .u8) 63), im 65 4, o1 66 (.bin .lss 65 (kI 256)), ia 2 64, ia 3 66]) .ret))))
def Cj : AFn := ⟨ zS9, Dl.erase, [.tmp 2, .tmp 3], 1⟩
def EO (P : Pg) (x : ((List UInt8) × Int)) (K : (Int × Bool) → ((List UInt8) × Int) → Prop) : Prop :=
 Ao (D := (Int × (Bool × (Int × ((List UInt8) × Int))))) (fun J1 => Dm (D := (Int × (Bool × (Int × (Int × ((List UInt8) × Int)))))) ((0 : Int), (false, ((0 : Int), ((0 : Int), x)))) (fun d3 J4 => (((decide (d3.2.2.2.1 < (3 : Int))) = true → Ao (D := (Int × (Bool × (Int × ((List UInt8) × Int))))) (fun J5 => (((decide (d3.2.2.2.2.2 ≥ (d3.2.2.2.2.1.length : Int))) = false → 0 ≤ d3.2.2.2.2.2 ∧ d3.2.2.2.2.2 < (d3.2.2.2.2.1.length : Int))) ∧
 (((cond (decide (d3.2.2.2.2.2 ≥ (d3.2.2.2.2.1.length : Int))) true (decide (((d3.2.2.2.2.1.getD d3.2.2.2.2.2.toNat 0).toNat : Int) < (48 : Int)))) = false → 0 ≤ d3.2.2.2.2.2 ∧ d3.2.2.2.2.2 < (d3.2.2.2.2.1.length : Int))) ∧
 (((cond (cond (decide (d3.2.2.2.2.2 ≥ (d3.2.2.2.2.1.length : Int))) true (decide (((d3.2.2.2.2.1.getD d3.2.2.2.2.2.toNat 0).toNat : Int) < (48 : Int)))) true (decide (((d3.2.2.2.2.1.getD d3.2.2.2.2.2.toNat 0).toNat : Int) > (55 : Int)))) = true → K ((0 : Int), false) d3.2.2.2.2) ∧ ((cond (cond (decide (d3.2.2.2.2.2 ≥ (d3.2.2.2.2.1.length : Int))) true (decide (((d3.2.2.2.2.1.getD d3.2.2.2.2.2.toNat 0).toNat : Int) < (48 : Int)))) true (decide (((d3.2.2.2.2.1.getD d3.2.2.2.2.2.toNat 0).toNat : Int) > (55 : Int)))) = false → Ao (D := Int) (fun J7 => (0 ≤ d3.2.2.2.2.2 ∧ d3.2.2.2.2.2 < (d3.2.2.2.2.1.length : Int)) ∧
 (J7 (i64.wrap ((i64.wrap ((8 : Int) * d3.2.2.1)) + (i64.wrap (u8.wrap (((d3.2.2.2.2.1.getD d3.2.2.2.2.2.toNat 0).toNat : Int) - (48 : Int))))))) ∧ True) (fun d8 => J5 (d3.1, (d3.2.1, (d8, (d3.2.2.2.2.1, (i64.wrap (d3.2.2.2.2.2 + (1 : Int))))))))))) (fun d6 => J4 (d6.1, (d6.2.1, (d6.2.2.1, ((i64.wrap (d3.2.2.2.1 + (1 : Int))), d6.2.2.2)))))) ∧ ((decide (d3.2.2.2.1 < (3 : Int))) = false → J1 (d3.1, (d3.2.1, (d3.2.2.1, d3.2.2.2.2))))))) (fun d2 => K ((u8.wrap d2.2.2.1), (decide (d2.2.2.1 < (256 : Int)))) d2.2.2.2)
theorem Hs {P : Pg} (h : Has P Cj) {x : DP A2.ps} {K : DP A2.rs → DP (ptrs A2.ps) → Prop} (hw : EO P x K) : Fn P zS9 A2 x K :=
 CU (c := Dl) h rfl rfl (by kernel_rfl) (Eq.mpr (show CG P Cj A2 Dl x K = _ by kernel_rfl) hw)
def C6 : BE :=
 (.seq (.region [o1 2 (.asg (.c (.int .u8 0))), o1 3 (.asg kF)]) (.seq (.seq (.draw [(.first (im 5 0) (.first (o1 6 (.nilc 5)) (.first (fa 7 1 6) (.first (ld 8 7) (.first (im 9 0)
 (.first (o1 10 (.nilc 9)) (.first (fa 11 0 10) (.first (ld 12 11) (.first (o1 13 (.GN 12)) (.first (o1 14 (.bin .geq 8 13)) .done))))))))))]) (.cond 14 (.seq (.region [o1 2 (.asg
 (.c (.int .u8 0))), o1 3 (.asg kF)]) .ret) .skip)) (.seq (.seq (.frame (rg [4] 15 9) [] false (.join [.sl 4 false (.int .u8) .leaf] (.draw [(.first (im 15 0) (.first (o1 16 (.nilc
 15)) (.first (fa 17 0 16) (.first (ld 18 17) (.first (im 19 0) (.first (o1 20 (.nilc 19)) (.first (fa 21 1 20) (.first (ld 22 21) (.first (o1 23 (.ixS 18 22)) (.alt (ia 4 23) .done
 .stop))))))))))]))) (.seq (.region [im 24 4]) (.frame (rg [2, 3] 25 29) [0] false (.join [.sl 2 false (.int .u8) .leaf, .sl 3 false .bool .leaf, .bx 0 (.pair .str bI) .leaf]
 (.block 0 (.seq (.seq (.region [o1 26 (.bin .eql 24 (.c (.int .u8 34))), ia 25 26]) (.frame [25, 27] [] false (.join [.sl 25 false .bool .leaf] (.cond 25 .skip (.region [o1 27
 (.bin .eql 24 (.c (.int .u8 92))), ia 25 27]))))) (.cond 25 (.seq (.region [im 28 0, o1 29 (.nilc 28), fa 30 1 29, ld 31 30, o1 32 (.bin .add 31 (kI 1)), o1 33 (.nilc 28), fa 34 1
 33, o0 ⟨none, .store 1 34 32, none⟩]) (.seq (.region [im 35 4, ia 2 35, o1 3 (.asg kT)]) .ret)) (.seq (.region [o1 37 (.bin .eql 24 (.c (.int .u8 110))), ia 36 37]) (.cond 36 (.seq
 (.region [im 38 0, o1 39 (.nilc 38), fa 40 1 39, ld 41 40, o1 42 (.bin .add 41 (kI 1)), o1 43 (.nilc 38), fa 44 1 43, o0 ⟨none, .store 1 44 42, none⟩]) (.seq (.region [o1 2 (.asg
 (.c (.int .u8 10))), o1 3 (.asg kT)]) .ret)) (.seq (.region [o1 46 (.bin .eql 24 (.c (.int .u8 116))), ia 45 46]) (.cond 45 (.seq (.region [im 47 0, o1 48 (.nilc 47), fa 49 1 48,
 ld 50 49, o1 51 (.bin .add 50 (kI 1)), o1 52 (.nilc 47), fa 53 1 52, o0 ⟨none, .store 1 53 51, none⟩]) (.seq (.region [o1 2 (.asg (.c (.int .u8 9))), o1 3 (.asg kT)]) .ret))
 .skip))))))))))) (.seq (.region [im 54 0, oS ⟨some 55, .call zS9 [54], none⟩ A2, o1 56 (.ext 55 0), o1 57 (.ext 55 1), ia 2 56, ia 3
 57]) .ret))))
def B7 : AFn := ⟨ RN, C6.erase, [.tmp 2, .tmp 3], 1⟩
def Ez (P : Pg) (x : ((List UInt8) × Int)) (K : (Int × Bool) → ((List UInt8) × Int) → Prop) : Prop :=
 (((decide (x.2 ≥ (x.1.length : Int))) = true → K ((0 : Int), false) x) ∧ ((decide (x.2 ≥ (x.1.length : Int))) = false → Ao (D := Int) (fun J1 => (0 ≤ x.2 ∧ x.2 < (x.1.length : Int)) ∧
 (J1 ((x.1.getD x.2.toNat 0).toNat : Int)) ∧ True) (fun d2 => Ao (D := (Int × (Bool × ((List UInt8) × Int)))) (fun J3 => Ao (D := Bool) (fun J5 => (((d2 == (34 : Int)) = true → J5 (d2 == (34 : Int))) ∧ ((d2 == (34 : Int)) = false → J5 (d2 == (92 : Int))))) (fun d6 => ((d6 = true → K (d2, true) (x.1, (i64.wrap (x.2 + (1 : Int))))) ∧ (d6 = false → (((d2 == (110 : Int)) = true → K ((10 : Int), true) (x.1, (i64.wrap (x.2 + (1 : Int))))) ∧ ((d2 == (110 : Int)) = false → (((d2 == (116 : Int)) = true → K ((9 : Int), true) (x.1, (i64.wrap (x.2 + (1 : Int))))) ∧ ((d2 == (116 : Int)) = false → J3 ((0 : Int), (false, x)))))))))) (fun d4 => Fn P zS9 A2 d4.2.2 (fun (d7 : (Int × Bool)) (e8 : ((List UInt8) × Int)) => K d7 e8)))))
theorem Hd {P : Pg} (h : Has P B7) {x : DP AQ.ps} {K : DP AQ.rs → DP (ptrs AQ.ps) → Prop} (hw : Ez P x K) : Fn P RN AQ x K :=
 CU (c := C6) h rfl rfl (by kernel_rfl) (Eq.mpr (show CG P B7 AQ C6 x K = _ by kernel_rfl) hw)
def C7 : BE :=
 (.seq (.region [o1 2 (.asg (.c (.string ⟨#[]⟩))), o1 3 (.asg kF)]) (.seq (.region [o1 4 (.asg (.c (.slice none 0 0)))]) (.seq (.frame (rg [] 2 48) [0] true (.join [.sl 2 false .str
 .leaf, .sl 3 false .bool .leaf, .bx 0 (.pair .str bI) .leaf] (.block 0 (.loop [.sl 2 false .str .leaf, .sl 3 false .bool .leaf, .sl 4 false (.sl (.int .u8)) tO, .bx 0 (.pair .str
 bI) .leaf] (.seq (.seq (.draw [(.first (im 7 0) (.first (o1 8 (.nilc 7)) (.first (fa 9 1 8) (.first (ld 10 9) (.first (im 11 0) (.first (o1 12 (.nilc 11)) (.first (fa 13 0 12)
 (.first (ld 14 13) (.first (o1 15 (.GN 14)) (.first (o1 16 (.bin .lss 10 15)) .done))))))))))]) (.cond 16 .skip (.exit 0))) (.frame (rg [2, 3, 4, 5, 6] 17 33) [0] true (.join
 [.sl 2 false .str .leaf, .sl 3 false .bool .leaf, .sl 4 false (.sl (.int .u8)) tO, .bx 0 (.pair .str bI) .leaf] (.block 1 (.seq (.frame (rg [5] 17 9) [] false (.join [.sl 5 false
 (.int .u8) .leaf] (.draw [(.first (im 17 0) (.first (o1 18 (.nilc 17)) (.first (fa 19 0 18) (.first (ld 20 19) (.first (im 21 0) (.first (o1 22 (.nilc 21)) (.first (fa 23 1 22)
 (.first (ld 24 23) (.first (o1 25 (.ixS 20 24)) (.alt (ia 5 25) .done .stop))))))))))]))) (.seq (.region [im 26 0, o1 27 (.nilc 26), fa 28 1 27, ld 29 28, o1 30 (.bin .add 29 (kI
 1)), o1 31 (.nilc 26), fa 32 1 31, o0 ⟨none, .store 1 32 30, none⟩]) (.seq (.seq (.region [im 33 5, o1 34 (.bin .eql 33 (.c (.int .u8 34)))]) (.cond 34 (.seq (.region [im 35 4, o1
 36 (.conv .bytesToStr 35), ia 2 36, o1 3 (.asg kT)]) .ret) .skip)) (.seq (.seq (.region [im 37 5, o1 38 (.bin .eql 37 (.c (.int .u8 92)))]) (.frame (rg [2, 3, 5, 6] 39 7) [0] true
 (.join [.sl 2 false .str .leaf, .sl 3 false .bool .leaf, .sl 5 false (.int .u8) .leaf, .bx 0 (.pair .str bI) .leaf] (.cond 38 (.seq (.region [o1 6 (.asg kF)]) (.seq (.region [im 40
 0, oS ⟨some 41, .call RN [40], none⟩ AQ, im 39 41, o1 42 (.ext 39 0), o1 43 (.ext 39 1), ia 5 42, ia 6 43]) (.seq (.region [im 44
 6, o1 45 (.un .not 44)]) (.cond 45 (.seq (.region [o1 2 (.asg (.c (.string ⟨#[]⟩))), o1 3 (.asg kF)]) .ret) .skip)))) .skip)))) (.region [im 46 4, im 47 5, oT ⟨some 48, .buildSl 1
 [(.int .u8 0)] 1 [(0, 47)], none⟩ (some ((.int .u8), .leaf)), oT ⟨some 49, .app 1 1 46 48, none⟩ (some ((.int .u8), .leaf)), ia 4 49]))))))))))))) (.seq (.region [o1 2 (.asg (.c
 (.string ⟨#[]⟩))), o1 3 (.asg kF)]) .ret))))
def B8 : AFn := ⟨ Uc, C7.erase, [.tmp 2, .tmp 3], 1⟩
def EA (P : Pg) (x : ((List UInt8) × Int)) (K : ((List UInt8) × Bool) → ((List UInt8) × Int) → Prop) : Prop :=
 Ao (D := ((List UInt8) × (Bool × ((List UInt8) × Int)))) (fun J1 => Dm (D := ((List UInt8) × (Bool × ((List Int) × ((List UInt8) × Int))))) (([] : List UInt8), (false, ([], x))) (fun d3 J4 => (((decide (d3.2.2.2.2 < (d3.2.2.2.1.length : Int))) = true → Ao (D := ((List UInt8) × (Bool × ((List Int) × ((List UInt8) × Int))))) (fun J5 => Ao (D := Int) (fun J7 => (0 ≤ d3.2.2.2.2 ∧ d3.2.2.2.2 < (d3.2.2.2.1.length : Int)) ∧
 (J7 ((d3.2.2.2.1.getD d3.2.2.2.2.toNat 0).toNat : Int)) ∧ True) (fun d8 => (((d8 == (34 : Int)) = true → K ((strOf d3.2.2.1), true) (d3.2.2.2.1, (i64.wrap (d3.2.2.2.2 + (1 : Int))))) ∧ ((d8 == (34 : Int)) = false → Ao (D := ((List UInt8) × (Bool × (Int × ((List UInt8) × Int))))) (fun J9 => (((d8 == (92 : Int)) = true → Fn P RN AQ (d3.2.2.2.1, (i64.wrap (d3.2.2.2.2 + (1 : Int)))) (fun (d11 : (Int × Bool)) (e12 : ((List UInt8) × Int)) => (((!d11.2) = true → K (([] : List UInt8), false) e12) ∧ ((!d11.2) = false → J9 (d3.1, (d3.2.1, (d11.1, e12))))))) ∧ ((d8 == (92 : Int)) = false → J9 (d3.1, (d3.2.1, (d8, (d3.2.2.2.1, (i64.wrap (d3.2.2.2.2 + (1 : Int)))))))))) (fun d10 => ((d3.2.2.1.length + List.length ([d10.2.2.1] : List Int)) * 1 ≤ 140737488355328) ∧
 J5 (d10.1, (d10.2.1, ((d3.2.2.1 ++ ([d10.2.2.1] : List Int)), d10.2.2.2)))))))) (fun d6 => J4 d6)) ∧ ((decide (d3.2.2.2.2 < (d3.2.2.2.1.length : Int))) = false → J1 (d3.1, (d3.2.1, d3.2.2.2)))))) (fun d2 => K (([] : List UInt8), false) d2.2.2)
theorem He {P : Pg} (h : Has P B8) {x : DP AR.ps} {K : DP AR.rs → DP (ptrs AR.ps) → Prop} (hw : EA P x K) : Fn P Uc AR x K :=
 CU (c := C7) h rfl rfl (by kernel_rfl) (Eq.mpr (show CG P B8 AR C7 x K = _ by kernel_rfl) hw)
def DB : BE :=
 (.seq (.region [o1 2 (.asg (.c (.string ⟨#[]⟩))), o1 3 (.asg kF)]) (.seq (.region [im 7 0, o1 8 (.nilc 7), fa 9 1 8, ld 10 9, ia 4 10]) (.seq (.region [o1 5 (.asg (.c (.string
 ⟨#[]⟩)))]) (.seq (.seq (.region [im 11 4, im 12 0, o1 13 (.nilc 12), fa 14 0 13, ld 15 14, o1 16 (.GN 15), o1 17 (.bin .lss 11 16), im 18 17, gt 19 18 (.mv 0), gt 20 18 (.nilc
 19), gt 21 18 (.fAddr 0 20), gt 22 18 (.load false 1 21), gt 23 18 (.mv 4), gt 24 18 (.ixS 22 23), gt 25 18 (.bin .eql 24 (.c (.int .u8 34))), o1 26 (.pick 18 25 kF)]) (.frame (rg
 [2, 3, 5, 6] 27 53) [0] true (.join [.sl 2 false .str .leaf, .sl 3 false .bool .leaf, .sl 5 false .str .leaf, .bx 0 (.pair .str bI) .leaf] (.cond 26 (.seq (.region [im 27 0, o1 28
 (.nilc 27), fa 29 1 28, ld 30 29, o1 31 (.bin .add 30 (kI 1)), o1 32 (.nilc 27), fa 33 1 32, o0 ⟨none, .store 1 33 31, none⟩]) (.seq (.region [o1 6 (.asg kF)]) (.seq (.region [im
 35 0, oS ⟨some 36, .call Uc [35], none⟩ AR, im 34 36, o1 37 (.ext 34 0), o1 38 (.ext 34 1), ia 5 37, ia 6 38]) (.seq (.region [im
 39 6, o1 40 (.un .not 39)]) (.cond 40 (.seq (.region [o1 2 (.asg (.c (.string ⟨#[]⟩))), o1 3 (.asg kF)]) .ret) .skip))))) (.seq (.frame (rg [] 41 29) [0] false (.join [.bx 0 (.pair
 .str bI) .leaf] (.block 0 (.loop [.bx 0 (.pair .str bI) .leaf] (.seq (.seq (.frame (rg [] 41 22) [] false (.join [.sl 62 false .bool .leaf] (.draw [(.first (im 41 0) (.first (o1 42
 (.nilc 41)) (.first (fa 43 1 42) (.first (ld 44 43) (.first (im 45 0) (.first (o1 46 (.nilc 45)) (.first (fa 47 0 46) (.first (ld 48 47) (.first (o1 49 (.GN 48)) (.first (o1 50
 (.bin .lss 44 49)) (.first (im 51 50) (.first (gt 52 51 (.mv 0)) (.first (gt 53 51 (.nilc 52)) (.first (gt 54 51 (.fAddr 0 53)) (.first (gt 55 51 (.load false 1 54)) (.first (gt 56
 51 (.mv 0)) (.first (gt 57 51 (.nilc 56)) (.first (gt 58 51 (.fAddr 1 57)) (.first (gt 59 51 (.load false 1 58)) (.first (gt 60 51 (.ixS 55 59)) (.alt (oS ⟨some 61, .call
 zS8 [60], some (51, true)⟩ Ca) (.first (o1 62 (.pick 51 61 kF)) .done) .stop)))))))))))))))))))))]))) (.cond 62 .skip (.exit 0))) (.frame (rg [] 63 7)
 [0] false (.join [.bx 0 (.pair .str bI) .leaf] (.block 1 (.region [im 63 0, o1 64 (.nilc 63), fa 65 1 64, ld 66 65, o1 67 (.bin .add 66 (kI 1)), o1 68 (.nilc 63), fa 69 1 68, o0
 ⟨none, .store 1 69 67, none⟩]))))))))) (.frame (rg [5] 70 10) [] false (.join [.sl 5 false .str .leaf] (.draw [(.first (im 70 0) (.first (o1 71 (.nilc 70)) (.first (fa 72 0 71)
 (.first (ld 73 72) (.first (im 74 4) (.first (im 75 0) (.first (o1 76 (.nilc 75)) (.first (fa 77 1 76) (.first (ld 78 77) (.first (o1 79 (.slS 73 (some 74) (some 78))) (.alt (ia 5
 79) .done .stop)))))))))))])))))))) (.seq (.frame (rg [2, 3] 80 14) [] false (.join [.sl 2 false .str .leaf, .sl 3 false .bool .leaf] (.draw [(.first (im 80 5) (.first (im 81 5)
 (.first (im 83 0) (.first (o1 84 (.nilc 83)) (.first (fa 85 0 84) (.first (im 87 4) (.first (im 88 0) (.first (o1 89 (.nilc 88)) (.first (fa 90 1 89) (.alt (oS ⟨some 82, .call
 zS0 [81], none⟩ Bq) (.alt (ld 86 85) (.alt (ld 91 90) (.first (o1 92 (.slS 86 (some 87) (some 91))) (.first (o1 93 (.bin .eql 82 92)) (.alt (ia 2 80)
 (.alt (ia 3 93) .done .stop) .stop))) (.alt (ia 2 80) (.first (ld 91 90) (.first (o1 92 (.slS 86 (some 87) (some 91))) (.first (o1 93 (.bin .eql 82 92)) (.alt (ia 3 93) .done
 .stop)))) .stop)) (.alt (ld 91 90) (.alt (ld 86 85) (.first (o1 92 (.slS 86 (some 87) (some 91))) (.first (o1 93 (.bin .eql 82 92)) (.alt (ia 2 80) (.alt (ia 3 93) .done .stop)
 .stop))) (.alt (ia 2 80) (.first (ld 86 85) (.first (o1 92 (.slS 86 (some 87) (some 91))) (.first (o1 93 (.bin .eql 82 92)) (.alt (ia 3 93) .done .stop)))) .stop)) (.alt (ia 2 80)
 (.first (ld 86 85) (.first (ld 91 90) (.first (o1 92 (.slS 86 (some 87) (some 91))) (.first (o1 93 (.bin .eql 82 92)) (.alt (ia 3 93) .done .stop))))) .stop))) (.alt (ld 86 85)
 (.alt (oS ⟨some 82, .call zS0 [81], none⟩ Bq) (.alt (ld 91 90) (.first (o1 92 (.slS 86 (some 87) (some 91))) (.first (o1 93 (.bin .eql 82 92)) (.alt
 (ia 2 80) (.alt (ia 3 93) .done .stop) .stop))) (.alt (ia 2 80) (.first (ld 91 90) (.first (o1 92 (.slS 86 (some 87) (some 91))) (.first (o1 93 (.bin .eql 82 92)) (.alt (ia 3 93)
 .done .stop)))) .stop)) (.alt (ld 91 90) (.first (o1 92 (.slS 86 (some 87) (some 91))) (.alt (oS ⟨some 82, .call zS0 [81], none⟩ Bq) (.first (o1 93
 (.bin .eql 82 92)) (.alt (ia 2 80) (.alt (ia 3 93) .done .stop) .stop)) .stop)) .stop)) (.alt (ld 91 90) (.alt (oS ⟨some 82, .call zS0 [81], none⟩ Bq)
 (.alt (ld 86 85) (.first (o1 92 (.slS 86 (some 87) (some 91))) (.first (o1 93 (.bin .eql 82 92)) (.alt (ia 2 80) (.alt (ia 3 93) .done .stop) .stop))) (.alt (ia 2 80) (.first (ld
 86 85) (.first (o1 92 (.slS 86 (some 87) (some 91))) (.first (o1 93 (.bin .eql 82 92)) (.alt (ia 3 93) .done .stop)))) .stop)) (.alt (ld 86 85) (.first (o1 92 (.slS 86 (some 87)
 (some 91))) (.alt (oS ⟨some 82, .call zS0 [81], none⟩ Bq) (.first (o1 93 (.bin .eql 82 92)) (.alt (ia 2 80) (.alt (ia 3 93) .done .stop) .stop))
 .stop)) .stop)) .stop))))))))))))]))) .ret)))))
def Cu : AFn := ⟨ Ud, DB.erase, [.tmp 2, .tmp 3], 1⟩
def Fj (P : Pg) (x : ((List UInt8) × Int)) (K : ((List UInt8) × Bool) → ((List UInt8) × Int) → Prop) : Prop :=
 (((decide (x.2 < (x.1.length : Int))) = true → 0 ≤ x.2 ∧ x.2 < (x.1.length : Int))) ∧
 Ao (D := ((List UInt8) × (Bool × ((List UInt8) × ((List UInt8) × Int))))) (fun J1 => (((cond (decide (x.2 < (x.1.length : Int))) (((x.1.getD x.2.toNat 0).toNat : Int) == (34 : Int)) false) = true → Fn P Uc AR (x.1, (i64.wrap (x.2 + (1 : Int)))) (fun (d3 : ((List UInt8) × Bool)) (e4 : ((List UInt8) × Int)) => (((!d3.2) = true → K (([] : List UInt8), false) e4) ∧ ((!d3.2) = false → J1 (([] : List UInt8), (false, (d3.1, e4))))))) ∧ ((cond (decide (x.2 < (x.1.length : Int))) (((x.1.getD x.2.toNat 0).toNat : Int) == (34 : Int)) false) = false → Ao (D := ((List UInt8) × Int)) (fun J5 => Dm (D := ((List UInt8) × Int)) x (fun d7 J8 => Ao (D := Bool) (fun J9 => (((decide (d7.2 < (d7.1.length : Int))) = true → 0 ≤ d7.2 ∧ d7.2 < (d7.1.length : Int))) ∧
 (Ao (D := Bool) (fun J11 => (((decide (d7.2 < (d7.1.length : Int))) = true → Fn P zS8 Ca ((d7.1.getD d7.2.toNat 0).toNat : Int) (fun (d12 : Bool) _ => J11 d12)) ∧ (((decide (d7.2 < (d7.1.length : Int))) = false → J11 false) ∧ True))) (fun d13 => J9 (cond (decide (d7.2 < (d7.1.length : Int))) d13 false))) ∧ True) (fun d10 => ((d10 = true → Ao (D := ((List UInt8) × Int)) (fun J14 => J14 (d7.1, (i64.wrap (d7.2 + (1 : Int))))) (fun d15 => J8 d15)) ∧ (d10 = false → J5 d7))))) (fun d6 => Ao (D := (List UInt8)) (fun J16 => (0 ≤ x.2 ∧ x.2 ≤ d6.2 ∧ d6.2 ≤ (d6.1.length : Int)) ∧
 (J16 (List.drop x.2.toNat (List.take d6.2.toNat d6.1))) ∧ True) (fun d17 => J1 (([] : List UInt8), (false, (d17, d6)))))))) (fun d2 => Ao (D := ((List UInt8) × Bool)) (fun J18 => (Fn P zS0 Bq d2.2.2.1 (fun (d20 : (List UInt8)) (e21 : Unit) => (((0 ≤ x.2 ∧ x.2 ≤ d2.2.2.2.2 ∧ d2.2.2.2.2 ≤ (d2.2.2.2.1.length : Int)) ∧
 ((J18 (d2.2.2.1, (d20 == (List.drop x.2.toNat (List.take d2.2.2.2.2.toNat d2.2.2.2.1))))) ∧ True) ∧ True) ∧ (((0 ≤ x.2 ∧ x.2 ≤ d2.2.2.2.2 ∧ d2.2.2.2.2 ≤ (d2.2.2.2.1.length : Int)) ∧
 (J18 (d2.2.2.1, (d20 == (List.drop x.2.toNat (List.take d2.2.2.2.2.toNat d2.2.2.2.1))))) ∧ True) ∧ True)) ∧ ((((0 ≤ x.2 ∧ x.2 ≤ d2.2.2.2.2 ∧ d2.2.2.2.2 ≤ (d2.2.2.2.1.length : Int)) ∧
 ((J18 (d2.2.2.1, (d20 == (List.drop x.2.toNat (List.take d2.2.2.2.2.toNat d2.2.2.2.1))))) ∧ True) ∧ True) ∧ (((0 ≤ x.2 ∧ x.2 ≤ d2.2.2.2.2 ∧ d2.2.2.2.2 ≤ (d2.2.2.2.1.length : Int)) ∧
 (J18 (d2.2.2.1, (d20 == (List.drop x.2.toNat (List.take d2.2.2.2.2.toNat d2.2.2.2.1))))) ∧ True) ∧ True)) ∧ (((0 ≤ x.2 ∧ x.2 ≤ d2.2.2.2.2 ∧ d2.2.2.2.2 ≤ (d2.2.2.2.1.length : Int)) ∧
 (J18 (d2.2.2.1, (d20 == (List.drop x.2.toNat (List.take d2.2.2.2.2.toNat d2.2.2.2.1))))) ∧ True) ∧ True)))) ∧ (((Fn P zS0 Bq d2.2.2.1 (fun (d22 : (List UInt8)) (e23 : Unit) => ((0 ≤ x.2 ∧ x.2 ≤ d2.2.2.2.2 ∧ d2.2.2.2.2 ≤ (d2.2.2.2.1.length : Int)) ∧
 ((J18 (d2.2.2.1, (d22 == (List.drop x.2.toNat (List.take d2.2.2.2.2.toNat d2.2.2.2.1))))) ∧ True) ∧ True) ∧ (((0 ≤ x.2 ∧ x.2 ≤ d2.2.2.2.2 ∧ d2.2.2.2.2 ≤ (d2.2.2.2.1.length : Int)) ∧
 (J18 (d2.2.2.1, (d22 == (List.drop x.2.toNat (List.take d2.2.2.2.2.toNat d2.2.2.2.1))))) ∧ True) ∧ True))) ∧ (((0 ≤ x.2 ∧ x.2 ≤ d2.2.2.2.2 ∧ d2.2.2.2.2 ≤ (d2.2.2.2.1.length : Int)) ∧
 (Fn P zS0 Bq d2.2.2.1 (fun (d24 : (List UInt8)) (e25 : Unit) => ((J18 (d2.2.2.1, (d24 == (List.drop x.2.toNat (List.take d2.2.2.2.2.toNat d2.2.2.2.1))))) ∧ True) ∧ True)) ∧ True) ∧ True)) ∧ (((Fn P zS0 Bq d2.2.2.1 (fun (d26 : (List UInt8)) (e27 : Unit) => ((0 ≤ x.2 ∧ x.2 ≤ d2.2.2.2.2 ∧ d2.2.2.2.2 ≤ (d2.2.2.2.1.length : Int)) ∧
 ((J18 (d2.2.2.1, (d26 == (List.drop x.2.toNat (List.take d2.2.2.2.2.toNat d2.2.2.2.1))))) ∧ True) ∧ True) ∧ (((0 ≤ x.2 ∧ x.2 ≤ d2.2.2.2.2 ∧ d2.2.2.2.2 ≤ (d2.2.2.2.1.length : Int)) ∧
 (J18 (d2.2.2.1, (d26 == (List.drop x.2.toNat (List.take d2.2.2.2.2.toNat d2.2.2.2.1))))) ∧ True) ∧ True))) ∧ (((0 ≤ x.2 ∧ x.2 ≤ d2.2.2.2.2 ∧ d2.2.2.2.2 ≤ (d2.2.2.2.1.length : Int)) ∧
 (Fn P zS0 Bq d2.2.2.1 (fun (d28 : (List UInt8)) (e29 : Unit) => ((J18 (d2.2.2.1, (d28 == (List.drop x.2.toNat (List.take d2.2.2.2.2.toNat d2.2.2.2.1))))) ∧ True) ∧ True)) ∧ True) ∧ True)) ∧ True))) (fun d19 => K d19 d2.2.2.2))
theorem Ii {P : Pg} (h : Has P Cu) {x : DP A6.ps} {K : DP A6.rs → DP (ptrs A6.ps) → Prop} (hw : Fj P x K) : Fn P Ud A6 x K :=
 CU (c := DB) h rfl rfl (by kernel_rfl) (Eq.mpr (show CG P Cu A6 DB x K = _ by kernel_rfl) hw)
def GX : BE :=
 (.seq (.region [o1 2 (.asg (.c (.slice none 0 0))), o1 3 (.asg kF)]) (.seq (.seq (.region [im 9 0, o1 10 (.bin .eql 9 (.c (.string ⟨#[]⟩)))]) (.cond 10 (.seq (.region [o1 2 (.asg
 (.c (.slice none 0 0))), o1 3 (.asg kT)]) .ret) .skip)) (.seq (.region [im 11 0, o1 12 (.build [(.string ⟨#[]⟩), (.int .i64 0)] [(0, 1, 11)]), o1 13 (.box 12), ia 4 13]) (.seq
 (.region [im 14 4, o1 15 (.mkf (Ud, true) [14]), ia 5 15]) (.seq (.region [o1 6 (.asg (.c (.slice none 0 0)))]) (.frame (rg [2, 3, 6, 7, 8] 16 33)
 [1013] true (.block 0 (.loop [.sl 2 false (.sl .str) tO, .sl 3 false .bool .leaf, .sl 6 false (.sl .str) tO, .bx 1013 (.pair .str bI) .leaf] (.frame (rg [2, 3, 6, 7, 8] 16 33)
 [1013] true (.join [.sl 2 false (.sl .str) tO, .sl 3 false .bool .leaf, .sl 6 false (.sl .str) tO, .bx 1013 (.pair .str bI) .leaf] (.block 1 (.seq (.region [im 17 5, oS ⟨some 18,
 .callv 17 [], none⟩ A6, im 16 18, o1 19 (.ext 16 0), o1 20 (.ext 16 1), ia 7 19, ia 8 20]) (.seq (.seq (.region [im 21 8, o1 22 (.un .not 21)]) (.cond 22 (.seq
 (.region [o1 2 (.asg (.c (.slice none 0 0))), o1 3 (.asg kF)]) .ret) .skip)) (.seq (.region [im 23 6, im 24 7, oT ⟨some 25, .buildSl 1 [(.string ⟨#[]⟩)] 1 [(0, 24)], none⟩ (some
 (.str, .leaf)), oT ⟨some 26, .app 1 16 23 25, none⟩ (some (.str, .leaf)), ia 6 26]) (.seq (.seq (.region [im 27 4, o1 28 (.nilc 27), fa 29 1 28, ld 30 29, im 31 0, o1 32 (.GN
 31), o1 33 (.bin .eql 30 32)]) (.cond 33 (.seq (.region [im 34 6, ia 2 34, o1 3 (.asg kT)]) .ret) .skip)) (.seq (.seq (.region [im 35 0, im 36 4, o1 37 (.nilc 36), fa 38 1 37, ld
 39 38, o1 40 (.ixS 35 39), o1 41 (.bin .neq 40 (.c (.int .u8 32)))]) (.cond 41 (.seq (.region [o1 2 (.asg (.c (.slice none 0 0))), o1 3 (.asg kF)]) .ret) .skip)) (.region [im 42 4,
 o1 43 (.nilc 42), fa 44 1 43, ld 45 44, o1 46 (.bin .add 45 (kI 1)), o1 47 (.nilc 42), fa 48 1 47, o0 ⟨none, .store 1 48 46, none⟩])))))))))))))))))
def EU : AFn := ⟨ Ue, GX.erase, [.tmp 2, .tmp 3], 1⟩
def Jf (P : Pg) (x : (List UInt8)) (K : ((List (List UInt8)) × Bool) → Unit → Prop) : Prop :=
 (((x == ([] : List UInt8)) = true → K ([], true) ()) ∧ ((x == ([] : List UInt8)) = false → Dm (D := ((List (List UInt8)) × (Bool × ((List (List UInt8)) × ((List UInt8) × Int))))) ([], (false, ([], (x, (0 : Int))))) (fun d1 J2 => Ao (D := ((List (List UInt8)) × (Bool × ((List (List UInt8)) × ((List UInt8) × Int))))) (fun J3 => Fn P Ud A6 d1.2.2.2 (fun (d5 : ((List UInt8) × Bool)) (e6 : ((List UInt8) × Int)) => (((!d5.2) = true → K ([], false) ()) ∧ ((!d5.2) = false → ((d1.2.2.1.length + List.length ([d5.1] : List (List UInt8))) * 16 ≤ 140737488355328) ∧
 (((e6.2 == (x.length : Int)) = true → K ((d1.2.2.1 ++ ([d5.1] : List (List UInt8))), true) ()) ∧ ((e6.2 == (x.length : Int)) = false → (0 ≤ e6.2 ∧ e6.2 < (x.length : Int)) ∧
 (((((x.getD e6.2.toNat 0).toNat : Int) != (32 : Int)) = true → K ([], false) ()) ∧ ((((x.getD e6.2.toNat 0).toNat : Int) != (32 : Int)) = false → J3 (d1.1, (d1.2.1, ((d1.2.2.1 ++ ([d5.1] : List (List UInt8))), (e6.1, (i64.wrap (e6.2 + (1 : Int))))))))))))))) (fun d4 => J2 d4))))
theorem Nd {P : Pg} (h : Has P EU) {x : DP B9.ps} {K : DP B9.rs → DP (ptrs B9.ps) → Prop} (hw : Jf P x K) : Fn P Ue B9 x K :=
 CU (c := GX) h rfl rfl (by kernel_rfl) (Eq.mpr (show CG P EU B9 GX x K = _ by kernel_rfl) hw)
def EK : BE :=
 (.seq (.region [o1 2 (.alloc [(.int .i64 0), (.int .i64 0), (.int .i64 0), (.int .i64 0), (.bool false), (.string ⟨#[]⟩)]), ia 3 (kI 0)]) (.seq (.region [im 11 0, oS ⟨some 12,
 .call Ue [11], none⟩ B9, im 10 12, o1 13 (.ext 10 0), o1 14 (.ext 10 1), ia 4 13, ia 5 14]) (.seq (.seq (.region [im 15 5, o1 16 (.un .not 15), im 17
 16, gf 18 17 (.mv 4), gf 19 17 (.lenK 18), gf 20 17 (.bin .eql 19 (kI 0)), o1 21 (.pick 17 kT 20)]) (.cond 21 (.seq (.region [o1 22 (.build [(.int .i64 0), (.int .i64 0), (.int
 .i64 0), (.int .i64 0), (.bool false), (.string ⟨#[]⟩)] []), o0 ⟨none, .store 6 2 22, none⟩, ia 3 (kI 320)]) .ret) .skip)) (.seq (.seq (.region [oS ⟨some 23, .call
 zS7 [], none⟩ Bx, o1 24 (.lenK 23), o1 25 (.mv (kI 0))]) (.frame (rg [3, 7, 8, 9] 25 20) [1002, 1007, 1008] false (.join [.si 3, .bx 1002
 AJ .leaf] (.block 0 (.loop [.si 3, .si 25, .bx 1002 AJ .leaf] (.seq (.region [o1 26 (.bin .lss 25 24)]) (.seq (.cond 26 .skip (.exit 0)) (.seq (.frame (rg [3, 7, 8, 9]
 27 17) [1002, 1007, 1008] false (.join [.si 3, .bx 1002 AJ .leaf] (.block 1 (.seq (.region [o1 27 (.ixA 6 23 25), o1 28 (.load true 6 27), o1 7 (.alloc [(.string ⟨#[]⟩),
 (.int .i64 0), (.bool false), (.bool false), (.bool false), (.bool false)]), o0 ⟨none, .store 6 7 28, none⟩]) (.seq (.seq (.draw [(.first (fa 29 0 7) (.first (ld 30 29) (.first (im
 31 4) (.first (o1 32 (.ixA 1 31 (kI 0))) (.first (ld 33 32) (.first (o1 34 (.bin .neq 30 33)) .done))))))]) (.cond 34 (.exit 1) .skip)) (.seq (.frame (rg [8, 9] 35 7) [1008] false
 (.join [.pt 8 1008 0, .sl 9 false .bool .leaf, .bx 1008 AJ .leaf] (.draw [(.first (im 37 4) (.first (o1 38 (.slK 1 37 (some (kI 1)) none)) (.alt (o1 36 (.load true 6 7))
 (.alt (oS ⟨some 39, .call zS2 [36, 38], none⟩ AO) (.first (im 35 39) (.alt (o1 40 (.ext 35 0)) (.alt (o1 41 (.ext 35 1)) (.alt (o1 8
 (.alloc [(.int .i64 0), (.int .i64 0), (.int .i64 0), (.int .i64 0), (.bool false), (.string ⟨#[]⟩)])) (.alt (o0 ⟨none, .store 6 8 40, none⟩) (.alt (ia 9 41) .done .stop) .stop)
 .stop) (.alt (o1 8 (.alloc [(.int .i64 0), (.int .i64 0), (.int .i64 0), (.int .i64 0), (.bool false), (.string ⟨#[]⟩)])) (.alt (o1 41 (.ext 35 1)) (.alt (o0 ⟨none, .store 6 8 40,
 none⟩) (.alt (ia 9 41) .done .stop) .stop) (.alt (o0 ⟨none, .store 6 8 40, none⟩) (.alt (o1 41 (.ext 35 1)) (.alt (ia 9 41) .done .stop) .stop) .stop)) .stop)) (.alt (o1 41 (.ext
 35 1)) (.alt (o1 40 (.ext 35 0)) (.alt (o1 8 (.alloc [(.int .i64 0), (.int .i64 0), (.int .i64 0), (.int .i64 0), (.bool false), (.string ⟨#[]⟩)])) (.alt (o0 ⟨none, .store 6 8 40,
 none⟩) (.alt (ia 9 41) .done .stop) .stop) .stop) (.alt (o1 8 (.alloc [(.int .i64 0), (.int .i64 0), (.int .i64 0), (.int .i64 0), (.bool false), (.string ⟨#[]⟩)])) (.alt (o1 40
 (.ext 35 0)) (.alt (o0 ⟨none, .store 6 8 40, none⟩) (.alt (ia 9 41) .done .stop) .stop) .stop) .stop)) (.alt (o1 8 (.alloc [(.int .i64 0), (.int .i64 0), (.int .i64 0), (.int .i64
 0), (.bool false), (.string ⟨#[]⟩)])) (.alt (o1 40 (.ext 35 0)) (.alt (o1 41 (.ext 35 1)) (.alt (o0 ⟨none, .store 6 8 40, none⟩) (.alt (ia 9 41) .done .stop) .stop) (.alt (o0
 ⟨none, .store 6 8 40, none⟩) (.alt (o1 41 (.ext 35 1)) (.alt (ia 9 41) .done .stop) .stop) .stop)) (.alt (o1 41 (.ext 35 1)) (.alt (o1 40 (.ext 35 0)) (.alt (o0 ⟨none, .store 6 8
 40, none⟩) (.alt (ia 9 41) .done .stop) .stop) .stop) .stop)) .stop)))) (.alt (o1 8 (.alloc [(.int .i64 0), (.int .i64 0), (.int .i64 0), (.int .i64 0), (.bool false), (.string
 ⟨#[]⟩)])) (.alt (oS ⟨some 39, .call zS2 [36, 38], none⟩ AO) (.first (im 35 39) (.alt (o1 40 (.ext 35 0)) (.alt (o1 41 (.ext 35 1))
 (.alt (o0 ⟨none, .store 6 8 40, none⟩) (.alt (ia 9 41) .done .stop) .stop) (.alt (o0 ⟨none, .store 6 8 40, none⟩) (.alt (o1 41 (.ext 35 1)) (.alt (ia 9 41) .done .stop) .stop)
 .stop)) (.alt (o1 41 (.ext 35 1)) (.alt (o1 40 (.ext 35 0)) (.alt (o0 ⟨none, .store 6 8 40, none⟩) (.alt (ia 9 41) .done .stop) .stop) .stop) .stop))) .stop) .stop)) (.alt (o1 8
 (.alloc [(.int .i64 0), (.int .i64 0), (.int .i64 0), (.int .i64 0), (.bool false), (.string ⟨#[]⟩)])) (.first (o1 36 (.load true 6 7)) (.alt (oS ⟨some 39, .call
 zS2 [36, 38], none⟩ AO) (.first (im 35 39) (.alt (o1 40 (.ext 35 0)) (.alt (o1 41 (.ext 35 1)) (.alt (o0 ⟨none, .store 6 8 40, none⟩)
 (.alt (ia 9 41) .done .stop) .stop) (.alt (o0 ⟨none, .store 6 8 40, none⟩) (.alt (o1 41 (.ext 35 1)) (.alt (ia 9 41) .done .stop) .stop) .stop)) (.alt (o1 41 (.ext 35 1)) (.alt (o1
 40 (.ext 35 0)) (.alt (o0 ⟨none, .store 6 8 40, none⟩) (.alt (ia 9 41) .done .stop) .stop) .stop) .stop))) .stop)) .stop))))]))) (.seq (.region [im 42 9]) (.cond 42 (.seq (.region
 [o1 43 (.load true 6 8), o0 ⟨none, .store 6 2 43, none⟩, ia 3 (kI 0)]) .ret) .skip)))))))) (.region [o1 44 (.bin .add 25 (kI 1)), im 25 44]))))))))) (.seq (.region [o1 45 (.build
 [(.int .i64 0), (.int .i64 0), (.int .i64 0), (.int .i64 0), (.bool false), (.string ⟨#[]⟩)] []), o0 ⟨none, .store 6 2 45, none⟩, ia 3 (kI 320)]) .ret)))))
def Du : AFn := ⟨ zS1, EK.erase, [.cell 2 true 6, .tmp 3], 1⟩
def G4 (P : Pg) (x : (List UInt8)) (K : (Command × Int) → Unit → Prop) : Prop :=
 Fn P Ue B9 x (fun (d1 : ((List (List UInt8)) × Bool)) (e2 : Unit) => (((cond (!d1.2) true ((d1.1.length : Int) == (0 : Int))) = true → K (((0 : Int), ((0 : Int), ((0 : Int), ((0 : Int), (false, ([] : List UInt8)))))), (320 : Int)) ()) ∧ ((cond (!d1.2) true ((d1.1.length : Int) == (0 : Int))) = false → Fn P zS7 Bx () (fun (d3 : (List Al)) (e4 : Unit) => Ao (D := (Int × Command)) (fun J5 => Dm (D := (Int × (Int × Command))) ((0 : Int), ((0 : Int), ((0 : Int), ((0 : Int), ((0 : Int), ((0 : Int), (false, ([] : List UInt8)))))))) (fun d7 J8 => (((decide (d7.2.1 < (d3.length : Int))) = true → Ao (D := (Int × Command)) (fun J9 => (0 ≤ d7.2.1 ∧ d7.2.1 < (d3.length : Int)) ∧
 (d7.2.1.toNat < d3.length) ∧
 (0 ≤ (0 : Int) ∧ (0 : Int) < (d1.1.length : Int)) ∧
 ((Int.toNat (0 : Int)) < d1.1.length) ∧
 (((!((List.getD d3 d7.2.1.toNat A1).1 == (List.getD d1.1 (Int.toNat (0 : Int)) []))) = true → J9 (d7.1, d7.2.2)) ∧ ((!((List.getD d3 d7.2.1.toNat A1).1 == (List.getD d1.1 (Int.toNat (0 : Int)) []))) = false → Ao (D := (Bool × Command)) (fun J11 => (0 ≤ (1 : Int) ∧ (1 : Int) ≤ (d1.1.length : Int)) ∧
 ((((Int.toNat (1 : Int)) + (d1.1.length - Int.toNat (1 : Int)) ≤ d1.1.length) ∧
 Fn P zS2 AO ((List.getD d3 d7.2.1.toNat A1), (List.take (d1.1.length - Int.toNat (1 : Int)) (List.drop (Int.toNat (1 : Int)) d1.1))) (fun (d13 : (Command × Bool)) (e14 : Unit) => (((((J11 (d13.2, d13.1)) ∧ True) ∧ True) ∧ True) ∧ (((((J11 (d13.2, d13.1)) ∧ True) ∧ True) ∧ ((((J11 (d13.2, d13.1)) ∧ True) ∧ True) ∧ True)) ∧ True)) ∧ ((((((J11 (d13.2, d13.1)) ∧ True) ∧ True) ∧ True) ∧ (((((J11 (d13.2, d13.1)) ∧ True) ∧ True) ∧ True) ∧ True)) ∧ ((((((J11 (d13.2, d13.1)) ∧ True) ∧ True) ∧ ((((J11 (d13.2, d13.1)) ∧ True) ∧ True) ∧ True)) ∧ (((((J11 (d13.2, d13.1)) ∧ True) ∧ True) ∧ True) ∧ True)) ∧ True)))) ∧ (((((Int.toNat (1 : Int)) + (d1.1.length - Int.toNat (1 : Int)) ≤ d1.1.length) ∧
 Fn P zS2 AO ((List.getD d3 d7.2.1.toNat A1), (List.take (d1.1.length - Int.toNat (1 : Int)) (List.drop (Int.toNat (1 : Int)) d1.1))) (fun (d15 : (Command × Bool)) (e16 : Unit) => ((((J11 (d15.2, d15.1)) ∧ True) ∧ True) ∧ ((((J11 (d15.2, d15.1)) ∧ True) ∧ True) ∧ True)) ∧ (((((J11 (d15.2, d15.1)) ∧ True) ∧ True) ∧ True) ∧ True))) ∧ True) ∧ True)) ∧ (((((Int.toNat (1 : Int)) + (d1.1.length - Int.toNat (1 : Int)) ≤ d1.1.length) ∧
 Fn P zS2 AO ((List.getD d3 d7.2.1.toNat A1), (List.take (d1.1.length - Int.toNat (1 : Int)) (List.drop (Int.toNat (1 : Int)) d1.1))) (fun (d17 : (Command × Bool)) (e18 : Unit) => ((((J11 (d17.2, d17.1)) ∧ True) ∧ True) ∧ ((((J11 (d17.2, d17.1)) ∧ True) ∧ True) ∧ True)) ∧ (((((J11 (d17.2, d17.1)) ∧ True) ∧ True) ∧ True) ∧ True))) ∧ True) ∧ True)) (fun d12 => ((d12.1 = true → K (d12.2, (0 : Int)) ()) ∧ (d12.1 = false → J9 (d7.1, d7.2.2))))))) (fun d10 => J8 (d10.1, ((i64.wrap (d7.2.1 + (1 : Int))), d10.2)))) ∧ ((decide (d7.2.1 < (d3.length : Int))) = false → J5 (d7.1, d7.2.2))))) (fun d6 => K (((0 : Int), ((0 : Int), ((0 : Int), ((0 : Int), (false, ([] : List UInt8)))))), (320 : Int)) ())))))
theorem Ku {P : Pg} (h : Has P Du) {x : DP AZ.ps} {K : DP AZ.rs → DP (ptrs AZ.ps) → Prop} (hw : G4 P x K) : Fn P zS1 AZ x K :=
 CU (c := EK) h rfl rfl (by kernel_rfl) (Eq.mpr (show CG P Du AZ EK x K = _ by kernel_rfl) hw)
def Gb : BE :=
 (.seq (.region [o1 0 (.asg kF)]) (.seq (.region [oS ⟨some 6, .call zS1 [(.c (.string ⟨#[108, 105, 110, 101, 115, 32, 51, 32, 48, 32, 50, 32, 120]⟩))], none⟩
 AZ, im 5 6, o1 7 (.ext 5 0), o1 8 (.ext 5 1), o1 1 (.alloc [(.int .i64 0), (.int .i64 0), (.int .i64 0), (.int .i64 0), (.bool false), (.string ⟨#[]⟩)]), o0 ⟨none,
 .store 6 1 7, none⟩, ia 2 8]) (.seq (.region [oS ⟨some 10, .call zS1 [(.c (.string ⟨#[108, 111, 103, 32, 48, 49]⟩))], none⟩ AZ, im 9 10, o1 11
 (.ext 9 0), o1 12 (.ext 9 1), o1 3 (.alloc [(.int .i64 0), (.int .i64 0), (.int .i64 0), (.int .i64 0), (.bool false), (.string ⟨#[]⟩)]), o0 ⟨none, .store 6 3 11, none⟩, ia 4 12])
 (.seq (.region [im 13 2, o1 14 (.bin .eql 13 (kI 0)), im 15 14, gt 16 15 (.mv 4), gt 17 15 (.bin .eql 16 (kI 320)), o1 18 (.pick 15 17 kF), im 19 18, gt 20 19 (.load true 6 1), o0
 ⟨some 21, .build [(.int .i64 0), (.int .i64 0), (.int .i64 0), (.int .i64 0), (.bool false), (.string ⟨#[]⟩)] [(0, 1, (kI 7)), (1, 1, (kI 3)), (3, 1, (kI 2)), (5, 1, (.c (.string
 ⟨#[120]⟩)))], some (19, true)⟩, gt 22 19 (.eqA false [.int, .int, .int, .int, .bool, .str] 20 21), o1 23 (.pick 19 22 kF), ia 0 23]) .ret))))
def Ek : AFn := ⟨ zS4, Gb.erase, [.tmp 0], 0⟩
def Im (P : Pg) (x : Unit) (K : Bool → Unit → Prop) : Prop :=
 Fn P zS1 AZ ([108, 105, 110, 101, 115, 32, 51, 32, 48, 32, 50, 32, 120] : List UInt8) (fun (d1 : (Command × Int)) (e2 : Unit) => Fn P zS1 AZ ([108, 111, 103, 32, 48, 49] : List UInt8) (fun (d3 : (Command × Int)) (e4 : Unit) => K (cond (cond (d1.2 == (0 : Int)) (d3.2 == (320 : Int)) false) ((d1.1.1 == (7 : Int)) && ((d1.1.2.1 == (3 : Int)) && ((d1.1.2.2.1 == (0 : Int)) && ((d1.1.2.2.2.1 == (2 : Int)) && ((d1.1.2.2.2.2.1 == false) && ((d1.1.2.2.2.2.2 == ([120] : List UInt8)) && true)))))) false) ()))
theorem Ma {P : Pg} (h : Has P Ek) {x : DP Bg.ps} {K : DP Bg.rs → DP (ptrs Bg.ps) → Prop} (hw : Im P x K) : Fn P zS4 Bg x K :=
 CU (c := Gb) h rfl rfl (by kernel_rfl) (Eq.mpr (show CG P Ek Bg Gb x K = _ by kernel_rfl) hw)
def ZO : BE :=
 (.seq (.region [o1 2 (.asg kF)]) (.seq (.region [im 3 0, oS ⟨some 4, .call "strings.HasSuffix" [3, (.c (.string ⟨#[10]⟩))], none⟩ YM, ia 2 4]) .ret))
def Zq : AFn := ⟨ VG, ZO.erase, [.tmp 2], 1⟩
def Aac (P : Pg) (x : (List UInt8)) (K : Bool → Unit → Prop) : Prop :=
 Fn P "strings.HasSuffix" YM (x, ([10] : List UInt8)) (fun (d1 : Bool) (e2 : Unit) => K d1 ())
theorem AaN {P : Pg} (h : Has P Zq) {x : DP YZ.ps} {K : DP YZ.rs → DP (ptrs YZ.ps) → Prop} (hw : Aac P x K) : Fn P VG YZ x K :=
 CU (c := ZO) h rfl rfl (by kernel_rfl) (Eq.mpr (show CG P Zq YZ ZO x K = _ by kernel_rfl) hw)
def ZN : BE :=
 (.seq (.region [ia 2 (kI 0)]) (.seq (.region [im 4 0, oS ⟨some 5, .call "strings.Count" [4, (.c (.string ⟨#[10]⟩))], none⟩ Y1, ia 3 5]) (.seq (.seq (.region [im 6 0,
 o1 7 (.bin .neq 6 (.c (.string ⟨#[]⟩))), im 8 7, gt 9 8 (.mv 0), oS ⟨some 10, .call VG [9], some (8, true)⟩ YZ, gt 11 8 (.un .not 10), o1 12 (.pick 8
 11 kF)]) (.frame [3, 13, 14] [] false (.join [.si 3] (.cond 12 (.region [im 13 3, o1 14 (.bin .add 13 (kI 1)), ia 3 14]) .skip)))) (.seq (.seq (.region [im 15 0, o1 16 (.GN 15),
 o1 17 (.bin .gtr 16 (kI 1048576)), im 18 17, gf 19 18 (.mv 3), gf 20 18 (.bin .gtr 19 (kI 4096)), o1 21 (.pick 18 kT 20)]) (.cond 21 (.seq (.region [ia 2 (kI 1)]) .ret) .skip))
 (.seq (.region [ia 2 (kI 0)]) .ret)))))
def Zp : AFn := ⟨ VH, ZN.erase, [.tmp 2], 1⟩
def Aab (P : Pg) (x : (List UInt8)) (K : Int → Unit → Prop) : Prop :=
 Fn P "strings.Count" Y1 (x, ([10] : List UInt8)) (fun (d1 : Int) (e2 : Unit) => Ao (D := Bool) (fun J3 => (((!(x == ([] : List UInt8))) = true → Fn P VG YZ x (fun (d4 : Bool) _ => J3 d4)) ∧ (((!(x == ([] : List UInt8))) = false → J3 false) ∧ True))) (fun d5 => Ao (D := Int) (fun J6 => (((cond (!(x == ([] : List UInt8))) (!d5) false) = true → J6 (i64.wrap (d1 + (1 : Int)))) ∧ ((cond (!(x == ([] : List UInt8))) (!d5) false) = false → J6 d1))) (fun d7 => (((cond (decide ((x.length : Int) > (1048576 : Int))) true (decide (d7 > (4096 : Int)))) = true → K (1 : Int) ()) ∧ ((cond (decide ((x.length : Int) > (1048576 : Int))) true (decide (d7 > (4096 : Int)))) = false → K (0 : Int) ())))))
theorem AaM {P : Pg} (h : Has P Zp) {x : DP YY.ps} {K : DP YY.rs → DP (ptrs YY.ps) → Prop} (hw : Aab P x K) : Fn P VH YY x K :=
 CU (c := ZN) h rfl rfl (by kernel_rfl) (Eq.mpr (show CG P Zp YY ZN x K = _ by kernel_rfl) hw)
def ZP : BE :=
 (.seq (.region [o1 2 (.asg (.c (.slice none 0 0))), ia 3 (kI 0)]) (.seq (.seq (.region [im 6 0, oS ⟨some 7, .call VH [6], none⟩ YY, ia 4 7]) (.seq
 (.region [im 8 4, o1 9 (.bin .neq 8 (kI 0))]) (.cond 9 (.seq (.region [im 10 4, o1 2 (.asg (.c (.slice none 0 0))), ia 3 10]) .ret) .skip))) (.seq (.region [im 11 0, oS ⟨some 12,
 .call "strings.SplitAfter" [11, (.c (.string ⟨#[10]⟩))], none⟩ YX, ia 5 12]) (.seq (.seq (.region [im 13 5, im 14 5, o1 15 (.lenK 14), o1 16 (.bin .sub 15 (kI
 1)), o1 17 (.ixA 1 13 16), ld 18 17, o1 19 (.bin .eql 18 (.c (.string ⟨#[]⟩)))]) (.frame (rg [5] 20 5) [] false (.join [.sl 5 false (.sl .str) tO] (.cond 19 (.region [im 20 5, im
 21 5, o1 22 (.lenK 21), o1 23 (.bin .sub 22 (kI 1)), o1 24 (.slK 1 20 none (some 23)), ia 5 24]) .skip)))) (.seq (.region [im 25 5, ia 2 25, ia 3 (kI 0)]) .ret)))))
def Zr : AFn := ⟨ zS5, ZP.erase, [.tmp 2, .tmp 3], 1⟩
def Aad (P : Pg) (x : (List UInt8)) (K : ((List (List UInt8)) × Int) → Unit → Prop) : Prop :=
 Fn P VH YY x (fun (d1 : Int) (e2 : Unit) => (((d1 != (0 : Int)) = true → K ([], d1) ()) ∧ ((d1 != (0 : Int)) = false → Fn P "strings.SplitAfter" YX (x, ([10] : List UInt8)) (fun (d3 : (List (List UInt8))) (e4 : Unit) => (0 ≤ (i64.wrap ((d3.length : Int) - (1 : Int))) ∧ (i64.wrap ((d3.length : Int) - (1 : Int))) < (d3.length : Int)) ∧
 ((Int.toNat (i64.wrap ((d3.length : Int) - (1 : Int)))) < d3.length) ∧
 Ao (D := (List (List UInt8))) (fun J5 => ((((List.getD d3 (Int.toNat (i64.wrap ((d3.length : Int) - (1 : Int)))) []) == ([] : List UInt8)) = true → (0 ≤ (i64.wrap ((d3.length : Int) - (1 : Int))) ∧ (i64.wrap ((d3.length : Int) - (1 : Int))) ≤ (d3.length : Int)) ∧
 (0 + (Int.toNat (i64.wrap ((d3.length : Int) - (1 : Int)))) ≤ d3.length) ∧
 J5 (List.take (Int.toNat (i64.wrap ((d3.length : Int) - (1 : Int)))) (List.drop 0 d3))) ∧ (((List.getD d3 (Int.toNat (i64.wrap ((d3.length : Int) - (1 : Int)))) []) == ([] : List UInt8)) = false → J5 d3))) (fun d6 => K (d6, (0 : Int)) ())))))
theorem AaO {P : Pg} (h : Has P Zr) {x : DP YP.ps} {K : DP YP.rs → DP (ptrs YP.ps) → Prop} (hw : Aad P x K) : Fn P zS5 YP x K :=
 CU (c := ZP) h rfl rfl (by kernel_rfl) (Eq.mpr (show CG P Zr YP ZP x K = _ by kernel_rfl) hw)
def Zk : BE :=
 (.seq (.region [o1 2 (.asg (.c (.slice none 0 0))), ia 3 (kI 0)]) (.seq (.seq (.region [im 8 0, o1 9 (.GN 8), o1 10 (.bin .gtr 9 (kI 65536))]) (.cond 10 (.seq (.region [o1 2
 (.asg (.c (.slice none 0 0))), ia 3 (kI 1)]) .ret) .skip)) (.seq (.region [im 12 0, oS ⟨some 13, .call zS5 [12], none⟩ YP, im 11 13, o1 14 (.ext 11 0),
 o1 15 (.ext 11 1), ia 4 14, ia 5 15]) (.seq (.seq (.region [im 16 5, o1 17 (.bin .neq 16 (kI 0)), im 18 17, gf 19 18 (.mv 4), gf 20 18 (.lenK 19), gf 21 18 (.bin .gtr 20 (kI 100)),
 o1 22 (.pick 18 kT 21)]) (.cond 22 (.seq (.region [o1 2 (.asg (.c (.slice none 0 0))), ia 3 (kI 1)]) .ret) .skip)) (.seq (.seq (.region [im 23 4, o1 24 (.lenK 23), o1 25 (.mv (kI
 0))]) (.frame (rg [4, 6, 7, 23] 25 11) [] false (.join [.sl 4 false (.sl .str) tO] (.block 0 (.loop [.sl 4 false (.sl .str) tO, .rf 23 ⟨.slot 4 0, []⟩ .leaf .str, .si 25] (.seq
 (.region [o1 26 (.bin .lss 25 24)]) (.seq (.cond 26 .skip (.exit 0)) (.seq (.frame (rg [4, 6, 7, 23] 27 8) [] false (.join [.sl 4 false (.sl .str) tO, .rf 23 ⟨.slot 4 0, []⟩ .leaf
 .str] (.block 1 (.seq (.region [im 27 25, o1 28 (.ixA 1 23 25), ld 29 28, ia 6 27, ia 7 29]) (.region [im 30 4, im 31 6, im 32 7, oS ⟨some 33, .call "strings.TrimSuffix" [32, (.c
 (.string ⟨#[10]⟩))], none⟩ YL, o1 34 (.ixA 1 30 31), o0 ⟨none, .store 1 34 33, none⟩]))))) (.region [o1 35 (.bin .add 25 (kI 1)), im 25 35]))))))))) (.seq
 (.region [im 36 4, ia 2 36, ia 3 (kI 0)]) .ret))))))
def Y4 : AFn := ⟨ VI, Zk.erase, [.tmp 2, .tmp 3], 1⟩
def ZQ (P : Pg) (x : (List UInt8)) (K : ((List (List UInt8)) × Int) → Unit → Prop) : Prop :=
 (((decide ((x.length : Int) > (65536 : Int))) = true → K ([], (1 : Int)) ()) ∧ ((decide ((x.length : Int) > (65536 : Int))) = false → Fn P zS5 YP x (fun (d1 : ((List (List UInt8)) × Int)) (e2 : Unit) => (((cond (d1.2 != (0 : Int)) true (decide ((d1.1.length : Int) > (100 : Int)))) = true → K ([], (1 : Int)) ()) ∧ ((cond (d1.2 != (0 : Int)) true (decide ((d1.1.length : Int) > (100 : Int)))) = false → Ao (D := (List (List UInt8))) (fun J3 => Dm (D := ((List (List UInt8)) × (Int × Int))) (d1.1, ((d1.1.length : Int), (0 : Int))) (fun d5 J6 => (((decide (d5.2.2 < (d1.1.length : Int))) = true → Ao (D := ((List (List UInt8)) × Int)) (fun J7 => (0 ≤ d5.2.2 ∧ d5.2.2 < ((d5.2.1.toNat : Nat) : Int)) ∧
 ((0 + Int.toNat d5.2.2) < d5.1.length) ∧
 Fn P "strings.TrimSuffix" YL ((List.getD d5.1 (0 + Int.toNat d5.2.2) []), ([10] : List UInt8)) (fun (d9 : (List UInt8)) (e10 : Unit) => (0 ≤ d5.2.2 ∧ d5.2.2 < (d5.1.length : Int)) ∧
 (d5.2.2.toNat < d5.1.length) ∧
 J7 ((List.set d5.1 d5.2.2.toNat d9), ((d5.2.1.toNat : Nat) : Int)))) (fun d8 => J6 (d8.1, (((d8.2.toNat : Nat) : Int), (i64.wrap (d5.2.2 + (1 : Int))))))) ∧ ((decide (d5.2.2 < (d1.1.length : Int))) = false → J3 d5.1)))) (fun d4 => K (d4, (0 : Int)) ()))))))
theorem Aao {P : Pg} (h : Has P Y4) {x : DP YI.ps} {K : DP YI.rs → DP (ptrs YI.ps) → Prop} (hw : ZQ P x K) : Fn P VI YI x K :=
 CU (c := Zk) h rfl rfl (by kernel_rfl) (Eq.mpr (show CG P Y4 YI Zk x K = _ by kernel_rfl) hw)
def Zc : BE :=
 (.seq (.region [o1 2 (.asg (.c (.slice none 0 0))), ia 3 (kI 0), ia 4 (kI 0)]) (.seq (.region [im 13 0, oS ⟨some 14, .call VI [13], none⟩ YI, im
 12 14, o1 15 (.ext 12 0), o1 16 (.ext 12 1), ia 5 15, ia 6 16]) (.seq (.seq (.region [im 17 6, o1 18 (.bin .neq 17 (kI 0))]) (.cond 18 (.seq (.region [im 19 6, o1 2 (.asg (.c
 (.slice none 0 0))), ia 3 (kI 0), ia 4 19]) .ret) .skip)) (.seq (.region [o1 7 (.asg (.c (.slice none 0 0)))]) (.seq (.seq (.region [im 20 5, o1 21 (.lenK 20), o1 22 (.mv (kI 0))])
 (.frame (rg [2, 3, 4, 7, 8, 9, 10, 11] 22 20) [1010] false (.join [.sl 2 false (.sl AJ) tO, .si 3, .si 4, .sl 7 false (.sl AJ) tO] (.block 0 (.loop [.sl 2 false (.sl
 AJ) tO, .si 3, .si 4, .sl 7 false (.sl AJ) tO, .si 22] (.seq (.region [o1 23 (.bin .lss 22 21)]) (.seq (.cond 23 .skip (.exit 0)) (.seq (.frame (rg [2, 3, 4, 7, 8, 9,
 10, 11] 24 17) [1010] false (.join [.sl 2 false (.sl AJ) tO, .si 3, .si 4, .sl 7 false (.sl AJ) tO] (.block 1 (.seq (.region [im 24 22, o1 25 (.ixA 1 20 22), ld 26 25,
 ia 8 24, ia 9 26]) (.seq (.region [im 28 9, oS ⟨some 29, .call zS1 [28], none⟩ AZ, im 27 29, o1 30 (.ext 27 0), o1 31 (.ext 27 1), o1 10 (.alloc
 [(.int .i64 0), (.int .i64 0), (.int .i64 0), (.int .i64 0), (.bool false), (.string ⟨#[]⟩)]), o0 ⟨none, .store 6 10 30, none⟩, ia 11 31]) (.seq (.seq (.region [im 32 11, o1 33
 (.bin .neq 32 (kI 0))]) (.cond 33 (.seq (.region [im 34 8, o1 35 (.bin .add 34 (kI 1)), im 36 11, o1 2 (.asg (.c (.slice none 0 0))), ia 3 35, ia 4 36]) .ret) .skip)) (.region [im
 37 7, o1 38 (.load true 6 10), oT ⟨some 39, .buildSl 6 [(.int .i64 0), (.int .i64 0), (.int .i64 0), (.int .i64 0), (.bool false), (.string ⟨#[]⟩)] 1 [(0, 38)], none⟩ (some
 (AJ, .leaf)), oT ⟨some 40, .app 6 56 37 39, none⟩ (some (AJ, .leaf)), ia 7 40]))))))) (.region [o1 41 (.bin .add 22 (kI 1)), im 22 41]))))))))) (.seq (.region [im 42 7,
 ia 2 42, ia 3 (kI 0), ia 4 (kI 0)]) .ret))))))
def Y3 : AFn := ⟨ zS6, Zc.erase, [.tmp 2, .tmp 3, .tmp 4], 1⟩
def ZG (P : Pg) (x : (List UInt8)) (K : ((List Command) × (Int × Int)) → Unit → Prop) : Prop :=
 Fn P VI YI x (fun (d1 : ((List (List UInt8)) × Int)) (e2 : Unit) => (((d1.2 != (0 : Int)) = true → K ([], ((0 : Int), d1.2)) ()) ∧ ((d1.2 != (0 : Int)) = false → Ao (D := ((List Command) × (Int × (Int × (List Command))))) (fun J3 => Dm (D := ((List Command) × (Int × (Int × ((List Command) × Int))))) ([], ((0 : Int), ((0 : Int), ([], (0 : Int))))) (fun d5 J6 => (((decide (d5.2.2.2.2 < (d1.1.length : Int))) = true → Ao (D := ((List Command) × (Int × (Int × (List Command))))) (fun J7 => (0 ≤ d5.2.2.2.2 ∧ d5.2.2.2.2 < (d1.1.length : Int)) ∧
 (d5.2.2.2.2.toNat < d1.1.length) ∧
 Fn P zS1 AZ (List.getD d1.1 d5.2.2.2.2.toNat []) (fun (d9 : (Command × Int)) (e10 : Unit) => (((d9.2 != (0 : Int)) = true → K ([], ((i64.wrap (d5.2.2.2.2 + (1 : Int))), d9.2)) ()) ∧ ((d9.2 != (0 : Int)) = false → ((d5.2.2.2.1.length + List.length ([d9.1] : List Command)) * 56 ≤ 140737488355328) ∧
 J7 (d5.1, (d5.2.1, (d5.2.2.1, (d5.2.2.2.1 ++ ([d9.1] : List Command))))))))) (fun d8 => J6 (d8.1, (d8.2.1, (d8.2.2.1, (d8.2.2.2, (i64.wrap (d5.2.2.2.2 + (1 : Int))))))))) ∧ ((decide (d5.2.2.2.2 < (d1.1.length : Int))) = false → J3 (d5.1, (d5.2.1, (d5.2.2.1, d5.2.2.2.1))))))) (fun d4 => K (d4.2.2.2, ((0 : Int), (0 : Int))) ()))))
theorem Aaf {P : Pg} (h : Has P Y3) {x : DP YE.ps} {K : DP YE.rs → DP (ptrs YE.ps) → Prop} (hw : ZG P x K) : Fn P zS6 YE x K :=
 CU (c := Zc) h rfl rfl (by kernel_rfl) (Eq.mpr (show CG P Y3 YE Zc x K = _ by kernel_rfl) hw)
def Ac0 : BE :=
 (.seq (.region [o1 2 (.asg kF)]) (.seq (.region [ia 3 (kI 100)]) (.seq (.region [ia 4 (kI 0)]) (.seq (.seq (.region [im 10 0]) (.frame [3, 4, 11, 12] [] false (.join [.si 3, .si 4]
 (.cond 10 (.seq (.region [im 11 3, o1 12 (.bin .add 11 (kI 1)), ia 3 12]) (.region [ia 4 (kI 1)])) .skip)))) (.seq (.region [o1 5 (.asg (.c (.string ⟨#[]⟩)))]) (.seq (.seq (.region
 [ia 6 (kI 0)]) (.frame (rg [5, 6] 13 7) [] false (.join [.sl 5 false .str .leaf] (.block 0 (.loop [.sl 5 false .str .leaf, .si 6] (.seq (.seq (.region [im 13 6, im 14 3, o1 15
 (.bin .lss 13 14)]) (.cond 15 .skip (.exit 0))) (.seq (.frame [5, 18, 19] [] false (.join [.sl 5 false .str .leaf] (.block 1 (.region [im 18 5, o1 19 (.bin .add 18 (.c (.string
 ⟨#[108, 111, 103, 32, 48, 10]⟩))), ia 5 19])))) (.region [im 16 6, o1 17 (.bin .add 16 (kI 1)), ia 6 17])))))))) (.seq (.region [im 21 5, oS ⟨some 22, .call
 zS6 [21], none⟩ YE, im 20 22, o1 23 (.ext 20 0), o1 24 (.ext 20 1), o1 25 (.ext 20 2), ia 7 23, ia 8 24, ia 9 25]) (.seq (.region [im 26 9, im
 27 4, o1 28 (.bin .eql 26 27), im 29 28, gt 30 29 (.mv 8), gt 31 29 (.bin .eql 30 (kI 0)), o1 32 (.pick 29 31 kF), im 33 32, gt 34 33 (.mv 0), gt 35 33 (.mv 34), gf 36 35 (.mv 7),
 gf 37 35 (.lenK 36), gf 38 35 (.mv 3), gf 39 35 (.bin .eql 37 38), gt 40 33 (.pick 35 kT 39), o1 41 (.pick 33 40 kF), im 42 41, oS ⟨some 43, .call zS4
 [], some (42, true)⟩ Bg, o1 44 (.pick 42 43 kF), ia 2 44]) .ret))))))))
def AcZ : AFn := ⟨ VJ, Ac0.erase, [.tmp 2], 1⟩
def Ac1 (P : Pg) (x : Bool) (K : Bool → Unit → Prop) : Prop :=
 Ao (D := (Int × Int)) (fun J1 => ((x = true → J1 ((i64.wrap ((100 : Int) + (1 : Int))), (1 : Int))) ∧ (x = false → J1 ((100 : Int), (0 : Int))))) (fun d2 => Ao (D := (List UInt8)) (fun J3 => Dm (D := ((List UInt8) × Int)) (([] : List UInt8), (0 : Int)) (fun d5 J6 => (((decide (d5.2 < d2.1)) = true → Ao (D := (List UInt8)) (fun J7 => (d5.1.length + List.length ([108, 111, 103, 32, 48, 10] : List UInt8) ≤ 9223372036854775807) ∧
 J7 (d5.1 ++ ([108, 111, 103, 32, 48, 10] : List UInt8))) (fun d8 => J6 (d8, (i64.wrap (d5.2 + (1 : Int)))))) ∧ ((decide (d5.2 < d2.1)) = false → J3 d5.1)))) (fun d4 => Fn P zS6 YE d4 (fun (d9 : ((List Command) × (Int × Int))) (e10 : Unit) => Ao (D := Bool) (fun J11 => (((cond (cond (d9.2.2 == d2.2) (d9.2.1 == (0 : Int)) false) (cond x true ((d9.1.length : Int) == d2.1)) false) = true → Fn P zS4 Bg () (fun (d12 : Bool) _ => J11 d12)) ∧ (((cond (cond (d9.2.2 == d2.2) (d9.2.1 == (0 : Int)) false) (cond x true ((d9.1.length : Int) == d2.1)) false) = false → J11 false) ∧ True))) (fun d13 => K (cond (cond (cond (d9.2.2 == d2.2) (d9.2.1 == (0 : Int)) false) (cond x true ((d9.1.length : Int) == d2.1)) false) d13 false) ()))))
theorem Ac2 {P : Pg} (h : Has P AcZ) {x : DP AcY.ps} {K : DP AcY.rs → DP (ptrs AcY.ps) → Prop} (hw : Ac1 P x K) : Fn P VJ AcY x K :=
 CU (c := Ac0) h rfl rfl (by kernel_rfl) (Eq.mpr (show CG P AcZ AcY Ac0 x K = _ by kernel_rfl) hw)
def FI : BE :=
 (.seq (.region [o1 2 (.asg (.c (.string ⟨#[]⟩)))]) (.seq (.frame (rg [] 2 37) [] false (.join [.sl 2 false .str .leaf] (.block 0 (.seq (.region [im 4 0, o1 5 (.bin .eql 4 (.c (.int
 .u8 34))), im 6 5, gf 7 6 (.mv 0), gf 8 6 (.bin .eql 7 (.c (.int .u8 92))), o1 9 (.pick 6 kT 8), ia 3 9]) (.cond 3 (.seq (.region [im 10 0, o1 11 (.conv .ofInt 10), o1 12 (.bin
 .add (.c (.string ⟨#[92]⟩)) 11), ia 2 12]) .ret) (.seq (.region [im 14 0, o1 15 (.bin .eql 14 (.c (.int .u8 10))), ia 13 15]) (.cond 13 (.seq (.region [o1 2 (.asg (.c (.string
 ⟨#[92, 110]⟩)))]) .ret) (.seq (.region [im 17 0, o1 18 (.bin .eql 17 (.c (.int .u8 9))), ia 16 18]) (.cond 16 (.seq (.region [o1 2 (.asg (.c (.string ⟨#[92, 116]⟩)))]) .ret) (.seq
 (.region [im 20 0, o1 21 (.bin .lss 20 (.c (.int .u8 32))), im 22 21, gf 23 22 (.mv 0), gf 24 22 (.bin .gtr 23 (.c (.int .u8 126))), o1 25 (.pick 22 kT 24), ia 19 25]) (.cond 19
 (.seq (.region [im 26 0, o1 27 (.bin .shr 26 (.c (.int .u64 6))), o1 28 (.bin .add (.c (.int .u8 48)) 27), im 29 0, o1 30 (.bin .shr 29 (.c (.int .u64 3))), o1 31 (.bin .and 30 (.c
 (.int .u8 7))), o1 32 (.bin .add (.c (.int .u8 48)) 31), im 33 0, o1 34 (.bin .and 33 (.c (.int .u8 7))), o1 35 (.bin .add (.c (.int .u8 48)) 34), oT ⟨some 36, .buildSl 1 [(.int
 .u8 0)] 3 [(0, 28), (1, 32), (2, 35)], none⟩ (some ((.int .u8), .leaf)), o1 37 (.conv .bytesToStr 36), o1 38 (.bin .add (.c (.string ⟨#[92]⟩)) 37), ia 2 38]) .ret) .skip)))))))))))
 (.seq (.region [im 39 0, o1 40 (.conv .ofInt 39), ia 2 40]) .ret)))
def DJ : AFn := ⟨ "mergelens/scan.escaped", FI.erase, [.tmp 2], 1⟩
def Hj (P : Pg) (x : Int) (K : (List UInt8) → Unit → Prop) : Prop :=
 Ao (D := (List UInt8)) (fun J1 => (((cond (x == (34 : Int)) true (x == (92 : Int))) = true → (List.length ([92] : List UInt8) + List.length (SX x) ≤ 9223372036854775807) ∧
 K (([92] : List UInt8) ++ (SX x)) ()) ∧ ((cond (x == (34 : Int)) true (x == (92 : Int))) = false → (((x == (10 : Int)) = true → K ([92, 110] : List UInt8) ()) ∧ ((x == (10 : Int)) = false → (((x == (9 : Int)) = true → K ([92, 116] : List UInt8) ()) ∧ ((x == (9 : Int)) = false → (((cond (decide (x < (32 : Int))) true (decide (x > (126 : Int)))) = true → (0 ≤ (6 : Int)) ∧
 (0 ≤ (3 : Int)) ∧
 (List.length ([92] : List UInt8) + List.length (strOf ([(u8.wrap ((48 : Int) + (Int.fdiv x (2 ^ (min (Int.toNat (6 : Int)) u8.bits))))), (u8.wrap ((48 : Int) + (u8.wrap ((BitVec.toNat (BitVec.ofInt u8.bits (Int.fdiv x (2 ^ (min (Int.toNat (3 : Int)) u8.bits))) &&& BitVec.ofInt u8.bits (7 : Int)) : Nat) : Int)))), (u8.wrap ((48 : Int) + (u8.wrap ((BitVec.toNat (BitVec.ofInt u8.bits x &&& BitVec.ofInt u8.bits (7 : Int)) : Nat) : Int))))] : List Int)) ≤ 9223372036854775807) ∧
 K (([92] : List UInt8) ++ (strOf ([(u8.wrap ((48 : Int) + (Int.fdiv x (2 ^ (min (Int.toNat (6 : Int)) u8.bits))))), (u8.wrap ((48 : Int) + (u8.wrap ((BitVec.toNat (BitVec.ofInt u8.bits (Int.fdiv x (2 ^ (min (Int.toNat (3 : Int)) u8.bits))) &&& BitVec.ofInt u8.bits (7 : Int)) : Nat) : Int)))), (u8.wrap ((48 : Int) + (u8.wrap ((BitVec.toNat (BitVec.ofInt u8.bits x &&& BitVec.ofInt u8.bits (7 : Int)) : Nat) : Int))))] : List Int))) ()) ∧ ((cond (decide (x < (32 : Int))) true (decide (x > (126 : Int)))) = false → J1 ([] : List UInt8)))))))))) (fun d2 => K (SX x) ())
theorem Lo {P : Pg} (h : Has P DJ) {x : DP Cn.ps} {K : DP Cn.rs → DP (ptrs Cn.ps) → Prop} (hw : Hj P x K) : Fn P "mergelens/scan.escaped" Cn x K :=
 CU (c := FI) h rfl rfl (by kernel_rfl) (Eq.mpr (show CG P DJ Cn FI x K = _ by kernel_rfl) hw)
def GY : BE :=
 (.seq (.region [o1 4 (.asg kF)]) (.seq (.region [im 5 1, im 6 0, o1 7 (.GN 6), o1 8 (.bin .lss 5 7), im 9 8, gt 10 9 (.mv 0), gt 11 9 (.mv 1), gt 12 9 (.ixS 10 11), gt 13 9 (.bin
 .geq 12 (.c (.int .u8 48))), o1 14 (.pick 9 13 kF), im 15 14, gt 16 15 (.mv 0), gt 17 15 (.mv 1), gt 18 15 (.ixS 16 17), gt 19 15 (.bin .leq 18 (.c (.int .u8 57))), o1 20 (.pick 15
 19 kF), ia 4 20]) .ret))
def EV : AFn := ⟨ zS3, GY.erase, [.tmp 4], 2⟩
def Jg (P : Pg) (x : ((List UInt8) × Int)) (K : Bool → Unit → Prop) : Prop :=
 (((decide (x.2 < (x.1.length : Int))) = true → 0 ≤ x.2 ∧ x.2 < (x.1.length : Int))) ∧
 (((cond (decide (x.2 < (x.1.length : Int))) (decide (((x.1.getD x.2.toNat 0).toNat : Int) ≥ (48 : Int))) false) = true → 0 ≤ x.2 ∧ x.2 < (x.1.length : Int))) ∧
 K (cond (cond (decide (x.2 < (x.1.length : Int))) (decide (((x.1.getD x.2.toNat 0).toNat : Int) ≥ (48 : Int))) false) (decide (((x.1.getD x.2.toNat 0).toNat : Int) ≤ (57 : Int))) false) ()
theorem Nf {P : Pg} (h : Has P EV) {x : DP BL.ps} {K : DP BL.rs → DP (ptrs BL.ps) → Prop} (hw : Jg P x K) : Fn P zS3 BL x K :=
 CU (c := GY) h rfl rfl (by kernel_rfl) (Eq.mpr (show CG P EV BL GY x K = _ by kernel_rfl) hw)
def Gg : BE :=
 (.seq (.region [ia 4 (kI 0), ia 5 (kI 0), o1 6 (.asg kF)]) (.seq (.seq (.region [im 9 1, o1 10 (.bin .lss 9 (kI 0)), im 11 10, gf 12 11 (.mv 0), gf 13 11 (.mv 1), oS ⟨some 14,
 .call zS3 [12, 13], some (11, false)⟩ BL, gf 15 11 (.un .not 14), o1 16 (.pick 11 kT 15)]) (.cond 16 (.seq (.region [ia 4 (kI 0), ia 5 (kI 0), o1 6
 (.asg kF)]) .ret) .skip)) (.seq (.region [im 17 1, ia 7 (kI 0), ia 8 17]) (.seq (.frame (rg [7, 8] 18 14) [] false (.join [.si 7, .si 8] (.block 0 (.loop [.si 7, .si 8] (.seq (.seq
 (.region [im 18 0, im 19 8, oS ⟨some 20, .call zS3 [18, 19], none⟩ BL]) (.cond 20 .skip (.exit 0))) (.seq (.frame (rg [7] 23 9) [] false (.join [.si 7]
 (.block 1 (.region [im 23 7, o1 24 (.bin .mul (kI 10) 23), im 25 0, im 26 8, o1 27 (.ixS 25 26), o1 28 (.bin .sub 27 (.c (.int .u8 48))), o1 29 (.conv (.toInt .i64) 28), o1 30
 (.bin .add 24 29), o1 31 (.mm false 30 (kI 2147483648)), ia 7 31])))) (.region [im 21 8, o1 22 (.bin .add 21 (kI 1)), ia 8 22]))))))) (.seq (.seq (.region [im 32 7, o1 33 (.bin
 .gtr 32 (kI 2147483647)), im 34 33, gf 35 34 (.mv 0), gf 36 34 (.mv 1), gf 37 34 (.ixS 35 36), gf 38 34 (.bin .eql 37 (.c (.int .u8 48))), gf 39 34 (.mv 38), gt 40 39 (.mv 8), gt
 41 39 (.mv 1), gt 42 39 (.bin .add 41 (kI 1)), gt 43 39 (.bin .gtr 40 42), gf 44 34 (.pick 39 43 kF), o1 45 (.pick 34 kT 44)]) (.cond 45 (.seq (.region [ia 4 (kI 0), ia 5 (kI 0),
 o1 6 (.asg kF)]) .ret) .skip)) (.seq (.region [im 46 7, im 47 8, ia 4 46, ia 5 47, o1 6 (.asg kT)]) .ret))))))
def Eo : AFn := ⟨ "mergelens/scan.Number", Gg.erase, [.tmp 4, .tmp 5, .tmp 6], 2⟩
def Ir (P : Pg) (x : ((List UInt8) × Int)) (K : (Int × (Int × Bool)) → Unit → Prop) : Prop :=
 Ao (D := Bool) (fun J1 => (((decide (x.2 < (0 : Int))) = false → Fn P zS3 BL x (fun (d2 : Bool) _ => J1 d2)) ∧ (((decide (x.2 < (0 : Int))) = true → J1 false) ∧ True))) (fun d3 => (((cond (decide (x.2 < (0 : Int))) true (!d3)) = true → K ((0 : Int), ((0 : Int), false)) ()) ∧ ((cond (decide (x.2 < (0 : Int))) true (!d3)) = false → Ao (D := (Int × Int)) (fun J4 => Dm (D := (Int × Int)) ((0 : Int), x.2) (fun d6 J7 => Fn P zS3 BL (x.1, d6.2) (fun (d8 : Bool) (e9 : Unit) => ((d8 = true → Ao (D := Int) (fun J10 => (0 ≤ d6.2 ∧ d6.2 < (x.1.length : Int)) ∧
 J10 (if (2147483648 : Int) < (i64.wrap ((i64.wrap ((10 : Int) * d6.1)) + (i64.wrap (u8.wrap (((x.1.getD d6.2.toNat 0).toNat : Int) - (48 : Int)))))) then (2147483648 : Int) else (i64.wrap ((i64.wrap ((10 : Int) * d6.1)) + (i64.wrap (u8.wrap (((x.1.getD d6.2.toNat 0).toNat : Int) - (48 : Int)))))))) (fun d11 => J7 (d11, (i64.wrap (d6.2 + (1 : Int)))))) ∧ (d8 = false → J4 d6))))) (fun d5 => (((decide (d5.1 > (2147483647 : Int))) = false → 0 ≤ x.2 ∧ x.2 < (x.1.length : Int))) ∧
 (((cond (decide (d5.1 > (2147483647 : Int))) true (cond (((x.1.getD x.2.toNat 0).toNat : Int) == (48 : Int)) (decide (d5.2 > (i64.wrap (x.2 + (1 : Int))))) false)) = true → K ((0 : Int), ((0 : Int), false)) ()) ∧ ((cond (decide (d5.1 > (2147483647 : Int))) true (cond (((x.1.getD x.2.toNat 0).toNat : Int) == (48 : Int)) (decide (d5.2 > (i64.wrap (x.2 + (1 : Int))))) false)) = false → K (d5.1, (d5.2, true)) ()))))))
theorem Mf {P : Pg} (h : Has P Eo) {x : DP Cf.ps} {K : DP Cf.rs → DP (ptrs Cf.ps) → Prop} (hw : Ir P x K) : Fn P "mergelens/scan.Number" Cf x K :=
 CU (c := Gg) h rfl rfl (by kernel_rfl) (Eq.mpr (show CG P Eo Cf Gg x K = _ by kernel_rfl) hw)
end Go.VS
