/- Functions of the program: typed code, and what it says, lifted. -/
import Derived.Test.YtdnomijflodcgaaGreatDoorKTxSig
import Derived.KernelRfl
set_option linter.unusedVariables false
set_option linter.unusedSimpArgs false
set_option maxRecDepth 8000
open List renaming getD → Qa0, length → Qa2, set → Qa3, replicate → Qa4, take → Qa5
open Int renaming toNat → Qa1
namespace Go.VS
open IntKind
def JI : Bn :=
 (.seq (.region [ia 2 (kI 0)]) (.seq (.region [im 4 0, oS ⟨some 5, .call "strings.Count" [4, (.c (.string ⟨#[10]⟩))], none⟩ Ed, ia 3 5]) (.seq (.seq (.region [im 6 0,
 o1 7 (.bin .neq 6 (.c (.string ⟨#[]⟩))), im 8 7, gt 9 8 (.mv 0), oS ⟨some 10, .call Aco [9], some (8, true)⟩ DD, gt 11 8 (.un .not 10), o1 12 (.pick 8
 11 kF)]) (.frame [3, 13, 14] [] false (.join [.si 3] (.cond 12 (.region [im 13 3, o1 14 (.bin .add 13 (kI 1)), ia 3 14]) .skip)))) (.seq (.seq (.region [im 15 0, o1 16 (.lenS 15),
 o1 17 (.bin .gtr 16 (kI 1048576)), im 18 17, gf 19 18 (.mv 3), gf 20 18 (.bin .gtr 19 (kI 4096)), o1 21 (.pick 18 kT 20)]) (.cond 21 (.seq (.region [ia 2 (kI 1)]) .ret) .skip))
 (.seq (.region [ia 2 (kI 0)]) .ret)))))
def GX : AFn := ⟨ Acp, JI.erase, [.tmp 2], 1⟩
def MT (P : Pg) (x : (List UInt8)) (K : Int → Unit → Prop) : Prop :=
 Fn P "strings.Count" Ed (x, ([10] : List UInt8)) (fun (d1 : Int) _ => Ad (D := Bool) (fun J3 => (((!(x == ([] : List UInt8))) = true → Fn P Aco DD x (fun (d4 : Bool) _ => J3 d4)) ∧ (((!(x == ([] : List UInt8))) = false → J3 false) ∧ True))) (fun d5 => Ad (D := Int) (fun J6 => (((cond (!(x == ([] : List UInt8))) (!d5) false) = true → J6 (i64.wrap (d1 + (1 : Int)))) ∧ ((cond (!(x == ([] : List UInt8))) (!d5) false) = false → J6 d1))) (fun d7 => (((cond (decide ((x.length : Int) > (1048576 : Int))) true (decide (d7 > (4096 : Int)))) = true → K (1 : Int) ()) ∧ ((cond (decide ((x.length : Int) > (1048576 : Int))) true (decide (d7 > (4096 : Int)))) = false → K (0 : Int) ())))))
theorem RI {P : Pg} (h : Has P GX) {x : DP DC.ps} {K : DP DC.rs → DP (ptrs DC.ps) → Prop} (hw : MT P x K) : Fn P Acp DC x K :=
 BI (c := JI) h rfl rfl (by kernel_rfl) (Eq.mpr (show BE P GX DC JI x K = _ by kernel_rfl) hw)
def HL : Bn :=
 (.seq (.region [o1 1 (.box 0), o1 2 (.asg kF)]) (.seq (.region [fa 3 1 1, ld 4 3, oS ⟨some 5, .call Acp [4], none⟩ DC, o1 6 (.bin .neq 5 (kI 0)), ia 2
 6]) .ret))
def Fq : AFn := ⟨ Ach, HL.erase, [.tmp 2], 1⟩
def Ke (P : Pg) (x : ((List UInt8) × (List UInt8))) (K : Bool → Unit → Prop) : Prop :=
 Fn P Acp DC x.2 (fun (d1 : Int) _ => K (d1 != (0 : Int)) ())
theorem Pk {P : Pg} (h : Has P Fq) {x : DP CN.ps} {K : DP CN.rs → DP (ptrs CN.ps) → Prop} (hw : Ke P x K) : Fn P Ach CN x K :=
 BI (c := HL) h rfl rfl (by kernel_rfl) (Eq.mpr (show BE P Fq CN HL x K = _ by kernel_rfl) hw)
def Bq : Bn :=
 (.seq (.region [ia 4 (kI 0)]) (.seq (.seq (.region [im 6 0, o1 7 (.lenK 6), o1 8 (.mv (kI 0))]) (.frame (rg [4, 5] 8 11) [] false (.join [.si 4] (.block 0 (.loop [.si 4, .si 8]
 (.seq (.region [o1 9 (.bin .lss 8 7)]) (.seq (.cond 9 .skip (.exit 0)) (.seq (.frame (rg [4, 5] 10 8) [] false (.join [.si 4] (.block 1 (.seq (.region [im 10 8, ia 5 10]) (.seq
 (.region [im 11 1, im 12 0, im 13 5, o1 14 (.ixA 2 12 13), o1 15 (.load true 2 14), oS ⟨some 16, .callv 11 [15], none⟩ CN]) (.cond 16 (.seq (.region [im 17 5, ia 4 17])
 .ret) .skip)))))) (.region [o1 18 (.bin .add 8 (kI 1)), im 8 18]))))))))) (.seq (.region [ia 4 (kI (-1))]) .ret)))
def AZ : AFn := ⟨ zS5, Bq.erase, [.tmp 4], 2⟩
def B2 (P : Pg) (x : ((List ((List UInt8) × (List UInt8))) × Unit)) (K : Int → Unit → Prop) : Prop :=
 Ad (D := Int) (fun J1 => AF (D := (Int × Int)) ((0 : Int), (0 : Int)) (fun d3 J4 => (((decide (d3.2 < (x.1.length : Int))) = true → Ad (D := Int) (fun J5 => (0 ≤ d3.2 ∧ d3.2 < (x.1.length : Int)) ∧
 (d3.2.toNat < x.1.length) ∧
 Fn P Ach CN (Qa0 x.1 d3.2.toNat ([], [])) (fun (d7 : Bool) _ => ((d7 = true → K d3.2 ()) ∧ (d7 = false → J5 d3.1)))) (fun d6 => J4 (d6, (i64.wrap (d3.2 + (1 : Int)))))) ∧ ((decide (d3.2 < (x.1.length : Int))) = false → J1 d3.1)))) (fun d2 => K (-1 : Int) ())
theorem Dj {P : Pg} (h : Has P AZ) {x : DP Ax.ps} {K : DP Ax.rs → DP (ptrs Ax.ps) → Prop} (hw : B2 P x K) : Fn P zS5 Ax x K :=
 BI (c := Bq) h rfl rfl (by kernel_rfl) (Eq.mpr (show BE P AZ Ax Bq x K = _ by kernel_rfl) hw)
def Bl : Bn :=
 (.seq (.region [o1 4 (.asg kF)]) (.seq (.region [im 5 0, im 6 1, oS ⟨some 7, .call zS5 [5, 6], none⟩
 Ax, o1 8 (.bin .geq 7 (kI 0)), ia 4 8]) .ret))
def AU : AFn := ⟨ zS6, Bl.erase, [.tmp 4], 2⟩
def BP (P : Pg) (x : ((List ((List UInt8) × (List UInt8))) × Unit)) (K : Bool → Unit → Prop) : Prop :=
 Fn P zS5 Ax (x.1, ()) (fun (d1 : Int) _ => K (decide (d1 ≥ (0 : Int))) ())
theorem CZ {P : Pg} (h : Has P AU) {x : DP Au.ps} {K : DP Au.rs → DP (ptrs Au.ps) → Prop} (hw : BP P x K) : Fn P zS6 Au x K :=
 BI (c := Bl) h rfl rfl (by kernel_rfl) (Eq.mpr (show BE P AU Au Bl x K = _ by kernel_rfl) hw)
def JK : Bn :=
 (.seq (.region [ia 2 (kI 0)]) (.seq (.frame (rg [] 2 15) [] false (.join [.si 2] (.block 0 (.seq (.region [im 4 0, o1 5 (.lenK 4), o1 6 (.bin .gtr 5 (kI 200)), ia 3 6]) (.cond 3
 (.seq (.region [ia 2 (kI 1)]) .ret) (.seq (.region [im 8 0, oS ⟨some 9, .call zS6 [8, (.f Acg)],
 none⟩ Ar, ia 7 9]) (.cond 7 (.seq (.region [ia 2 (kI 210)]) .ret) (.seq (.region [im 11 0, oS ⟨some 12, .call
 "mergelens/tree.ordered" [11], none⟩ Ft, o1 13 (.un .not 12), ia 10 13]) (.cond 10 (.seq (.region [ia 2 (kI 211)]) .ret) (.seq (.region [im 15 0, oS ⟨some 16, .call
 zS6 [15, (.f Ach)], none⟩ Au, ia 14 16]) (.cond
 14 (.seq (.region [ia 2 (kI 1)]) .ret) .skip))))))))))) (.seq (.region [ia 2 (kI 0)]) .ret)))
def Fo : AFn := ⟨ Yy, JK.erase, [.tmp 2], 1⟩
def Jl (P : Pg) (x : (List ((List UInt8) × (List UInt8)))) (K : Int → Unit → Prop) : Prop :=
 Ad (D := Int) (fun J1 => (((decide ((x.length : Int) > (200 : Int))) = true → K (1 : Int) ()) ∧ ((decide ((x.length : Int) > (200 : Int))) = false → Fn P zS6 Ar (x, ()) (fun (d3 : Bool) _ => ((d3 = true → K (210 : Int) ()) ∧ (d3 = false → Fn P "mergelens/tree.ordered" Ft x (fun (d5 : Bool) _ => (((!d5) = true → K (211 : Int) ()) ∧ ((!d5) = false → Fn P zS6 Au (x, ()) (fun (d7 : Bool) _ => ((d7 = true → K (1 : Int) ()) ∧ (d7 = false → J1 (0 : Int))))))))))))) (fun d2 => K (0 : Int) ())
theorem LS {P : Pg} (h : Has P Fo) {x : DP CH.ps} {K : DP CH.rs → DP (ptrs CH.ps) → Prop} (hw : Jl P x K) : Fn P Yy CH x K :=
 BI (c := JK) h rfl rfl (by kernel_rfl) (Eq.mpr (show BE P Fo CH JK x K = _ by kernel_rfl) hw)
def GM : Bn :=
 (.seq (.region [o1 1 (.box 0), o1 2 (.asg kF)]) (.seq (.region [fa 3 0 1, ld 4 3, o1 5 (.lenK 4), o1 6 (.bin .gtr 5 (kI 32)), ia 2 6]) .ret))
def Fa : AFn := ⟨ AdV, GM.erase, [.tmp 2], 1⟩
def Pf (P : Pg) (x : Commit) (K : Bool → Unit → Prop) : Prop :=
 K (decide ((x.1.length : Int) > (32 : Int))) ()
theorem Ol {P : Pg} (h : Has P Fa) {x : DP CX.ps} {K : DP CX.rs → DP (ptrs CX.ps) → Prop} (hw : Pf P x K) : Fn P AdV CX x K :=
 BI (c := GM) h rfl rfl (by kernel_rfl) (Eq.mpr (show BE P Fa CX GM x K = _ by kernel_rfl) hw)
def Bf : Bn :=
 (.seq (.region [ia 4 (kI 0)]) (.seq (.seq (.region [im 6 0, o1 7 (.lenK 6), o1 8 (.mv (kI 0))]) (.frame (rg [4, 5] 8 11) [] false (.join [.si 4] (.block 0 (.loop [.si 4, .si 8]
 (.seq (.region [o1 9 (.bin .lss 8 7)]) (.seq (.cond 9 .skip (.exit 0)) (.seq (.frame (rg [4, 5] 10 8) [] false (.join [.si 4] (.block 1 (.seq (.region [im 10 8, ia 5 10]) (.seq
 (.region [im 11 1, im 12 0, im 13 5, o1 14 (.ixA 3 12 13), o1 15 (.load true 3 14), oS ⟨some 16, .callv 11 [15], none⟩ CX]) (.cond 16 (.seq (.region [im 17 5, ia 4
 17]) .ret) .skip)))))) (.region [o1 18 (.bin .add 8 (kI 1)), im 8 18]))))))))) (.seq (.region [ia 4 (kI (-1))]) .ret)))
def AN : AFn := ⟨ zS7, Bf.erase, [.tmp 4], 2⟩
def BM (P : Pg) (x : ((List Commit) × Unit)) (K : Int → Unit → Prop) : Prop :=
 Ad (D := Int) (fun J1 => AF (D := (Int × Int)) ((0 : Int), (0 : Int)) (fun d3 J4 => (((decide (d3.2 < (x.1.length : Int))) = true → Ad (D := Int) (fun J5 => (0 ≤ d3.2 ∧ d3.2 < (x.1.length : Int)) ∧
 (d3.2.toNat < x.1.length) ∧
 Fn P AdV CX (Qa0 x.1 d3.2.toNat Aj) (fun (d7 : Bool) _ => ((d7 = true → K d3.2 ()) ∧ (d7 = false → J5 d3.1)))) (fun d6 => J4 (d6, (i64.wrap (d3.2 + (1 : Int)))))) ∧ ((decide (d3.2 < (x.1.length : Int))) = false → J1 d3.1)))) (fun d2 => K (-1 : Int) ())
theorem CP {P : Pg} (h : Has P AN) {x : DP Aq.ps} {K : DP Aq.rs → DP (ptrs Aq.ps) → Prop} (hw : BM P x K) : Fn P zS7 Aq x K :=
 BI (c := Bf) h rfl rfl (by kernel_rfl) (Eq.mpr (show BE P AN Aq Bf x K = _ by kernel_rfl) hw)
def A6 : Bn :=
 (.seq (.region [o1 4 (.asg kF)]) (.seq (.region [im 5 0, im 6 1, oS ⟨some 7, .call zS7 [5, 6], none⟩
 Aq, o1 8 (.bin .geq 7 (kI 0)), ia 4 8]) .ret))
def AK : AFn := ⟨ zS8, A6.erase, [.tmp 4], 2⟩
def BA (P : Pg) (x : ((List Commit) × Unit)) (K : Bool → Unit → Prop) : Prop :=
 Fn P zS7 Aq (x.1, ()) (fun (d1 : Int) _ => K (decide (d1 ≥ (0 : Int))) ())
theorem Cy {P : Pg} (h : Has P AK) {x : DP Am.ps} {K : DP Am.rs → DP (ptrs Am.ps) → Prop} (hw : BA P x K) : Fn P zS8 Am x K :=
 BI (c := A6) h rfl rfl (by kernel_rfl) (Eq.mpr (show BE P AK Am A6 x K = _ by kernel_rfl) hw)
def Iw : Bn :=
 (.seq (.region [o1 2 (.asg kF)]) (.seq (.region [im 3 0, o1 4 (.lenK 3), o1 5 (.bin .leq 4 (kI 300)), im 6 5, gt 7 6 (.mv 0), oS ⟨some 8, .call
 zS8 [7, (.f AdV)], some (6, true)⟩ Am,
 gt 9 6 (.un .not 8), o1 10 (.pick 6 9 kF), ia 2 10]) .ret))
def Gg : AFn := ⟨ Acq, Iw.erase, [.tmp 2], 1⟩
def LG (P : Pg) (x : (List Commit)) (K : Bool → Unit → Prop) : Prop :=
 Ad (D := Bool) (fun J1 => (((decide ((x.length : Int) ≤ (300 : Int))) = true → Fn P zS8 Am (x, ()) (fun (d2 : Bool) _ => J1 d2)) ∧ (((decide ((x.length : Int) ≤ (300 : Int))) = false → J1 false) ∧ True))) (fun d3 => K (cond (decide ((x.length : Int) ≤ (300 : Int))) (!d3) false) ())
theorem Qk {P : Pg} (h : Has P Gg) {x : DP Da.ps} {K : DP Da.rs → DP (ptrs Da.ps) → Prop} (hw : LG P x K) : Fn P Acq Da x K :=
 BI (c := Iw) h rfl rfl (by kernel_rfl) (Eq.mpr (show BE P Gg Da Iw x K = _ by kernel_rfl) hw)
def Eb : Bn :=
 (.seq (.region [ia 4 (kI 0)]) (.seq (.seq (.region [im 6 0, o1 7 (.lenK 6), o1 8 (.mv (kI 0))]) (.frame (rg [4, 5] 8 11) [] false (.join [.si 4] (.block 0 (.loop [.si 4, .si 8]
 (.seq (.region [o1 9 (.bin .lss 8 7)]) (.seq (.cond 9 .skip (.exit 0)) (.seq (.frame (rg [4, 5] 10 8) [] false (.join [.si 4] (.block 1 (.seq (.region [im 10 8, ia 5 10]) (.seq
 (.region [im 11 1, im 12 0, im 13 5, o1 14 (.ixA 1 12 13), ld 15 14, o1 16 (.bin .eql 11 15)]) (.cond 16 (.seq (.region [im 17 5, ia 4 17]) .ret) .skip)))))) (.region [o1 18 (.bin
 .add 8 (kI 1)), im 8 18]))))))))) (.seq (.region [ia 4 (kI (-1))]) .ret)))
def C8 : AFn := ⟨ "slices.Index[[]int,int]", Eb.erase, [.tmp 4], 2⟩
def Fx (P : Pg) (x : ((List Int) × Int)) (K : Int → Unit → Prop) : Prop :=
 Ad (D := Int) (fun J1 => AF (D := (Int × Int)) ((0 : Int), (0 : Int)) (fun d3 J4 => (((decide (d3.2 < (x.1.length : Int))) = true → Ad (D := Int) (fun J5 => (0 ≤ d3.2 ∧ d3.2 < (x.1.length : Int)) ∧
 (d3.2.toNat < x.1.length) ∧
 (((x.2 == (Qa0 x.1 d3.2.toNat (0 : Int))) = true → K d3.2 ()) ∧ ((x.2 == (Qa0 x.1 d3.2.toNat (0 : Int))) = false → J5 d3.1))) (fun d6 => J4 (d6, (i64.wrap (d3.2 + (1 : Int)))))) ∧ ((decide (d3.2 < (x.1.length : Int))) = false → J1 d3.1)))) (fun d2 => K (-1 : Int) ())
theorem IW {P : Pg} (h : Has P C8) {x : DP Bu.ps} {K : DP Bu.rs → DP (ptrs Bu.ps) → Prop} (hw : Fx P x K) : Fn P "slices.Index[[]int,int]" Bu x K :=
 BI (c := Eb) h rfl rfl (by kernel_rfl) (Eq.mpr (show BE P C8 Bu Eb x K = _ by kernel_rfl) hw)
def Dv : Bn :=
 (.seq (.region [o1 4 (.asg kF)]) (.seq (.region [im 5 0, im 6 1, oS ⟨some 7, .call "slices.Index[[]int,int]" [5, 6], none⟩ Bu, o1 8 (.bin .geq 7 (kI 0)), ia 4
 8]) .ret))
def Cw : AFn := ⟨ "slices.Contains[[]int,int]", Dv.erase, [.tmp 4], 2⟩
def ET (P : Pg) (x : ((List Int) × Int)) (K : Bool → Unit → Prop) : Prop :=
 Fn P "slices.Index[[]int,int]" Bu x (fun (d1 : Int) _ => K (decide (d1 ≥ (0 : Int))) ())
theorem Hw {P : Pg} (h : Has P Cw) {x : DP Bj.ps} {K : DP Bj.rs → DP (ptrs Bj.ps) → Prop} (hw : ET P x K) : Fn P "slices.Contains[[]int,int]" Bj x K :=
 BI (c := Dv) h rfl rfl (by kernel_rfl) (Eq.mpr (show BE P Cw Bj Dv x K = _ by kernel_rfl) hw)
def Iy : Bn :=
 (.seq (.region [o1 2 (.asg kF)]) (.seq (.seq (.region [im 7 0, o1 8 (.lenK 7), o1 9 (.mv (kI 0))]) (.frame (rg [2, 4, 5, 6] 9 30) [1004] false (.join [.sl 2 false .bool .leaf]
 (.block 0 (.loop [.sl 2 false .bool .leaf, .si 9] (.seq (.region [o1 10 (.bin .lss 9 8)]) (.seq (.cond 10 .skip (.exit 0)) (.seq (.frame (rg [2, 4, 5, 6] 11 27) [1004] false (.join
 [.sl 2 false .bool .leaf] (.block 1 (.seq (.region [o1 11 (.ixA 3 7 9), o1 12 (.load true 3 11), o1 4 (.alloc [(.slice none 0 0), (.int .i64 0), (.slice none 0 0)]), o0 ⟨none,
 .store 3 4 12, none⟩]) (.seq (.region [fa 13 0 4, ld 14 13, o1 15 (.lenK 14), o1 16 (.mv (kI 0))]) (.frame (rg [2, 5, 6] 16 22) [] false (.join [.sl 2 false .bool .leaf] (.block 2
 (.loop [.sl 2 false .bool .leaf, .si 16] (.seq (.region [o1 17 (.bin .lss 16 15)]) (.seq (.cond 17 .skip (.exit 2)) (.seq (.frame (rg [2, 5, 6] 18 19) [] false (.join [.sl 2 false
 .bool .leaf] (.block 3 (.seq (.region [im 18 16, o1 19 (.ixA 1 14 16), ld 20 19, ia 5 18, ia 6 20]) (.seq (.region [im 21 6, o1 22 (.bin .lss 21 (kI 0)), im 23 22, gf 24 23 (.mv
 6), gf 25 23 (.mv 0), gf 26 23 (.lenK 25), gf 27 23 (.bin .geq 24 26), o1 28 (.pick 23 kT 27), im 29 28, gf 30 29 (.fAddr 0 4), gf 31 29 (.load false 1 30), gf 32 29 (.mv 5), gf 33
 29 (.slK 1 31 none (some 32)), gf 34 29 (.mv 6), oS ⟨some 35, .call "slices.Contains[[]int,int]" [33, 34], some (29, false)⟩ Bj, o1 36 (.pick 29 kT 35)])
 (.cond 36 (.seq (.region [o1 2 (.asg kF)]) .ret) .skip)))))) (.region [o1 37 (.bin .add 16 (kI 1)), im 16 37]))))))))))))) (.region [o1 38 (.bin .add 9 (kI 1)), im 9 38])))))))))
 (.seq (.region [o1 2 (.asg kT)]) .ret)))
def Gh : AFn := ⟨ Acr, Iy.erase, [.tmp 2], 1⟩
def LH (P : Pg) (x : (List Commit)) (K : Bool → Unit → Prop) : Prop :=
 Ad (D := Bool) (fun J1 => AF (D := (Bool × Int)) (false, (0 : Int)) (fun d3 J4 => (((decide (d3.2 < (x.length : Int))) = true → Ad (D := Bool) (fun J5 => (0 ≤ d3.2 ∧ d3.2 < (x.length : Int)) ∧
 (d3.2.toNat < x.length) ∧
 Ad (D := Bool) (fun J7 => AF (D := (Bool × Int)) (d3.1, (0 : Int)) (fun d9 J10 => (((decide (d9.2 < ((Qa2 (Qa0 x d3.2.toNat Aj).1 : Nat) : Int))) = true → Ad (D := Bool) (fun J11 => (0 ≤ d9.2 ∧ d9.2 < ((Qa2 (Qa0 x d3.2.toNat Aj).1 : Nat) : Int)) ∧
 (d9.2.toNat < Qa2 (Qa0 x d3.2.toNat Aj).1) ∧
 (((cond (decide ((Qa0 (Qa0 x d3.2.toNat Aj).1 d9.2.toNat (0 : Int)) < (0 : Int))) true (decide ((Qa0 (Qa0 x d3.2.toNat Aj).1 d9.2.toNat (0 : Int)) ≥ (x.length : Int)))) = false → 0 ≤ d9.2 ∧ d9.2 ≤ ((Qa2 (Qa0 x d3.2.toNat Aj).1 : Nat) : Int))) ∧
 Ad (D := Bool) (fun J13 => (((cond (decide ((Qa0 (Qa0 x d3.2.toNat Aj).1 d9.2.toNat (0 : Int)) < (0 : Int))) true (decide ((Qa0 (Qa0 x d3.2.toNat Aj).1 d9.2.toNat (0 : Int)) ≥ (x.length : Int)))) = false → Fn P "slices.Contains[[]int,int]" Bj ((Qa5 d9.2.toNat (Qa0 x d3.2.toNat Aj).1), (Qa0 (Qa0 x d3.2.toNat Aj).1 d9.2.toNat (0 : Int))) (fun (d14 : Bool) _ => J13 d14)) ∧ (((cond (decide ((Qa0 (Qa0 x d3.2.toNat Aj).1 d9.2.toNat (0 : Int)) < (0 : Int))) true (decide ((Qa0 (Qa0 x d3.2.toNat Aj).1 d9.2.toNat (0 : Int)) ≥ (x.length : Int)))) = true → J13 false) ∧ True))) (fun d15 => (((cond (cond (decide ((Qa0 (Qa0 x d3.2.toNat Aj).1 d9.2.toNat (0 : Int)) < (0 : Int))) true (decide ((Qa0 (Qa0 x d3.2.toNat Aj).1 d9.2.toNat (0 : Int)) ≥ (x.length : Int)))) true d15) = true → K false ()) ∧ ((cond (cond (decide ((Qa0 (Qa0 x d3.2.toNat Aj).1 d9.2.toNat (0 : Int)) < (0 : Int))) true (decide ((Qa0 (Qa0 x d3.2.toNat Aj).1 d9.2.toNat (0 : Int)) ≥ (x.length : Int)))) true d15) = false → J11 d9.1)))) (fun d12 => J10 (d12, (i64.wrap (d9.2 + (1 : Int)))))) ∧ ((decide (d9.2 < ((Qa2 (Qa0 x d3.2.toNat Aj).1 : Nat) : Int))) = false → J7 d9.1)))) (fun d8 => J5 d8)) (fun d6 => J4 (d6, (i64.wrap (d3.2 + (1 : Int)))))) ∧ ((decide (d3.2 < (x.length : Int))) = false → J1 d3.1)))) (fun d2 => K true ())
theorem Ql {P : Pg} (h : Has P Gh) {x : DP Db.ps} {K : DP Db.rs → DP (ptrs Db.ps) → Prop} (hw : LH P x K) : Fn P Acr Db x K :=
 BI (c := Iy) h rfl rfl (by kernel_rfl) (Eq.mpr (show BE P Gh Db Iy x K = _ by kernel_rfl) hw)
def JD : Bn :=
 (.seq (.region [o1 2 (.asg (.c (.slice none 0 0)))]) (.seq (.region [im 14 0, o1 15 (.lenK 14), oT ⟨some 16, .mkSl 1 8 [(.int .i64 0)] 15 15, none⟩ (some (bI, .leaf)), ia 3 16])
 (.seq (.seq (.region [im 17 0, o1 18 (.lenK 17), o1 19 (.mv (kI 0))]) (.frame (rg [3, 5, 7] 19 19) [1005] false (.join [.sl 3 false (.sl bI) tO] (.block 0 (.loop [.sl 3 false (.sl
 bI) tO, .si 19] (.seq (.region [o1 20 (.bin .lss 19 18)]) (.seq (.cond 20 .skip (.exit 0)) (.seq (.frame (rg [3, 5, 7] 21 16) [1005] false (.join [.sl 3 false (.sl bI) tO] (.block
 1 (.seq (.region [o1 21 (.ixA 3 17 19), o1 22 (.load true 3 21), o1 5 (.alloc [(.slice none 0 0), (.int .i64 0), (.slice none 0 0)]), o0 ⟨none, .store 3 5 22, none⟩]) (.seq
 (.region [fa 23 0 5, ld 24 23, o1 25 (.lenK 24), o1 26 (.mv (kI 0))]) (.frame (rg [3, 7] 26 11) [] false (.join [.sl 3 false (.sl bI) tO] (.block 2 (.loop [.sl 3 false (.sl bI) tO,
 .si 26] (.seq (.region [o1 27 (.bin .lss 26 25)]) (.seq (.cond 27 .skip (.exit 2)) (.seq (.frame (rg [3, 7] 28 8) [] false (.join [.sl 3 false (.sl bI) tO] (.block 3 (.seq (.region
 [o1 28 (.ixA 1 24 26), ld 29 28, ia 7 29]) (.region [im 30 3, im 31 7, o1 32 (.ixA 1 30 31), ld 33 32, o1 34 (.bin .add 33 (kI 1)), o1 35 (.ixA 1 30 31), o0 ⟨none, .store 1 35 34,
 none⟩]))))) (.region [o1 36 (.bin .add 26 (kI 1)), im 26 36]))))))))))))) (.region [o1 37 (.bin .add 19 (kI 1)), im 19 37]))))))))) (.seq (.region [o1 8 (.asg (.c (.slice none 0
 0)))]) (.seq (.seq (.region [im 38 3, o1 39 (.lenK 38), o1 40 (.mv (kI 0))]) (.frame (rg [8, 9, 10] 40 12) [] false (.join [.sl 8 false (.sl bI) tO] (.block 4 (.loop [.sl 8 false
 (.sl bI) tO, .si 40] (.seq (.region [o1 41 (.bin .lss 40 39)]) (.seq (.cond 41 .skip (.exit 4)) (.seq (.frame (rg [8, 9, 10] 42 9) [] false (.join [.sl 8 false (.sl bI) tO] (.block
 5 (.seq (.region [im 42 40, o1 43 (.ixA 1 38 40), ld 44 43, ia 9 42, ia 10 44]) (.seq (.region [im 45 10, o1 46 (.bin .eql 45 (kI 0))]) (.frame (rg [8] 47 4) [] false (.join [.sl 8
 false (.sl bI) tO] (.cond 46 (.region [im 47 8, im 48 9, oT ⟨some 49, .buildSl 1 [(.int .i64 0)] 1 [(0, 48)], none⟩ (some (bI, .leaf)), oT ⟨some 50, .app 1 8 47 49, none⟩ (some
 (bI, .leaf)), ia 8 50]) .skip)))))))) (.region [o1 51 (.bin .add 40 (kI 1)), im 40 51]))))))))) (.seq (.seq (.region [ia 11 (kI 0)]) (.frame (rg [3, 8, 11, 13] 52 35) [] false
 (.join [.sl 8 false (.sl bI) tO] (.block 6 (.loop [.sl 3 false (.sl bI) tO, .sl 8 false (.sl bI) tO, .si 11] (.seq (.seq (.region [im 52 11, im 53 8, o1 54 (.lenK 53), o1 55 (.bin
 .lss 52 54)]) (.cond 55 .skip (.exit 6))) (.seq (.frame (rg [3, 8, 13] 58 29) [] false (.join [.sl 3 false (.sl bI) tO, .sl 8 false (.sl bI) tO] (.block 7 (.seq (.region [im 58 0,
 im 59 8, im 60 11, o1 61 (.ixA 1 59 60), ld 62 61, o1 63 (.ixA 3 58 62), fa 64 0 63, ld 65 64, o1 66 (.lenK 65), o1 67 (.mv (kI 0))]) (.frame (rg [3, 8, 13] 67 20) [] false (.join
 [.sl 3 false (.sl bI) tO, .sl 8 false (.sl bI) tO] (.block 8 (.loop [.sl 3 false (.sl bI) tO, .sl 8 false (.sl bI) tO, .si 67] (.seq (.region [o1 68 (.bin .lss 67 66)]) (.seq
 (.cond 68 .skip (.exit 8)) (.seq (.frame (rg [3, 8, 13] 69 17) [] false (.join [.sl 3 false (.sl bI) tO, .sl 8 false (.sl bI) tO] (.block 9 (.seq (.region [o1 69 (.ixA 1 65 67), ld
 70 69, ia 13 70]) (.seq (.region [im 71 3, im 72 13, o1 73 (.ixA 1 71 72), ld 74 73, o1 75 (.bin .sub 74 (kI 1)), o1 76 (.ixA 1 71 72), o0 ⟨none, .store 1 76 75, none⟩]) (.seq
 (.region [im 77 3, im 78 13, o1 79 (.ixA 1 77 78), ld 80 79, o1 81 (.bin .eql 80 (kI 0))]) (.frame (rg [8] 82 4) [] false (.join [.sl 8 false (.sl bI) tO] (.cond 81 (.region [im 82
 8, im 83 13, oT ⟨some 84, .buildSl 1 [(.int .i64 0)] 1 [(0, 83)], none⟩ (some (bI, .leaf)), oT ⟨some 85, .app 1 8 82 84, none⟩ (some (bI, .leaf)), ia 8 85]) .skip))))))))) (.region
 [o1 86 (.bin .add 67 (kI 1)), im 67 86])))))))))))) (.region [im 56 11, o1 57 (.bin .add 56 (kI 1)), ia 11 57])))))))) (.seq (.region [im 87 8, ia 2 87]) .ret)))))))
def GQ : AFn := ⟨ Acs, JD.erase, [.tmp 2], 1⟩
def MO (P : Pg) (x : (List Commit)) (K : (List Int) → Unit → Prop) : Prop :=
 (0 ≤ (x.length : Int) ∧ (x.length : Int) ≤ (x.length : Int) ∧ ((8 : Nat) : Int) * (x.length : Int) ≤ 281474976710656) ∧
 Ad (D := (List Int)) (fun J1 => AF (D := ((List Int) × Int)) ((Qa4 (Qa1 (x.length : Int)) (0 : Int)), (0 : Int)) (fun d3 J4 => (((decide (d3.2 < (x.length : Int))) = true → Ad (D := (List Int)) (fun J5 => (0 ≤ d3.2 ∧ d3.2 < (x.length : Int)) ∧
 (d3.2.toNat < x.length) ∧
 Ad (D := (List Int)) (fun J7 => AF (D := ((List Int) × Int)) (d3.1, (0 : Int)) (fun d9 J10 => (((decide (d9.2 < ((Qa2 (Qa0 x d3.2.toNat Aj).1 : Nat) : Int))) = true → Ad (D := (List Int)) (fun J11 => (0 ≤ d9.2 ∧ d9.2 < ((Qa2 (Qa0 x d3.2.toNat Aj).1 : Nat) : Int)) ∧
 (d9.2.toNat < Qa2 (Qa0 x d3.2.toNat Aj).1) ∧
 (0 ≤ (Qa0 (Qa0 x d3.2.toNat Aj).1 d9.2.toNat (0 : Int)) ∧ (Qa0 (Qa0 x d3.2.toNat Aj).1 d9.2.toNat (0 : Int)) < (d9.1.length : Int)) ∧
 ((Qa1 (Qa0 (Qa0 x d3.2.toNat Aj).1 d9.2.toNat (0 : Int))) < d9.1.length) ∧
 (0 ≤ (Qa0 (Qa0 x d3.2.toNat Aj).1 d9.2.toNat (0 : Int)) ∧ (Qa0 (Qa0 x d3.2.toNat Aj).1 d9.2.toNat (0 : Int)) < (d9.1.length : Int)) ∧
 ((Qa1 (Qa0 (Qa0 x d3.2.toNat Aj).1 d9.2.toNat (0 : Int))) < d9.1.length) ∧
 J11 (Qa3 d9.1 (Qa1 (Qa0 (Qa0 x d3.2.toNat Aj).1 d9.2.toNat (0 : Int))) (i64.wrap ((Qa0 d9.1 (Qa1 (Qa0 (Qa0 x d3.2.toNat Aj).1 d9.2.toNat (0 : Int))) (0 : Int)) + (1 : Int))))) (fun d12 => J10 (d12, (i64.wrap (d9.2 + (1 : Int)))))) ∧ ((decide (d9.2 < ((Qa2 (Qa0 x d3.2.toNat Aj).1 : Nat) : Int))) = false → J7 d9.1)))) (fun d8 => J5 d8)) (fun d6 => J4 (d6, (i64.wrap (d3.2 + (1 : Int)))))) ∧ ((decide (d3.2 < (x.length : Int))) = false → J1 d3.1)))) (fun d2 => Ad (D := (List Int)) (fun J13 => AF (D := ((List Int) × Int)) ([], (0 : Int)) (fun d15 J16 => (((decide (d15.2 < (d2.length : Int))) = true → Ad (D := (List Int)) (fun J17 => (0 ≤ d15.2 ∧ d15.2 < (d2.length : Int)) ∧
 (d15.2.toNat < d2.length) ∧
 Ad (D := (List Int)) (fun J19 => ((((Qa0 d2 d15.2.toNat (0 : Int)) == (0 : Int)) = true → ((d15.1.length + Qa2 ([d15.2] : List Int)) * 8 ≤ 140737488355328) ∧
 J19 (d15.1 ++ ([d15.2] : List Int))) ∧ (((Qa0 d2 d15.2.toNat (0 : Int)) == (0 : Int)) = false → J19 d15.1))) (fun d20 => J17 d20)) (fun d18 => J16 (d18, (i64.wrap (d15.2 + (1 : Int)))))) ∧ ((decide (d15.2 < (d2.length : Int))) = false → J13 d15.1)))) (fun d14 => Ad (D := (List Int)) (fun J21 => AF (D := ((List Int) × ((List Int) × Int))) (d2, (d14, (0 : Int))) (fun d23 J24 => (((decide (d23.2.2 < (d23.2.1.length : Int))) = true → Ad (D := ((List Int) × (List Int))) (fun J25 => (0 ≤ d23.2.2 ∧ d23.2.2 < (d23.2.1.length : Int)) ∧
 (d23.2.2.toNat < d23.2.1.length) ∧
 (0 ≤ (Qa0 d23.2.1 d23.2.2.toNat (0 : Int)) ∧ (Qa0 d23.2.1 d23.2.2.toNat (0 : Int)) < (x.length : Int)) ∧
 ((Qa1 (Qa0 d23.2.1 d23.2.2.toNat (0 : Int))) < x.length) ∧
 Ad (D := ((List Int) × (List Int))) (fun J27 => AF (D := ((List Int) × ((List Int) × Int))) (d23.1, (d23.2.1, (0 : Int))) (fun d29 J30 => (((decide (d29.2.2 < ((Qa2 (Qa0 x (Qa1 (Qa0 d23.2.1 d23.2.2.toNat (0 : Int))) Aj).1 : Nat) : Int))) = true → Ad (D := ((List Int) × (List Int))) (fun J31 => (0 ≤ d29.2.2 ∧ d29.2.2 < ((Qa2 (Qa0 x (Qa1 (Qa0 d23.2.1 d23.2.2.toNat (0 : Int))) Aj).1 : Nat) : Int)) ∧
 (d29.2.2.toNat < Qa2 (Qa0 x (Qa1 (Qa0 d23.2.1 d23.2.2.toNat (0 : Int))) Aj).1) ∧
 (0 ≤ (Qa0 (Qa0 x (Qa1 (Qa0 d23.2.1 d23.2.2.toNat (0 : Int))) Aj).1 d29.2.2.toNat (0 : Int)) ∧ (Qa0 (Qa0 x (Qa1 (Qa0 d23.2.1 d23.2.2.toNat (0 : Int))) Aj).1 d29.2.2.toNat (0 : Int)) < (d29.1.length : Int)) ∧
 ((Qa1 (Qa0 (Qa0 x (Qa1 (Qa0 d23.2.1 d23.2.2.toNat (0 : Int))) Aj).1 d29.2.2.toNat (0 : Int))) < d29.1.length) ∧
 (0 ≤ (Qa0 (Qa0 x (Qa1 (Qa0 d23.2.1 d23.2.2.toNat (0 : Int))) Aj).1 d29.2.2.toNat (0 : Int)) ∧ (Qa0 (Qa0 x (Qa1 (Qa0 d23.2.1 d23.2.2.toNat (0 : Int))) Aj).1 d29.2.2.toNat (0 : Int)) < (d29.1.length : Int)) ∧
 ((Qa1 (Qa0 (Qa0 x (Qa1 (Qa0 d23.2.1 d23.2.2.toNat (0 : Int))) Aj).1 d29.2.2.toNat (0 : Int))) < d29.1.length) ∧
 (0 ≤ (Qa0 (Qa0 x (Qa1 (Qa0 d23.2.1 d23.2.2.toNat (0 : Int))) Aj).1 d29.2.2.toNat (0 : Int)) ∧ (Qa0 (Qa0 x (Qa1 (Qa0 d23.2.1 d23.2.2.toNat (0 : Int))) Aj).1 d29.2.2.toNat (0 : Int)) < ((Qa2 (Qa3 d29.1 (Qa1 (Qa0 (Qa0 x (Qa1 (Qa0 d23.2.1 d23.2.2.toNat (0 : Int))) Aj).1 d29.2.2.toNat (0 : Int))) (i64.wrap ((Qa0 d29.1 (Qa1 (Qa0 (Qa0 x (Qa1 (Qa0 d23.2.1 d23.2.2.toNat (0 : Int))) Aj).1 d29.2.2.toNat (0 : Int))) (0 : Int)) - (1 : Int)))) : Nat) : Int)) ∧
 ((Qa1 (Qa0 (Qa0 x (Qa1 (Qa0 d23.2.1 d23.2.2.toNat (0 : Int))) Aj).1 d29.2.2.toNat (0 : Int))) < Qa2 (Qa3 d29.1 (Qa1 (Qa0 (Qa0 x (Qa1 (Qa0 d23.2.1 d23.2.2.toNat (0 : Int))) Aj).1 d29.2.2.toNat (0 : Int))) (i64.wrap ((Qa0 d29.1 (Qa1 (Qa0 (Qa0 x (Qa1 (Qa0 d23.2.1 d23.2.2.toNat (0 : Int))) Aj).1 d29.2.2.toNat (0 : Int))) (0 : Int)) - (1 : Int))))) ∧
 Ad (D := (List Int)) (fun J33 => ((((Qa0 (Qa3 d29.1 (Qa1 (Qa0 (Qa0 x (Qa1 (Qa0 d23.2.1 d23.2.2.toNat (0 : Int))) Aj).1 d29.2.2.toNat (0 : Int))) (i64.wrap ((Qa0 d29.1 (Qa1 (Qa0 (Qa0 x (Qa1 (Qa0 d23.2.1 d23.2.2.toNat (0 : Int))) Aj).1 d29.2.2.toNat (0 : Int))) (0 : Int)) - (1 : Int)))) (Qa1 (Qa0 (Qa0 x (Qa1 (Qa0 d23.2.1 d23.2.2.toNat (0 : Int))) Aj).1 d29.2.2.toNat (0 : Int))) (0 : Int)) == (0 : Int)) = true → ((d29.2.1.length + Qa2 ([(Qa0 (Qa0 x (Qa1 (Qa0 d23.2.1 d23.2.2.toNat (0 : Int))) Aj).1 d29.2.2.toNat (0 : Int))] : List Int)) * 8 ≤ 140737488355328) ∧
 J33 (d29.2.1 ++ ([(Qa0 (Qa0 x (Qa1 (Qa0 d23.2.1 d23.2.2.toNat (0 : Int))) Aj).1 d29.2.2.toNat (0 : Int))] : List Int))) ∧ (((Qa0 (Qa3 d29.1 (Qa1 (Qa0 (Qa0 x (Qa1 (Qa0 d23.2.1 d23.2.2.toNat (0 : Int))) Aj).1 d29.2.2.toNat (0 : Int))) (i64.wrap ((Qa0 d29.1 (Qa1 (Qa0 (Qa0 x (Qa1 (Qa0 d23.2.1 d23.2.2.toNat (0 : Int))) Aj).1 d29.2.2.toNat (0 : Int))) (0 : Int)) - (1 : Int)))) (Qa1 (Qa0 (Qa0 x (Qa1 (Qa0 d23.2.1 d23.2.2.toNat (0 : Int))) Aj).1 d29.2.2.toNat (0 : Int))) (0 : Int)) == (0 : Int)) = false → J33 d29.2.1))) (fun d34 => J31 ((Qa3 d29.1 (Qa1 (Qa0 (Qa0 x (Qa1 (Qa0 d23.2.1 d23.2.2.toNat (0 : Int))) Aj).1 d29.2.2.toNat (0 : Int))) (i64.wrap ((Qa0 d29.1 (Qa1 (Qa0 (Qa0 x (Qa1 (Qa0 d23.2.1 d23.2.2.toNat (0 : Int))) Aj).1 d29.2.2.toNat (0 : Int))) (0 : Int)) - (1 : Int)))), d34))) (fun d32 => J30 (d32.1, (d32.2, (i64.wrap (d29.2.2 + (1 : Int))))))) ∧ ((decide (d29.2.2 < ((Qa2 (Qa0 x (Qa1 (Qa0 d23.2.1 d23.2.2.toNat (0 : Int))) Aj).1 : Nat) : Int))) = false → J27 (d29.1, d29.2.1))))) (fun d28 => J25 d28)) (fun d26 => J24 (d26.1, (d26.2, (i64.wrap (d23.2.2 + (1 : Int))))))) ∧ ((decide (d23.2.2 < (d23.2.1.length : Int))) = false → J21 d23.2.1)))) (fun d22 => K d22 ())))
theorem RC {P : Pg} (h : Has P GQ) {x : DP Dy.ps} {K : DP Dy.rs → DP (ptrs Dy.ps) → Prop} (hw : MO P x K) : Fn P Acs Dy x K :=
 BI (c := JD) h rfl rfl (by kernel_rfl) (Eq.mpr (show BE P GQ Dy JD x K = _ by kernel_rfl) hw)
def Iv : Bn :=
 (.seq (.region [o1 1 (.box 0), o1 2 (.asg kF)]) (.seq (.region [fa 3 1 1, ld 4 3, o1 5 (.bin .lss 4 (kI 0)), im 6 5, gf 7 6 (.fAddr 1 1), gf 8 6 (.load false 1 7), gf 9 6 (.bin
 .gtr 8 (kI 2147483647)), o1 10 (.pick 6 kT 9), ia 2 10]) .ret))
def Gf : AFn := ⟨ AdU, Iv.erase, [.tmp 2], 1⟩
def RA (P : Pg) (x : Commit) (K : Bool → Unit → Prop) : Prop :=
 K (cond (decide (x.2.1 < (0 : Int))) true (decide (x.2.1 > (2147483647 : Int)))) ()
theorem Qj {P : Pg} (h : Has P Gf) {x : DP DI.ps} {K : DP DI.rs → DP (ptrs DI.ps) → Prop} (hw : RA P x K) : Fn P AdU DI x K :=
 BI (c := Iv) h rfl rfl (by kernel_rfl) (Eq.mpr (show BE P Gf DI Iv x K = _ by kernel_rfl) hw)
def Bm : Bn :=
 (.seq (.region [ia 4 (kI 0)]) (.seq (.seq (.region [im 6 0, o1 7 (.lenK 6), o1 8 (.mv (kI 0))]) (.frame (rg [4, 5] 8 11) [] false (.join [.si 4] (.block 0 (.loop [.si 4, .si 8]
 (.seq (.region [o1 9 (.bin .lss 8 7)]) (.seq (.cond 9 .skip (.exit 0)) (.seq (.frame (rg [4, 5] 10 8) [] false (.join [.si 4] (.block 1 (.seq (.region [im 10 8, ia 5 10]) (.seq
 (.region [im 11 1, im 12 0, im 13 5, o1 14 (.ixA 3 12 13), o1 15 (.load true 3 14), oS ⟨some 16, .callv 11 [15], none⟩ DI]) (.cond 16 (.seq (.region [im 17 5, ia 4 17])
 .ret) .skip)))))) (.region [o1 18 (.bin .add 8 (kI 1)), im 8 18]))))))))) (.seq (.region [ia 4 (kI (-1))]) .ret)))
def AW : AFn := ⟨ zS7, Bm.erase, [.tmp 4], 2⟩
def BQ (P : Pg) (x : ((List Commit) × Unit)) (K : Int → Unit → Prop) : Prop :=
 Ad (D := Int) (fun J1 => AF (D := (Int × Int)) ((0 : Int), (0 : Int)) (fun d3 J4 => (((decide (d3.2 < (x.1.length : Int))) = true → Ad (D := Int) (fun J5 => (0 ≤ d3.2 ∧ d3.2 < (x.1.length : Int)) ∧
 (d3.2.toNat < x.1.length) ∧
 Fn P AdU DI (Qa0 x.1 d3.2.toNat Aj) (fun (d7 : Bool) _ => ((d7 = true → K d3.2 ()) ∧ (d7 = false → J5 d3.1)))) (fun d6 => J4 (d6, (i64.wrap (d3.2 + (1 : Int)))))) ∧ ((decide (d3.2 < (x.1.length : Int))) = false → J1 d3.1)))) (fun d2 => K (-1 : Int) ())
theorem C3 {P : Pg} (h : Has P AW) {x : DP Av.ps} {K : DP Av.rs → DP (ptrs Av.ps) → Prop} (hw : BQ P x K) : Fn P zS7 Av x K :=
 BI (c := Bm) h rfl rfl (by kernel_rfl) (Eq.mpr (show BE P AW Av Bm x K = _ by kernel_rfl) hw)
def Be : Bn :=
 (.seq (.region [o1 4 (.asg kF)]) (.seq (.region [im 5 0, im 6 1, oS ⟨some 7, .call zS7 [5, 6], none⟩
 Av, o1 8 (.bin .geq 7 (kI 0)), ia 4 8]) .ret))
def AL : AFn := ⟨ zS8, Be.erase, [.tmp 4], 2⟩
def BG (P : Pg) (x : ((List Commit) × Unit)) (K : Bool → Unit → Prop) : Prop :=
 Fn P zS7 Av (x.1, ()) (fun (d1 : Int) _ => K (decide (d1 ≥ (0 : Int))) ())
theorem CI {P : Pg} (h : Has P AL) {x : DP Ap.ps} {K : DP Ap.rs → DP (ptrs Ap.ps) → Prop} (hw : BG P x K) : Fn P zS8 Ap x K :=
 BI (c := Be) h rfl rfl (by kernel_rfl) (Eq.mpr (show BE P AL Ap Be x K = _ by kernel_rfl) hw)
def K3 : Bn :=
 (.seq (.region [ia 2 (kI 0)]) (.seq (.frame (rg [2] 6 18) [] false (.join [.si 2] (.block 0 (.seq (.region [im 7 0, oS ⟨some 8, .call Acq [7], none⟩
 Da, o1 9 (.un .not 8), ia 6 9]) (.cond 6 (.seq (.region [ia 2 (kI 1)]) .ret) (.seq (.region [im 11 0, oS ⟨some 12, .call Acr [11], none⟩
 Db, o1 13 (.un .not 12), ia 10 13]) (.cond 10 (.seq (.region [ia 2 (kI 230)]) .ret) (.seq (.region [im 15 0, oS ⟨some 16, .call Acs [15], none⟩
 Dy, o1 17 (.lenK 16), im 18 0, o1 19 (.lenK 18), o1 20 (.bin .lss 17 19), ia 14 20]) (.cond 14 (.seq (.region [ia 2 (kI 231)]) .ret) (.seq (.region [im 22 0, oS ⟨some 23,
 .call zS8 [22, (.f AdU)], none⟩ Ap, ia 21
 23]) (.cond 21 (.seq (.region [ia 2 (kI 3)]) .ret) .skip))))))))))) (.seq (.seq (.region [im 24 0, o1 25 (.lenK 24), o1 26 (.mv (kI 0))]) (.frame (rg [2, 4, 5] 26 11) [1004] false
 (.join [.si 2] (.block 1 (.loop [.si 2, .si 26] (.seq (.region [o1 27 (.bin .lss 26 25)]) (.seq (.cond 27 .skip (.exit 1)) (.seq (.frame (rg [2, 4, 5] 28 8) [1004] false (.join
 [.si 2] (.block 2 (.seq (.region [o1 28 (.ixA 3 24 26), o1 29 (.load true 3 28), o1 4 (.alloc [(.slice none 0 0), (.int .i64 0), (.slice none 0 0)]), o0 ⟨none, .store 3 4 29,
 none⟩]) (.seq (.region [fa 30 2 4, ld 31 30, oS ⟨some 32, .call Yy [31], none⟩ CH, ia 5 32]) (.seq (.region [im 33 5, o1 34 (.bin .neq 33 (kI 0))])
 (.cond 34 (.seq (.region [im 35 5, ia 2 35]) .ret) .skip))))))) (.region [o1 36 (.bin .add 26 (kI 1)), im 26 36]))))))))) (.seq (.region [ia 2 (kI 0)]) .ret))))
def HW : AFn := ⟨ Acu, K3.erase, [.tmp 2], 1⟩
def OQ (P : Pg) (x : (List Commit)) (K : Int → Unit → Prop) : Prop :=
 Ad (D := Int) (fun J1 => Fn P Acq Da x (fun (d3 : Bool) _ => (((!d3) = true → K (1 : Int) ()) ∧ ((!d3) = false → Fn P Acr Db x (fun (d5 : Bool) _ => (((!d5) = true → K (230 : Int) ()) ∧ ((!d5) = false → Fn P Acs Dy x (fun (d7 : (List Int)) _ => (((decide ((d7.length : Int) < (x.length : Int))) = true → K (231 : Int) ()) ∧ ((decide ((d7.length : Int) < (x.length : Int))) = false → Fn P zS8 Ap (x, ()) (fun (d9 : Bool) _ => ((d9 = true → K (3 : Int) ()) ∧ (d9 = false → J1 (0 : Int)))))))))))))) (fun d2 => Ad (D := Int) (fun J11 => AF (D := (Int × Int)) (d2, (0 : Int)) (fun d13 J14 => (((decide (d13.2 < (x.length : Int))) = true → Ad (D := Int) (fun J15 => (0 ≤ d13.2 ∧ d13.2 < (x.length : Int)) ∧
 (d13.2.toNat < x.length) ∧
 Fn P Yy CH (Qa0 x d13.2.toNat Aj).2.2 (fun (d17 : Int) _ => (((d17 != (0 : Int)) = true → K d17 ()) ∧ ((d17 != (0 : Int)) = false → J15 d13.1)))) (fun d16 => J14 (d16, (i64.wrap (d13.2 + (1 : Int)))))) ∧ ((decide (d13.2 < (x.length : Int))) = false → J11 d13.1)))) (fun d12 => K (0 : Int) ()))
theorem TP {P : Pg} (h : Has P HW) {x : DP DW.ps} {K : DP DW.rs → DP (ptrs DW.ps) → Prop} (hw : OQ P x K) : Fn P Acu DW x K :=
 BI (c := K3) h rfl rfl (by kernel_rfl) (Eq.mpr (show BE P HW DW K3 x K = _ by kernel_rfl) hw)
def Ro : Bn :=
 (.seq (.region [o1 4 (.asg kF)]) (.seq (.region [im 5 1, o1 6 (.bin .geq 5 (kI 0)), im 7 6, gt 8 7 (.mv 1), gt 9 7 (.mv 0), gt 10 7 (.lenK 9), gt 11 7 (.bin .lss 8 10), o1 12
 (.pick 7 11 kF), ia 4 12]) .ret))
def MK : AFn := ⟨ "mergelens/dag.Is", Ro.erase, [.tmp 4], 2⟩
def UM (P : Pg) (x : ((List Commit) × Int)) (K : Bool → Unit → Prop) : Prop :=
 K (cond (decide (x.2 ≥ (0 : Int))) (decide (x.2 < (x.1.length : Int))) false) ()
theorem ZJ {P : Pg} (h : Has P MK) {x : DP Hi.ps} {K : DP Hi.rs → DP (ptrs Hi.ps) → Prop} (hw : UM P x K) : Fn P "mergelens/dag.Is" Hi x K :=
 BI (c := Ro) h rfl rfl (by kernel_rfl) (Eq.mpr (show BE P MK Hi Ro x K = _ by kernel_rfl) hw)
def Gb : Bn :=
 (.seq (.region [ia 4 (kI 0)]) (.seq (.seq (.region [im 8 0, oS ⟨some 9, .call Acu [8], none⟩ DW, ia 5 9]) (.seq (.region [im 10 5, o1 11 (.bin .neq 10
 (kI 0))]) (.cond 11 (.seq (.region [im 12 5, ia 4 12]) .ret) .skip))) (.seq (.seq (.region [im 13 1, o1 14 (.lenK 13), o1 15 (.mv (kI 0))]) (.frame (rg [4, 7] 15 9) [] false (.join
 [.si 4] (.block 0 (.loop [.si 4, .si 15] (.seq (.region [o1 16 (.bin .lss 15 14)]) (.seq (.cond 16 .skip (.exit 0)) (.seq (.frame (rg [4, 7] 17 6) [] false (.join [.si 4] (.block 1
 (.seq (.region [o1 17 (.ixA 1 13 15), ld 18 17, ia 7 18]) (.seq (.region [im 19 0, im 20 7, oS ⟨some 21, .call "mergelens/dag.Is" [19, 20], none⟩ Hi, o1 22 (.un .not 21)])
 (.cond 22 (.seq (.region [ia 4 (kI 5)]) .ret) .skip)))))) (.region [o1 23 (.bin .add 15 (kI 1)), im 15 23]))))))))) (.seq (.region [ia 4 (kI 0)]) .ret))))
def EJ : AFn := ⟨ Yz, Gb.erase, [.tmp 4], 2⟩
def IM (P : Pg) (x : ((List Commit) × (List Int))) (K : Int → Unit → Prop) : Prop :=
 Fn P Acu DW x.1 (fun (d1 : Int) _ => (((d1 != (0 : Int)) = true → K d1 ()) ∧ ((d1 != (0 : Int)) = false → Ad (D := Int) (fun J3 => AF (D := (Int × Int)) ((0 : Int), (0 : Int)) (fun d5 J6 => (((decide (d5.2 < (x.2.length : Int))) = true → Ad (D := Int) (fun J7 => (0 ≤ d5.2 ∧ d5.2 < (x.2.length : Int)) ∧
 (d5.2.toNat < x.2.length) ∧
 Fn P "mergelens/dag.Is" Hi (x.1, (Qa0 x.2 d5.2.toNat (0 : Int))) (fun (d9 : Bool) _ => (((!d9) = true → K (5 : Int) ()) ∧ ((!d9) = false → J7 d5.1)))) (fun d8 => J6 (d8, (i64.wrap (d5.2 + (1 : Int)))))) ∧ ((decide (d5.2 < (x.2.length : Int))) = false → J3 d5.1)))) (fun d4 => K (0 : Int) ()))))
theorem M8 {P : Pg} (h : Has P EJ) {x : DP Bz.ps} {K : DP Bz.rs → DP (ptrs Bz.ps) → Prop} (hw : IM P x K) : Fn P Yz Bz x K :=
 BI (c := Gb) h rfl rfl (by kernel_rfl) (Eq.mpr (show BE P EJ Bz Gb x K = _ by kernel_rfl) hw)
def EG : Bn :=
 (.seq (.region [o1 4 (.asg (.c (.slice none 0 0)))]) (.seq (.region [im 10 0, o1 11 (.lenK 10), oT ⟨some 12, .mkSl 1 1 [(.bool false)] 11 11, none⟩ (some (.bool, .leaf)), ia 5 12])
 (.seq (.region [im 13 5, im 14 1, o1 15 (.ixA 1 13 14), o0 ⟨none, .store 1 15 kT, none⟩]) (.seq (.seq (.region [im 16 1, oT ⟨some 17, .buildSl 1 [(.int .i64 0)] 1 [(0, 16)], none⟩
 (some (bI, .leaf)), ia 6 17]) (.frame (rg [5, 6, 7, 9] 18 37) [] false (.join [.sl 5 false (.sl .bool) tO] (.block 0 (.loop [.sl 5 false (.sl .bool) tO, .sl 6 false (.sl bI) tO]
 (.seq (.seq (.region [im 18 6, o1 19 (.lenK 18), o1 20 (.bin .gtr 19 (kI 0))]) (.cond 20 .skip (.exit 0))) (.frame (rg [5, 6, 7, 9] 21 34) [] false (.join [.sl 5 false (.sl .bool)
 tO, .sl 6 false (.sl bI) tO] (.block 1 (.seq (.region [im 21 6, im 22 6, o1 23 (.lenK 22), o1 24 (.bin .sub 23 (kI 1)), o1 25 (.ixA 1 21 24), ld 26 25, ia 7 26]) (.seq (.region [im
 27 6, im 28 6, o1 29 (.lenK 28), o1 30 (.bin .sub 29 (kI 1)), o1 31 (.slK 1 27 none (some 30)), ia 6 31]) (.seq (.region [im 32 0, im 33 7, o1 34 (.ixA 3 32 33), fa 35 0 34, ld 36
 35, o1 37 (.lenK 36), o1 38 (.mv (kI 0))]) (.frame (rg [5, 6, 9] 38 17) [] false (.join [.sl 5 false (.sl .bool) tO, .sl 6 false (.sl bI) tO] (.block 2 (.loop [.sl 5 false (.sl
 .bool) tO, .sl 6 false (.sl bI) tO, .si 38] (.seq (.region [o1 39 (.bin .lss 38 37)]) (.seq (.cond 39 .skip (.exit 2)) (.seq (.frame (rg [5, 6, 9] 40 14) [] false (.join [.sl 5
 false (.sl .bool) tO, .sl 6 false (.sl bI) tO] (.block 3 (.seq (.region [o1 40 (.ixA 1 36 38), ld 41 40, ia 9 41]) (.seq (.region [im 42 5, im 43 9, o1 44 (.ixA 1 42 43), ld 45 44,
 o1 46 (.un .not 45)]) (.frame (rg [5, 6] 47 7) [] false (.join [.sl 5 false (.sl .bool) tO, .sl 6 false (.sl bI) tO] (.cond 46 (.seq (.region [im 47 5, im 48 9, o1 49 (.ixA 1 47
 48), o0 ⟨none, .store 1 49 kT, none⟩]) (.region [im 50 6, im 51 9, oT ⟨some 52, .buildSl 1 [(.int .i64 0)] 1 [(0, 51)], none⟩ (some (bI, .leaf)), oT ⟨some 53, .app 1 8 50 52, none⟩
 (some (bI, .leaf)), ia 6 53])) .skip)))))))) (.region [o1 54 (.bin .add 38 (kI 1)), im 38 54])))))))))))))))))))) (.seq (.region [im 55 5, ia 4 55]) .ret)))))
def Dx : AFn := ⟨ YA, EG.erase, [.tmp 4], 2⟩
def GB (P : Pg) (x : ((List Commit) × Int)) (K : (List Bool) → Unit → Prop) : Prop :=
 (0 ≤ (x.1.length : Int) ∧ (x.1.length : Int) ≤ (x.1.length : Int) ∧ ((1 : Nat) : Int) * (x.1.length : Int) ≤ 281474976710656) ∧
 (0 ≤ x.2 ∧ x.2 < ((Qa2 (Qa4 (Qa1 (x.1.length : Int)) false) : Nat) : Int)) ∧
 (x.2.toNat < Qa2 (Qa4 (Qa1 (x.1.length : Int)) false)) ∧
 Ad (D := (List Bool)) (fun J1 => AF (D := ((List Bool) × (List Int))) ((Qa3 (Qa4 (Qa1 (x.1.length : Int)) false) x.2.toNat true), ([x.2] : List Int)) (fun d3 J4 => (((decide ((d3.2.length : Int) > (0 : Int))) = true → Ad (D := ((List Bool) × (List Int))) (fun J5 => (0 ≤ (i64.wrap ((d3.2.length : Int) - (1 : Int))) ∧ (i64.wrap ((d3.2.length : Int) - (1 : Int))) < (d3.2.length : Int)) ∧
 ((Qa1 (i64.wrap ((d3.2.length : Int) - (1 : Int)))) < d3.2.length) ∧
 (0 ≤ (i64.wrap ((d3.2.length : Int) - (1 : Int))) ∧ (i64.wrap ((d3.2.length : Int) - (1 : Int))) ≤ (d3.2.length : Int)) ∧
 (0 + (Qa1 (i64.wrap ((d3.2.length : Int) - (1 : Int)))) ≤ d3.2.length) ∧
 (0 ≤ (Qa0 d3.2 (Qa1 (i64.wrap ((d3.2.length : Int) - (1 : Int)))) (0 : Int)) ∧ (Qa0 d3.2 (Qa1 (i64.wrap ((d3.2.length : Int) - (1 : Int)))) (0 : Int)) < (x.1.length : Int)) ∧
 ((Qa1 (Qa0 d3.2 (Qa1 (i64.wrap ((d3.2.length : Int) - (1 : Int)))) (0 : Int))) < x.1.length) ∧
 Ad (D := ((List Bool) × (List Int))) (fun J7 => AF (D := ((List Bool) × ((List Int) × Int))) (d3.1, ((Qa5 (Qa1 (i64.wrap ((d3.2.length : Int) - (1 : Int)))) (List.drop 0 d3.2)), (0 : Int))) (fun d9 J10 => (((decide (d9.2.2 < ((Qa2 (Qa0 x.1 (Qa1 (Qa0 d3.2 (Qa1 (i64.wrap ((d3.2.length : Int) - (1 : Int)))) (0 : Int))) Aj).1 : Nat) : Int))) = true → Ad (D := ((List Bool) × (List Int))) (fun J11 => (0 ≤ d9.2.2 ∧ d9.2.2 < ((Qa2 (Qa0 x.1 (Qa1 (Qa0 d3.2 (Qa1 (i64.wrap ((d3.2.length : Int) - (1 : Int)))) (0 : Int))) Aj).1 : Nat) : Int)) ∧
 (d9.2.2.toNat < Qa2 (Qa0 x.1 (Qa1 (Qa0 d3.2 (Qa1 (i64.wrap ((d3.2.length : Int) - (1 : Int)))) (0 : Int))) Aj).1) ∧
 (0 ≤ (Qa0 (Qa0 x.1 (Qa1 (Qa0 d3.2 (Qa1 (i64.wrap ((d3.2.length : Int) - (1 : Int)))) (0 : Int))) Aj).1 d9.2.2.toNat (0 : Int)) ∧ (Qa0 (Qa0 x.1 (Qa1 (Qa0 d3.2 (Qa1 (i64.wrap ((d3.2.length : Int) - (1 : Int)))) (0 : Int))) Aj).1 d9.2.2.toNat (0 : Int)) < (d9.1.length : Int)) ∧
 ((Qa1 (Qa0 (Qa0 x.1 (Qa1 (Qa0 d3.2 (Qa1 (i64.wrap ((d3.2.length : Int) - (1 : Int)))) (0 : Int))) Aj).1 d9.2.2.toNat (0 : Int))) < d9.1.length) ∧
 Ad (D := ((List Bool) × (List Int))) (fun J13 => (((!(Qa0 d9.1 (Qa1 (Qa0 (Qa0 x.1 (Qa1 (Qa0 d3.2 (Qa1 (i64.wrap ((d3.2.length : Int) - (1 : Int)))) (0 : Int))) Aj).1 d9.2.2.toNat (0 : Int))) false)) = true → (0 ≤ (Qa0 (Qa0 x.1 (Qa1 (Qa0 d3.2 (Qa1 (i64.wrap ((d3.2.length : Int) - (1 : Int)))) (0 : Int))) Aj).1 d9.2.2.toNat (0 : Int)) ∧ (Qa0 (Qa0 x.1 (Qa1 (Qa0 d3.2 (Qa1 (i64.wrap ((d3.2.length : Int) - (1 : Int)))) (0 : Int))) Aj).1 d9.2.2.toNat (0 : Int)) < (d9.1.length : Int)) ∧
 ((Qa1 (Qa0 (Qa0 x.1 (Qa1 (Qa0 d3.2 (Qa1 (i64.wrap ((d3.2.length : Int) - (1 : Int)))) (0 : Int))) Aj).1 d9.2.2.toNat (0 : Int))) < d9.1.length) ∧
 ((d9.2.1.length + Qa2 ([(Qa0 (Qa0 x.1 (Qa1 (Qa0 d3.2 (Qa1 (i64.wrap ((d3.2.length : Int) - (1 : Int)))) (0 : Int))) Aj).1 d9.2.2.toNat (0 : Int))] : List Int)) * 8 ≤ 140737488355328) ∧
 J13 ((Qa3 d9.1 (Qa1 (Qa0 (Qa0 x.1 (Qa1 (Qa0 d3.2 (Qa1 (i64.wrap ((d3.2.length : Int) - (1 : Int)))) (0 : Int))) Aj).1 d9.2.2.toNat (0 : Int))) true), (d9.2.1 ++ ([(Qa0 (Qa0 x.1 (Qa1 (Qa0 d3.2 (Qa1 (i64.wrap ((d3.2.length : Int) - (1 : Int)))) (0 : Int))) Aj).1 d9.2.2.toNat (0 : Int))] : List Int)))) ∧ ((!(Qa0 d9.1 (Qa1 (Qa0 (Qa0 x.1 (Qa1 (Qa0 d3.2 (Qa1 (i64.wrap ((d3.2.length : Int) - (1 : Int)))) (0 : Int))) Aj).1 d9.2.2.toNat (0 : Int))) false)) = false → J13 (d9.1, d9.2.1)))) (fun d14 => J11 d14)) (fun d12 => J10 (d12.1, (d12.2, (i64.wrap (d9.2.2 + (1 : Int))))))) ∧ ((decide (d9.2.2 < ((Qa2 (Qa0 x.1 (Qa1 (Qa0 d3.2 (Qa1 (i64.wrap ((d3.2.length : Int) - (1 : Int)))) (0 : Int))) Aj).1 : Nat) : Int))) = false → J7 (d9.1, d9.2.1))))) (fun d8 => J5 d8)) (fun d6 => J4 d6)) ∧ ((decide ((d3.2.length : Int) > (0 : Int))) = false → J1 d3.1)))) (fun d2 => K d2 ())
theorem JZ {P : Pg} (h : Has P Dx) {x : DP A9.ps} {K : DP A9.rs → DP (ptrs A9.ps) → Prop} (hw : GB P x K) : Fn P YA A9 x K :=
 BI (c := EG) h rfl rfl (by kernel_rfl) (Eq.mpr (show BE P Dx A9 EG x K = _ by kernel_rfl) hw)
def EF : Bn :=
 (.seq (.region [o1 4 (.asg (.c (.slice none 0 0))), ia 5 (kI 0)]) (.seq (.seq (.region [im 10 0, im 11 1, oT ⟨some 12, .buildSl 1 [(.int .i64 0)] 1 [(0, 11)], none⟩ (some (bI,
 .leaf)), oS ⟨some 13, .call Yz [10, 12], none⟩ Bz, ia 6 13]) (.seq (.region [im 14 6, o1 15 (.bin .neq 14 (kI 0))]) (.cond 15 (.seq (.region
 [im 16 6, o1 4 (.asg (.c (.slice none 0 0))), ia 5 16]) .ret) .skip))) (.seq (.region [o1 7 (.asg (.c (.slice none 0 0)))]) (.seq (.seq (.region [im 17 0, im 18 1, oS ⟨some 19,
 .call YA [17, 18], none⟩ A9, o1 20 (.lenK 19), o1 21 (.mv (kI 0))]) (.frame (rg [7, 8, 9] 21 11) [] false (.join [.sl 7 false (.sl bI)
 tO] (.block 0 (.loop [.sl 7 false (.sl bI) tO, .si 21] (.seq (.region [o1 22 (.bin .lss 21 20)]) (.seq (.cond 22 .skip (.exit 0)) (.seq (.frame (rg [7, 8, 9] 23 8) [] false (.join
 [.sl 7 false (.sl bI) tO] (.block 1 (.seq (.region [im 23 21, o1 24 (.ixA 1 19 21), ld 25 24, ia 8 23, ia 9 25]) (.seq (.region [im 26 9]) (.frame (rg [7] 27 4) [] false (.join
 [.sl 7 false (.sl bI) tO] (.cond 26 (.region [im 27 7, im 28 8, oT ⟨some 29, .buildSl 1 [(.int .i64 0)] 1 [(0, 28)], none⟩ (some (bI, .leaf)), oT ⟨some 30, .app 1 8 27 29, none⟩
 (some (bI, .leaf)), ia 7 30]) .skip)))))))) (.region [o1 31 (.bin .add 21 (kI 1)), im 21 31]))))))))) (.seq (.region [im 32 7, ia 4 32, ia 5 (kI 0)]) .ret)))))
def Dw : AFn := ⟨ Acv, EF.erase, [.tmp 4, .tmp 5], 2⟩
def GA (P : Pg) (x : ((List Commit) × Int)) (K : ((List Int) × Int) → Unit → Prop) : Prop :=
 Fn P Yz Bz (x.1, ([x.2] : List Int)) (fun (d1 : Int) _ => (((d1 != (0 : Int)) = true → K ([], d1) ()) ∧ ((d1 != (0 : Int)) = false → Fn P YA A9 x (fun (d3 : (List Bool)) _ => Ad (D := (List Int)) (fun J5 => AF (D := ((List Int) × Int)) ([], (0 : Int)) (fun d7 J8 => (((decide (d7.2 < (d3.length : Int))) = true → Ad (D := (List Int)) (fun J9 => (0 ≤ d7.2 ∧ d7.2 < (d3.length : Int)) ∧
 (d7.2.toNat < d3.length) ∧
 Ad (D := (List Int)) (fun J11 => (((Qa0 d3 d7.2.toNat false) = true → ((d7.1.length + Qa2 ([d7.2] : List Int)) * 8 ≤ 140737488355328) ∧
 J11 (d7.1 ++ ([d7.2] : List Int))) ∧ ((Qa0 d3 d7.2.toNat false) = false → J11 d7.1))) (fun d12 => J9 d12)) (fun d10 => J8 (d10, (i64.wrap (d7.2 + (1 : Int)))))) ∧ ((decide (d7.2 < (d3.length : Int))) = false → J5 d7.1)))) (fun d6 => K (d6, (0 : Int)) ())))))
theorem JY {P : Pg} (h : Has P Dw) {x : DP BF.ps} {K : DP BF.rs → DP (ptrs BF.ps) → Prop} (hw : GA P x K) : Fn P Acv BF x K :=
 BI (c := EF) h rfl rfl (by kernel_rfl) (Eq.mpr (show BE P Dw BF EF x K = _ by kernel_rfl) hw)
def IG : Bn :=
 (.seq (.region [o1 4 (.asg (.c (.slice none 0 0)))]) (.seq (.region [im 10 0, o1 11 (.lenK 10), oT ⟨some 12, .mkSl 1 1 [(.bool false)] 11 11, none⟩ (some (.bool, .leaf)), ia 5 12])
 (.seq (.seq (.region [ia 6 (kI 0)]) (.frame (rg [5, 6] 13 12) [] false (.join [.sl 5 false (.sl .bool) tO] (.block 0 (.loop [.sl 5 false (.sl .bool) tO, .si 6] (.seq (.seq (.region
 [im 13 6, im 14 1, o1 15 (.lenK 14), o1 16 (.bin .lss 13 15)]) (.cond 16 .skip (.exit 0))) (.seq (.frame (rg [5] 19 6) [] false (.join [.sl 5 false (.sl .bool) tO] (.block 1
 (.region [im 19 5, im 20 1, im 21 6, o1 22 (.ixA 1 20 21), ld 23 22, o1 24 (.ixA 1 19 23), o0 ⟨none, .store 1 24 kT, none⟩])))) (.region [im 17 6, o1 18 (.bin .add 17 (kI 1)), ia 6
 18])))))))) (.seq (.seq (.region [ia 7 (kI 0)]) (.frame (rg [5, 7, 8, 9] 25 38) [] false (.join [.sl 5 false (.sl .bool) tO] (.block 2 (.loop [.sl 5 false (.sl .bool) tO, .si 7]
 (.seq (.seq (.region [im 25 7, im 26 0, o1 27 (.lenK 26), o1 28 (.bin .lss 25 27)]) (.cond 28 .skip (.exit 2))) (.seq (.frame (rg [5, 8, 9] 31 32) [] false (.join [.sl 5 false (.sl
 .bool) tO] (.block 3 (.seq (.region [ia 8 (kI 0)]) (.frame (rg [5, 8, 9] 31 32) [] false (.join [.sl 5 false (.sl .bool) tO] (.block 4 (.loop [.sl 5 false (.sl .bool) tO, .si 8]
 (.seq (.seq (.region [im 31 8, im 32 0, o1 33 (.lenK 32), o1 34 (.bin .lss 31 33)]) (.cond 34 .skip (.exit 4))) (.seq (.frame (rg [5, 9] 37 26) [] false (.join [.sl 5 false (.sl
 .bool) tO] (.block 5 (.seq (.region [ia 9 (kI 0)]) (.frame (rg [5, 9] 37 26) [] false (.join [.sl 5 false (.sl .bool) tO] (.block 6 (.loop [.sl 5 false (.sl .bool) tO, .si 9] (.seq
 (.seq (.region [im 37 9, im 38 0, im 39 8, o1 40 (.ixA 3 38 39), fa 41 0 40, ld 42 41, o1 43 (.lenK 42), o1 44 (.bin .lss 37 43), im 45 44, gt 46 45 (.mv 5), gt 47 45 (.mv 8), gt
 48 45 (.ixA 1 46 47), gt 49 45 (.load false 1 48), o1 50 (.pick 45 49 kF)]) (.cond 50 .skip (.exit 6))) (.seq (.frame (rg [5] 53 10) [] false (.join [.sl 5 false (.sl .bool) tO]
 (.block 7 (.region [im 53 5, im 54 0, im 55 8, o1 56 (.ixA 3 54 55), fa 57 0 56, ld 58 57, im 59 9, o1 60 (.ixA 1 58 59), ld 61 60, o1 62 (.ixA 1 53 61), o0 ⟨none, .store 1 62 kT,
 none⟩])))) (.region [im 51 9, o1 52 (.bin .add 51 (kI 1)), ia 9 52]))))))))))) (.region [im 35 8, o1 36 (.bin .add 35 (kI 1)), ia 8 36]))))))))))) (.region [im 29 7, o1 30 (.bin
 .add 29 (kI 1)), ia 7 30])))))))) (.seq (.region [im 63 5, ia 4 63]) .ret)))))
def Gn : AFn := ⟨ zS2, IG.erase, [.tmp 4], 2⟩
def LO (P : Pg) (x : ((List Commit) × (List Int))) (K : (List Bool) → Unit → Prop) : Prop :=
 (0 ≤ (x.1.length : Int) ∧ (x.1.length : Int) ≤ (x.1.length : Int) ∧ ((1 : Nat) : Int) * (x.1.length : Int) ≤ 281474976710656) ∧
 Ad (D := (List Bool)) (fun J1 => AF (D := ((List Bool) × Int)) ((Qa4 (Qa1 (x.1.length : Int)) false), (0 : Int)) (fun d3 J4 => (((decide (d3.2 < (x.2.length : Int))) = true → Ad (D := (List Bool)) (fun J5 => (0 ≤ d3.2 ∧ d3.2 < (x.2.length : Int)) ∧
 (d3.2.toNat < x.2.length) ∧
 (0 ≤ (Qa0 x.2 d3.2.toNat (0 : Int)) ∧ (Qa0 x.2 d3.2.toNat (0 : Int)) < (d3.1.length : Int)) ∧
 ((Qa1 (Qa0 x.2 d3.2.toNat (0 : Int))) < d3.1.length) ∧
 J5 (Qa3 d3.1 (Qa1 (Qa0 x.2 d3.2.toNat (0 : Int))) true)) (fun d6 => J4 (d6, (i64.wrap (d3.2 + (1 : Int)))))) ∧ ((decide (d3.2 < (x.2.length : Int))) = false → J1 d3.1)))) (fun d2 => Ad (D := (List Bool)) (fun J7 => AF (D := ((List Bool) × Int)) (d2, (0 : Int)) (fun d9 J10 => (((decide (d9.2 < (x.1.length : Int))) = true → Ad (D := (List Bool)) (fun J11 => Ad (D := (List Bool)) (fun J13 => AF (D := ((List Bool) × Int)) (d9.1, (0 : Int)) (fun d15 J16 => (((decide (d15.2 < (x.1.length : Int))) = true → Ad (D := (List Bool)) (fun J17 => Ad (D := (List Bool)) (fun J19 => AF (D := ((List Bool) × Int)) (d15.1, (0 : Int)) (fun d21 J22 => (0 ≤ d15.2 ∧ d15.2 < (x.1.length : Int)) ∧
 (d15.2.toNat < x.1.length) ∧
 (((decide (d21.2 < ((Qa2 (Qa0 x.1 d15.2.toNat Aj).1 : Nat) : Int))) = true → 0 ≤ d15.2 ∧ d15.2 < (d21.1.length : Int))) ∧
 (((decide (d21.2 < ((Qa2 (Qa0 x.1 d15.2.toNat Aj).1 : Nat) : Int))) = true → d15.2.toNat < d21.1.length)) ∧
 (((cond (decide (d21.2 < ((Qa2 (Qa0 x.1 d15.2.toNat Aj).1 : Nat) : Int))) (Qa0 d21.1 d15.2.toNat false) false) = true → Ad (D := (List Bool)) (fun J23 => (0 ≤ d15.2 ∧ d15.2 < (x.1.length : Int)) ∧
 (d15.2.toNat < x.1.length) ∧
 (0 ≤ d21.2 ∧ d21.2 < ((Qa2 (Qa0 x.1 d15.2.toNat Aj).1 : Nat) : Int)) ∧
 (d21.2.toNat < Qa2 (Qa0 x.1 d15.2.toNat Aj).1) ∧
 (0 ≤ (Qa0 (Qa0 x.1 d15.2.toNat Aj).1 d21.2.toNat (0 : Int)) ∧ (Qa0 (Qa0 x.1 d15.2.toNat Aj).1 d21.2.toNat (0 : Int)) < (d21.1.length : Int)) ∧
 ((Qa1 (Qa0 (Qa0 x.1 d15.2.toNat Aj).1 d21.2.toNat (0 : Int))) < d21.1.length) ∧
 J23 (Qa3 d21.1 (Qa1 (Qa0 (Qa0 x.1 d15.2.toNat Aj).1 d21.2.toNat (0 : Int))) true)) (fun d24 => J22 (d24, (i64.wrap (d21.2 + (1 : Int)))))) ∧ ((cond (decide (d21.2 < ((Qa2 (Qa0 x.1 d15.2.toNat Aj).1 : Nat) : Int))) (Qa0 d21.1 d15.2.toNat false) false) = false → J19 d21.1)))) (fun d20 => J17 d20)) (fun d18 => J16 (d18, (i64.wrap (d15.2 + (1 : Int)))))) ∧ ((decide (d15.2 < (x.1.length : Int))) = false → J13 d15.1)))) (fun d14 => J11 d14)) (fun d12 => J10 (d12, (i64.wrap (d9.2 + (1 : Int)))))) ∧ ((decide (d9.2 < (x.1.length : Int))) = false → J7 d9.1)))) (fun d8 => K d8 ()))
theorem Qr {P : Pg} (h : Has P Gn) {x : DP AO.ps} {K : DP AO.rs → DP (ptrs AO.ps) → Prop} (hw : LO P x K) : Fn P zS2 AO x K :=
 BI (c := IG) h rfl rfl (by kernel_rfl) (Eq.mpr (show BE P Gn AO IG x K = _ by kernel_rfl) hw)
def IA : Bn :=
 (.seq (.region [ia 2 (kI 0)]) (.seq (.seq (.region [im 3 0, o1 4 (.lenS 3), o1 5 (.bin .gtr 4 (kI 1048576)), im 6 5, ⟨⟨some 7, .mv 0, some (6, false)⟩, none, ⟨[], []⟩, false, some
 6, true, false⟩, ⟨⟨some 8, .call Yx [7], some (6, false)⟩, none, Cm, false, none, true, false⟩, ⟨⟨some 9, .lenK 8, some (6, false)⟩, none,
 ⟨[], []⟩, false, none, true, false⟩, ⟨⟨some 10, .bin .gtr 9 (kI 4096), some (6, false)⟩, none, ⟨[], []⟩, false, none, true, true⟩, o1 11 (.pick 6 kT 10)]) (.cond 11 (.seq (.region
 [ia 2 (kI 1)]) .ret) .skip)) (.seq (.region [ia 2 (kI 0)]) .ret)))
def Gj : AFn := ⟨ Acw, IA.erase, [.tmp 2], 1⟩
def LK (P : Pg) (x : (List UInt8)) (K : Int → Unit → Prop) : Prop :=
 (((decide ((x.length : Int) > (1048576 : Int))) = true → (((cond true true false) = true → K (1 : Int) ()) ∧ ((cond true true false) = false → K (0 : Int) ()))) ∧ ((decide ((x.length : Int) > (1048576 : Int))) = false → Fn P Yx Cm x (fun (d1 : (List (List UInt8))) _ => (((cond false true (decide ((d1.length : Int) > (4096 : Int)))) = true → K (1 : Int) ()) ∧ ((cond false true (decide ((d1.length : Int) > (4096 : Int)))) = false → K (0 : Int) ())))))
theorem Qn {P : Pg} (h : Has P Gj) {x : DP Dc.ps} {K : DP Dc.rs → DP (ptrs Dc.ps) → Prop} (hw : LK P x K) : Fn P Acw Dc x K :=
 BI (c := IA) h rfl rfl (by kernel_rfl) (Eq.mpr (show BE P Gj Dc IA x K = _ by kernel_rfl) hw)
def FN : Bn :=
 (.seq (.region [ia 2 (kI 0)]) (.seq (.seq (.region [im 5 0, o1 6 (.lenS 5), o1 7 (.bin .lss 6 (kI 1)), im 8 7, gf 9 8 (.mv 0), gf 10 8 (.lenS 9), gf 11 8 (.bin .gtr 10 (kI 200)),
 o1 12 (.pick 8 kT 11)]) (.cond 12 (.seq (.region [ia 2 (kI 210)]) .ret) .skip)) (.seq (.region [o1 3 (.asg (.c (.string ⟨#[]⟩)))]) (.seq (.seq (.region [ia 4 (kI 0)]) (.frame (rg
 [2, 3, 4] 13 43) [] false (.join [.si 2] (.block 0 (.loop [.si 2, .sl 3 false .str .leaf, .si 4] (.seq (.seq (.region [im 13 4, im 14 0, o1 15 (.lenS 14), o1 16 (.bin .leq 13 15)])
 (.cond 16 .skip (.exit 0))) (.seq (.frame (rg [2, 3] 19 37) [] false (.join [.si 2, .sl 3 false .str .leaf] (.block 1 (.seq (.seq (.region [im 19 4, im 20 0, o1 21 (.lenS 20), o1
 22 (.bin .lss 19 21), im 23 22, gt 24 23 (.mv 0), gt 25 23 (.mv 4), gt 26 23 (.ixS 24 25), gt 27 23 (.bin .eql 26 (.c (.int .u8 0))), o1 28 (.pick 23 27 kF)]) (.cond 28 (.seq
 (.region [ia 2 (kI 210)]) .ret) .skip)) (.seq (.seq (.region [im 29 4, im 30 0, o1 31 (.lenS 30), o1 32 (.bin .lss 29 31), im 33 32, gt 34 33 (.mv 0), gt 35 33 (.mv 4), gt 36 33
 (.ixS 34 35), gt 37 33 (.bin .neq 36 (.c (.int .u8 47))), o1 38 (.pick 33 37 kF)]) (.cond 38 (.seq (.region [im 39 3, im 40 0, im 41 4, im 42 4, o1 43 (.bin .add 42 (kI 1)), o1 44
 (.slS 40 (some 41) (some 43)), o1 45 (.bin .add 39 44), ia 3 45]) (.exit 1)) .skip)) (.seq (.seq (.region [im 46 3, o1 47 (.bin .eql 46 (.c (.string ⟨#[]⟩))), im 48 47, gf 49 48
 (.mv 3), o0 ⟨some 50, .bin .eql 49 (.c (.string ⟨#[46]⟩)), some (48, false)⟩, o1 51 (.pick 48 kT 50), im 52 51, gf 53 52 (.mv 3), o0 ⟨some 54, .bin .eql 53 (.c (.string ⟨#[46,
 46]⟩)), some (52, false)⟩, o1 55 (.pick 52 kT 54)]) (.cond 55 (.seq (.region [ia 2 (kI 210)]) .ret) .skip)) (.region [o1 3 (.asg (.c (.string ⟨#[]⟩)))]))))))) (.region [im 17 4, o1
 18 (.bin .add 17 (kI 1)), ia 4 18])))))))) (.seq (.region [ia 2 (kI 0)]) .ret)))))
def Et : AFn := ⟨ Aax, FN.erase, [.tmp 2], 1⟩
def H4 (P : Pg) (x : (List UInt8)) (K : Int → Unit → Prop) : Prop :=
 (((cond (decide ((x.length : Int) < (1 : Int))) true (decide ((x.length : Int) > (200 : Int)))) = true → K (210 : Int) ()) ∧ ((cond (decide ((x.length : Int) < (1 : Int))) true (decide ((x.length : Int) > (200 : Int)))) = false → Ad (D := Int) (fun J1 => AF (D := (Int × ((List UInt8) × Int))) ((0 : Int), (([] : List UInt8), (0 : Int))) (fun d3 J4 => (((decide (d3.2.2 ≤ (x.length : Int))) = true → Ad (D := (Int × (List UInt8))) (fun J5 => (((decide (d3.2.2 < (x.length : Int))) = true → 0 ≤ d3.2.2 ∧ d3.2.2 < (x.length : Int))) ∧
 (((cond (decide (d3.2.2 < (x.length : Int))) (((x.getD d3.2.2.toNat 0).toNat : Int) == (0 : Int)) false) = true → K (210 : Int) ()) ∧ ((cond (decide (d3.2.2 < (x.length : Int))) (((x.getD d3.2.2.toNat 0).toNat : Int) == (0 : Int)) false) = false → (((decide (d3.2.2 < (x.length : Int))) = true → 0 ≤ d3.2.2 ∧ d3.2.2 < (x.length : Int))) ∧
 (((cond (decide (d3.2.2 < (x.length : Int))) (((x.getD d3.2.2.toNat 0).toNat : Int) != (47 : Int)) false) = true → (0 ≤ d3.2.2 ∧ d3.2.2 ≤ (i64.wrap (d3.2.2 + (1 : Int))) ∧ (i64.wrap (d3.2.2 + (1 : Int))) ≤ (x.length : Int)) ∧
 (d3.2.1.length + Qa2 (List.drop d3.2.2.toNat (Qa5 (Qa1 (i64.wrap (d3.2.2 + (1 : Int)))) x)) ≤ 9223372036854775807) ∧
 J5 (d3.1, (d3.2.1 ++ (List.drop d3.2.2.toNat (Qa5 (Qa1 (i64.wrap (d3.2.2 + (1 : Int)))) x))))) ∧ ((cond (decide (d3.2.2 < (x.length : Int))) (((x.getD d3.2.2.toNat 0).toNat : Int) != (47 : Int)) false) = false → (((cond (cond (d3.2.1 == ([] : List UInt8)) true (d3.2.1 == ([46] : List UInt8))) true (d3.2.1 == ([46, 46] : List UInt8))) = true → K (210 : Int) ()) ∧ ((cond (cond (d3.2.1 == ([] : List UInt8)) true (d3.2.1 == ([46] : List UInt8))) true (d3.2.1 == ([46, 46] : List UInt8))) = false → J5 (d3.1, ([] : List UInt8))))))))) (fun d6 => J4 (d6.1, (d6.2, (i64.wrap (d3.2.2 + (1 : Int))))))) ∧ ((decide (d3.2.2 ≤ (x.length : Int))) = false → J1 d3.1)))) (fun d2 => K (0 : Int) ())))
theorem Me {P : Pg} (h : Has P Et) {x : DP BX.ps} {K : DP BX.rs → DP (ptrs BX.ps) → Prop} (hw : H4 P x K) : Fn P Aax BX x K :=
 BI (c := FN) h rfl rfl (by kernel_rfl) (Eq.mpr (show BE P Et BX FN x K = _ by kernel_rfl) hw)
def IC : Bn :=
 (.seq (.region [o1 4 (.asg kF)]) (.seq (.region [im 5 1, o1 6 (.lenS 5), im 7 0, o1 8 (.lenS 7), o1 9 (.bin .gtr 6 8), im 10 9, gt 11 10 (.mv 1), gt 12 10 (.mv 0), gt 13 10 (.lenS
 12), gt 14 10 (.slS 11 none (some 13)), gt 15 10 (.mv 0), gt 16 10 (.bin .eql 14 15), o1 17 (.pick 10 16 kF), im 18 17, gt 19 18 (.mv 1), gt 20 18 (.mv 0), gt 21 18 (.lenS 20), gt
 22 18 (.ixS 19 21), gt 23 18 (.bin .eql 22 (.c (.int .u8 47))), o1 24 (.pick 18 23 kF), ia 4 24]) .ret))
def Gl : AFn := ⟨ Acx, IC.erase, [.tmp 4], 2⟩
def LM (P : Pg) (x : ((List UInt8) × (List UInt8))) (K : Bool → Unit → Prop) : Prop :=
 (((decide ((x.2.length : Int) > (x.1.length : Int))) = true → 0 ≤ (x.1.length : Int) ∧ (x.1.length : Int) ≤ (x.2.length : Int))) ∧
 (((cond (decide ((x.2.length : Int) > (x.1.length : Int))) ((Qa5 (Qa1 (x.1.length : Int)) x.2) == x.1) false) = true → 0 ≤ (x.1.length : Int) ∧ (x.1.length : Int) < (x.2.length : Int))) ∧
 K (cond (cond (decide ((x.2.length : Int) > (x.1.length : Int))) ((Qa5 (Qa1 (x.1.length : Int)) x.2) == x.1) false) (((UInt8.toNat (Qa0 x.2 (Qa1 (x.1.length : Int)) 0) : Nat) : Int) == (47 : Int)) false) ()
theorem Qp {P : Pg} (h : Has P Gl) {x : DP Dd.ps} {K : DP Dd.rs → DP (ptrs Dd.ps) → Prop} (hw : LM P x K) : Fn P Acx Dd x K :=
 BI (c := IC) h rfl rfl (by kernel_rfl) (Eq.mpr (show BE P Gl Dd IC x K = _ by kernel_rfl) hw)
def ID : Bn :=
 (.seq (.region [ia 2 (kI 0)]) (.seq (.seq (.region [im 7 0, o1 8 (.lenK 7), o1 9 (.bin .gtr 8 (kI 200))]) (.cond 9 (.seq (.region [ia 2 (kI 1)]) .ret) .skip)) (.seq (.seq (.region
 [ia 3 (kI 0)]) (.frame (rg [2, 3] 10 13) [] false (.join [.si 2] (.block 0 (.loop [.si 2, .si 3] (.seq (.seq (.region [im 10 3, im 11 0, o1 12 (.lenK 11), o1 13 (.bin .lss 10 12)])
 (.cond 13 .skip (.exit 0))) (.seq (.frame (rg [2] 16 7) [] false (.join [.si 2] (.block 1 (.seq (.region [im 16 0, im 17 3, o1 18 (.ixA 2 16 17), fa 19 0 18, ld 20 19, oS ⟨some 21,
 .call Aax [20], none⟩ BX, o1 22 (.bin .neq 21 (kI 0))]) (.cond 22 (.seq (.region [ia 2 (kI 210)]) .ret) .skip))))) (.region [im 14
 3, o1 15 (.bin .add 14 (kI 1)), ia 3 15])))))))) (.seq (.seq (.region [ia 4 (kI 0)]) (.frame (rg [2, 4, 5] 23 35) [] false (.join [.si 2] (.block 2 (.loop [.si 2, .si 4] (.seq
 (.seq (.region [im 23 4, im 24 0, o1 25 (.lenK 24), o1 26 (.bin .lss 23 25)]) (.cond 26 .skip (.exit 2))) (.seq (.frame (rg [2, 5] 29 29) [] false (.join [.si 2] (.block 3 (.seq
 (.region [ia 5 (kI 0)]) (.frame (rg [2, 5] 29 29) [] false (.join [.si 2] (.block 4 (.loop [.si 2, .si 5] (.seq (.seq (.region [im 29 5, im 30 4, o1 31 (.bin .lss 29 30)]) (.cond
 31 .skip (.exit 4))) (.seq (.frame (rg [2] 34 24) [] false (.join [.si 2] (.block 5 (.seq (.frame (rg [] 34 24) [] false (.join [.sl 57 false .bool .leaf] (.draw [(.first (im 34 0)
 (.first (im 35 5) (.first (o1 36 (.ixA 2 34 35)) (.first (fa 37 0 36) (.first (ld 38 37) (.first (im 39 0) (.first (im 40 4) (.first (o1 41 (.ixA 2 39 40)) (.first (fa 42 0 41)
 (.first (ld 43 42) (.first (o1 44 (.bin .geq 38 43)) (.first (im 45 44) (.first (gf 46 45 (.mv 0)) (.first (gf 47 45 (.mv 5)) (.first (gf 48 45 (.ixA 2 46 47)) (.first (gf 49 45
 (.fAddr 0 48)) (.first (gf 50 45 (.load false 1 49)) (.first (gf 51 45 (.mv 0)) (.first (gf 52 45 (.mv 4)) (.first (gf 53 45 (.ixA 2 51 52)) (.first (gf 54 45 (.fAddr 0 53))
 (.first (gf 55 45 (.load false 1 54)) (.alt (oS ⟨some 56, .call Acx [50, 55], some (45, false)⟩ Dd) (.first (o1 57 (.pick 45 kT 56)) .done)
 .stop)))))))))))))))))))))))]))) (.cond 57 (.seq (.region [ia 2 (kI 211)]) .ret) .skip))))) (.region [im 32 5, o1 33 (.bin .add 32 (kI 1)), ia 5 33]))))))))))) (.region [im 27 4,
 o1 28 (.bin .add 27 (kI 1)), ia 4 28])))))))) (.seq (.seq (.region [ia 6 (kI 0)]) (.frame (rg [2, 6] 58 13) [] false (.join [.si 2] (.block 6 (.loop [.si 2, .si 6] (.seq (.seq
 (.region [im 58 6, im 59 0, o1 60 (.lenK 59), o1 61 (.bin .lss 58 60)]) (.cond 61 .skip (.exit 6))) (.seq (.frame (rg [2] 64 7) [] false (.join [.si 2] (.block 7 (.seq (.region [im
 64 0, im 65 6, o1 66 (.ixA 2 64 65), fa 67 1 66, ld 68 67, oS ⟨some 69, .call Acw [68], none⟩ Dc, o1 70 (.bin .neq 69 (kI 0))]) (.cond 70
 (.seq (.region [ia 2 (kI 1)]) .ret) .skip))))) (.region [im 62 6, o1 63 (.bin .add 62 (kI 1)), ia 6 63])))))))) (.seq (.region [ia 2 (kI 0)]) .ret))))))
def EX : AFn := ⟨ YB, ID.erase, [.tmp 2], 1⟩
def Ig (P : Pg) (x : (List ((List UInt8) × (List UInt8)))) (K : Int → Unit → Prop) : Prop :=
 (((decide ((x.length : Int) > (200 : Int))) = true → K (1 : Int) ()) ∧ ((decide ((x.length : Int) > (200 : Int))) = false → Ad (D := Int) (fun J1 => AF (D := (Int × Int)) ((0 : Int), (0 : Int)) (fun d3 J4 => (((decide (d3.2 < (x.length : Int))) = true → Ad (D := Int) (fun J5 => (0 ≤ d3.2 ∧ d3.2 < (x.length : Int)) ∧
 (d3.2.toNat < x.length) ∧
 Fn P Aax BX (Qa0 x d3.2.toNat ([], [])).1 (fun (d7 : Int) _ => (((d7 != (0 : Int)) = true → K (210 : Int) ()) ∧ ((d7 != (0 : Int)) = false → J5 d3.1)))) (fun d6 => J4 (d6, (i64.wrap (d3.2 + (1 : Int)))))) ∧ ((decide (d3.2 < (x.length : Int))) = false → J1 d3.1)))) (fun d2 => Ad (D := Int) (fun J9 => AF (D := (Int × Int)) (d2, (0 : Int)) (fun d11 J12 => (((decide (d11.2 < (x.length : Int))) = true → Ad (D := Int) (fun J13 => Ad (D := Int) (fun J15 => AF (D := (Int × Int)) (d11.1, (0 : Int)) (fun d17 J18 => (((decide (d17.2 < d11.2)) = true → Ad (D := Int) (fun J19 => Ad (D := Bool) (fun J21 => (0 ≤ d17.2 ∧ d17.2 < (x.length : Int)) ∧
 (d17.2.toNat < x.length) ∧
 (0 ≤ d11.2 ∧ d11.2 < (x.length : Int)) ∧
 (d11.2.toNat < x.length) ∧
 (((!(Op.bytesLess (Qa0 x d17.2.toNat ([], [])).1 (Qa0 x d11.2.toNat ([], [])).1)) = false → 0 ≤ d17.2 ∧ d17.2 < (x.length : Int))) ∧
 (((!(Op.bytesLess (Qa0 x d17.2.toNat ([], [])).1 (Qa0 x d11.2.toNat ([], [])).1)) = false → d17.2.toNat < x.length)) ∧
 (((!(Op.bytesLess (Qa0 x d17.2.toNat ([], [])).1 (Qa0 x d11.2.toNat ([], [])).1)) = false → 0 ≤ d11.2 ∧ d11.2 < (x.length : Int))) ∧
 (((!(Op.bytesLess (Qa0 x d17.2.toNat ([], [])).1 (Qa0 x d11.2.toNat ([], [])).1)) = false → d11.2.toNat < x.length)) ∧
 (Ad (D := Bool) (fun J23 => (((!(Op.bytesLess (Qa0 x d17.2.toNat ([], [])).1 (Qa0 x d11.2.toNat ([], [])).1)) = false → Fn P Acx Dd ((Qa0 x d17.2.toNat ([], [])).1, (Qa0 x d11.2.toNat ([], [])).1) (fun (d24 : Bool) _ => J23 d24)) ∧ (((!(Op.bytesLess (Qa0 x d17.2.toNat ([], [])).1 (Qa0 x d11.2.toNat ([], [])).1)) = true → J23 false) ∧ True))) (fun d25 => J21 (cond (!(Op.bytesLess (Qa0 x d17.2.toNat ([], [])).1 (Qa0 x d11.2.toNat ([], [])).1)) true d25))) ∧ True) (fun d22 => ((d22 = true → K (211 : Int) ()) ∧ (d22 = false → J19 d17.1)))) (fun d20 => J18 (d20, (i64.wrap (d17.2 + (1 : Int)))))) ∧ ((decide (d17.2 < d11.2)) = false → J15 d17.1)))) (fun d16 => J13 d16)) (fun d14 => J12 (d14, (i64.wrap (d11.2 + (1 : Int)))))) ∧ ((decide (d11.2 < (x.length : Int))) = false → J9 d11.1)))) (fun d10 => Ad (D := Int) (fun J26 => AF (D := (Int × Int)) (d10, (0 : Int)) (fun d28 J29 => (((decide (d28.2 < (x.length : Int))) = true → Ad (D := Int) (fun J30 => (0 ≤ d28.2 ∧ d28.2 < (x.length : Int)) ∧
 (d28.2.toNat < x.length) ∧
 Fn P Acw Dc (Qa0 x d28.2.toNat ([], [])).2 (fun (d32 : Int) _ => (((d32 != (0 : Int)) = true → K (1 : Int) ()) ∧ ((d32 != (0 : Int)) = false → J30 d28.1)))) (fun d31 => J29 (d31, (i64.wrap (d28.2 + (1 : Int)))))) ∧ ((decide (d28.2 < (x.length : Int))) = false → J26 d28.1)))) (fun d27 => K (0 : Int) ())))))
theorem Km {P : Pg} (h : Has P EX) {x : DP Cn.ps} {K : DP Cn.rs → DP (ptrs Cn.ps) → Prop} (hw : Ig P x K) : Fn P YB Cn x K :=
 BI (c := ID) h rfl rfl (by kernel_rfl) (Eq.mpr (show BE P EX Cn ID x K = _ by kernel_rfl) hw)
def K6 : Bn :=
 (.seq (.region [o1 4 (.asg kF)]) (.seq (.seq (.region [ia 5 (kI 0)]) (.frame (rg [] 4 14) [] false (.join [.sl 4 false .bool .leaf] (.block 0 (.loop [.sl 4 false .bool .leaf, .si
 5] (.seq (.seq (.region [im 6 5, im 7 0, o1 8 (.lenK 7), o1 9 (.bin .lss 6 8)]) (.cond 9 .skip (.exit 0))) (.seq (.frame (rg [4] 12 6) [] false (.join [.sl 4 false .bool .leaf]
 (.block 1 (.seq (.region [im 12 0, im 13 5, o1 14 (.ixA 1 12 13), ld 15 14, im 16 1, o1 17 (.bin .eql 15 16)]) (.cond 17 (.seq (.region [o1 4 (.asg kT)]) .ret) .skip))))) (.region
 [im 10 5, o1 11 (.bin .add 10 (kI 1)), ia 5 11])))))))) (.seq (.region [o1 4 (.asg kF)]) .ret)))
def HZ : AFn := ⟨ Acy, K6.erase, [.tmp 4], 2⟩
def OT (P : Pg) (x : ((List Int) × Int)) (K : Bool → Unit → Prop) : Prop :=
 Ad (D := Bool) (fun J1 => AF (D := (Bool × Int)) (false, (0 : Int)) (fun d3 J4 => (((decide (d3.2 < (x.1.length : Int))) = true → Ad (D := Bool) (fun J5 => (0 ≤ d3.2 ∧ d3.2 < (x.1.length : Int)) ∧
 (d3.2.toNat < x.1.length) ∧
 ((((Qa0 x.1 d3.2.toNat (0 : Int)) == x.2) = true → K true ()) ∧ (((Qa0 x.1 d3.2.toNat (0 : Int)) == x.2) = false → J5 d3.1))) (fun d6 => J4 (d6, (i64.wrap (d3.2 + (1 : Int)))))) ∧ ((decide (d3.2 < (x.1.length : Int))) = false → J1 d3.1)))) (fun d2 => K false ())
theorem TU {P : Pg} (h : Has P HZ) {x : DP DY.ps} {K : DP DY.rs → DP (ptrs DY.ps) → Prop} (hw : OT P x K) : Fn P Acy DY x K :=
 BI (c := K6) h rfl rfl (by kernel_rfl) (Eq.mpr (show BE P HZ DY K6 x K = _ by kernel_rfl) hw)
def IE : Bn :=
 (.seq (.region [ia 2 (kI 0)]) (.seq (.seq (.region [im 11 0, o1 12 (.lenK 11), o1 13 (.bin .gtr 12 (kI 300))]) (.cond 13 (.seq (.region [ia 2 (kI 1)]) .ret) .skip)) (.seq (.seq
 (.region [ia 3 (kI 0)]) (.frame (rg [2, 3] 14 13) [] false (.join [.si 2] (.block 0 (.loop [.si 2, .si 3] (.seq (.seq (.region [im 14 3, im 15 0, o1 16 (.lenK 15), o1 17 (.bin .lss
 14 16)]) (.cond 17 .skip (.exit 0))) (.seq (.frame (rg [2] 20 7) [] false (.join [.si 2] (.block 1 (.seq (.region [im 20 0, im 21 3, o1 22 (.ixA 3 20 21), fa 23 0 22, ld 24 23, o1
 25 (.lenK 24), o1 26 (.bin .gtr 25 (kI 32))]) (.cond 26 (.seq (.region [ia 2 (kI 1)]) .ret) .skip))))) (.region [im 18 3, o1 19 (.bin .add 18 (kI 1)), ia 3 19])))))))) (.seq (.seq
 (.region [ia 4 (kI 0)]) (.frame (rg [2, 4, 5, 6] 27 43) [] false (.join [.si 2] (.block 2 (.loop [.si 2, .si 4] (.seq (.seq (.region [im 27 4, im 28 0, o1 29 (.lenK 28), o1 30
 (.bin .lss 27 29)]) (.cond 30 .skip (.exit 2))) (.seq (.frame (rg [2, 5, 6] 33 37) [] false (.join [.si 2] (.block 3 (.seq (.region [ia 5 (kI 0)]) (.frame (rg [2, 5, 6] 33 37) []
 false (.join [.si 2] (.block 4 (.loop [.si 2, .si 5] (.seq (.seq (.region [im 33 5, im 34 0, im 35 4, o1 36 (.ixA 3 34 35), fa 37 0 36, ld 38 37, o1 39 (.lenK 38), o1 40 (.bin .lss
 33 39)]) (.cond 40 .skip (.exit 4))) (.seq (.frame (rg [2, 6] 43 27) [] false (.join [.si 2] (.block 5 (.seq (.region [im 43 0, im 44 4, o1 45 (.ixA 3 43 44), fa 46 0 45, ld 47 46,
 im 48 5, o1 49 (.ixA 1 47 48), ld 50 49, ia 6 50]) (.seq (.region [im 51 6, o1 52 (.bin .lss 51 (kI 0)), im 53 52, gf 54 53 (.mv 6), gf 55 53 (.mv 0), gf 56 53 (.lenK 55), gf 57 53
 (.bin .geq 54 56), o1 58 (.pick 53 kT 57), im 59 58, gf 60 59 (.mv 0), gf 61 59 (.mv 4), gf 62 59 (.ixA 3 60 61), gf 63 59 (.fAddr 0 62), gf 64 59 (.load false 1 63), gf 65 59 (.mv
 5), gf 66 59 (.slK 1 64 none (some 65)), gf 67 59 (.mv 6), oS ⟨some 68, .call Acy [66, 67], some (59, false)⟩ DY, o1 69 (.pick 59 kT 68)])
 (.cond 69 (.seq (.region [ia 2 (kI 230)]) .ret) .skip)))))) (.region [im 41 5, o1 42 (.bin .add 41 (kI 1)), ia 5 42]))))))))))) (.region [im 31 4, o1 32 (.bin .add 31 (kI 1)), ia 4
 32])))))))) (.seq (.seq (.region [ia 7 (kI 0)]) (.frame (rg [2, 7] 70 25) [] false (.join [.si 2] (.block 6 (.loop [.si 2, .si 7] (.seq (.seq (.region [im 70 7, im 71 0, o1 72
 (.lenK 71), o1 73 (.bin .lss 70 72)]) (.cond 73 .skip (.exit 6))) (.seq (.frame (rg [2] 76 19) [] false (.join [.si 2] (.block 7 (.seq (.region [im 76 0, im 77 7, o1 78 (.ixA 3 76
 77), fa 79 0 78, ld 80 79, o1 81 (.lenK 80), o1 82 (.bin .gtr 81 (kI 0)), im 83 82, ⟨⟨some 84, .mv 0, some (83, true)⟩, none, ⟨[], []⟩, false, some 83, true, false⟩, ⟨⟨some 85, .mv
 0, some (83, true)⟩, none, ⟨[], []⟩, false, none, true, false⟩, ⟨⟨some 86, .mv 7, some (83, true)⟩, none, ⟨[], []⟩, false, none, true, false⟩, ⟨⟨some 87, .ixA 3 85 86, some (83,
 true)⟩, none, ⟨[], []⟩, false, none, true, false⟩, ⟨⟨some 88, .fAddr 0 87, some (83, true)⟩, none, ⟨[], []⟩, false, none, true, false⟩, ⟨⟨some 89, .load false 1 88, some (83,
 true)⟩, none, ⟨[], []⟩, false, none, true, false⟩, ⟨⟨some 90, .call zS2 [84, 89], some (83, true)⟩, none, AO, false, none, true, false⟩,
 ⟨⟨some 91, .mv 7, some (83, true)⟩, none, ⟨[], []⟩, false, none, true, false⟩, ⟨⟨some 92, .ixA 1 90 91, some (83, true)⟩, none, ⟨[], []⟩, false, none, true, false⟩, ⟨⟨some 93,
 .load false 1 92, some (83, true)⟩, none, ⟨[], []⟩, false, none, true, true⟩, o1 94 (.pick 83 93 kF)]) (.cond 94 (.seq (.region [ia 2 (kI 231)]) .ret) .skip))))) (.region [im 74 7,
 o1 75 (.bin .add 74 (kI 1)), ia 7 75])))))))) (.seq (.seq (.region [ia 8 (kI 0)]) (.frame (rg [2, 8] 95 20) [] false (.join [.si 2] (.block 8 (.loop [.si 2, .si 8] (.seq (.seq
 (.region [im 95 8, im 96 0, o1 97 (.lenK 96), o1 98 (.bin .lss 95 97)]) (.cond 98 .skip (.exit 8))) (.seq (.frame (rg [2] 101 14) [] false (.join [.si 2] (.block 9 (.seq (.region
 [im 101 0, im 102 8, o1 103 (.ixA 3 101 102), fa 104 1 103, ld 105 104, o1 106 (.bin .lss 105 (kI 0)), im 107 106, gf 108 107 (.mv 0), gf 109 107 (.mv 8), gf 110 107 (.ixA 3 108
 109), gf 111 107 (.fAddr 1 110), gf 112 107 (.load false 1 111), gf 113 107 (.bin .gtr 112 (kI 2147483647)), o1 114 (.pick 107 kT 113)]) (.cond 114 (.seq (.region [ia 2 (kI 3)])
 .ret) .skip))))) (.region [im 99 8, o1 100 (.bin .add 99 (kI 1)), ia 8 100])))))))) (.seq (.seq (.region [ia 9 (kI 0)]) (.frame (rg [2, 9, 10] 115 15) [] false (.join [.si 2]
 (.block 10 (.loop [.si 2, .si 9] (.seq (.seq (.region [im 115 9, im 116 0, o1 117 (.lenK 116), o1 118 (.bin .lss 115 117)]) (.cond 118 .skip (.exit 10))) (.seq (.frame (rg [2, 10]
 121 9) [] false (.join [.si 2] (.block 11 (.seq (.region [im 121 0, im 122 9, o1 123 (.ixA 3 121 122), fa 124 2 123, ld 125 124, oS ⟨some 126, .call
 YB [125], none⟩ Cn, ia 10 126]) (.seq (.region [im 127 10, o1 128 (.bin .neq 127 (kI 0))]) (.cond 128 (.seq (.region [im 129 10, ia 2 129])
 .ret) .skip)))))) (.region [im 119 9, o1 120 (.bin .add 119 (kI 1)), ia 9 120])))))))) (.seq (.region [ia 2 (kI 0)]) .ret))))))))
def Gm : AFn := ⟨ Acz, IE.erase, [.tmp 2], 1⟩
def LN (P : Pg) (x : (List Commit)) (K : Int → Unit → Prop) : Prop :=
 (((decide ((x.length : Int) > (300 : Int))) = true → K (1 : Int) ()) ∧ ((decide ((x.length : Int) > (300 : Int))) = false → Ad (D := Int) (fun J1 => AF (D := (Int × Int)) ((0 : Int), (0 : Int)) (fun d3 J4 => (((decide (d3.2 < (x.length : Int))) = true → Ad (D := Int) (fun J5 => (0 ≤ d3.2 ∧ d3.2 < (x.length : Int)) ∧
 (d3.2.toNat < x.length) ∧
 (((decide (((Qa2 (Qa0 x d3.2.toNat Aj).1 : Nat) : Int) > (32 : Int))) = true → K (1 : Int) ()) ∧ ((decide (((Qa2 (Qa0 x d3.2.toNat Aj).1 : Nat) : Int) > (32 : Int))) = false → J5 d3.1))) (fun d6 => J4 (d6, (i64.wrap (d3.2 + (1 : Int)))))) ∧ ((decide (d3.2 < (x.length : Int))) = false → J1 d3.1)))) (fun d2 => Ad (D := Int) (fun J7 => AF (D := (Int × Int)) (d2, (0 : Int)) (fun d9 J10 => (((decide (d9.2 < (x.length : Int))) = true → Ad (D := Int) (fun J11 => Ad (D := Int) (fun J13 => AF (D := (Int × Int)) (d9.1, (0 : Int)) (fun d15 J16 => (0 ≤ d9.2 ∧ d9.2 < (x.length : Int)) ∧
 (d9.2.toNat < x.length) ∧
 (((decide (d15.2 < ((Qa2 (Qa0 x d9.2.toNat Aj).1 : Nat) : Int))) = true → Ad (D := Int) (fun J17 => (0 ≤ d9.2 ∧ d9.2 < (x.length : Int)) ∧
 (d9.2.toNat < x.length) ∧
 (0 ≤ d15.2 ∧ d15.2 < ((Qa2 (Qa0 x d9.2.toNat Aj).1 : Nat) : Int)) ∧
 (d15.2.toNat < Qa2 (Qa0 x d9.2.toNat Aj).1) ∧
 (((cond (decide ((Qa0 (Qa0 x d9.2.toNat Aj).1 d15.2.toNat (0 : Int)) < (0 : Int))) true (decide ((Qa0 (Qa0 x d9.2.toNat Aj).1 d15.2.toNat (0 : Int)) ≥ (x.length : Int)))) = false → 0 ≤ d9.2 ∧ d9.2 < (x.length : Int))) ∧
 (((cond (decide ((Qa0 (Qa0 x d9.2.toNat Aj).1 d15.2.toNat (0 : Int)) < (0 : Int))) true (decide ((Qa0 (Qa0 x d9.2.toNat Aj).1 d15.2.toNat (0 : Int)) ≥ (x.length : Int)))) = false → d9.2.toNat < x.length)) ∧
 (((cond (decide ((Qa0 (Qa0 x d9.2.toNat Aj).1 d15.2.toNat (0 : Int)) < (0 : Int))) true (decide ((Qa0 (Qa0 x d9.2.toNat Aj).1 d15.2.toNat (0 : Int)) ≥ (x.length : Int)))) = false → 0 ≤ d15.2 ∧ d15.2 ≤ ((Qa2 (Qa0 x d9.2.toNat Aj).1 : Nat) : Int))) ∧
 Ad (D := Bool) (fun J19 => (((cond (decide ((Qa0 (Qa0 x d9.2.toNat Aj).1 d15.2.toNat (0 : Int)) < (0 : Int))) true (decide ((Qa0 (Qa0 x d9.2.toNat Aj).1 d15.2.toNat (0 : Int)) ≥ (x.length : Int)))) = false → Fn P Acy DY ((Qa5 d15.2.toNat (Qa0 x d9.2.toNat Aj).1), (Qa0 (Qa0 x d9.2.toNat Aj).1 d15.2.toNat (0 : Int))) (fun (d20 : Bool) _ => J19 d20)) ∧ (((cond (decide ((Qa0 (Qa0 x d9.2.toNat Aj).1 d15.2.toNat (0 : Int)) < (0 : Int))) true (decide ((Qa0 (Qa0 x d9.2.toNat Aj).1 d15.2.toNat (0 : Int)) ≥ (x.length : Int)))) = true → J19 false) ∧ True))) (fun d21 => (((cond (cond (decide ((Qa0 (Qa0 x d9.2.toNat Aj).1 d15.2.toNat (0 : Int)) < (0 : Int))) true (decide ((Qa0 (Qa0 x d9.2.toNat Aj).1 d15.2.toNat (0 : Int)) ≥ (x.length : Int)))) true d21) = true → K (230 : Int) ()) ∧ ((cond (cond (decide ((Qa0 (Qa0 x d9.2.toNat Aj).1 d15.2.toNat (0 : Int)) < (0 : Int))) true (decide ((Qa0 (Qa0 x d9.2.toNat Aj).1 d15.2.toNat (0 : Int)) ≥ (x.length : Int)))) true d21) = false → J17 d15.1)))) (fun d18 => J16 (d18, (i64.wrap (d15.2 + (1 : Int)))))) ∧ ((decide (d15.2 < ((Qa2 (Qa0 x d9.2.toNat Aj).1 : Nat) : Int))) = false → J13 d15.1)))) (fun d14 => J11 d14)) (fun d12 => J10 (d12, (i64.wrap (d9.2 + (1 : Int)))))) ∧ ((decide (d9.2 < (x.length : Int))) = false → J7 d9.1)))) (fun d8 => Ad (D := Int) (fun J22 => AF (D := (Int × Int)) (d8, (0 : Int)) (fun d24 J25 => (((decide (d24.2 < (x.length : Int))) = true → Ad (D := Int) (fun J26 => (0 ≤ d24.2 ∧ d24.2 < (x.length : Int)) ∧
 (d24.2.toNat < x.length) ∧
 (((decide (((Qa2 (Qa0 x d24.2.toNat Aj).1 : Nat) : Int) > (0 : Int))) = true → (0 ≤ d24.2 ∧ d24.2 < (x.length : Int)) ∧
 (d24.2.toNat < x.length) ∧
 Fn P zS2 AO (x, (Qa0 x d24.2.toNat Aj).1) (fun (d28 : (List Bool)) _ => (0 ≤ d24.2 ∧ d24.2 < (d28.length : Int)) ∧
 (d24.2.toNat < d28.length) ∧
 (((cond true (Qa0 d28 d24.2.toNat false) false) = true → K (231 : Int) ()) ∧ ((cond true (Qa0 d28 d24.2.toNat false) false) = false → J26 d24.1)))) ∧ ((decide (((Qa2 (Qa0 x d24.2.toNat Aj).1 : Nat) : Int) > (0 : Int))) = false → (((cond false false false) = true → K (231 : Int) ()) ∧ ((cond false false false) = false → J26 d24.1))))) (fun d27 => J25 (d27, (i64.wrap (d24.2 + (1 : Int)))))) ∧ ((decide (d24.2 < (x.length : Int))) = false → J22 d24.1)))) (fun d23 => Ad (D := Int) (fun J30 => AF (D := (Int × Int)) (d23, (0 : Int)) (fun d32 J33 => (((decide (d32.2 < (x.length : Int))) = true → Ad (D := Int) (fun J34 => (0 ≤ d32.2 ∧ d32.2 < (x.length : Int)) ∧
 (d32.2.toNat < x.length) ∧
 (((decide ((Qa0 x d32.2.toNat Aj).2.1 < (0 : Int))) = false → 0 ≤ d32.2 ∧ d32.2 < (x.length : Int))) ∧
 (((decide ((Qa0 x d32.2.toNat Aj).2.1 < (0 : Int))) = false → d32.2.toNat < x.length)) ∧
 (((cond (decide ((Qa0 x d32.2.toNat Aj).2.1 < (0 : Int))) true (decide ((Qa0 x d32.2.toNat Aj).2.1 > (2147483647 : Int)))) = true → K (3 : Int) ()) ∧ ((cond (decide ((Qa0 x d32.2.toNat Aj).2.1 < (0 : Int))) true (decide ((Qa0 x d32.2.toNat Aj).2.1 > (2147483647 : Int)))) = false → J34 d32.1))) (fun d35 => J33 (d35, (i64.wrap (d32.2 + (1 : Int)))))) ∧ ((decide (d32.2 < (x.length : Int))) = false → J30 d32.1)))) (fun d31 => Ad (D := Int) (fun J36 => AF (D := (Int × Int)) (d31, (0 : Int)) (fun d38 J39 => (((decide (d38.2 < (x.length : Int))) = true → Ad (D := Int) (fun J40 => (0 ≤ d38.2 ∧ d38.2 < (x.length : Int)) ∧
 (d38.2.toNat < x.length) ∧
 Fn P YB Cn (Qa0 x d38.2.toNat Aj).2.2 (fun (d42 : Int) _ => (((d42 != (0 : Int)) = true → K d42 ()) ∧ ((d42 != (0 : Int)) = false → J40 d38.1)))) (fun d41 => J39 (d41, (i64.wrap (d38.2 + (1 : Int)))))) ∧ ((decide (d38.2 < (x.length : Int))) = false → J36 d38.1)))) (fun d37 => K (0 : Int) ())))))))
theorem Qq {P : Pg} (h : Has P Gm) {x : DP De.ps} {K : DP De.rs → DP (ptrs De.ps) → Prop} (hw : LN P x K) : Fn P Acz De x K :=
 BI (c := IE) h rfl rfl (by kernel_rfl) (Eq.mpr (show BE P Gm De IE x K = _ by kernel_rfl) hw)
def II : Bn :=
 (.seq (.region [ia 4 (kI 0)]) (.seq (.seq (.region [im 7 0, oS ⟨some 8, .call Acz [7], none⟩ De, ia 5 8]) (.seq (.region [im 9 5, o1 10
 (.bin .neq 9 (kI 0))]) (.cond 10 (.seq (.region [im 11 5, ia 4 11]) .ret) .skip))) (.seq (.seq (.region [ia 6 (kI 0)]) (.frame (rg [4, 6] 12 20) [] false (.join [.si 4] (.block 0
 (.loop [.si 4, .si 6] (.seq (.seq (.region [im 12 6, im 13 1, o1 14 (.lenK 13), o1 15 (.bin .lss 12 14)]) (.cond 15 .skip (.exit 0))) (.seq (.frame (rg [4] 18 14) [] false (.join
 [.si 4] (.block 1 (.seq (.region [im 18 1, im 19 6, o1 20 (.ixA 1 18 19), ld 21 20, o1 22 (.bin .lss 21 (kI 0)), im 23 22, gf 24 23 (.mv 1), gf 25 23 (.mv 6), gf 26 23 (.ixA 1 24
 25), gf 27 23 (.load false 1 26), gf 28 23 (.mv 0), gf 29 23 (.lenK 28), gf 30 23 (.bin .geq 27 29), o1 31 (.pick 23 kT 30)]) (.cond 31 (.seq (.region [ia 4 (kI 5)]) .ret)
 .skip))))) (.region [im 16 6, o1 17 (.bin .add 16 (kI 1)), ia 6 17])))))))) (.seq (.region [ia 4 (kI 0)]) .ret))))
def Gq : AFn := ⟨ zS4, II.erase, [.tmp 4], 2⟩
def LQ (P : Pg) (x : ((List Commit) × (List Int))) (K : Int → Unit → Prop) : Prop :=
 Fn P Acz De x.1 (fun (d1 : Int) _ => (((d1 != (0 : Int)) = true → K d1 ()) ∧ ((d1 != (0 : Int)) = false → Ad (D := Int) (fun J3 => AF (D := (Int × Int)) ((0 : Int), (0 : Int)) (fun d5 J6 => (((decide (d5.2 < (x.2.length : Int))) = true → Ad (D := Int) (fun J7 => (0 ≤ d5.2 ∧ d5.2 < (x.2.length : Int)) ∧
 (d5.2.toNat < x.2.length) ∧
 (((decide ((Qa0 x.2 d5.2.toNat (0 : Int)) < (0 : Int))) = false → 0 ≤ d5.2 ∧ d5.2 < (x.2.length : Int))) ∧
 (((decide ((Qa0 x.2 d5.2.toNat (0 : Int)) < (0 : Int))) = false → d5.2.toNat < x.2.length)) ∧
 (((cond (decide ((Qa0 x.2 d5.2.toNat (0 : Int)) < (0 : Int))) true (decide ((Qa0 x.2 d5.2.toNat (0 : Int)) ≥ (x.1.length : Int)))) = true → K (5 : Int) ()) ∧ ((cond (decide ((Qa0 x.2 d5.2.toNat (0 : Int)) < (0 : Int))) true (decide ((Qa0 x.2 d5.2.toNat (0 : Int)) ≥ (x.1.length : Int)))) = false → J7 d5.1))) (fun d8 => J6 (d8, (i64.wrap (d5.2 + (1 : Int)))))) ∧ ((decide (d5.2 < (x.2.length : Int))) = false → J3 d5.1)))) (fun d4 => K (0 : Int) ()))))
theorem Qt {P : Pg} (h : Has P Gq) {x : DP BD.ps} {K : DP BD.rs → DP (ptrs BD.ps) → Prop} (hw : LQ P x K) : Fn P zS4 BD x K :=
 BI (c := II) h rfl rfl (by kernel_rfl) (Eq.mpr (show BE P Gq BD II x K = _ by kernel_rfl) hw)
def JH : Bn :=
 (.seq (.region [o1 2 (.asg (.c (.slice none 0 0)))]) (.seq (.region [o1 3 (.asg (.c (.slice none 0 0)))]) (.seq (.seq (.region [ia 4 (kI 0)]) (.frame (rg [] 3 16) [] false (.join
 [.sl 3 false (.sl bI) tO] (.block 0 (.loop [.sl 3 false (.sl bI) tO, .si 4] (.seq (.seq (.region [im 5 4, im 6 0, o1 7 (.lenK 6), o1 8 (.bin .lss 5 7)]) (.cond 8 .skip (.exit 0)))
 (.seq (.frame (rg [3] 11 8) [] false (.join [.sl 3 false (.sl bI) tO] (.block 1 (.seq (.region [im 11 0, im 12 4, o1 13 (.ixA 1 11 12), ld 14 13]) (.frame (rg [3] 15 4) [] false
 (.join [.sl 3 false (.sl bI) tO] (.cond 14 (.region [im 15 3, im 16 4, oT ⟨some 17, .buildSl 1 [(.int .i64 0)] 1 [(0, 16)], none⟩ (some (bI, .leaf)), oT ⟨some 18, .app 1 8 15 17,
 none⟩ (some (bI, .leaf)), ia 3 18]) .skip))))))) (.region [im 9 4, o1 10 (.bin .add 9 (kI 1)), ia 4 10])))))))) (.seq (.region [im 19 3, ia 2 19]) .ret))))
def GW : AFn := ⟨ YC, JH.erase, [.tmp 2], 1⟩
def MS (P : Pg) (x : (List Bool)) (K : (List Int) → Unit → Prop) : Prop :=
 Ad (D := (List Int)) (fun J1 => AF (D := ((List Int) × Int)) ([], (0 : Int)) (fun d3 J4 => (((decide (d3.2 < (x.length : Int))) = true → Ad (D := (List Int)) (fun J5 => (0 ≤ d3.2 ∧ d3.2 < (x.length : Int)) ∧
 (d3.2.toNat < x.length) ∧
 Ad (D := (List Int)) (fun J7 => (((Qa0 x d3.2.toNat false) = true → ((d3.1.length + Qa2 ([d3.2] : List Int)) * 8 ≤ 140737488355328) ∧
 J7 (d3.1 ++ ([d3.2] : List Int))) ∧ ((Qa0 x d3.2.toNat false) = false → J7 d3.1))) (fun d8 => J5 d8)) (fun d6 => J4 (d6, (i64.wrap (d3.2 + (1 : Int)))))) ∧ ((decide (d3.2 < (x.length : Int))) = false → J1 d3.1)))) (fun d2 => K d2 ())
theorem RH {P : Pg} (h : Has P GW) {x : DP CG.ps} {K : DP CG.rs → DP (ptrs CG.ps) → Prop} (hw : MS P x K) : Fn P YC CG x K :=
 BI (c := JH) h rfl rfl (by kernel_rfl) (Eq.mpr (show BE P GW CG JH x K = _ by kernel_rfl) hw)
def FO : Bn :=
 (.seq (.region [o1 4 (.asg (.c (.slice none 0 0))), ia 5 (kI 0)]) (.seq (.seq (.region [im 7 0, im 8 1, oT ⟨some 9, .buildSl 1 [(.int .i64 0)] 1 [(0, 8)], none⟩ (some (bI, .leaf)),
 oS ⟨some 10, .call zS4 [7, 9], none⟩ BD, ia 6 10]) (.seq (.region [im 11 6, o1 12 (.bin .neq 11 (kI 0))]) (.cond 12 (.seq (.region [im 13 6,
 o1 4 (.asg (.c (.slice none 0 0))), ia 5 13]) .ret) .skip))) (.seq (.region [im 14 0, im 15 1, oT ⟨some 16, .buildSl 1 [(.int .i64 0)] 1 [(0, 15)], none⟩ (some (bI, .leaf)), oS
 ⟨some 17, .call zS2 [14, 16], none⟩ AO, oS ⟨some 18, .call YC [17], none⟩ CG, ia 4 18, ia 5 (kI 0)])
 .ret)))
def Eu : AFn := ⟨ AcA, FO.erase, [.tmp 4, .tmp 5], 2⟩
def H5 (P : Pg) (x : ((List Commit) × Int)) (K : ((List Int) × Int) → Unit → Prop) : Prop :=
 Fn P zS4 BD (x.1, ([x.2] : List Int)) (fun (d1 : Int) _ => (((d1 != (0 : Int)) = true → K ([], d1) ()) ∧ ((d1 != (0 : Int)) = false → Fn P zS2 AO (x.1, ([x.2] : List Int)) (fun (d3 : (List Bool)) _ => Fn P YC CG d3 (fun (d5 : (List Int)) _ => K (d5, (0 : Int)) ())))))
theorem Mf {P : Pg} (h : Has P Eu) {x : DP Cb.ps} {K : DP Cb.rs → DP (ptrs Cb.ps) → Prop} (hw : H5 P x K) : Fn P AcA Cb x K :=
 BI (c := FO) h rfl rfl (by kernel_rfl) (Eq.mpr (show BE P Eu Cb FO x K = _ by kernel_rfl) hw)
def Iu : Bn :=
 (.seq (.region [o1 6 (.asg kF), ia 7 (kI 0)]) (.seq (.seq (.region [im 9 0, im 10 1, im 11 2, oT ⟨some 12, .buildSl 1 [(.int .i64 0)] 2 [(0, 10), (1, 11)], none⟩ (some (bI,
 .leaf)), oS ⟨some 13, .call Yz [9, 12], none⟩ Bz, ia 8 13]) (.seq (.region [im 14 8, o1 15 (.bin .neq 14 (kI 0))]) (.cond 15 (.seq (.region
 [im 16 8, o1 6 (.asg kF), ia 7 16]) .ret) .skip))) (.seq (.region [im 17 0, im 18 2, oS ⟨some 19, .call YA [17, 18], none⟩ A9, im 20
 1, o1 21 (.ixA 1 19 20), ld 22 21, ia 6 22, ia 7 (kI 0)]) .ret)))
def Ge : AFn := ⟨ AcB, Iu.erase, [.tmp 6, .tmp 7], 3⟩
def LF (P : Pg) (x : ((List Commit) × (Int × Int))) (K : (Bool × Int) → Unit → Prop) : Prop :=
 Fn P Yz Bz (x.1, ([x.2.1, x.2.2] : List Int)) (fun (d1 : Int) _ => (((d1 != (0 : Int)) = true → K (false, d1) ()) ∧ ((d1 != (0 : Int)) = false → Fn P YA A9 (x.1, x.2.2) (fun (d3 : (List Bool)) _ => (0 ≤ x.2.1 ∧ x.2.1 < (d3.length : Int)) ∧
 (x.2.1.toNat < d3.length) ∧
 K ((Qa0 d3 x.2.1.toNat false), (0 : Int)) ()))))
theorem Qi {P : Pg} (h : Has P Ge) {x : DP C9.ps} {K : DP C9.rs → DP (ptrs C9.ps) → Prop} (hw : LF P x K) : Fn P AcB C9 x K :=
 BI (c := Iu) h rfl rfl (by kernel_rfl) (Eq.mpr (show BE P Ge C9 Iu x K = _ by kernel_rfl) hw)
def Mz : Bn :=
 (.seq (.region [o1 6 (.asg kF), ia 7 (kI 0)]) (.seq (.seq (.region [im 9 0, im 10 1, im 11 2, oT ⟨some 12, .buildSl 1 [(.int .i64 0)] 2 [(0, 10), (1, 11)], none⟩ (some (bI,
 .leaf)), oS ⟨some 13, .call zS4 [9, 12], none⟩ BD, ia 8 13]) (.seq (.region [im 14 8, o1 15 (.bin .neq 14 (kI 0))]) (.cond 15 (.seq (.region
 [im 16 8, o1 6 (.asg kF), ia 7 16]) .ret) .skip))) (.seq (.region [im 17 0, im 18 2, oT ⟨some 19, .buildSl 1 [(.int .i64 0)] 1 [(0, 18)], none⟩ (some (bI, .leaf)), oS ⟨some 20,
 .call zS2 [17, 19], none⟩ AO, im 21 1, o1 22 (.ixA 1 20 21), ld 23 22, ia 6 23, ia 7 (kI 0)]) .ret)))
def Jg : AFn := ⟨ AcC, Mz.erase, [.tmp 6, .tmp 7], 3⟩
def PZ (P : Pg) (x : ((List Commit) × (Int × Int))) (K : (Bool × Int) → Unit → Prop) : Prop :=
 Fn P zS4 BD (x.1, ([x.2.1, x.2.2] : List Int)) (fun (d1 : Int) _ => (((d1 != (0 : Int)) = true → K (false, d1) ()) ∧ ((d1 != (0 : Int)) = false → Fn P zS2 AO (x.1, ([x.2.2] : List Int)) (fun (d3 : (List Bool)) _ => (0 ≤ x.2.1 ∧ x.2.1 < (d3.length : Int)) ∧
 (x.2.1.toNat < d3.length) ∧
 K ((Qa0 d3 x.2.1.toNat false), (0 : Int)) ()))))
theorem Vo {P : Pg} (h : Has P Jg) {x : DP Ey.ps} {K : DP Ey.rs → DP (ptrs Ey.ps) → Prop} (hw : PZ P x K) : Fn P AcC Ey x K :=
 BI (c := Mz) h rfl rfl (by kernel_rfl) (Eq.mpr (show BE P Jg Ey Mz x K = _ by kernel_rfl) hw)
end Go.VS
