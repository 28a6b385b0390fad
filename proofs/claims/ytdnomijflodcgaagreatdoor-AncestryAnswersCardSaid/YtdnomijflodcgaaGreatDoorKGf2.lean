/- Functions of the program: typed code, and what it says, lifted. -/
import Derived.Test.YtdnomijflodcgaaGreatDoorKTxSig
import Derived.KernelRfl
set_option linter.unusedVariables false
set_option linter.unusedSimpArgs false
set_option maxRecDepth 8000
open List renaming getD → Qa0
open Int renaming toNat → Qa1
namespace Go.VS
open IntKind
def JG : Bn :=
 (.seq (.region [o1 4 (.asg (.c (.slice none 0 0)))]) (.seq (.region [im 10 1, oS ⟨some 11, .call YC [10], none⟩ CG, ia 5 11]) (.seq (.region
 [o1 6 (.asg (.c (.slice none 0 0)))]) (.seq (.seq (.region [ia 7 (kI 0)]) (.frame (rg [6, 7, 8, 9] 12 42) [] false (.join [.sl 6 false (.sl bI) tO] (.block 0 (.loop [.sl 6 false
 (.sl bI) tO, .si 7] (.seq (.seq (.region [im 12 7, im 13 5, o1 14 (.lenK 13), o1 15 (.bin .lss 12 14)]) (.cond 15 .skip (.exit 0))) (.seq (.frame (rg [6, 8, 9] 18 36) [] false
 (.join [.sl 6 false (.sl bI) tO] (.block 1 (.seq (.region [o1 8 (.asg kF)]) (.seq (.seq (.region [ia 9 (kI 0)]) (.frame (rg [8, 9] 18 27) [] false (.join [.sl 8 false .bool .leaf]
 (.block 2 (.loop [.sl 8 false .bool .leaf, .si 9] (.seq (.seq (.region [im 18 9, im 19 5, o1 20 (.lenK 19), o1 21 (.bin .lss 18 20)]) (.cond 21 .skip (.exit 2))) (.seq (.frame (rg
 [8] 24 21) [] false (.join [.sl 8 false .bool .leaf] (.block 3 (.frame (rg [8] 24 21) [] false (.join [.sl 8 false .bool .leaf] (.draw [(.first (im 24 8) (.first (im 25 24) (.first
 (⟨⟨some 26, .mv 9, some (25, false)⟩, none, ⟨[], []⟩, false, some 25, true, false⟩) (.first (⟨⟨some 27, .mv 7, some (25, false)⟩, none, ⟨[], []⟩, false, none, true, false⟩) (.first
 (⟨⟨some 28, .bin .neq 26 27, some (25, false)⟩, none, ⟨[], []⟩, false, none, true, true⟩) (.first (⟨⟨some 29, .mv 28, some (25, false)⟩, none, ⟨[], []⟩, false, none, true, true⟩)
 (.first (⟨⟨some 30, .mv 0, some (29, true)⟩, none, ⟨[], []⟩, false, some 29, true, false⟩) (.first (⟨⟨some 31, .mv 5, some (29, true)⟩, none, ⟨[], []⟩, false, none, true, false⟩)
 (.first (⟨⟨some 32, .mv 9, some (29, true)⟩, none, ⟨[], []⟩, false, none, true, false⟩) (.first (⟨⟨some 33, .ixA 1 31 32, some (29, true)⟩, none, ⟨[], []⟩, false, none, true,
 false⟩) (.first (⟨⟨some 34, .load false 1 33, some (29, true)⟩, none, ⟨[], []⟩, false, none, true, false⟩) (.first (⟨⟨some 37, .mv 5, some (29, true)⟩, none, ⟨[], []⟩, false, none,
 true, false⟩) (.first (⟨⟨some 38, .mv 7, some (29, true)⟩, none, ⟨[], []⟩, false, none, true, false⟩) (.first (⟨⟨some 39, .ixA 1 37 38, some (29, true)⟩, none, ⟨[], []⟩, false,
 none, true, false⟩) (.alt (⟨⟨some 35, .buildSl 1 [(.int .i64 0)] 1 [(0, 34)], some (29, true)⟩, some (bI, .leaf), ⟨[], []⟩, false, none, true, false⟩) (.alt (⟨⟨some 36, .call
 zS2 [30, 35], some (29, true)⟩, none, AO, false, none, true, false⟩) (.first (⟨⟨some 40, .load false 1 39, some (29, true)⟩, none, ⟨[], []⟩,
 false, none, true, false⟩) (.first (⟨⟨some 41, .ixA 1 36 40, some (29, true)⟩, none, ⟨[], []⟩, false, none, true, false⟩) (.first (⟨⟨some 42, .load false 1 41, some (29, true)⟩,
 none, ⟨[], []⟩, false, none, true, true⟩) (.first (⟨⟨some 43, .pick 29 42 kF, some (25, false)⟩, none, ⟨[], []⟩, false, none, true, true⟩) (.first (o1 44 (.pick 25 kT 43)) (.alt
 (ia 8 44) .done .stop)))))) (.alt (⟨⟨some 40, .load false 1 39, some (29, true)⟩, none, ⟨[], []⟩, false, none, true, false⟩) (.alt (⟨⟨some 36, .call
 zS2 [30, 35], some (29, true)⟩, none, AO, false, none, true, false⟩) (.first (⟨⟨some 41, .ixA 1 36 40, some (29, true)⟩, none, ⟨[], []⟩,
 false, none, true, false⟩) (.first (⟨⟨some 42, .load false 1 41, some (29, true)⟩, none, ⟨[], []⟩, false, none, true, true⟩) (.first (⟨⟨some 43, .pick 29 42 kF, some (25, false)⟩,
 none, ⟨[], []⟩, false, none, true, true⟩) (.first (o1 44 (.pick 25 kT 43)) (.alt (ia 8 44) .done .stop))))) .stop) .stop)) (.alt (⟨⟨some 40, .load false 1 39, some (29, true)⟩,
 none, ⟨[], []⟩, false, none, true, false⟩) (.alt (⟨⟨some 35, .buildSl 1 [(.int .i64 0)] 1 [(0, 34)], some (29, true)⟩, some (bI, .leaf), ⟨[], []⟩, false, none, true, false⟩) (.alt
 (⟨⟨some 36, .call zS2 [30, 35], some (29, true)⟩, none, AO, false, none, true, false⟩) (.first (⟨⟨some 41, .ixA 1 36 40, some (29, true)⟩,
 none, ⟨[], []⟩, false, none, true, false⟩) (.first (⟨⟨some 42, .load false 1 41, some (29, true)⟩, none, ⟨[], []⟩, false, none, true, true⟩) (.first (⟨⟨some 43, .pick 29 42 kF,
 some (25, false)⟩, none, ⟨[], []⟩, false, none, true, true⟩) (.first (o1 44 (.pick 25 kT 43)) (.alt (ia 8 44) .done .stop))))) .stop) .stop) .stop))))))))))))))))])))))) (.region
 [im 22 9, o1 23 (.bin .add 22 (kI 1)), ia 9 23])))))))) (.seq (.region [im 45 8, o1 46 (.un .not 45)]) (.frame (rg [6] 47 7) [] false (.join [.sl 6 false (.sl bI) tO] (.cond 46
 (.region [im 47 6, im 48 5, im 49 7, o1 50 (.ixA 1 48 49), ld 51 50, oT ⟨some 52, .buildSl 1 [(.int .i64 0)] 1 [(0, 51)], none⟩ (some (bI, .leaf)), oT ⟨some 53, .app 1 8 47 52,
 none⟩ (some (bI, .leaf)), ia 6 53]) .skip))))))))) (.region [im 16 7, o1 17 (.bin .add 16 (kI 1)), ia 7 17])))))))) (.seq (.region [im 54 6, ia 4 54]) .ret)))))
def GV : AFn := ⟨ YD, JG.erase, [.tmp 4], 2⟩
def MR (P : Pg) (x : ((List Commit) × (List Bool))) (K : (List Int) → Unit → Prop) : Prop :=
 Fn P YC CG x.2 (fun (d1 : (List Int)) _ => Ad (D := (List Int)) (fun J3 => AF (D := ((List Int) × Int)) ([], (0 : Int)) (fun d5 J6 => (((decide (d5.2 < (d1.length : Int))) = true → Ad (D := (List Int)) (fun J7 => Ad (D := Bool) (fun J9 => AF (D := (Bool × Int)) (false, (0 : Int)) (fun d11 J12 => (((decide (d11.2 < (d1.length : Int))) = true → Ad (D := Bool) (fun J13 => Ad (D := Bool) (fun J15 => ((d11.1 = true → (((J15 (cond true true false)) ∧ True) ∧ ((((J15 (cond true true false)) ∧ True) ∧ True) ∧ True)) ∧ (((((J15 (cond true true false)) ∧ True) ∧ True) ∧ True) ∧ True)) ∧ (d11.1 = false → (((d11.2 != d5.2) = true → (0 ≤ d11.2 ∧ d11.2 < (d1.length : Int)) ∧
 (d11.2.toNat < d1.length) ∧
 (0 ≤ d5.2 ∧ d5.2 < (d1.length : Int)) ∧
 ((Fn P zS2 AO (x.1, ([(Qa0 d1 d11.2.toNat (0 : Int))] : List Int)) (fun (d17 : (List Bool)) _ => (d5.2.toNat < d1.length) ∧
 (0 ≤ (Qa0 d1 d5.2.toNat (0 : Int)) ∧ (Qa0 d1 d5.2.toNat (0 : Int)) < (d17.length : Int)) ∧
 ((Qa1 (Qa0 d1 d5.2.toNat (0 : Int))) < d17.length) ∧
 (J15 (cond false true (cond true (Qa0 d17 (Qa1 (Qa0 d1 d5.2.toNat (0 : Int))) false) false))) ∧ True)) ∧ (((d5.2.toNat < d1.length) ∧
 (Fn P zS2 AO (x.1, ([(Qa0 d1 d11.2.toNat (0 : Int))] : List Int)) (fun (d19 : (List Bool)) _ => (0 ≤ (Qa0 d1 d5.2.toNat (0 : Int)) ∧ (Qa0 d1 d5.2.toNat (0 : Int)) < (d19.length : Int)) ∧
 ((Qa1 (Qa0 d1 d5.2.toNat (0 : Int))) < d19.length) ∧
 (J15 (cond false true (cond true (Qa0 d19 (Qa1 (Qa0 d1 d5.2.toNat (0 : Int))) false) false))) ∧ True)) ∧ True) ∧ True)) ∧ (((d5.2.toNat < d1.length) ∧
 ((Fn P zS2 AO (x.1, ([(Qa0 d1 d11.2.toNat (0 : Int))] : List Int)) (fun (d21 : (List Bool)) _ => (0 ≤ (Qa0 d1 d5.2.toNat (0 : Int)) ∧ (Qa0 d1 d5.2.toNat (0 : Int)) < (d21.length : Int)) ∧
 ((Qa1 (Qa0 d1 d5.2.toNat (0 : Int))) < d21.length) ∧
 (J15 (cond false true (cond true (Qa0 d21 (Qa1 (Qa0 d1 d5.2.toNat (0 : Int))) false) false))) ∧ True)) ∧ True) ∧ True) ∧ True)) ∧ ((d11.2 != d5.2) = false → (((J15 (cond false true (cond false false false))) ∧ True) ∧ ((((J15 (cond false true (cond false false false))) ∧ True) ∧ True) ∧ True)) ∧ (((((J15 (cond false true (cond false false false))) ∧ True) ∧ True) ∧ True) ∧ True)))))) (fun d16 => J13 d16)) (fun d14 => J12 (d14, (i64.wrap (d11.2 + (1 : Int)))))) ∧ ((decide (d11.2 < (d1.length : Int))) = false → J9 d11.1)))) (fun d10 => Ad (D := (List Int)) (fun J23 => (((!d10) = true → (0 ≤ d5.2 ∧ d5.2 < (d1.length : Int)) ∧
 (d5.2.toNat < d1.length) ∧
 ((d5.1.length + List.length ([(Qa0 d1 d5.2.toNat (0 : Int))] : List Int)) * 8 ≤ 140737488355328) ∧
 J23 (d5.1 ++ ([(Qa0 d1 d5.2.toNat (0 : Int))] : List Int))) ∧ ((!d10) = false → J23 d5.1))) (fun d24 => J7 d24))) (fun d8 => J6 (d8, (i64.wrap (d5.2 + (1 : Int)))))) ∧ ((decide (d5.2 < (d1.length : Int))) = false → J3 d5.1)))) (fun d4 => K d4 ()))
theorem RG {P : Pg} (h : Has P GV) {x : DP CF.ps} {K : DP CF.rs → DP (ptrs CF.ps) → Prop} (hw : MR P x K) : Fn P YD CF x K :=
 BI (c := JG) h rfl rfl (by kernel_rfl) (Eq.mpr (show BE P GV CF JG x K = _ by kernel_rfl) hw)
def IH : Bn :=
 (.seq (.region [o1 6 (.asg (.c (.slice none 0 0))), ia 7 (kI 0)]) (.seq (.seq (.region [im 12 0, im 13 1, im 14 2, oT ⟨some 15, .buildSl 1 [(.int .i64 0)] 2 [(0, 13), (1, 14)],
 none⟩ (some (bI, .leaf)), oS ⟨some 16, .call zS4 [12, 15], none⟩ BD, ia 8 16]) (.seq (.region [im 17 8, o1 18 (.bin .neq 17 (kI 0))]) (.cond
 18 (.seq (.region [im 19 8, o1 6 (.asg (.c (.slice none 0 0))), ia 7 19]) .ret) .skip))) (.seq (.region [im 20 0, im 21 1, oT ⟨some 22, .buildSl 1 [(.int .i64 0)] 1 [(0, 21)],
 none⟩ (some (bI, .leaf)), oS ⟨some 23, .call zS2 [20, 22], none⟩ AO, im 24 0, im 25 2, oT ⟨some 26, .buildSl 1 [(.int .i64 0)] 1 [(0, 25)],
 none⟩ (some (bI, .leaf)), oS ⟨some 27, .call zS2 [24, 26], none⟩ AO, ia 9 23, ia 10 27]) (.seq (.seq (.region [ia 11 (kI 0)]) (.frame (rg
 [9, 11] 28 19) [] false (.join [.sl 9 false (.sl .bool) tO] (.block 0 (.loop [.sl 9 false (.sl .bool) tO, .si 11] (.seq (.seq (.region [im 28 11, im 29 0, o1 30 (.lenK 29), o1 31
 (.bin .lss 28 30)]) (.cond 31 .skip (.exit 0))) (.seq (.frame (rg [9] 34 13) [] false (.join [.sl 9 false (.sl .bool) tO] (.block 1 (.region [im 34 9, im 35 11, im 36 9, im 37 11,
 o1 38 (.ixA 1 36 37), ld 39 38, im 40 39, gt 41 40 (.mv 10), gt 42 40 (.mv 11), gt 43 40 (.ixA 1 41 42), gt 44 40 (.load false 1 43), o1 45 (.pick 40 44 kF), o1 46 (.ixA 1 34 35),
 o0 ⟨none, .store 1 46 45, none⟩])))) (.region [im 32 11, o1 33 (.bin .add 32 (kI 1)), ia 11 33])))))))) (.seq (.region [im 47 0, im 48 9, oS ⟨some 49, .call
 YD [47, 48], none⟩ CF, ia 6 49, ia 7 (kI 0)]) .ret)))))
def Gp : AFn := ⟨ AcD, IH.erase, [.tmp 6, .tmp 7], 3⟩
def LP (P : Pg) (x : ((List Commit) × (Int × Int))) (K : ((List Int) × Int) → Unit → Prop) : Prop :=
 Fn P zS4 BD (x.1, ([x.2.1, x.2.2] : List Int)) (fun (d1 : Int) _ => (((d1 != (0 : Int)) = true → K ([], d1) ()) ∧ ((d1 != (0 : Int)) = false → Fn P zS2 AO (x.1, ([x.2.1] : List Int)) (fun (d3 : (List Bool)) _ => Fn P zS2 AO (x.1, ([x.2.2] : List Int)) (fun (d5 : (List Bool)) _ => Ad (D := (List Bool)) (fun J7 => AF (D := ((List Bool) × Int)) (d3, (0 : Int)) (fun d9 J10 => (((decide (d9.2 < (x.1.length : Int))) = true → Ad (D := (List Bool)) (fun J11 => (0 ≤ d9.2 ∧ d9.2 < (d9.1.length : Int)) ∧
 (d9.2.toNat < d9.1.length) ∧
 (((Qa0 d9.1 d9.2.toNat false) = true → 0 ≤ d9.2 ∧ d9.2 < (d5.length : Int))) ∧
 (((Qa0 d9.1 d9.2.toNat false) = true → d9.2.toNat < d5.length)) ∧
 (0 ≤ d9.2 ∧ d9.2 < (d9.1.length : Int)) ∧
 (d9.2.toNat < d9.1.length) ∧
 J11 (List.set d9.1 d9.2.toNat (cond (Qa0 d9.1 d9.2.toNat false) (Qa0 d5 d9.2.toNat false) false))) (fun d12 => J10 (d12, (i64.wrap (d9.2 + (1 : Int)))))) ∧ ((decide (d9.2 < (x.1.length : Int))) = false → J7 d9.1)))) (fun d8 => Fn P YD CF (x.1, d8) (fun (d13 : (List Int)) _ => K (d13, (0 : Int)) ())))))))
theorem Qs {P : Pg} (h : Has P Gp) {x : DP Df.ps} {K : DP Df.rs → DP (ptrs Df.ps) → Prop} (hw : LP P x K) : Fn P AcD Df x K :=
 BI (c := IH) h rfl rfl (by kernel_rfl) (Eq.mpr (show BE P Gp Df IH x K = _ by kernel_rfl) hw)
def EW : Bn :=
 (.seq (.region [o1 4 (.asg (.c (.slice none 0 0))), ia 5 (kI 0)]) (.seq (.seq (.region [im 9 0, im 10 1, oS ⟨some 11, .call zS4 [9, 10], none⟩
 BD, ia 6 11]) (.seq (.region [im 12 6, o1 13 (.bin .neq 12 (kI 0))]) (.cond 13 (.seq (.region [im 14 6, o1 4 (.asg (.c (.slice none 0 0))), ia 5 14]) .ret) .skip)))
 (.seq (.region [im 15 0, o1 16 (.lenK 15), oT ⟨some 17, .mkSl 1 1 [(.bool false)] 16 16, none⟩ (some (.bool, .leaf)), ia 7 17]) (.seq (.seq (.region [ia 8 (kI 0)]) (.frame (rg [7,
 8] 18 12) [] false (.join [.sl 7 false (.sl .bool) tO] (.block 0 (.loop [.sl 7 false (.sl .bool) tO, .si 8] (.seq (.seq (.region [im 18 8, im 19 1, o1 20 (.lenK 19), o1 21 (.bin
 .lss 18 20)]) (.cond 21 .skip (.exit 0))) (.seq (.frame (rg [7] 24 6) [] false (.join [.sl 7 false (.sl .bool) tO] (.block 1 (.region [im 24 7, im 25 1, im 26 8, o1 27 (.ixA 1 25
 26), ld 28 27, o1 29 (.ixA 1 24 28), o0 ⟨none, .store 1 29 kT, none⟩])))) (.region [im 22 8, o1 23 (.bin .add 22 (kI 1)), ia 8 23])))))))) (.seq (.region [im 30 0, im 31 7, oS
 ⟨some 32, .call YD [30, 31], none⟩ CF, ia 4 32, ia 5 (kI 0)]) .ret)))))
def DO : AFn := ⟨ AcE, EW.erase, [.tmp 4, .tmp 5], 2⟩
def GO (P : Pg) (x : ((List Commit) × (List Int))) (K : ((List Int) × Int) → Unit → Prop) : Prop :=
 Fn P zS4 BD x (fun (d1 : Int) _ => (((d1 != (0 : Int)) = true → K ([], d1) ()) ∧ ((d1 != (0 : Int)) = false → (0 ≤ (x.1.length : Int) ∧ (x.1.length : Int) ≤ (x.1.length : Int) ∧ ((1 : Nat) : Int) * (x.1.length : Int) ≤ 281474976710656) ∧
 Ad (D := (List Bool)) (fun J3 => AF (D := ((List Bool) × Int)) ((List.replicate (Qa1 (x.1.length : Int)) false), (0 : Int)) (fun d5 J6 => (((decide (d5.2 < (x.2.length : Int))) = true → Ad (D := (List Bool)) (fun J7 => (0 ≤ d5.2 ∧ d5.2 < (x.2.length : Int)) ∧
 (d5.2.toNat < x.2.length) ∧
 (0 ≤ (Qa0 x.2 d5.2.toNat (0 : Int)) ∧ (Qa0 x.2 d5.2.toNat (0 : Int)) < (d5.1.length : Int)) ∧
 ((Qa1 (Qa0 x.2 d5.2.toNat (0 : Int))) < d5.1.length) ∧
 J7 (List.set d5.1 (Qa1 (Qa0 x.2 d5.2.toNat (0 : Int))) true)) (fun d8 => J6 (d8, (i64.wrap (d5.2 + (1 : Int)))))) ∧ ((decide (d5.2 < (x.2.length : Int))) = false → J3 d5.1)))) (fun d4 => Fn P YD CF (x.1, d4) (fun (d9 : (List Int)) _ => K (d9, (0 : Int)) ())))))
theorem Kn {P : Pg} (h : Has P DO) {x : DP BN.ps} {K : DP BN.rs → DP (ptrs BN.ps) → Prop} (hw : GO P x K) : Fn P AcE BN x K :=
 BI (c := EW) h rfl rfl (by kernel_rfl) (Eq.mpr (show BE P DO BN EW x K = _ by kernel_rfl) hw)
def DT : Bn :=
 (.seq (.region [o1 10 (.asg kF)]) (.seq (.seq (.region [im 30 3, o1 31 (.lenK 30), o1 32 (.bin .gtr 31 (kI 6))]) (.cond 32 (.seq (.region [oS ⟨some 33, .call
 WZ [], none⟩ Cd, ia 10 33]) .ret) .skip)) (.seq (.region [im 34 0, oS ⟨some 35, .call Acl [34, (kI 9), (kI 1)],
 none⟩ DX, ia 11 35]) (.seq (.region [oT ⟨some 36, .buildSl 1 [(.int .i64 0)] 0 [], none⟩ (some (bI, .leaf)), im 37 3, oT ⟨some 38, .app 1 8 36 37, none⟩ (some (bI,
 .leaf)), ia 12 38]) (.seq (.seq (.region [im 39 4, im 40 39, gt 41 40 (.mv 11), gt 42 40 (.lenK 41), gt 43 40 (.bin .gtr 42 (kI 0)), o1 44 (.pick 40 43 kF)]) (.frame (rg [1, 2, 12,
 13] 45 24) [] false (.join [.si 1, .si 2, .sl 12 false (.sl bI) tO] (.cond 44 (.seq (.region [im 45 1, im 46 11, o1 47 (.lenK 46), oS ⟨some 48, .call zS1
 [45, 47], none⟩ Bt, im 49 2, im 50 11, o1 51 (.lenK 50), oS ⟨some 52, .call zS1 [49, 51], none⟩ Bt, ia 1 48, ia 2 52]) (.seq (.region [ia 13
 (kI 0)]) (.frame (rg [12, 13] 53 16) [] false (.join [.sl 12 false (.sl bI) tO] (.block 0 (.loop [.sl 12 false (.sl bI) tO, .si 13] (.seq (.seq (.region [im 53 13, im 54 12, o1 55
 (.lenK 54), o1 56 (.bin .lss 53 55)]) (.cond 56 .skip (.exit 0))) (.seq (.frame (rg [12] 59 10) [] false (.join [.sl 12 false (.sl bI) tO] (.block 1 (.region [im 59 12, im 60 13,
 im 61 12, im 62 13, o1 63 (.ixA 1 61 62), ld 64 63, im 65 11, o1 66 (.lenK 65), oS ⟨some 67, .call zS1 [64, 66], none⟩ Bt, o1 68 (.ixA 1 59 60), o0
 ⟨none, .store 1 68 67, none⟩])))) (.region [im 57 13, o1 58 (.bin .add 57 (kI 1)), ia 13 58]))))))))) .skip)))) (.seq (.region [im 70 11, im 71 1, oS ⟨some 72, .call
 Acv [70, 71], none⟩ BF, im 69 72, o1 73 (.ext 69 0), o1 74 (.ext 69 1), ia 14 73, ia 15 74]) (.seq (.region [im 76 11, im 77 1, oS
 ⟨some 78, .call AcA [76, 77], none⟩ Cb, im 75 78, o1 79 (.ext 75 0), o1 80 (.ext 75 1), ia 16 79, ia 17 80]) (.seq (.region [im 82
 11, im 83 1, im 84 2, oS ⟨some 85, .call AcB [82, 83, 84], none⟩ C9, im 81 85, o1 86 (.ext 81 0), o1 87 (.ext 81 1), ia 18 86, ia 19 87]) (.seq
 (.region [im 89 11, im 90 1, im 91 2, oS ⟨some 92, .call AcC [89, 90, 91], none⟩ Ey, im 88 92, o1 93 (.ext 88 0), o1 94 (.ext 88 1), ia 20 93, ia
 21 94]) (.seq (.region [im 96 11, im 97 1, im 98 2, oS ⟨some 99, .call Acm [96, 97, 98], none⟩ Dh, im 95 99, o1 100 (.ext 95 0), o1 101 (.ext
 95 1), ia 22 100, ia 23 101]) (.seq (.region [im 103 11, im 104 1, im 105 2, oS ⟨some 106, .call AcD [103, 104, 105], none⟩ Df, im 102 106,
 o1 107 (.ext 102 0), o1 108 (.ext 102 1), ia 24 107, ia 25 108]) (.seq (.region [im 110 11, im 111 12, oS ⟨some 112, .call Acn [110, 111], none⟩
 B8, im 109 112, o1 113 (.ext 109 0), o1 114 (.ext 109 1), ia 26 113, ia 27 114]) (.seq (.region [im 116 11, im 117 12, oS ⟨some 118, .call
 AcE [116, 117], none⟩ BN, im 115 118, o1 119 (.ext 115 0), o1 120 (.ext 115 1), ia 28 119, ia 29 120]) (.seq (.region [im 121
 14, im 122 16, oS ⟨some 123, .call zS3 [121, 122], none⟩ BU, im 124 123, gt 125 124 (.mv 15), gt 126 124 (.mv 17), gt 127 124 (.bin .eql 125 126),
 o1 128 (.pick 124 127 kF), im 129 128, gt 130 129 (.mv 18), gt 131 129 (.mv 20), gt 132 129 (.eqB false 130 131), o1 133 (.pick 129 132 kF), im 134 133, gt 135 134 (.mv 19), gt 136
 134 (.mv 21), gt 137 134 (.bin .eql 135 136), o1 138 (.pick 134 137 kF), im 139 138, gt 140 139 (.mv 22), gt 141 139 (.mv 24), oS ⟨some 142, .call zS3
 [140, 141], some (139, true)⟩ BU, o1 143 (.pick 139 142 kF), im 144 143, gt 145 144 (.mv 23), gt 146 144 (.mv 25), gt 147 144 (.bin .eql 145 146), o1 148 (.pick 144 147
 kF), im 149 148, gt 150 149 (.mv 26), gt 151 149 (.mv 28), oS ⟨some 152, .call zS3 [150, 151], some (149, true)⟩ BU, o1 153 (.pick 149 152 kF), im
 154 153, gt 155 154 (.mv 27), gt 156 154 (.mv 29), gt 157 154 (.bin .eql 155 156), o1 158 (.pick 154 157 kF), im 159 158, oS ⟨some 160, .call WZ [],
 some (159, true)⟩ Cd, o1 161 (.pick 159 160 kF), ia 10 161]) .ret))))))))))))))
def CV : AFn := ⟨ Ae3, DT.erase, [.tmp 10], 5⟩
def Fh (P : Pg) (x : ((List Int) × (Int × (Int × ((List Int) × Bool))))) (K : Bool → Unit → Prop) : Prop :=
 (((decide ((x.2.2.2.1.length : Int) > (6 : Int))) = true → Fn P WZ Cd () (fun (d1 : Bool) _ => K d1 ())) ∧ ((decide ((x.2.2.2.1.length : Int) > (6 : Int))) = false → Fn P Acl DX (x.1, ((9 : Int), (1 : Int))) (fun (d3 : (List Commit)) _ => ((List.length ([] : List Int) + x.2.2.2.1.length) * 8 ≤ 140737488355328) ∧
 Ad (D := (Int × (Int × (List Int)))) (fun J5 => (((cond x.2.2.2.2 (decide ((d3.length : Int) > (0 : Int))) false) = true → Fn P zS1 Bt (x.2.1, (d3.length : Int)) (fun (d7 : Int) _ => Fn P zS1 Bt (x.2.2.1, (d3.length : Int)) (fun (d9 : Int) _ => Ad (D := (List Int)) (fun J11 => AF (D := ((List Int) × Int)) ((([] : List Int) ++ x.2.2.2.1), (0 : Int)) (fun d13 J14 => (((decide (d13.2 < (d13.1.length : Int))) = true → Ad (D := (List Int)) (fun J15 => (0 ≤ d13.2 ∧ d13.2 < (d13.1.length : Int)) ∧
 (d13.2.toNat < d13.1.length) ∧
 Fn P zS1 Bt ((Qa0 d13.1 d13.2.toNat (0 : Int)), (d3.length : Int)) (fun (d17 : Int) _ => (0 ≤ d13.2 ∧ d13.2 < (d13.1.length : Int)) ∧
 (d13.2.toNat < d13.1.length) ∧
 J15 (List.set d13.1 d13.2.toNat d17))) (fun d16 => J14 (d16, (i64.wrap (d13.2 + (1 : Int)))))) ∧ ((decide (d13.2 < (d13.1.length : Int))) = false → J11 d13.1)))) (fun d12 => J5 (d7, (d9, d12)))))) ∧ ((cond x.2.2.2.2 (decide ((d3.length : Int) > (0 : Int))) false) = false → J5 (x.2.1, (x.2.2.1, (([] : List Int) ++ x.2.2.2.1)))))) (fun d6 => Fn P Acv BF (d3, d6.1) (fun (d19 : ((List Int) × Int)) _ => Fn P AcA Cb (d3, d6.1) (fun (d21 : ((List Int) × Int)) _ => Fn P AcB C9 (d3, (d6.1, d6.2.1)) (fun (d23 : (Bool × Int)) _ => Fn P AcC Ey (d3, (d6.1, d6.2.1)) (fun (d25 : (Bool × Int)) _ => Fn P Acm Dh (d3, (d6.1, d6.2.1)) (fun (d27 : ((List Int) × Int)) _ => Fn P AcD Df (d3, (d6.1, d6.2.1)) (fun (d29 : ((List Int) × Int)) _ => Fn P Acn B8 (d3, d6.2.2) (fun (d31 : ((List Int) × Int)) _ => Fn P AcE BN (d3, d6.2.2) (fun (d33 : ((List Int) × Int)) _ => Fn P zS3 BU (d19.1, d21.1) (fun (d35 : Bool) _ => Ad (D := Bool) (fun J37 => (((cond (cond (cond d35 (d19.2 == d21.2) false) (d23.1 == d25.1) false) (d23.2 == d25.2) false) = true → Fn P zS3 BU (d27.1, d29.1) (fun (d38 : Bool) _ => J37 d38)) ∧ (((cond (cond (cond d35 (d19.2 == d21.2) false) (d23.1 == d25.1) false) (d23.2 == d25.2) false) = false → J37 false) ∧ True))) (fun d39 => Ad (D := Bool) (fun J40 => (((cond (cond (cond (cond (cond d35 (d19.2 == d21.2) false) (d23.1 == d25.1) false) (d23.2 == d25.2) false) d39 false) (d27.2 == d29.2) false) = true → Fn P zS3 BU (d31.1, d33.1) (fun (d41 : Bool) _ => J40 d41)) ∧ (((cond (cond (cond (cond (cond d35 (d19.2 == d21.2) false) (d23.1 == d25.1) false) (d23.2 == d25.2) false) d39 false) (d27.2 == d29.2) false) = false → J40 false) ∧ True))) (fun d42 => Ad (D := Bool) (fun J43 => (((cond (cond (cond (cond (cond (cond (cond d35 (d19.2 == d21.2) false) (d23.1 == d25.1) false) (d23.2 == d25.2) false) d39 false) (d27.2 == d29.2) false) d42 false) (d31.2 == d33.2) false) = true → Fn P WZ Cd () (fun (d44 : Bool) _ => J43 d44)) ∧ (((cond (cond (cond (cond (cond (cond (cond d35 (d19.2 == d21.2) false) (d23.1 == d25.1) false) (d23.2 == d25.2) false) d39 false) (d27.2 == d29.2) false) d42 false) (d31.2 == d33.2) false) = false → J43 false) ∧ True))) (fun d45 => K (cond (cond (cond (cond (cond (cond (cond (cond d35 (d19.2 == d21.2) false) (d23.1 == d25.1) false) (d23.2 == d25.2) false) d39 false) (d27.2 == d29.2) false) d42 false) (d31.2 == d33.2) false) d45 false) ()))))))))))))))))
theorem Ij {P : Pg} (h : Has P CV) {x : DP A2.ps} {K : DP A2.rs → DP (ptrs A2.ps) → Prop} (hw : Fh P x K) : Fn P Ae3 A2 x K :=
 BI (c := DT) h rfl rfl (by kernel_rfl) (Eq.mpr (show BE P CV A2 DT x K = _ by kernel_rfl) hw)
end Go.VS
