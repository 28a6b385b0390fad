/- Functions of the program: typed code, and what it says, lifted. -/
import Derived.Test.YtbandpkgjepklaaKTxSig
import Derived.KernelRfl
set_option linter.unusedVariables false
set_option linter.unusedSimpArgs false
set_option maxRecDepth 8000
open List renaming getD → Qa0, length → Qa2, set → Qa3, replicate → Qa4
open Int renaming toNat → Qa1
namespace Go.VS
open IntKind
def Aer : Be :=
 (.seq (.region [o1 2 (.asg (.c (.slice none 0 0)))]) (.seq (.region [im 6 0, o1 7 (.lenK 6), oT ⟨some 8, .mkSl 1 8 [(.int .i64 0)] 7 7, none⟩ (some (bI, .leaf)), ia 3 8]) (.seq
 (.seq (.region [im 9 0, o1 10 (.lenK 9), o1 11 (.mv (kI 0))]) (.frame (rg [3, 4, 5] 11 12) [1005] false (.join [.sl 3 false (.sl bI) tO] (.block 0 (.loop [.sl 3 false (.sl bI) tO,
 .si 11] (.seq (.region [o1 12 (.bin .lss 11 10)]) (.seq (.cond 12 .skip (.exit 0)) (.seq (.frame (rg [3, 4, 5] 13 9) [1005] false (.join [.sl 3 false (.sl bI) tO] (.block 1 (.seq
 (.region [im 13 11, o1 14 (.ixA 8 9 11), o1 15 (.load true 8 14), o1 5 (.alloc [(.int .i64 0), (.int .u64 0), (.int .u64 0), (.int .u64 0), (.int .u64 0), (.int .i64 0), (.int .i64
 0), (.slice none 0 0)]), ia 4 13, o0 ⟨none, .store 8 5 15, none⟩]) (.region [im 16 3, im 17 4, o1 18 (.load true 8 5), im 19 3, oS ⟨some 20, .call AcJ [18,
 19], none⟩ Adm, o1 21 (.ixA 1 16 17), o0 ⟨none, .store 1 21 20, none⟩]))))) (.region [o1 22 (.bin .add 11 (kI 1)), im 11 22]))))))))) (.seq (.region [im 23 3, ia 2 23])
 .ret))))
def Ad1 : AFn := ⟨ VG, Aer.erase, [.tmp 2], 1⟩
def Afo (P : Pg) (x : (List Node)) (K : (List Int) → Unit → Prop) : Prop :=
 (0 ≤ (x.length : Int) ∧ (x.length : Int) ≤ (x.length : Int) ∧ ((8 : Nat) : Int) * (x.length : Int) ≤ 281474976710656) ∧
 Ag (D := (List Int)) (fun J1 => B0 (D := ((List Int) × Int)) ((Qa4 (Qa1 (x.length : Int)) (0 : Int)), (0 : Int)) (fun d3 J4 => (((decide (d3.2 < (x.length : Int))) = true → Ag (D := (List Int)) (fun J5 => (0 ≤ d3.2 ∧ d3.2 < (x.length : Int)) ∧
 (d3.2.toNat < x.length) ∧
 Fn P AcJ Adm ((Qa0 x d3.2.toNat Ak), d3.1) (fun (d7 : Int) _ => (0 ≤ d3.2 ∧ d3.2 < (d3.1.length : Int)) ∧
 (d3.2.toNat < d3.1.length) ∧
 J5 (Qa3 d3.1 d3.2.toNat d7))) (fun d6 => J4 (d6, (i64.wrap (d3.2 + (1 : Int)))))) ∧ ((decide (d3.2 < (x.length : Int))) = false → J1 d3.1)))) (fun d2 => K d2 ())
theorem Agr {P : Pg} (h : Has P Ad1) {x : DP Ac9.ps} {K : DP Ac9.rs → DP (ptrs Ac9.ps) → Prop} (hw : Afo P x K) : Fn P VG Ac9 x K :=
 BI (c := Aer) h rfl rfl (by kernel_rfl) (Eq.mpr (show BC P Ad1 Ac9 Aer x K = _ by kernel_rfl) hw)
def AeG : Be :=
 (.seq (.region [ia 2 (kI 0), ia 3 (kI 0)]) (.seq (.seq (.region [im 5 0, oS ⟨some 6, .call AaZ [5], none⟩ AbF, ia 4 6]) (.seq (.region [im 7 4, o1 8
 (.bin .neq 7 (kI 0))]) (.cond 8 (.seq (.region [im 9 4, ia 2 (kI 0), ia 3 9]) .ret) .skip))) (.seq (.region [im 10 0, oS ⟨some 11, .call VG [10], none⟩
 Ac9, im 12 0, o1 13 (.lenK 12), o1 14 (.bin .sub 13 (kI 1)), o1 15 (.ixA 1 11 14), ld 16 15, ia 2 16, ia 3 (kI 0)]) .ret)))
def Ad5 : AFn := ⟨ AcK, AeG.erase, [.tmp 2, .tmp 3], 1⟩
def Afv (P : Pg) (x : (List Node)) (K : (Int × Int) → Unit → Prop) : Prop :=
 Fn P AaZ AbF x (fun (d1 : Int) _ => (((d1 != (0 : Int)) = true → K ((0 : Int), d1) ()) ∧ ((d1 != (0 : Int)) = false → Fn P VG Ac9 x (fun (d3 : (List Int)) _ => (0 ≤ (i64.wrap ((x.length : Int) - (1 : Int))) ∧ (i64.wrap ((x.length : Int) - (1 : Int))) < (d3.length : Int)) ∧
 ((Qa1 (i64.wrap ((x.length : Int) - (1 : Int)))) < d3.length) ∧
 K ((Qa0 d3 (Qa1 (i64.wrap ((x.length : Int) - (1 : Int)))) (0 : Int)), (0 : Int)) ()))))
theorem Agy {P : Pg} (h : Has P Ad5) {x : DP Adl.ps} {K : DP Adl.rs → DP (ptrs Adl.ps) → Prop} (hw : Afv P x K) : Fn P AcK Adl x K :=
 BI (c := AeG) h rfl rfl (by kernel_rfl) (Eq.mpr (show BC P Ad5 Adl AeG x K = _ by kernel_rfl) hw)
def AdK : Be :=
 (.seq (.region [o1 3 (.box 1), ia 4 (kI 0)]) (.seq (.frame (rg [] 5 10) [0] true (.join [.bx 0 UH (.pair (.node .imm (.pair .leaf (.pair .leaf (.pair .leaf (.pair
 .leaf tM))))) (.pair tO tO))] (.draw [(.first (im 5 0) (.first (im 6 0) (.first (o1 7 (.nilc 6)) (.first (fa 8 2 7) (.first (o1 10 (.load true 7 3)) (.alt (ld 9 8) (.alt (oT ⟨some
 11, .buildSl 7 [(.int .i64 0), (.int .u64 0), (.int .u64 0), (.int .u64 0), (.int .u64 0), (.int .i64 0), (.int .i64 0)] 1 [(0, 10)], none⟩ (some (Abt, .leaf))) (.alt (oT ⟨some
 12, .app 7 56 9 11, none⟩ (some (Abt, .leaf))) (.first (o1 13 (.nilc 5)) (.first (fa 14 2 13) (.alt (o0 ⟨none, .store 1 14 12, none⟩) .done .stop))) .stop) .stop) (.alt (oT
 ⟨some 11, .buildSl 7 [(.int .i64 0), (.int .u64 0), (.int .u64 0), (.int .u64 0), (.int .u64 0), (.int .i64 0), (.int .i64 0)] 1 [(0, 10)], none⟩ (some (Abt, .leaf))) (.first
 (ld 9 8) (.alt (oT ⟨some 12, .app 7 56 9 11, none⟩ (some (Abt, .leaf))) (.first (o1 13 (.nilc 5)) (.first (fa 14 2 13) (.alt (o0 ⟨none, .store 1 14 12, none⟩) .done .stop)))
 .stop)) .stop)))))))]))) (.seq (.region [im 15 0, o1 16 (.nilc 15), fa 17 2 16, ld 18 17, o1 19 (.lenK 18), o1 20 (.bin .sub 19 (kI 1)), ia 4 20]) .ret)))
def Adp : AFn := ⟨ zS4, AdK.erase, [.tmp 4], 2⟩
def Ad4 (P : Pg) (x : (MH × State)) (K : Int → MH → Prop) : Prop :=
 Ag (D := MH) (fun J1 => (((((x.1.2.2.length + Qa2 ([x.2] : List State)) * 56 ≤ 140737488355328) ∧
 (J1 (x.1.1, (x.1.2.1, (x.1.2.2 ++ ([x.2] : List State))))) ∧ True) ∧ True) ∧ True) ∧ (((((x.1.2.2.length + Qa2 ([x.2] : List State)) * 56 ≤ 140737488355328) ∧
 (J1 (x.1.1, (x.1.2.1, (x.1.2.2 ++ ([x.2] : List State))))) ∧ True) ∧ True) ∧ True)) (fun d2 => K (i64.wrap ((d2.2.2.length : Int) - (1 : Int))) d2)
theorem AeW {P : Pg} (h : Has P Adp) {x : DP AcU.ps} {K : DP AcU.rs → DP (ptrs AcU.ps) → Prop} (hw : Ad4 P x K) : Fn P zS4 AcU x K :=
 BI (c := AdK) h rfl rfl (by kernel_rfl) (Eq.mpr (show BC P Adp AcU AdK x K = _ by kernel_rfl) hw)
def Adz : Be :=
 (.seq (.region [ia 6 (kI 0)]) (.seq (.region [im 10 1, o1 11 (.lenK 10), o1 12 (.bin .sub 11 (kI 1)), ia 7 12]) (.seq (.region [im 13 0, im 14 1, im 15 7, o1 16 (.ixA 1 14 15), ld
 17 16, im 18 2, oS ⟨some 19, .call zS5 [13, 17, 18], none⟩ AcT, ia 8 19]) (.seq (.seq (.region [im 20 7, o1 21 (.bin .sub
 20 (kI 1)), ia 9 21]) (.frame (rg [8, 9] 22 15) [0] true (.join [.si 8, .bx 0 UH (.pair (.node .imm (.pair .leaf (.pair .leaf (.pair .leaf (.pair .leaf tM)))))
 (.pair tO tO))] (.block 0 (.loop [.si 8, .si 9, .bx 0 UH (.pair (.node .imm (.pair .leaf (.pair .leaf (.pair .leaf (.pair .leaf tM))))) (.pair tO tO))] (.seq (.seq
 (.region [im 22 9, o1 23 (.bin .geq 22 (kI 0))]) (.cond 23 .skip (.exit 0))) (.seq (.frame (rg [8] 26 11) [0] true (.join [.si 8, .bx 0 UH (.pair (.node .imm (.pair
 .leaf (.pair .leaf (.pair .leaf (.pair .leaf tM))))) (.pair tO tO))] (.block 1 (.region [im 26 0, im 27 0, im 28 1, im 29 9, o1 30 (.ixA 1 28 29), ld 31 30, im 32 2, oS ⟨some 33,
 .call zS5 [27, 31, 32], none⟩ AcT, im 34 8, o1 35 (.build [(.int .i64 0), (.int .u64 0), (.int .u64 0), (.int .u64 0),
 (.int .u64 0), (.int .i64 0), (.int .i64 0)] [(0, 1, (kI 1)), (5, 1, 33), (6, 1, 34)]), oS ⟨some 36, .call zS4 [26, 35], none⟩
 AcU, ia 8 36])))) (.region [im 24 9, o1 25 (.bin .sub 24 (kI 1)), ia 9 25])))))))) (.seq (.region [im 37 8, ia 6 37]) .ret)))))
def Ac5 : AFn := ⟨ AcO, Adz.erase, [.tmp 6], 3⟩
def AdT (P : Pg) (x : (MH × ((List Int) × Int))) (K : Int → MH → Prop) : Prop :=
 (0 ≤ (i64.wrap ((x.2.1.length : Int) - (1 : Int))) ∧ (i64.wrap ((x.2.1.length : Int) - (1 : Int))) < (x.2.1.length : Int)) ∧
 ((Qa1 (i64.wrap ((x.2.1.length : Int) - (1 : Int)))) < x.2.1.length) ∧
 Fn P zS5 AcT (x.1, ((Qa0 x.2.1 (Qa1 (i64.wrap ((x.2.1.length : Int) - (1 : Int)))) (0 : Int)), x.2.2)) (fun (d1 : Int) (e2 : MH) => Ag (D := (Int × MH)) (fun J3 => B0 (D := (Int × (Int × MH))) (d1, ((i64.wrap ((i64.wrap ((x.2.1.length : Int) - (1 : Int))) - (1 : Int))), e2)) (fun d5 J6 => (((decide (d5.2.1 ≥ (0 : Int))) = true → Ag (D := (Int × MH)) (fun J7 => (0 ≤ d5.2.1 ∧ d5.2.1 < (x.2.1.length : Int)) ∧
 (d5.2.1.toNat < x.2.1.length) ∧
 Fn P zS5 AcT (d5.2.2, ((Qa0 x.2.1 d5.2.1.toNat (0 : Int)), x.2.2)) (fun (d9 : Int) (e10 : MH) => Fn P zS4 AcU (e10, ((1 : Int), (((0 : Int), ((0 : Int), ((0 : Int), (0 : Int)))), (d9, d5.1)))) (fun (d11 : Int) (e12 : MH) => J7 (d11, e12)))) (fun d8 => J6 (d8.1, ((i64.wrap (d5.2.1 - (1 : Int))), d8.2)))) ∧ ((decide (d5.2.1 ≥ (0 : Int))) = false → J3 (d5.1, d5.2.2))))) (fun d4 => K d4.1 d4.2))
theorem Aew {P : Pg} (h : Has P Ac5) {x : DP Ac0.ps} {K : DP Ac0.rs → DP (ptrs Ac0.ps) → Prop} (hw : AdT P x K) : Fn P AcO Ac0 x K :=
 BI (c := Adz) h rfl rfl (by kernel_rfl) (Eq.mpr (show BC P Ac5 Ac0 Adz x K = _ by kernel_rfl) hw)
def AdA : Be :=
 (.seq (.region [o1 4 (.box 1), ia 6 (kI 0)]) (.seq (.region [fa 11 7 4, ld 12 11, o1 13 (.ixA 1 12 (kI 0)), ld 14 13, ia 7 14]) (.seq (.seq (.region [fa 15 6 4, ld 16 15, o1 17
 (.bin .lss 16 (kI 0))]) (.frame (rg [2, 8, 9] 18 17) [0] true (.join [.si 2, .bx 0 UH (.pair (.node .imm (.pair .leaf (.pair .leaf (.pair .leaf (.pair .leaf tM)))))
 (.pair tO tO))] (.cond 17 (.seq (.region [im 18 0, im 19 2, o1 20 (.build [(.int .i64 0), (.int .u64 0), (.int .u64 0), (.int .u64 0), (.int .u64 0), (.int .i64 0), (.int .i64 0)]
 [(0, 1, (kI 1)), (6, 1, 19)]), oS ⟨some 21, .call zS4 [18, 20], none⟩ AcU, ia 8 21]) (.seq (.region [im 22 0, im 23 7, im 24 8,
 oS ⟨some 25, .call zS5 [22, 23, 24], none⟩ AcT, ia 9 25]) (.seq (.region [im 26 0, o1 27 (.nilc 26), fa 28 2 27, ld 29 28,
 im 30 8, im 31 9, o1 32 (.ixA 7 29 30), fa 33 5 32, o0 ⟨none, .store 1 33 31, none⟩]) (.region [im 34 8, ia 2 34])))) .skip)))) (.seq (.region [im 35 2, ia 10 35]) (.seq (.seq
 (.region [fa 36 6 4, ld 37 36, fa 38 5 4, ld 39 38, o1 40 (.bin .sub 37 39), o1 41 (.mv (kI 0))]) (.frame (rg [2] 41 11) [0] true (.join [.si 2, .bx 0 UH (.pair
 (.node .imm (.pair .leaf (.pair .leaf (.pair .leaf (.pair .leaf tM))))) (.pair tO tO))] (.block 0 (.loop [.si 2, .si 41, .bx 0 UH (.pair (.node .imm (.pair .leaf
 (.pair .leaf (.pair .leaf (.pair .leaf tM))))) (.pair tO tO))] (.seq (.region [o1 42 (.bin .lss 41 40)]) (.seq (.cond 42 .skip (.exit 0)) (.seq (.frame (rg [2] 43 8) [0] true
 (.join [.si 2, .bx 0 UH (.pair (.node .imm (.pair .leaf (.pair .leaf (.pair .leaf (.pair .leaf tM))))) (.pair tO tO))] (.block 1 (.region [im 43 0, im 44 0, im 45
 7, im 46 2, oS ⟨some 47, .call zS5 [44, 45, 46], none⟩ AcT, im 48 10, o1 49 (.build [(.int .i64 0), (.int .u64 0), (.int
 .u64 0), (.int .u64 0), (.int .u64 0), (.int .i64 0), (.int .i64 0)] [(0, 1, (kI 1)), (5, 1, 47), (6, 1, 48)]), oS ⟨some 50, .call zS4 [43, 49],
 none⟩ AcU, ia 2 50])))) (.region [o1 51 (.bin .add 41 (kI 1)), im 41 51]))))))))) (.seq (.seq (.region [fa 52 5 4, ld 53 52, o1 54 (.mv (kI 0))]) (.frame (rg
 [2] 54 7) [0] true (.join [.si 2, .bx 0 UH (.pair (.node .imm (.pair .leaf (.pair .leaf (.pair .leaf (.pair .leaf tM))))) (.pair tO tO))] (.block 2 (.loop [.si 2,
 .si 54, .bx 0 UH (.pair (.node .imm (.pair .leaf (.pair .leaf (.pair .leaf (.pair .leaf tM))))) (.pair tO tO))] (.seq (.region [o1 55 (.bin .lss 54 53)]) (.seq
 (.cond 55 .skip (.exit 2)) (.seq (.frame (rg [2] 56 4) [0] true (.join [.si 2, .bx 0 UH (.pair (.node .imm (.pair .leaf (.pair .leaf (.pair .leaf (.pair .leaf
 tM))))) (.pair tO tO))] (.block 3 (.region [im 56 0, im 57 7, im 58 2, oS ⟨some 59, .call zS5 [56, 57, 58], none⟩ AcT, ia 2
 59])))) (.region [o1 60 (.bin .add 54 (kI 1)), im 54 60]))))))))) (.seq (.region [im 61 2, ia 6 61]) .ret)))))))
def Ac6 : AFn := ⟨ XI, AdA.erase, [.tmp 6], 3⟩
def AdU (P : Pg) (x : (MH × (Node × Int))) (K : Int → MH → Prop) : Prop :=
 (0 ≤ (0 : Int) ∧ (0 : Int) < (x.2.1.2.2.2.2.length : Int)) ∧
 ((Qa1 (0 : Int)) < x.2.1.2.2.2.2.length) ∧
 Ag (D := (Int × MH)) (fun J1 => (((decide (x.2.1.2.2.2.1 < (0 : Int))) = true → Fn P zS4 AcU (x.1, ((1 : Int), (((0 : Int), ((0 : Int), ((0 : Int), (0 : Int)))), ((0 : Int), x.2.2)))) (fun (d3 : Int) (e4 : MH) => Fn P zS5 AcT (e4, ((Qa0 x.2.1.2.2.2.2 (Qa1 (0 : Int)) (0 : Int)), d3)) (fun (d5 : Int) (e6 : MH) => (0 ≤ d3 ∧ d3 < (e6.2.2.length : Int)) ∧
 (d3.toNat < e6.2.2.length) ∧
 J1 (d3, (e6.1, (e6.2.1, (Qa3 e6.2.2 d3.toNat ((Qa0 e6.2.2 d3.toNat Aby).1, ((Qa0 e6.2.2 d3.toNat Aby).2.1, (d5, (Qa0 e6.2.2 d3.toNat Aby).2.2.2)))))))))) ∧ ((decide (x.2.1.2.2.2.1 < (0 : Int))) = false → J1 (x.2.2, x.1)))) (fun d2 => Ag (D := (Int × MH)) (fun J7 => B0 (D := (Int × (Int × MH))) (d2.1, ((0 : Int), d2.2)) (fun d9 J10 => (((decide (d9.2.1 < (i64.wrap (x.2.1.2.2.2.1 - x.2.1.2.2.1)))) = true → Ag (D := (Int × MH)) (fun J11 => Fn P zS5 AcT (d9.2.2, ((Qa0 x.2.1.2.2.2.2 (Qa1 (0 : Int)) (0 : Int)), d9.1)) (fun (d13 : Int) (e14 : MH) => Fn P zS4 AcU (e14, ((1 : Int), (((0 : Int), ((0 : Int), ((0 : Int), (0 : Int)))), (d13, d2.1)))) (fun (d15 : Int) (e16 : MH) => J11 (d15, e16)))) (fun d12 => J10 (d12.1, ((i64.wrap (d9.2.1 + (1 : Int))), d12.2)))) ∧ ((decide (d9.2.1 < (i64.wrap (x.2.1.2.2.2.1 - x.2.1.2.2.1)))) = false → J7 (d9.1, d9.2.2))))) (fun d8 => Ag (D := (Int × MH)) (fun J17 => B0 (D := (Int × (Int × MH))) (d8.1, ((0 : Int), d8.2)) (fun d19 J20 => (((decide (d19.2.1 < x.2.1.2.2.1)) = true → Ag (D := (Int × MH)) (fun J21 => Fn P zS5 AcT (d19.2.2, ((Qa0 x.2.1.2.2.2.2 (Qa1 (0 : Int)) (0 : Int)), d19.1)) (fun (d23 : Int) (e24 : MH) => J21 (d23, e24))) (fun d22 => J20 (d22.1, ((i64.wrap (d19.2.1 + (1 : Int))), d22.2)))) ∧ ((decide (d19.2.1 < x.2.1.2.2.1)) = false → J17 (d19.1, d19.2.2))))) (fun d18 => K d18.1 d18.2)))
theorem Aex {P : Pg} (h : Has P Ac6) {x : DP AcX.ps} {K : DP AcX.rs → DP (ptrs AcX.ps) → Prop} (hw : AdU P x K) : Fn P XI AcX x K :=
 BI (c := AdA) h rfl rfl (by kernel_rfl) (Eq.mpr (show BC P Ac6 AcX AdA x K = _ by kernel_rfl) hw)
def AdD : Be :=
 (.seq (.region [ia 6 (kI 0)]) (.seq (.seq (.region [im 9 0, o1 10 (.nilc 9), fa 11 1 10, ld 12 11, im 13 1, o1 14 (.ixA 1 12 13), ld 15 14, o1 16 (.bin .eql 15 (kI 0))]) (.cond 16
 (.seq (.region [im 17 2, ia 6 17]) .ret) .skip)) (.seq (.region [im 18 0, o1 19 (.nilc 18), fa 20 0 19, ld 21 20, im 22 1, o1 23 (.ixA 8 21 22), o1 24 (.load true 8 23), o1 7
 (.alloc [(.int .i64 0), (.int .u64 0), (.int .u64 0), (.int .u64 0), (.int .u64 0), (.int .i64 0), (.int .i64 0), (.slice none 0 0)]), o0 ⟨none, .store 8 7 24, none⟩]) (.seq (.seq
 (.region [fa 25 0 7, ld 26 25]) (.frame (rg [2, 6, 8] 27 51) [0] true (.join [.si 2, .si 6, .bx 0 UH (.pair (.node .imm (.pair .leaf (.pair .leaf (.pair .leaf
 (.pair .leaf tM))))) (.pair tO tO))] (.block 0 (.seq (.region [o1 28 (.bin .eql 26 (kI 1)), ia 27 28]) (.cond 27 (.seq (.region [im 29 0, fa 30 1 7, o1 31 (.load true 4 30), im 32
 2, o1 33 (.build [(.int .i64 0), (.int .u64 0), (.int .u64 0), (.int .u64 0), (.int .u64 0), (.int .i64 0), (.int .i64 0)] [(0, 1, (kI 0)), (1, 4, 31), (5, 1, 32)]), oS ⟨some 34,
 .call zS4 [29, 33], none⟩ AcU, ia 6 34]) .ret) (.seq (.region [o1 36 (.bin .eql 26 (kI 2)), ia 35 36]) (.cond 35 (.seq (.region
 [im 37 0, im 38 2, o1 39 (.build [(.int .i64 0), (.int .u64 0), (.int .u64 0), (.int .u64 0), (.int .u64 0), (.int .i64 0), (.int .i64 0)] [(0, 1, (kI 2)), (5, 1, 38)]), oS ⟨some
 40, .call zS4 [37, 39], none⟩ AcU, ia 6 40]) .ret) (.seq (.region [o1 42 (.bin .eql 26 (kI 3)), ia 41 42]) (.cond 41 (.seq
 (.region [im 43 0, im 44 2, o1 45 (.build [(.int .i64 0), (.int .u64 0), (.int .u64 0), (.int .u64 0), (.int .u64 0), (.int .i64 0), (.int .i64 0)] [(0, 1, (kI 3)), (5, 1, 44)]),
 oS ⟨some 46, .call zS4 [43, 45], none⟩ AcU, ia 6 46]) .ret) (.seq (.region [o1 48 (.bin .eql 26 (kI 4)), ia 47 48]) (.frame (rg
 [2, 6, 8] 49 29) [0] true (.join [.si 2, .si 6, .bx 0 UH (.pair (.node .imm (.pair .leaf (.pair .leaf (.pair .leaf (.pair .leaf tM))))) (.pair tO tO))] (.cond 47
 (.seq (.region [fa 49 7 7, ld 50 49, o1 51 (.lenK 50), o1 52 (.bin .sub 51 (kI 1)), ia 8 52]) (.frame (rg [2, 8] 53 12) [0] true (.join [.si 2, .bx 0 UH (.pair
 (.node .imm (.pair .leaf (.pair .leaf (.pair .leaf (.pair .leaf tM))))) (.pair tO tO))] (.block 1 (.loop [.si 2, .si 8, .bx 0 UH (.pair (.node .imm (.pair .leaf
 (.pair .leaf (.pair .leaf (.pair .leaf tM))))) (.pair tO tO))] (.seq (.seq (.region [im 53 8, o1 54 (.bin .geq 53 (kI 0))]) (.cond 54 .skip (.exit 1))) (.seq (.frame (rg [2] 57 8)
 [0] true (.join [.si 2, .bx 0 UH (.pair (.node .imm (.pair .leaf (.pair .leaf (.pair .leaf (.pair .leaf tM))))) (.pair tO tO))] (.block 2 (.region [im 57 0, fa 58 7
 7, ld 59 58, im 60 8, o1 61 (.ixA 1 59 60), ld 62 61, im 63 2, oS ⟨some 64, .call zS5 [57, 62, 63], none⟩ AcT, ia 2 64]))))
 (.region [im 55 8, o1 56 (.bin .sub 55 (kI 1)), ia 8 56])))))))) (.seq (.region [o1 66 (.bin .eql 26 (kI 5)), ia 65 66]) (.cond 65 (.seq (.region [im 67 0, fa 68 7 7, ld 69 68, im
 70 2, oS ⟨some 71, .call AcO [67, 69, 70], none⟩ Ac0, ia 6 71]) .ret) (.seq (.region [o1 73 (.bin .eql 26 (kI 6)), ia 72
 73]) (.cond 72 (.seq (.region [im 74 0, o1 75 (.load true 8 7), im 76 2, oS ⟨some 77, .call XI [74, 75, 76], none⟩ AcX,
 ia 6 77]) .ret) .skip)))))))))))))))))) (.seq (.region [im 78 2, ia 6 78]) .ret)))))
def Adb : AFn := ⟨ zS5, AdD.erase, [.tmp 6], 3⟩
def AdW (P : Pg) (x : (MH × (Int × Int))) (K : Int → MH → Prop) : Prop :=
 (0 ≤ x.2.1 ∧ x.2.1 < (x.1.2.1.length : Int)) ∧
 (x.2.1.toNat < x.1.2.1.length) ∧
 ((((Qa0 x.1.2.1 x.2.1.toNat (0 : Int)) == (0 : Int)) = true → K x.2.2 x.1) ∧ (((Qa0 x.1.2.1 x.2.1.toNat (0 : Int)) == (0 : Int)) = false → (0 ≤ x.2.1 ∧ x.2.1 < (x.1.1.length : Int)) ∧
 (x.2.1.toNat < x.1.1.length) ∧
 Ag (D := (Int × (Int × MH))) (fun J1 => ((((Qa0 x.1.1 x.2.1.toNat Ak).1 == (1 : Int)) = true → Fn P zS4 AcU (x.1, ((0 : Int), ((Qa0 x.1.1 x.2.1.toNat Ak).2.1, (x.2.2, (0 : Int))))) (fun (d3 : Int) (e4 : MH) => K d3 e4)) ∧ (((Qa0 x.1.1 x.2.1.toNat Ak).1 == (1 : Int)) = false → ((((Qa0 x.1.1 x.2.1.toNat Ak).1 == (2 : Int)) = true → Fn P zS4 AcU (x.1, ((2 : Int), (((0 : Int), ((0 : Int), ((0 : Int), (0 : Int)))), (x.2.2, (0 : Int))))) (fun (d5 : Int) (e6 : MH) => K d5 e6)) ∧ (((Qa0 x.1.1 x.2.1.toNat Ak).1 == (2 : Int)) = false → ((((Qa0 x.1.1 x.2.1.toNat Ak).1 == (3 : Int)) = true → Fn P zS4 AcU (x.1, ((3 : Int), (((0 : Int), ((0 : Int), ((0 : Int), (0 : Int)))), (x.2.2, (0 : Int))))) (fun (d7 : Int) (e8 : MH) => K d7 e8)) ∧ (((Qa0 x.1.1 x.2.1.toNat Ak).1 == (3 : Int)) = false → Ag (D := (Int × (Int × MH))) (fun J9 => ((((Qa0 x.1.1 x.2.1.toNat Ak).1 == (4 : Int)) = true → Ag (D := (Int × MH)) (fun J11 => B0 (D := (Int × (Int × MH))) (x.2.2, ((i64.wrap (((Qa2 (Qa0 x.1.1 x.2.1.toNat Ak).2.2.2.2 : Nat) : Int) - (1 : Int))), x.1)) (fun d13 J14 => (((decide (d13.2.1 ≥ (0 : Int))) = true → Ag (D := (Int × MH)) (fun J15 => (0 ≤ d13.2.1 ∧ d13.2.1 < ((Qa2 (Qa0 x.1.1 x.2.1.toNat Ak).2.2.2.2 : Nat) : Int)) ∧
 (d13.2.1.toNat < Qa2 (Qa0 x.1.1 x.2.1.toNat Ak).2.2.2.2) ∧
 Fn P zS5 AcT (d13.2.2, ((Qa0 (Qa0 x.1.1 x.2.1.toNat Ak).2.2.2.2 d13.2.1.toNat (0 : Int)), d13.1)) (fun (d17 : Int) (e18 : MH) => J15 (d17, e18))) (fun d16 => J14 (d16.1, ((i64.wrap (d13.2.1 - (1 : Int))), d16.2)))) ∧ ((decide (d13.2.1 ≥ (0 : Int))) = false → J11 (d13.1, d13.2.2))))) (fun d12 => J9 (d12.1, ((0 : Int), d12.2)))) ∧ (((Qa0 x.1.1 x.2.1.toNat Ak).1 == (4 : Int)) = false → ((((Qa0 x.1.1 x.2.1.toNat Ak).1 == (5 : Int)) = true → Fn P AcO Ac0 (x.1, ((Qa0 x.1.1 x.2.1.toNat Ak).2.2.2.2, x.2.2)) (fun (d19 : Int) (e20 : MH) => K d19 e20)) ∧ (((Qa0 x.1.1 x.2.1.toNat Ak).1 == (5 : Int)) = false → ((((Qa0 x.1.1 x.2.1.toNat Ak).1 == (6 : Int)) = true → Fn P XI AcX (x.1, ((Qa0 x.1.1 x.2.1.toNat Ak), x.2.2)) (fun (d21 : Int) (e22 : MH) => K d21 e22)) ∧ (((Qa0 x.1.1 x.2.1.toNat Ak).1 == (6 : Int)) = false → J9 (x.2.2, ((0 : Int), x.1))))))))) (fun d10 => J1 d10)))))))) (fun d2 => K d2.1 d2.2.2)))
theorem AeB {P : Pg} (h : Has P Adb) {x : DP AcT.ps} {K : DP AcT.rs → DP (ptrs AcT.ps) → Prop} (hw : AdW P x K) : Fn P zS5 AcT x K :=
 BI (c := AdD) h rfl rfl (by kernel_rfl) (Eq.mpr (show BC P Adb AcT AdD x K = _ by kernel_rfl) hw)
def Aea : Be :=
 (.seq (.region [o1 2 (.alloc [(.slice none 0 0), (.int .i64 0)]), ia 3 (kI 0)]) (.seq (.region [im 10 0, oS ⟨some 11, .call AcK [10], none⟩ Adl, im
 9 11, o1 12 (.ext 9 0), o1 13 (.ext 9 1), ia 4 12, ia 5 13]) (.seq (.frame (rg [3] 14 9) [1002] false (.join [.si 3, .bx 1002 (.pair (.sl Abt) bI) (.pair tO .leaf)] (.block 0
 (.seq (.region [im 15 5, o1 16 (.bin .neq 15 (kI 0)), ia 14 16]) (.cond 14 (.seq (.region [o1 17 (.build [(.slice none 0 0), (.int .i64 0)] []), im 18 5, o0 ⟨none, .store 2 2 17,
 none⟩, ia 3 18]) .ret) (.seq (.region [im 20 4, o1 21 (.bin .gtr 20 (kI 4000)), ia 19 21]) (.cond 19 (.seq (.region [o1 22 (.build [(.slice none 0 0), (.int .i64 0)] []), o0 ⟨none,
 .store 2 2 22, none⟩, ia 3 (kI 1)]) .ret) .skip))))))) (.seq (.region [im 23 0, im 24 0, oS ⟨some 25, .call VG [24], none⟩ Ac9, o1 26 (.build
 [(.slice none 0 0), (.slice none 0 0), (.slice none 0 0)] [(0, 1, 23), (1, 1, 25)]), o1 27 (.box 26), ia 6 27]) (.seq (.region [im 28 6, o1 29 (.build [(.int .i64 0), (.int .u64
 0), (.int .u64 0), (.int .u64 0), (.int .u64 0), (.int .i64 0), (.int .i64 0)] [(0, 1, (kI 4))]), oS ⟨some 30, .call zS4 [28, 29], none⟩
 AcU, ia 7 30]) (.seq (.region [im 31 6, im 32 0, o1 33 (.lenK 32), o1 34 (.bin .sub 33 (kI 1)), im 35 7, oS ⟨some 36, .call
 zS5 [31, 34, 35], none⟩ AcT, ia 8 36]) (.seq (.region [im 37 6, o1 38 (.nilc 37), fa 39 2 38, ld 40 39, im 41 8, o1 42
 (.build [(.slice none 0 0), (.int .i64 0)] [(0, 1, 40), (1, 1, 41)]), o0 ⟨none, .store 2 2 42, none⟩, ia 3 (kI 0)]) .ret)))))))
def AdP : AFn := ⟨ AcP, Aea.erase, [.cell 2 true 2, .tmp 3], 1⟩
def AeR (P : Pg) (x : (List Node)) (K : (((List State) × Int) × Int) → Unit → Prop) : Prop :=
 Fn P AcK Adl x (fun (d1 : (Int × Int)) _ => Ag (D := (Int × ((List State) × Int))) (fun J3 => (((d1.2 != (0 : Int)) = true → K (([], (0 : Int)), d1.2) ()) ∧ ((d1.2 != (0 : Int)) = false → (((decide (d1.1 > (4000 : Int))) = true → K (([], (0 : Int)), (1 : Int)) ()) ∧ ((decide (d1.1 > (4000 : Int))) = false → J3 ((0 : Int), ([], (0 : Int)))))))) (fun d4 => Fn P VG Ac9 x (fun (d5 : (List Int)) _ => Fn P zS4 AcU ((x, (d5, [])), ((4 : Int), (((0 : Int), ((0 : Int), ((0 : Int), (0 : Int)))), ((0 : Int), (0 : Int))))) (fun (d7 : Int) (e8 : MH) => Fn P zS5 AcT (e8, ((i64.wrap ((x.length : Int) - (1 : Int))), d7)) (fun (d9 : Int) (e10 : MH) => K ((e10.2.2, d9), (0 : Int)) ())))))
theorem AfY {P : Pg} (h : Has P AdP) {x : DP Adc.ps} {K : DP Adc.rs → DP (ptrs Adc.ps) → Prop} (hw : AeR P x K) : Fn P AcP Adc x K :=
 BI (c := Aea) h rfl rfl (by kernel_rfl) (Eq.mpr (show BC P AdP Adc Aea x K = _ by kernel_rfl) hw)
def Ae4 : Be :=
 (.seq (.region [o1 3 (.box 0), o1 6 (.alloc [(.int .i64 0), (.int .i64 0)]), o1 7 (.asg kF), ia 8 (kI 0)]) (.seq (.seq (.region [o1 12 (.load true 2 3), oS ⟨some 13, .call
 QU [12], none⟩ Ac2, ia 9 13]) (.seq (.region [im 14 9, o1 15 (.bin .neq 14 (kI 0))]) (.cond 15 (.seq (.region [o1 16 (.build [(.int .i64 0),
 (.int .i64 0)] []), im 17 9, o0 ⟨none, .store 2 6 16, none⟩, o1 7 (.asg kF), ia 8 17]) .ret) .skip))) (.seq (.seq (.region [im 18 2, o1 19 (.bin .lss 18 (kI 0)), im 20 19, gf 21 20
 (.mv 2), gf 22 20 (.mv 1), gf 23 20 (.lenS 22), gf 24 20 (.bin .gtr 21 23), o1 25 (.pick 20 kT 24)]) (.cond 25 (.seq (.region [o1 26 (.build [(.int .i64 0), (.int .i64 0)] []), o0
 ⟨none, .store 2 6 26, none⟩, o1 7 (.asg kF), ia 8 (kI 3)]) .ret) .skip)) (.seq (.region [o1 28 (.load true 2 3), im 29 1, im 30 2, oS ⟨some 31, .call XH [28,
 29, 30], none⟩ Adh, im 27 31, o1 32 (.ext 27 0), o1 33 (.ext 27 1), o1 10 (.alloc [(.int .i64 0), (.int .i64 0)]), o0 ⟨none, .store 2 10 32, none⟩, ia 11 33]) (.seq
 (.region [o1 34 (.load true 2 10), im 35 11, o0 ⟨none, .store 2 6 34, none⟩, ia 7 35, ia 8 (kI 0)]) .ret)))))
def Aen : AFn := ⟨ Ajc, Ae4.erase, [.cell 6 true 2, .tmp 7, .tmp 8], 3⟩
def AfQ (P : Pg) (x : (((List State) × Int) × ((List UInt8) × Int))) (K : ((Int × Int) × (Bool × Int)) → Unit → Prop) : Prop :=
 Fn P QU Ac2 x.1 (fun (d1 : Int) _ => (((d1 != (0 : Int)) = true → K (((0 : Int), (0 : Int)), (false, d1)) ()) ∧ ((d1 != (0 : Int)) = false → (((cond (decide (x.2.2 < (0 : Int))) true (decide (x.2.2 > (x.2.1.length : Int)))) = true → K (((0 : Int), (0 : Int)), (false, (3 : Int))) ()) ∧ ((cond (decide (x.2.2 < (0 : Int))) true (decide (x.2.2 > (x.2.1.length : Int)))) = false → Fn P XH Adh x (fun (d3 : ((Int × Int) × Bool)) _ => K (d3.1, (d3.2, (0 : Int))) ()))))))
theorem Ag2 {P : Pg} (h : Has P Aen) {x : DP Ady.ps} {K : DP Ady.rs → DP (ptrs Ady.ps) → Prop} (hw : AfQ P x K) : Fn P Ajc Ady x K :=
 BI (c := Ae4) h rfl rfl (by kernel_rfl) (Eq.mpr (show BC P Aen Ady Ae4 x K = _ by kernel_rfl) hw)
def Ae1 : Be :=
 (.seq (.region [o1 4 (.asg (.c (.slice none 0 0)))]) (.seq (.region [o1 5 (.asg (.c (.slice none 0 0)))]) (.seq (.seq (.region [ia 6 (kI 0)]) (.frame (rg [] 5 21) [] false (.join
 [.sl 5 false (.sl (.sl .bool)) (.node .own tO)] (.block 0 (.loop [.sl 5 false (.sl (.sl .bool)) (.node .own tO), .si 6] (.seq (.seq (.region [im 8 6, im 9 0, o1 10 (.lenS 9), o1 11
 (.bin .leq 8 10)]) (.cond 11 .skip (.exit 0))) (.seq (.frame (rg [5, 7] 14 12) [] false (.join [.sl 5 false (.sl (.sl .bool)) (.node .own tO)] (.block 1 (.seq (.region [im 14 0, o1
 15 (.lenS 14), o1 16 (.bin .add 15 (kI 1)), oT ⟨some 17, .mkSl 1 1 [(.bool false)] 16 16, none⟩ (some (.bool, .leaf)), ia 7 17]) (.seq (.region [im 18 7, im 19 6, im 20 1, o1 21
 (.ixA 1 18 19), o0 ⟨none, .store 1 21 20, none⟩]) (.region [im 22 5, im 23 7, oT ⟨some 24, .buildSl 1 [(.slice none 0 0)] 1 [(0, 23)], none⟩ (some ((.sl .bool), tO)), oT ⟨some 25,
 .app 1 24 22 24, none⟩ (some ((.sl .bool), tO)), ia 5 25])))))) (.region [im 12 6, o1 13 (.bin .add 12 (kI 1)), ia 6 13])))))))) (.seq (.region [im 26 5, ia 4 26]) .ret))))
def Aek : AFn := ⟨ Ajd, Ae1.erase, [.tmp 4], 2⟩
def AfN (P : Pg) (x : ((List UInt8) × Bool)) (K : (List (List Bool)) → Unit → Prop) : Prop :=
 Ag (D := (List (List Bool))) (fun J1 => B0 (D := ((List (List Bool)) × Int)) ([], (0 : Int)) (fun d3 J4 => (((decide (d3.2 ≤ (x.1.length : Int))) = true → Ag (D := (List (List Bool))) (fun J5 => (0 ≤ (i64.wrap ((x.1.length : Int) + (1 : Int))) ∧ (i64.wrap ((x.1.length : Int) + (1 : Int))) ≤ (i64.wrap ((x.1.length : Int) + (1 : Int))) ∧ ((1 : Nat) : Int) * (i64.wrap ((x.1.length : Int) + (1 : Int))) ≤ 281474976710656) ∧
 (0 ≤ d3.2 ∧ d3.2 < ((Qa2 (Qa4 (Qa1 (i64.wrap ((x.1.length : Int) + (1 : Int)))) false) : Nat) : Int)) ∧
 (d3.2.toNat < Qa2 (Qa4 (Qa1 (i64.wrap ((x.1.length : Int) + (1 : Int)))) false)) ∧
 ((d3.1.length + Qa2 ([(Qa3 (Qa4 (Qa1 (i64.wrap ((x.1.length : Int) + (1 : Int)))) false) d3.2.toNat x.2)] : List (List Bool))) * 24 ≤ 140737488355328) ∧
 J5 (d3.1 ++ ([(Qa3 (Qa4 (Qa1 (i64.wrap ((x.1.length : Int) + (1 : Int)))) false) d3.2.toNat x.2)] : List (List Bool)))) (fun d6 => J4 (d6, (i64.wrap (d3.2 + (1 : Int)))))) ∧ ((decide (d3.2 ≤ (x.1.length : Int))) = false → J1 d3.1)))) (fun d2 => K d2 ())
theorem AgZ {P : Pg} (h : Has P Aek) {x : DP Adw.ps} {K : DP Adw.rs → DP (ptrs Adw.ps) → Prop} (hw : AfN P x K) : Fn P Ajd Adw x K :=
 BI (c := Ae1) h rfl rfl (by kernel_rfl) (Eq.mpr (show BC P Aek Adw Ae1 x K = _ by kernel_rfl) hw)
def AfF : Be :=
 (.seq (.region [o1 2 (.box 0), o1 4 (.asg kF)]) (.seq (.region [im 5 1, o1 6 (.bin .quo 5 (.c (.int .u8 64))), o1 7 (.ixAr 4 1 2 6), ld 8 7, im 9 1, o1 10 (.bin .rem 9 (.c (.int
 .u8 64))), o1 11 (.bin .shr 8 10), o1 12 (.bin .and 11 (.c (.int .u64 1))), o1 13 (.bin .eql 12 (.c (.int .u64 1))), ia 4 13]) .ret))
def AeO : AFn := ⟨ VH, AfF.erase, [.tmp 4], 2⟩
def Agv (P : Pg) (x : ((Int × (Int × (Int × Int))) × Int)) (K : Bool → Unit → Prop) : Prop :=
 ((64 : Int) ≠ 0) ∧
 (0 ≤ (u8.wrap (Int.tdiv x.2 (64 : Int))) ∧ (u8.wrap (Int.tdiv x.2 (64 : Int))) < ((4 : Nat) : Int)) ∧
 ((Qa1 (u8.wrap (Int.tdiv x.2 (64 : Int)))) < 4) ∧
 ((64 : Int) ≠ 0) ∧
 (0 ≤ (Int.tmod x.2 (64 : Int))) ∧
 K ((u64.wrap ((BitVec.toNat (BitVec.ofInt u64.bits (Int.fdiv (Qa0 [x.1.1, x.1.2.1, x.1.2.2.1, x.1.2.2.2] (Qa1 (u8.wrap (Int.tdiv x.2 (64 : Int)))) (0 : Int)) (2 ^ (min (Qa1 (Int.tmod x.2 (64 : Int))) u64.bits))) &&& BitVec.ofInt u64.bits (1 : Int)) : Nat) : Int)) == (1 : Int)) ()
theorem AhE {P : Pg} (h : Has P AeO) {x : DP Adu.ps} {K : DP Adu.rs → DP (ptrs Adu.ps) → Prop} (hw : Agv P x K) : Fn P VH Adu x K :=
 BI (c := AfF) h rfl rfl (by kernel_rfl) (Eq.mpr (show BC P AeO Adu AfF x K = _ by kernel_rfl) hw)
def Aeq : Be :=
 (.seq (.region [o1 4 (.asg (.c (.slice none 0 0)))]) (.seq (.region [im 11 0, o1 12 (.lenK 11), ia 5 12]) (.seq (.region [o1 6 (.asg (.c (.slice none 0 0)))]) (.seq (.seq (.region
 [ia 7 (kI 0)]) (.frame (rg [6, 7, 8, 9, 10] 13 48) [] false (.join [.sl 6 false (.sl (.sl .bool)) (.node .own tO)] (.block 0 (.loop [.sl 6 false (.sl (.sl .bool)) (.node .own tO),
 .si 7] (.seq (.seq (.region [im 13 7, im 14 5, o1 15 (.bin .lss 13 14)]) (.cond 15 .skip (.exit 0))) (.seq (.frame (rg [6, 8, 9, 10] 18 43) [] false (.join [.sl 6 false (.sl (.sl
 .bool)) (.node .own tO)] (.block 1 (.seq (.region [im 18 5, oT ⟨some 19, .mkSl 1 1 [(.bool false)] 18 18, none⟩ (some (.bool, .leaf)), ia 8 19]) (.seq (.seq (.region [im 20 7, ia 9
 20]) (.frame (rg [8, 9, 10] 21 36) [] false (.join [.sl 8 false (.sl .bool) tO] (.block 2 (.loop [.sl 8 false (.sl .bool) tO, .si 9] (.seq (.seq (.region [im 21 9, im 22 5, o1 23
 (.bin .lss 21 22)]) (.cond 23 .skip (.exit 2))) (.seq (.frame (rg [8, 10] 26 31) [] false (.join [.sl 8 false (.sl .bool) tO] (.block 3 (.seq (.region [im 26 9, ia 10 26]) (.frame
 (rg [8, 10] 27 30) [] false (.join [.sl 8 false (.sl .bool) tO] (.block 4 (.loop [.sl 8 false (.sl .bool) tO, .si 10] (.seq (.seq (.region [im 27 10, im 28 5, o1 29 (.bin .lss 27
 28), im 30 29, gt 31 30 (.mv 0), gt 32 30 (.mv 7), gt 33 30 (.ixA 1 31 32), gt 34 30 (.load false 1 33), gt 35 30 (.mv 9), gt 36 30 (.ixA 1 34 35), gt 37 30 (.load false 1 36), o1
 38 (.pick 30 37 kF)]) (.cond 38 .skip (.exit 4))) (.seq (.frame (rg [8] 41 16) [] false (.join [.sl 8 false (.sl .bool) tO] (.block 5 (.region [im 41 8, im 42 10, im 43 8, im 44
 10, o1 45 (.ixA 1 43 44), ld 46 45, im 47 46, gf 48 47 (.mv 1), gf 49 47 (.mv 9), gf 50 47 (.ixA 1 48 49), gf 51 47 (.load false 1 50), gf 52 47 (.mv 10), gf 53 47 (.ixA 1 51 52),
 gf 54 47 (.load false 1 53), o1 55 (.pick 47 kT 54), o1 56 (.ixA 1 41 42), o0 ⟨none, .store 1 56 55, none⟩])))) (.region [im 39 10, o1 40 (.bin .add 39 (kI 1)), ia 10
 40]))))))))))) (.region [im 24 9, o1 25 (.bin .add 24 (kI 1)), ia 9 25])))))))) (.region [im 57 6, im 58 8, oT ⟨some 59, .buildSl 1 [(.slice none 0 0)] 1 [(0, 58)], none⟩ (some
 ((.sl .bool), tO)), oT ⟨some 60, .app 1 24 57 59, none⟩ (some ((.sl .bool), tO)), ia 6 60])))))) (.region [im 16 7, o1 17 (.bin .add 16 (kI 1)), ia 7 17])))))))) (.seq (.region [im
 61 6, ia 4 61]) .ret)))))
def Ad0 : AFn := ⟨ Oe, Aeq.erase, [.tmp 4], 2⟩
def Afn (P : Pg) (x : ((List (List Bool)) × (List (List Bool)))) (K : (List (List Bool)) → Unit → Prop) : Prop :=
 Ag (D := (List (List Bool))) (fun J1 => B0 (D := ((List (List Bool)) × Int)) ([], (0 : Int)) (fun d3 J4 => (((decide (d3.2 < (x.1.length : Int))) = true → Ag (D := (List (List Bool))) (fun J5 => (0 ≤ (x.1.length : Int) ∧ (x.1.length : Int) ≤ (x.1.length : Int) ∧ ((1 : Nat) : Int) * (x.1.length : Int) ≤ 281474976710656) ∧
 Ag (D := (List Bool)) (fun J7 => B0 (D := ((List Bool) × Int)) ((Qa4 (Qa1 (x.1.length : Int)) false), d3.2) (fun d9 J10 => (((decide (d9.2 < (x.1.length : Int))) = true → Ag (D := (List Bool)) (fun J11 => Ag (D := (List Bool)) (fun J13 => B0 (D := ((List Bool) × Int)) d9 (fun d15 J16 => (((decide (d15.2 < (x.1.length : Int))) = true → 0 ≤ d3.2 ∧ d3.2 < (x.1.length : Int))) ∧
 (((decide (d15.2 < (x.1.length : Int))) = true → d3.2.toNat < x.1.length)) ∧
 (((decide (d15.2 < (x.1.length : Int))) = true → 0 ≤ d9.2 ∧ d9.2 < ((Qa2 (Qa0 x.1 d3.2.toNat []) : Nat) : Int))) ∧
 (((decide (d15.2 < (x.1.length : Int))) = true → d9.2.toNat < Qa2 (Qa0 x.1 d3.2.toNat []))) ∧
 (((cond (decide (d15.2 < (x.1.length : Int))) (Qa0 (Qa0 x.1 d3.2.toNat []) d9.2.toNat false) false) = true → Ag (D := (List Bool)) (fun J17 => (0 ≤ d15.2 ∧ d15.2 < (d15.1.length : Int)) ∧
 (d15.2.toNat < d15.1.length) ∧
 (((Qa0 d15.1 d15.2.toNat false) = false → 0 ≤ d9.2 ∧ d9.2 < (x.2.length : Int))) ∧
 (((Qa0 d15.1 d15.2.toNat false) = false → d9.2.toNat < x.2.length)) ∧
 (((Qa0 d15.1 d15.2.toNat false) = false → 0 ≤ d15.2 ∧ d15.2 < ((Qa2 (Qa0 x.2 d9.2.toNat []) : Nat) : Int))) ∧
 (((Qa0 d15.1 d15.2.toNat false) = false → d15.2.toNat < Qa2 (Qa0 x.2 d9.2.toNat []))) ∧
 (0 ≤ d15.2 ∧ d15.2 < (d15.1.length : Int)) ∧
 (d15.2.toNat < d15.1.length) ∧
 J17 (Qa3 d15.1 d15.2.toNat (cond (Qa0 d15.1 d15.2.toNat false) true (Qa0 (Qa0 x.2 d9.2.toNat []) d15.2.toNat false)))) (fun d18 => J16 (d18, (i64.wrap (d15.2 + (1 : Int)))))) ∧ ((cond (decide (d15.2 < (x.1.length : Int))) (Qa0 (Qa0 x.1 d3.2.toNat []) d9.2.toNat false) false) = false → J13 d15.1)))) (fun d14 => J11 d14)) (fun d12 => J10 (d12, (i64.wrap (d9.2 + (1 : Int)))))) ∧ ((decide (d9.2 < (x.1.length : Int))) = false → J7 d9.1)))) (fun d8 => ((d3.1.length + Qa2 ([d8] : List (List Bool))) * 24 ≤ 140737488355328) ∧
 J5 (d3.1 ++ ([d8] : List (List Bool))))) (fun d6 => J4 (d6, (i64.wrap (d3.2 + (1 : Int)))))) ∧ ((decide (d3.2 < (x.1.length : Int))) = false → J1 d3.1)))) (fun d2 => K d2 ())
theorem Agq {P : Pg} (h : Has P Ad0) {x : DP Ac3.ps} {K : DP Ac3.rs → DP (ptrs Ac3.ps) → Prop} (hw : Afn P x K) : Fn P Oe Ac3 x K :=
 BI (c := Aeq) h rfl rfl (by kernel_rfl) (Eq.mpr (show BC P Ad0 Ac3 Aeq x K = _ by kernel_rfl) hw)
def Ae3 : Be :=
 (.seq (.region [o1 4 (.asg (.c (.slice none 0 0)))]) (.seq (.region [o1 5 (.asg (.c (.slice none 0 0)))]) (.seq (.seq (.region [ia 6 (kI 0)]) (.frame (rg [] 5 42) [] false (.join
 [.sl 5 false (.sl (.sl .bool)) (.node .own tO)] (.block 0 (.loop [.sl 5 false (.sl (.sl .bool)) (.node .own tO), .si 6] (.seq (.seq (.region [im 9 6, im 10 0, o1 11 (.lenK 10), o1
 12 (.bin .lss 9 11)]) (.cond 12 .skip (.exit 0))) (.seq (.frame (rg [5, 7, 8] 15 32) [] false (.join [.sl 5 false (.sl (.sl .bool)) (.node .own tO)] (.block 1 (.seq (.region [im 15
 0, o1 16 (.lenK 15), oT ⟨some 17, .mkSl 1 1 [(.bool false)] 16 16, none⟩ (some (.bool, .leaf)), ia 7 17]) (.seq (.seq (.region [ia 8 (kI 0)]) (.frame (rg [7, 8] 18 25) [] false
 (.join [.sl 7 false (.sl .bool) tO] (.block 2 (.loop [.sl 7 false (.sl .bool) tO, .si 8] (.seq (.seq (.region [im 18 8, im 19 0, o1 20 (.lenK 19), o1 21 (.bin .lss 18 20)]) (.cond
 21 .skip (.exit 2))) (.seq (.frame (rg [7] 24 19) [] false (.join [.sl 7 false (.sl .bool) tO] (.block 3 (.region [im 24 7, im 25 8, im 26 0, im 27 6, o1 28 (.ixA 1 26 27), ld 29
 28, im 30 8, o1 31 (.ixA 1 29 30), ld 32 31, im 33 32, gf 34 33 (.mv 1), gf 35 33 (.mv 6), gf 36 33 (.ixA 1 34 35), gf 37 33 (.load false 1 36), gf 38 33 (.mv 8), gf 39 33 (.ixA 1
 37 38), gf 40 33 (.load false 1 39), o1 41 (.pick 33 kT 40), o1 42 (.ixA 1 24 25), o0 ⟨none, .store 1 42 41, none⟩])))) (.region [im 22 8, o1 23 (.bin .add 22 (kI 1)), ia 8
 23])))))))) (.region [im 43 5, im 44 7, oT ⟨some 45, .buildSl 1 [(.slice none 0 0)] 1 [(0, 44)], none⟩ (some ((.sl .bool), tO)), oT ⟨some 46, .app 1 24 43 45, none⟩ (some ((.sl
 .bool), tO)), ia 5 46])))))) (.region [im 13 6, o1 14 (.bin .add 13 (kI 1)), ia 6 14])))))))) (.seq (.region [im 47 5, ia 4 47]) .ret))))
def Aem : AFn := ⟨ VI, Ae3.erase, [.tmp 4], 2⟩
def AfP (P : Pg) (x : ((List (List Bool)) × (List (List Bool)))) (K : (List (List Bool)) → Unit → Prop) : Prop :=
 Ag (D := (List (List Bool))) (fun J1 => B0 (D := ((List (List Bool)) × Int)) ([], (0 : Int)) (fun d3 J4 => (((decide (d3.2 < (x.1.length : Int))) = true → Ag (D := (List (List Bool))) (fun J5 => (0 ≤ (x.1.length : Int) ∧ (x.1.length : Int) ≤ (x.1.length : Int) ∧ ((1 : Nat) : Int) * (x.1.length : Int) ≤ 281474976710656) ∧
 Ag (D := (List Bool)) (fun J7 => B0 (D := ((List Bool) × Int)) ((Qa4 (Qa1 (x.1.length : Int)) false), (0 : Int)) (fun d9 J10 => (((decide (d9.2 < (x.1.length : Int))) = true → Ag (D := (List Bool)) (fun J11 => (0 ≤ d3.2 ∧ d3.2 < (x.1.length : Int)) ∧
 (d3.2.toNat < x.1.length) ∧
 (0 ≤ d9.2 ∧ d9.2 < ((Qa2 (Qa0 x.1 d3.2.toNat []) : Nat) : Int)) ∧
 (d9.2.toNat < Qa2 (Qa0 x.1 d3.2.toNat [])) ∧
 (((Qa0 (Qa0 x.1 d3.2.toNat []) d9.2.toNat false) = false → 0 ≤ d3.2 ∧ d3.2 < (x.2.length : Int))) ∧
 (((Qa0 (Qa0 x.1 d3.2.toNat []) d9.2.toNat false) = false → d3.2.toNat < x.2.length)) ∧
 (((Qa0 (Qa0 x.1 d3.2.toNat []) d9.2.toNat false) = false → 0 ≤ d9.2 ∧ d9.2 < ((Qa2 (Qa0 x.2 d3.2.toNat []) : Nat) : Int))) ∧
 (((Qa0 (Qa0 x.1 d3.2.toNat []) d9.2.toNat false) = false → d9.2.toNat < Qa2 (Qa0 x.2 d3.2.toNat []))) ∧
 (0 ≤ d9.2 ∧ d9.2 < (d9.1.length : Int)) ∧
 (d9.2.toNat < d9.1.length) ∧
 J11 (Qa3 d9.1 d9.2.toNat (cond (Qa0 (Qa0 x.1 d3.2.toNat []) d9.2.toNat false) true (Qa0 (Qa0 x.2 d3.2.toNat []) d9.2.toNat false)))) (fun d12 => J10 (d12, (i64.wrap (d9.2 + (1 : Int)))))) ∧ ((decide (d9.2 < (x.1.length : Int))) = false → J7 d9.1)))) (fun d8 => ((d3.1.length + Qa2 ([d8] : List (List Bool))) * 24 ≤ 140737488355328) ∧
 J5 (d3.1 ++ ([d8] : List (List Bool))))) (fun d6 => J4 (d6, (i64.wrap (d3.2 + (1 : Int)))))) ∧ ((decide (d3.2 < (x.1.length : Int))) = false → J1 d3.1)))) (fun d2 => K d2 ())
theorem Ag1 {P : Pg} (h : Has P Aem) {x : DP Adg.ps} {K : DP Adg.rs → DP (ptrs Adg.ps) → Prop} (hw : AfP P x K) : Fn P VI Adg x K :=
 BI (c := Ae3) h rfl rfl (by kernel_rfl) (Eq.mpr (show BC P Aem Adg Ae3 x K = _ by kernel_rfl) hw)
def Ae2 : Be :=
 (.seq (.region [o1 3 (.box 0), o1 6 (.asg (.c (.slice none 0 0)))]) (.seq (.region [im 15 2, fa 16 0 3, ld 17 16, o1 18 (.bin .eql 17 (kI 0)), im 19 18, gf 20 19 (.fAddr 0 3), gf
 21 19 (.load false 1 20), gf 22 19 (.bin .eql 21 (kI 4)), o1 23 (.pick 19 kT 22), im 24 23, gf 25 24 (.fAddr 0 3), gf 26 24 (.load false 1 25), gf 27 24 (.bin .eql 26 (kI 6)), o1
 28 (.pick 24 kT 27), oS ⟨some 29, .call Ajd [15, 28], none⟩ Adw, ia 7 29]) (.seq (.seq (.region [fa 30 0 3, ld 31 30]) (.frame (rg [7, 8, 9,
 10, 11, 12, 13, 14] 32 114) [] false (.join [.sl 7 false (.sl (.sl .bool)) (.node .own tO)] (.block 0 (.seq (.region [o1 33 (.bin .eql 31 (kI 1)), ia 32 33]) (.frame (rg [7, 8, 9,
 10, 11, 12, 13, 14] 34 112) [] false (.join [.sl 7 false (.sl (.sl .bool)) (.node .own tO)] (.cond 32 (.seq (.region [ia 8 (kI 0)]) (.frame (rg [7, 8] 34 19) [] false (.join [.sl 7
 false (.sl (.sl .bool)) (.node .own tO)] (.block 1 (.loop [.sl 7 false (.sl (.sl .bool)) (.node .own tO), .si 8] (.seq (.seq (.region [im 34 8, im 35 2, o1 36 (.lenS 35), o1 37
 (.bin .lss 34 36)]) (.cond 37 .skip (.exit 1))) (.seq (.frame (rg [7] 40 13) [] false (.join [.sl 7 false (.sl (.sl .bool)) (.node .own tO)] (.block 2 (.frame (rg [7] 40 13) []
 false (.join [.sl 7 false (.sl (.sl .bool)) (.node .own tO)] (.draw [(.first (im 40 7) (.first (im 41 8) (.first (o1 42 (.ixA 1 40 41)) (.first (im 44 8) (.first (o1 45 (.bin .add
 44 (kI 1))) (.first (fa 46 1 3) (.first (o1 47 (.load true 4 46)) (.first (im 48 2) (.first (im 49 8) (.first (o1 50 (.ixS 48 49)) (.alt (ld 43 42) (.alt (oS ⟨some 51, .call
 VH [47, 50], none⟩ Adu) (.first (o1 52 (.ixA 1 43 45)) (.alt (o0 ⟨none, .store 1 52 51, none⟩) .done .stop)) .stop) (.alt (oS ⟨some 51, .call
 VH [47, 50], none⟩ Adu) (.first (ld 43 42) (.first (o1 52 (.ixA 1 43 45)) (.alt (o0 ⟨none, .store 1 52 51, none⟩) .done .stop)))
 .stop))))))))))))])))))) (.region [im 38 8, o1 39 (.bin .add 38 (kI 1)), ia 8 39])))))))) (.seq (.region [o1 54 (.bin .eql 31 (kI 2)), ia 53 54]) (.frame (rg [7, 9, 10, 11, 12, 13,
 14] 55 91) [] false (.join [.sl 7 false (.sl (.sl .bool)) (.node .own tO)] (.cond 53 (.region [im 55 7, o1 56 (.ixA 1 55 (kI 0)), ld 57 56, o1 58 (.ixA 1 57 (kI 0)), o0 ⟨none,
 .store 1 58 kT, none⟩]) (.seq (.region [o1 60 (.bin .eql 31 (kI 3)), ia 59 60]) (.frame (rg [7, 9, 10, 11, 12, 13, 14] 61 85) [] false (.join [.sl 7 false (.sl (.sl .bool)) (.node
 .own tO)] (.cond 59 (.region [im 61 7, im 62 2, o1 63 (.lenS 62), o1 64 (.ixA 1 61 63), ld 65 64, im 66 2, o1 67 (.lenS 66), o1 68 (.ixA 1 65 67), o0 ⟨none, .store 1 68 kT, none⟩])
 (.seq (.region [o1 70 (.bin .eql 31 (kI 4)), ia 69 70]) (.frame (rg [7, 9, 10, 11, 12, 13, 14] 71 75) [] false (.join [.sl 7 false (.sl (.sl .bool)) (.node .own tO)] (.cond 69
 (.seq (.region [ia 9 (kI 0)]) (.frame (rg [7, 9] 71 17) [] false (.join [.sl 7 false (.sl (.sl .bool)) (.node .own tO)] (.block 3 (.loop [.sl 7 false (.sl (.sl .bool)) (.node .own
 tO), .si 9] (.seq (.seq (.region [im 71 9, fa 72 7 3, ld 73 72, o1 74 (.lenK 73), o1 75 (.bin .lss 71 74)]) (.cond 75 .skip (.exit 3))) (.seq (.frame (rg [7] 78 10) [] false (.join
 [.sl 7 false (.sl (.sl .bool)) (.node .own tO)] (.block 4 (.region [im 78 7, im 79 1, fa 80 7 3, ld 81 80, im 82 9, o1 83 (.ixA 1 81 82), ld 84 83, o1 85 (.ixA 1 79 84), ld 86 85,
 oS ⟨some 87, .call Oe [78, 86], none⟩ Ac3, ia 7 87])))) (.region [im 76 9, o1 77 (.bin .add 76 (kI 1)), ia 9 77])))))))) (.seq (.region
 [o1 89 (.bin .eql 31 (kI 5)), ia 88 89]) (.frame (rg [7, 10, 11, 12, 13, 14] 90 56) [] false (.join [.sl 7 false (.sl (.sl .bool)) (.node .own tO)] (.cond 88 (.seq (.region [ia 10
 (kI 0)]) (.frame (rg [7, 10] 90 17) [] false (.join [.sl 7 false (.sl (.sl .bool)) (.node .own tO)] (.block 5 (.loop [.sl 7 false (.sl (.sl .bool)) (.node .own tO), .si 10] (.seq
 (.seq (.region [im 90 10, fa 91 7 3, ld 92 91, o1 93 (.lenK 92), o1 94 (.bin .lss 90 93)]) (.cond 94 .skip (.exit 5))) (.seq (.frame (rg [7] 97 10) [] false (.join [.sl 7 false
 (.sl (.sl .bool)) (.node .own tO)] (.block 6 (.region [im 97 7, im 98 1, fa 99 7 3, ld 100 99, im 101 10, o1 102 (.ixA 1 100 101), ld 103 102, o1 104 (.ixA 1 98 103), ld 105 104,
 oS ⟨some 106, .call VI [97, 105], none⟩ Adg, ia 7 106])))) (.region [im 95 10, o1 96 (.bin .add 95 (kI 1)), ia 10 96])))))))) (.seq (.region
 [o1 108 (.bin .eql 31 (kI 6)), ia 107 108]) (.frame (rg [7, 11, 12, 13, 14] 109 37) [] false (.join [.sl 7 false (.sl (.sl .bool)) (.node .own tO)] (.cond 107 (.seq (.region [im
 109 1, fa 110 7 3, ld 111 110, o1 112 (.ixA 1 111 (kI 0)), ld 113 112, o1 114 (.ixA 1 109 113), ld 115 114, ia 11 115]) (.seq (.seq (.region [ia 12 (kI 0)]) (.frame (rg [7, 12] 116
 9) [] false (.join [.sl 7 false (.sl (.sl .bool)) (.node .own tO)] (.block 7 (.loop [.sl 7 false (.sl (.sl .bool)) (.node .own tO), .si 12] (.seq (.seq (.region [im 116 12, fa 117
 5 3, ld 118 117, o1 119 (.bin .lss 116 118)]) (.cond 119 .skip (.exit 7))) (.seq (.frame [7, 122, 123, 124] [] false (.join [.sl 7 false (.sl (.sl .bool)) (.node .own tO)] (.block
 8 (.region [im 122 7, im 123 11, oS ⟨some 124, .call Oe [122, 123], none⟩ Ac3, ia 7 124])))) (.region [im 120 12, o1 121 (.bin .add 120
 (kI 1)), ia 12 121])))))))) (.seq (.region [fa 125 6 3, ld 126 125, fa 127 5 3, ld 128 127, o1 129 (.bin .sub 126 128), ia 13 129]) (.seq (.seq (.region [fa 130 6 3, ld 131 130, o1
 132 (.bin .lss 131 (kI 0))]) (.frame [13, 133, 134, 135] [] false (.join [.si 13] (.cond 132 (.region [im 133 2, o1 134 (.lenS 133), o1 135 (.bin .add 134 (kI 1)), ia 13 135])
 .skip)))) (.seq (.region [ia 14 (kI 0)]) (.frame (rg [7, 14] 136 10) [] false (.join [.sl 7 false (.sl (.sl .bool)) (.node .own tO)] (.block 9 (.loop [.sl 7 false (.sl (.sl .bool))
 (.node .own tO), .si 14] (.seq (.seq (.region [im 136 14, im 137 13, o1 138 (.bin .lss 136 137)]) (.cond 138 .skip (.exit 9))) (.seq (.frame (rg [7] 141 5) [] false (.join [.sl 7
 false (.sl (.sl .bool)) (.node .own tO)] (.block 10 (.region [im 141 7, im 142 7, im 143 11, oS ⟨some 144, .call Oe [142, 143], none⟩
 Ac3, oS ⟨some 145, .call VI [141, 144], none⟩ Adg, ia 7 145])))) (.region [im 139 14, o1 140 (.bin .add 139 (kI 1)), ia 14
 140])))))))))))) .skip)))))))))))))))))))))))))))) (.seq (.region [im 146 7, ia 6 146]) .ret))))
def Ael : AFn := ⟨ Aje, Ae2.erase, [.tmp 6], 3⟩
def AfO (P : Pg) (x : (Node × ((List (List (List Bool))) × (List UInt8)))) (K : (List (List Bool)) → Unit → Prop) : Prop :=
 Fn P Ajd Adw (x.2.2, (cond (cond (x.1.1 == (0 : Int)) true (x.1.1 == (4 : Int))) true (x.1.1 == (6 : Int)))) (fun (d1 : (List (List Bool))) _ => Ag (D := (List (List Bool))) (fun J3 => Ag (D := (List (List Bool))) (fun J5 => (((x.1.1 == (1 : Int)) = true → Ag (D := (List (List Bool))) (fun J7 => B0 (D := ((List (List Bool)) × Int)) (d1, (0 : Int)) (fun d9 J10 => (((decide (d9.2 < (x.2.2.length : Int))) = true → Ag (D := (List (List Bool))) (fun J11 => Ag (D := (List (List Bool))) (fun J13 => (0 ≤ d9.2 ∧ d9.2 < (d9.1.length : Int)) ∧
 (0 ≤ d9.2 ∧ d9.2 < (x.2.2.length : Int)) ∧
 ((d9.2.toNat < d9.1.length) ∧
 (Fn P VH Adu (x.1.2.1, ((x.2.2.getD d9.2.toNat 0).toNat : Int)) (fun (d15 : Bool) _ => (d9.2.toNat < d9.1.length) ∧
 (0 ≤ (i64.wrap (d9.2 + (1 : Int))) ∧ (i64.wrap (d9.2 + (1 : Int))) < ((Qa2 (Qa0 d9.1 d9.2.toNat []) : Nat) : Int)) ∧
 ((d9.2.toNat < d9.1.length) ∧
 ((Qa1 (i64.wrap (d9.2 + (1 : Int)))) < Qa2 (Qa0 d9.1 d9.2.toNat [])) ∧
 J13 (Qa3 d9.1 d9.2.toNat (Qa3 (Qa0 d9.1 d9.2.toNat []) (Qa1 (i64.wrap (d9.2 + (1 : Int)))) d15))) ∧ True)) ∧ True) ∧ ((Fn P VH Adu (x.1.2.1, ((x.2.2.getD d9.2.toNat 0).toNat : Int)) (fun (d17 : Bool) _ => (d9.2.toNat < d9.1.length) ∧
 (d9.2.toNat < d9.1.length) ∧
 (0 ≤ (i64.wrap (d9.2 + (1 : Int))) ∧ (i64.wrap (d9.2 + (1 : Int))) < ((Qa2 (Qa0 d9.1 d9.2.toNat []) : Nat) : Int)) ∧
 ((d9.2.toNat < d9.1.length) ∧
 ((Qa1 (i64.wrap (d9.2 + (1 : Int)))) < Qa2 (Qa0 d9.1 d9.2.toNat [])) ∧
 J13 (Qa3 d9.1 d9.2.toNat (Qa3 (Qa0 d9.1 d9.2.toNat []) (Qa1 (i64.wrap (d9.2 + (1 : Int)))) d17))) ∧ True)) ∧ True)) (fun d14 => J11 d14)) (fun d12 => J10 (d12, (i64.wrap (d9.2 + (1 : Int)))))) ∧ ((decide (d9.2 < (x.2.2.length : Int))) = false → J7 d9.1)))) (fun d8 => J5 d8)) ∧ ((x.1.1 == (1 : Int)) = false → Ag (D := (List (List Bool))) (fun J19 => (((x.1.1 == (2 : Int)) = true → (0 ≤ (0 : Int) ∧ (0 : Int) < (d1.length : Int)) ∧
 ((Qa1 (0 : Int)) < d1.length) ∧
 ((Qa1 (0 : Int)) < d1.length) ∧
 (0 ≤ (0 : Int) ∧ (0 : Int) < ((Qa2 (Qa0 d1 (Qa1 (0 : Int)) []) : Nat) : Int)) ∧
 ((Qa1 (0 : Int)) < d1.length) ∧
 ((Qa1 (0 : Int)) < Qa2 (Qa0 d1 (Qa1 (0 : Int)) [])) ∧
 J19 (Qa3 d1 (Qa1 (0 : Int)) (Qa3 (Qa0 d1 (Qa1 (0 : Int)) []) (Qa1 (0 : Int)) true))) ∧ ((x.1.1 == (2 : Int)) = false → Ag (D := (List (List Bool))) (fun J21 => (((x.1.1 == (3 : Int)) = true → (0 ≤ (x.2.2.length : Int) ∧ (x.2.2.length : Int) < (d1.length : Int)) ∧
 ((Qa1 (x.2.2.length : Int)) < d1.length) ∧
 ((Qa1 (x.2.2.length : Int)) < d1.length) ∧
 (0 ≤ (x.2.2.length : Int) ∧ (x.2.2.length : Int) < ((Qa2 (Qa0 d1 (Qa1 (x.2.2.length : Int)) []) : Nat) : Int)) ∧
 ((Qa1 (x.2.2.length : Int)) < d1.length) ∧
 ((Qa1 (x.2.2.length : Int)) < Qa2 (Qa0 d1 (Qa1 (x.2.2.length : Int)) [])) ∧
 J21 (Qa3 d1 (Qa1 (x.2.2.length : Int)) (Qa3 (Qa0 d1 (Qa1 (x.2.2.length : Int)) []) (Qa1 (x.2.2.length : Int)) true))) ∧ ((x.1.1 == (3 : Int)) = false → Ag (D := (List (List Bool))) (fun J23 => (((x.1.1 == (4 : Int)) = true → Ag (D := (List (List Bool))) (fun J25 => B0 (D := ((List (List Bool)) × Int)) (d1, (0 : Int)) (fun d27 J28 => (((decide (d27.2 < (x.1.2.2.2.2.length : Int))) = true → Ag (D := (List (List Bool))) (fun J29 => (0 ≤ d27.2 ∧ d27.2 < (x.1.2.2.2.2.length : Int)) ∧
 (d27.2.toNat < x.1.2.2.2.2.length) ∧
 (0 ≤ (Qa0 x.1.2.2.2.2 d27.2.toNat (0 : Int)) ∧ (Qa0 x.1.2.2.2.2 d27.2.toNat (0 : Int)) < (x.2.1.length : Int)) ∧
 ((Qa1 (Qa0 x.1.2.2.2.2 d27.2.toNat (0 : Int))) < x.2.1.length) ∧
 Fn P Oe Ac3 (d27.1, (Qa0 x.2.1 (Qa1 (Qa0 x.1.2.2.2.2 d27.2.toNat (0 : Int))) [])) (fun (d31 : (List (List Bool))) _ => J29 d31)) (fun d30 => J28 (d30, (i64.wrap (d27.2 + (1 : Int)))))) ∧ ((decide (d27.2 < (x.1.2.2.2.2.length : Int))) = false → J25 d27.1)))) (fun d26 => J23 d26)) ∧ ((x.1.1 == (4 : Int)) = false → Ag (D := (List (List Bool))) (fun J33 => (((x.1.1 == (5 : Int)) = true → Ag (D := (List (List Bool))) (fun J35 => B0 (D := ((List (List Bool)) × Int)) (d1, (0 : Int)) (fun d37 J38 => (((decide (d37.2 < (x.1.2.2.2.2.length : Int))) = true → Ag (D := (List (List Bool))) (fun J39 => (0 ≤ d37.2 ∧ d37.2 < (x.1.2.2.2.2.length : Int)) ∧
 (d37.2.toNat < x.1.2.2.2.2.length) ∧
 (0 ≤ (Qa0 x.1.2.2.2.2 d37.2.toNat (0 : Int)) ∧ (Qa0 x.1.2.2.2.2 d37.2.toNat (0 : Int)) < (x.2.1.length : Int)) ∧
 ((Qa1 (Qa0 x.1.2.2.2.2 d37.2.toNat (0 : Int))) < x.2.1.length) ∧
 Fn P VI Adg (d37.1, (Qa0 x.2.1 (Qa1 (Qa0 x.1.2.2.2.2 d37.2.toNat (0 : Int))) [])) (fun (d41 : (List (List Bool))) _ => J39 d41)) (fun d40 => J38 (d40, (i64.wrap (d37.2 + (1 : Int)))))) ∧ ((decide (d37.2 < (x.1.2.2.2.2.length : Int))) = false → J35 d37.1)))) (fun d36 => J33 d36)) ∧ ((x.1.1 == (5 : Int)) = false → Ag (D := (List (List Bool))) (fun J43 => (((x.1.1 == (6 : Int)) = true → (0 ≤ (0 : Int) ∧ (0 : Int) < (x.1.2.2.2.2.length : Int)) ∧
 ((Qa1 (0 : Int)) < x.1.2.2.2.2.length) ∧
 (0 ≤ (Qa0 x.1.2.2.2.2 (Qa1 (0 : Int)) (0 : Int)) ∧ (Qa0 x.1.2.2.2.2 (Qa1 (0 : Int)) (0 : Int)) < (x.2.1.length : Int)) ∧
 ((Qa1 (Qa0 x.1.2.2.2.2 (Qa1 (0 : Int)) (0 : Int))) < x.2.1.length) ∧
 Ag (D := (List (List Bool))) (fun J45 => B0 (D := ((List (List Bool)) × Int)) (d1, (0 : Int)) (fun d47 J48 => (((decide (d47.2 < x.1.2.2.1)) = true → Ag (D := (List (List Bool))) (fun J49 => Fn P Oe Ac3 (d47.1, (Qa0 x.2.1 (Qa1 (Qa0 x.1.2.2.2.2 (Qa1 (0 : Int)) (0 : Int))) [])) (fun (d51 : (List (List Bool))) _ => J49 d51)) (fun d50 => J48 (d50, (i64.wrap (d47.2 + (1 : Int)))))) ∧ ((decide (d47.2 < x.1.2.2.1)) = false → J45 d47.1)))) (fun d46 => Ag (D := Int) (fun J53 => (((decide (x.1.2.2.2.1 < (0 : Int))) = true → J53 (i64.wrap ((x.2.2.length : Int) + (1 : Int)))) ∧ ((decide (x.1.2.2.2.1 < (0 : Int))) = false → J53 (i64.wrap (x.1.2.2.2.1 - x.1.2.2.1))))) (fun d54 => Ag (D := (List (List Bool))) (fun J55 => B0 (D := ((List (List Bool)) × Int)) (d46, (0 : Int)) (fun d57 J58 => (((decide (d57.2 < d54)) = true → Ag (D := (List (List Bool))) (fun J59 => Fn P Oe Ac3 (d57.1, (Qa0 x.2.1 (Qa1 (Qa0 x.1.2.2.2.2 (Qa1 (0 : Int)) (0 : Int))) [])) (fun (d61 : (List (List Bool))) _ => Fn P VI Adg (d57.1, d61) (fun (d63 : (List (List Bool))) _ => J59 d63))) (fun d60 => J58 (d60, (i64.wrap (d57.2 + (1 : Int)))))) ∧ ((decide (d57.2 < d54)) = false → J55 d57.1)))) (fun d56 => J43 d56)))) ∧ ((x.1.1 == (6 : Int)) = false → J43 d1))) (fun d44 => J33 d44)))) (fun d34 => J23 d34)))) (fun d24 => J21 d24)))) (fun d22 => J19 d22)))) (fun d20 => J5 d20)))) (fun d6 => J3 d6)) (fun d4 => K d4 ()))
theorem Ag0 {P : Pg} (h : Has P Ael) {x : DP Adx.ps} {K : DP Adx.rs → DP (ptrs Adx.ps) → Prop} (hw : AfO P x K) : Fn P Aje Adx x K :=
 BI (c := Ae2) h rfl rfl (by kernel_rfl) (Eq.mpr (show BC P Ael Adx Ae2 x K = _ by kernel_rfl) hw)
def Ae0 : Be :=
 (.seq (.region [o1 4 (.asg (.c (.slice none 0 0)))]) (.seq (.region [o1 5 (.asg (.c (.slice none 0 0)))]) (.seq (.seq (.region [ia 6 (kI 0)]) (.frame (rg [] 5 18) [] false (.join
 [.sl 5 false (.sl (.sl (.sl .bool))) (.node .own (.node .imm tM))] (.block 0 (.loop [.sl 5 false (.sl (.sl (.sl .bool))) (.node .own (.node .imm tM)), .si 6] (.seq (.seq (.region
 [im 7 6, im 8 0, o1 9 (.lenK 8), o1 10 (.bin .lss 7 9)]) (.cond 10 .skip (.exit 0))) (.seq (.frame (rg [5] 13 10) [] false (.join [.sl 5 false (.sl (.sl (.sl .bool))) (.node .own
 (.node .imm tM))] (.block 1 (.region [im 13 5, im 14 0, im 15 6, o1 16 (.ixA 8 14 15), o1 17 (.load true 8 16), im 18 5, im 19 1, oS ⟨some 20, .call
 Aje [17, 18, 19], none⟩ Adx, ⟨⟨some 21, .buildSl 1 [(.slice none 0 0)] 1 [(0, 20)], none⟩, some ((.sl (.sl .bool)), (.node .own tO)), ⟨[],
 []⟩, true, none, false, false⟩, oT ⟨some 22, .app 1 24 13 21, none⟩ (some ((.sl (.sl .bool)), (.node .imm tM))), ia 5 22])))) (.region [im 11 6, o1 12 (.bin .add 11 (kI 1)), ia 6
 12])))))))) (.seq (.region [im 23 5, im 24 5, o1 25 (.lenK 24), o1 26 (.bin .sub 25 (kI 1)), o1 27 (.ixA 1 23 26), ld 28 27, ia 4 28]) .ret))))
def Aej : AFn := ⟨ Ajf, Ae0.erase, [.tmp 4], 2⟩
def AfM (P : Pg) (x : ((List Node) × (List UInt8))) (K : (List (List Bool)) → Unit → Prop) : Prop :=
 Ag (D := (List (List (List Bool)))) (fun J1 => B0 (D := ((List (List (List Bool))) × Int)) ([], (0 : Int)) (fun d3 J4 => (((decide (d3.2 < (x.1.length : Int))) = true → Ag (D := (List (List (List Bool)))) (fun J5 => (0 ≤ d3.2 ∧ d3.2 < (x.1.length : Int)) ∧
 (d3.2.toNat < x.1.length) ∧
 Fn P Aje Adx ((Qa0 x.1 d3.2.toNat Ak), (d3.1, x.2)) (fun (d7 : (List (List Bool))) _ => ((d3.1.length + Qa2 ([d7] : List (List (List Bool)))) * 24 ≤ 140737488355328) ∧
 J5 (d3.1 ++ ([d7] : List (List (List Bool)))))) (fun d6 => J4 (d6, (i64.wrap (d3.2 + (1 : Int)))))) ∧ ((decide (d3.2 < (x.1.length : Int))) = false → J1 d3.1)))) (fun d2 => (0 ≤ (i64.wrap ((d2.length : Int) - (1 : Int))) ∧ (i64.wrap ((d2.length : Int) - (1 : Int))) < (d2.length : Int)) ∧
 ((Qa1 (i64.wrap ((d2.length : Int) - (1 : Int)))) < d2.length) ∧
 K (Qa0 d2 (Qa1 (i64.wrap ((d2.length : Int) - (1 : Int)))) []) ())
theorem AgY {P : Pg} (h : Has P Aej) {x : DP Adv.ps} {K : DP Adv.rs → DP (ptrs Adv.ps) → Prop} (hw : AfM P x K) : Fn P Ajf Adv x K :=
 BI (c := Ae0) h rfl rfl (by kernel_rfl) (Eq.mpr (show BC P Aej Adv Ae0 x K = _ by kernel_rfl) hw)
def AdM : Be :=
 (.seq (.region [o1 6 (.asg kF)]) (.seq (.region [im 19 0, im 20 1, oS ⟨some 21, .call XK [19, 20], none⟩ CJ, oS ⟨some 22, .call
 Ajl [21], none⟩ Cc, im 18 22, o1 23 (.ext 18 0), o1 24 (.ext 18 1), ia 7 23, ia 8 24]) (.seq (.seq (.region [im 25 8, o1 26 (.bin .neq 25 (kI 0))])
 (.cond 26 (.seq (.region [oS ⟨some 27, .call ND [], none⟩ Ac8, ia 6 27]) .ret) .skip)) (.seq (.region [im 28 0, oS ⟨some 29, .call
 Y5 [28, (kI 60)], none⟩ AdG, ia 9 29]) (.seq (.region [im 30 2, im 31 9, o1 32 (.lenS 31), o1 33 (.bin .add 32 (kI 1)), oS ⟨some 34, .call
 zS2 [30, 33], none⟩ BF, ia 2 34]) (.seq (.frz [7] (.region [im 36 7, oS ⟨some 37, .call AcP [36], none⟩ Adc,
 im 35 37, ⟨⟨some 38, .ext 35 0, none⟩, none, ⟨[], []⟩, true, none, false, false⟩, o1 39 (.ext 35 1), o1 10 (.alloc [(.slice none 0 0), (.int .i64 0)]), o0 ⟨none, .store 2 10 38,
 none⟩, ia 11 39])) (.seq (.region [o1 41 (.load true 2 10), im 42 9, im 43 2, oS ⟨some 44, .call Ajc [41, 42, 43], none⟩ Ady, im 40 44, o1 45 (.ext 40
 0), o1 46 (.ext 40 1), o1 47 (.ext 40 2), o1 12 (.alloc [(.int .i64 0), (.int .i64 0)]), o0 ⟨none, .store 2 12 45, none⟩, ia 13 46, ia 14 47]) (.seq (.seq (.region [im 48 11, o1 49
 (.bin .neq 48 (kI 0)), im 50 49, gf 51 50 (.mv 14), gf 52 50 (.bin .neq 51 (kI 0)), o1 53 (.pick 50 kT 52), im 54 53, gf 55 54 (.mv 7), gf 56 54 (.lenK 55), gf 57 54 (.bin .eql 56
 (kI 0)), o1 58 (.pick 54 kT 57), im 59 58, gf 60 59 (.mv 7), oS ⟨some 61, .call YZ [60], some (59, false)⟩ Adt, gf 62 59 (.bin .neq 61 (kI
 0)), o1 63 (.pick 59 kT 62)]) (.cond 63 (.seq (.region [o1 6 (.asg kF)]) .ret) .skip)) (.seq (.region [im 64 7, im 65 9, oS ⟨some 66, .call Ajf [64,
 65], none⟩ Adv, ia 15 66]) (.seq (.seq (.region [im 67 2, ia 16 67]) (.frame (rg [6, 16, 17] 68 31) [] false (.join [.sl 6 false .bool .leaf] (.block 0 (.loop [.sl 6
 false .bool .leaf, .si 16] (.seq (.seq (.region [im 68 16, im 69 9, o1 70 (.lenS 69), o1 71 (.bin .leq 68 70)]) (.cond 71 .skip (.exit 0))) (.seq (.frame (rg [6, 17] 74 25) []
 false (.join [.sl 6 false .bool .leaf] (.block 1 (.seq (.region [im 74 9, o1 75 (.lenS 74), ia 17 75]) (.frame (rg [6, 17] 76 23) [] false (.join [.sl 6 false .bool .leaf] (.block
 2 (.loop [.sl 6 false .bool .leaf, .si 17] (.seq (.seq (.region [im 76 17, im 77 16, o1 78 (.bin .geq 76 77)]) (.cond 78 .skip (.exit 2))) (.seq (.frame (rg [6] 81 18) [] false
 (.join [.sl 6 false .bool .leaf] (.block 3 (.seq (.region [im 81 15, im 82 16, o1 83 (.ixA 1 81 82), ld 84 83, im 85 17, o1 86 (.ixA 1 84 85), ld 87 86]) (.cond 87 (.seq (.region
 [im 88 13, im 89 88, gt 90 89 (.load true 2 12), gt 91 89 (.mv 16), gt 92 89 (.mv 17), gt 93 89 (.build [(.int .i64 0), (.int .i64 0)] [(0, 1, 91), (1, 1, 92)]), gt 94 89 (.eqA
 false [.int, .int] 90 93), o1 95 (.pick 89 94 kF), im 96 95, oS ⟨some 97, .call ND [], some (96, true)⟩ Ac8, o1 98 (.pick 96 97 kF), ia 6
 98]) .ret) .skip))))) (.region [im 79 17, o1 80 (.bin .sub 79 (kI 1)), ia 17 80]))))))))))) (.region [im 72 16, o1 73 (.bin .add 72 (kI 1)), ia 16 73])))))))) (.seq (.region [im 99
 13, o1 100 (.un .not 99), im 101 100, oS ⟨some 102, .call ND [], some (101, true)⟩ Ac8, o1 103 (.pick 101 102 kF), ia 6 103])
 .ret)))))))))))
def Ads : AFn := ⟨ Ajm, AdM.erase, [.tmp 6], 3⟩
def Ad9 (P : Pg) (x : ((List Int) × (Int × Int))) (K : Bool → Unit → Prop) : Prop :=
 Fn P XK CJ (x.1, x.2.1) (fun (d1 : (List UInt8)) _ => Fn P Ajl Cc d1 (fun (d3 : ((List Node) × Int)) _ => (((d3.2 != (0 : Int)) = true → Fn P ND Ac8 () (fun (d5 : Bool) _ => K d5 ())) ∧ ((d3.2 != (0 : Int)) = false → Fn P Y5 AdG (x.1, (60 : Int)) (fun (d7 : (List UInt8)) _ => Fn P zS2 BF (x.2.2, (i64.wrap ((d7.length : Int) + (1 : Int)))) (fun (d9 : Int) _ => Fn P AcP Adc d3.1 (fun (d11 : (((List State) × Int) × Int)) _ => Fn P Ajc Ady (d11.1, (d7, d9)) (fun (d13 : ((Int × Int) × (Bool × Int))) _ => Ag (D := Int) (fun J15 => (((cond (cond (d11.2 != (0 : Int)) true (d13.2.2 != (0 : Int))) true ((d3.1.length : Int) == (0 : Int))) = false → Fn P YZ Adt d3.1 (fun (d16 : Int) _ => J15 d16)) ∧ (((cond (cond (d11.2 != (0 : Int)) true (d13.2.2 != (0 : Int))) true ((d3.1.length : Int) == (0 : Int))) = true → J15 (0 : Int)) ∧ True))) (fun d17 => (((cond (cond (cond (d11.2 != (0 : Int)) true (d13.2.2 != (0 : Int))) true ((d3.1.length : Int) == (0 : Int))) true (d17 != (0 : Int))) = true → K false ()) ∧ ((cond (cond (cond (d11.2 != (0 : Int)) true (d13.2.2 != (0 : Int))) true ((d3.1.length : Int) == (0 : Int))) true (d17 != (0 : Int))) = false → Fn P Ajf Adv (d3.1, d7) (fun (d18 : (List (List Bool))) _ => Ag (D := Bool) (fun J20 => B0 (D := (Bool × Int)) (false, d9) (fun d22 J23 => (((decide (d22.2 ≤ (d7.length : Int))) = true → Ag (D := Bool) (fun J24 => Ag (D := Bool) (fun J26 => B0 (D := (Bool × Int)) (d22.1, (d7.length : Int)) (fun d28 J29 => (((decide (d28.2 ≥ d22.2)) = true → Ag (D := Bool) (fun J30 => (0 ≤ d22.2 ∧ d22.2 < (d18.length : Int)) ∧
 (d22.2.toNat < d18.length) ∧
 (0 ≤ d28.2 ∧ d28.2 < ((Qa2 (Qa0 d18 d22.2.toNat []) : Nat) : Int)) ∧
 (d28.2.toNat < Qa2 (Qa0 d18 d22.2.toNat [])) ∧
 (((Qa0 (Qa0 d18 d22.2.toNat []) d28.2.toNat false) = true → Ag (D := Bool) (fun J32 => (((cond d13.2.1 ((d13.1.1 == d22.2) && ((d13.1.2 == d28.2) && true)) false) = true → Fn P ND Ac8 () (fun (d33 : Bool) _ => J32 d33)) ∧ (((cond d13.2.1 ((d13.1.1 == d22.2) && ((d13.1.2 == d28.2) && true)) false) = false → J32 false) ∧ True))) (fun d34 => K (cond (cond d13.2.1 ((d13.1.1 == d22.2) && ((d13.1.2 == d28.2) && true)) false) d34 false) ())) ∧ ((Qa0 (Qa0 d18 d22.2.toNat []) d28.2.toNat false) = false → J30 d28.1))) (fun d31 => J29 (d31, (i64.wrap (d28.2 - (1 : Int)))))) ∧ ((decide (d28.2 ≥ d22.2)) = false → J26 d28.1)))) (fun d27 => J24 d27)) (fun d25 => J23 (d25, (i64.wrap (d22.2 + (1 : Int)))))) ∧ ((decide (d22.2 ≤ (d7.length : Int))) = false → J20 d22.1)))) (fun d21 => Ag (D := Bool) (fun J35 => (((!d13.2.1) = true → Fn P ND Ac8 () (fun (d36 : Bool) _ => J35 d36)) ∧ (((!d13.2.1) = false → J35 false) ∧ True))) (fun d37 => K (cond (!d13.2.1) d37 false) ()))))))))))))))
theorem Afa {P : Pg} (h : Has P Ads) {x : DP AcZ.ps} {K : DP AcZ.rs → DP (ptrs AcZ.ps) → Prop} (hw : Ad9 P x K) : Fn P Ajm AcZ x K :=
 BI (c := AdM) h rfl rfl (by kernel_rfl) (Eq.mpr (show BC P Ads AcZ AdM x K = _ by kernel_rfl) hw)
def E8 : Be :=
 (.seq (.region [o1 3 (.box 1), ia 4 (kI 0)]) (.seq (.frame (rg [] 5 10) [0] true (.join [.bx 0 Aw (.pair .leaf (.pair .leaf (.pair .leaf (.node .own (.pair .leaf (.pair
 .leaf (.pair .leaf (.pair .leaf tM))))))))] (.draw [(.first (im 5 0) (.first (im 6 0) (.first (o1 7 (.nilc 6)) (.first (fa 8 3 7) (.first (o1 10 (.load true 8 3)) (.alt (ld 9 8)
 (.alt (oT ⟨some 11, .buildSl 8 [(.int .i64 0), (.int .u64 0), (.int .u64 0), (.int .u64 0), (.int .u64 0), (.int .i64 0), (.int .i64 0), (.slice none 0 0)] 1 [(0, 10)], none⟩ (some
 (Fc, (.pair .leaf (.pair .leaf (.pair .leaf (.pair .leaf tM))))))) (.alt (oT ⟨some 12, .app 8 80 9 11, none⟩ (some (Fc, (.pair .leaf (.pair .leaf (.pair .leaf (.pair .leaf
 tM))))))) (.first (o1 13 (.nilc 5)) (.first (fa 14 3 13) (.alt (o0 ⟨none, .store 1 14 12, none⟩) .done .stop))) .stop) .stop) (.alt (oT ⟨some 11, .buildSl 8 [(.int .i64 0), (.int
 .u64 0), (.int .u64 0), (.int .u64 0), (.int .u64 0), (.int .i64 0), (.int .i64 0), (.slice none 0 0)] 1 [(0, 10)], none⟩ (some (Fc, (.pair .leaf (.pair .leaf (.pair .leaf
 (.pair .leaf tM))))))) (.first (ld 9 8) (.alt (oT ⟨some 12, .app 8 80 9 11, none⟩ (some (Fc, (.pair .leaf (.pair .leaf (.pair .leaf (.pair .leaf tM))))))) (.first (o1 13 (.nilc
 5)) (.first (fa 14 3 13) (.alt (o0 ⟨none, .store 1 14 12, none⟩) .done .stop))) .stop)) .stop)))))))]))) (.seq (.region [im 15 0, o1 16 (.nilc 15), fa 17 3 16, ld 18 17, o1 19
 (.lenK 18), o1 20 (.bin .sub 19 (kI 1)), ia 4 20]) .ret)))
def DE : AFn := ⟨ zS6, E8.erase, [.tmp 4], 2⟩
def Hw (P : Pg) (x : (Aa × Node)) (K : Int → Aa → Prop) : Prop :=
 Ag (D := Aa) (fun J1 => (((((x.1.2.2.2.length + Qa2 ([x.2] : List Node)) * 80 ≤ 140737488355328) ∧
 (J1 (x.1.1, (x.1.2.1, (x.1.2.2.1, (x.1.2.2.2 ++ ([x.2] : List Node)))))) ∧ True) ∧ True) ∧ True) ∧ (((((x.1.2.2.2.length + Qa2 ([x.2] : List Node)) * 80 ≤ 140737488355328) ∧
 (J1 (x.1.1, (x.1.2.1, (x.1.2.2.1, (x.1.2.2.2 ++ ([x.2] : List Node)))))) ∧ True) ∧ True) ∧ True)) (fun d2 => K (i64.wrap ((d2.2.2.2.length : Int) - (1 : Int))) d2)
theorem Lx {P : Pg} (h : Has P DE) {x : DP AG.ps} {K : DP AG.rs → DP (ptrs AG.ps) → Prop} (hw : Hw P x K) : Fn P zS6 AG x K :=
 BI (c := E8) h rfl rfl (by kernel_rfl) (Eq.mpr (show BC P DE AG E8 x K = _ by kernel_rfl) hw)
def Ev : Be :=
 (.seq (.region [ia 6 (kI 0)]) (.seq (.seq (.region [im 7 2, o1 8 (.lenK 7)]) (.frame (rg [6] 9 10) [0] true (.join [.si 6, .bx 0 Aw (.pair .leaf (.pair .leaf (.pair
 .leaf (.node .own (.pair .leaf (.pair .leaf (.pair .leaf (.pair .leaf tM))))))))] (.block 0 (.seq (.region [o1 10 (.bin .eql 8 (kI 0)), ia 9 10]) (.cond 9 (.seq (.region [im 11 0,
 o1 12 (.build [(.int .i64 0), (.int .u64 0), (.int .u64 0), (.int .u64 0), (.int .u64 0), (.int .i64 0), (.int .i64 0), (.slice none 0 0)] []), oS ⟨some 13, .call
 zS6 [11, 12], none⟩ AG, ia 6 13]) .ret) (.seq (.region [o1 15 (.bin .eql 8 (kI 1)), ia 14 15]) (.cond 14 (.seq (.region [im 16 2, o1 17
 (.ixA 1 16 (kI 0)), ld 18 17, ia 6 18]) .ret) .skip)))))))) (.seq (.region [im 19 0, im 20 1, im 21 2, o1 22 (.build [(.int .i64 0), (.int .u64 0), (.int .u64 0), (.int .u64 0),
 (.int .u64 0), (.int .i64 0), (.int .i64 0), (.slice none 0 0)] [(0, 1, 20), (7, 1, 21)]), oS ⟨some 23, .call zS6 [19, 22], none⟩ AG, ia
 6 23]) .ret)))
def Da : AFn := ⟨ Su, Ev.erase, [.tmp 6], 3⟩
def GB (P : Pg) (x : (Aa × (Int × (List Int)))) (K : Int → Aa → Prop) : Prop :=
 Ag (D := (Int × Aa)) (fun J1 => ((((x.2.2.length : Int) == (0 : Int)) = true → Fn P zS6 AG (x.1, ((0 : Int), (((0 : Int), ((0 : Int), ((0 : Int), (0 : Int)))), ((0 : Int), ((0 : Int), []))))) (fun (d3 : Int) (e4 : Aa) => K d3 e4)) ∧ (((x.2.2.length : Int) == (0 : Int)) = false → ((((x.2.2.length : Int) == (1 : Int)) = true → (0 ≤ (0 : Int) ∧ (0 : Int) < (x.2.2.length : Int)) ∧
 ((Qa1 (0 : Int)) < x.2.2.length) ∧
 K (Qa0 x.2.2 (Qa1 (0 : Int)) (0 : Int)) x.1) ∧ (((x.2.2.length : Int) == (1 : Int)) = false → J1 ((0 : Int), x.1)))))) (fun d2 => Fn P zS6 AG (d2.2, (x.2.1, (((0 : Int), ((0 : Int), ((0 : Int), (0 : Int)))), ((0 : Int), ((0 : Int), x.2.2))))) (fun (d5 : Int) (e6 : Aa) => K d5 e6))
theorem JR {P : Pg} (h : Has P Da) {x : DP A5.ps} {K : DP A5.rs → DP (ptrs A5.ps) → Prop} (hw : GB P x K) : Fn P Su A5 x K :=
 BI (c := Ev) h rfl rfl (by kernel_rfl) (Eq.mpr (show BC P Da A5 Ev x K = _ by kernel_rfl) hw)
def EN : Be :=
 (.seq (.region [o1 2 (.asg (.c (.int .u8 0))), o1 3 (.asg kF)]) (.seq (.seq (.draw [(.first (im 4 0) (.first (o1 5 (.nilc 4)) (.first (fa 6 1 5) (.first (ld 7 6) (.first (im 8 0)
 (.first (o1 9 (.nilc 8)) (.first (fa 10 0 9) (.first (ld 11 10) (.first (o1 12 (.lenS 11)) (.first (o1 13 (.bin .eql 7 12)) .done))))))))))]) (.cond 13 (.seq (.region [o1 2 (.asg
 (.c (.int .u8 0))), o1 3 (.asg kF)]) .ret) .skip)) (.seq (.frame (rg [2, 3] 14 9) [] false (.join [.sl 2 false (.int .u8) .leaf, .sl 3 false .bool .leaf] (.draw [(.first (im 14 0)
 (.first (o1 15 (.nilc 14)) (.first (fa 16 0 15) (.first (ld 17 16) (.first (im 18 0) (.first (o1 19 (.nilc 18)) (.first (fa 20 1 19) (.first (ld 21 20) (.first (o1 22 (.ixS 17 21))
 (.alt (ia 2 22) (.alt (o1 3 (.asg kT)) .done .stop) .stop))))))))))]))) .ret)))
def Dn : AFn := ⟨ zS7, EN.erase, [.tmp 2, .tmp 3], 1⟩
def GV (P : Pg) (x : Aa) (K : (Int × Bool) → Aa → Prop) : Prop :=
 (((x.2.1 == (x.1.length : Int)) = true → K ((0 : Int), false) x) ∧ ((x.2.1 == (x.1.length : Int)) = false → Ag (D := (Int × Bool)) (fun J1 => (0 ≤ x.2.1 ∧ x.2.1 < (x.1.length : Int)) ∧
 ((J1 (((x.1.getD x.2.1.toNat 0).toNat : Int), true)) ∧ True) ∧ True) (fun d2 => K d2 x)))
theorem Ku {P : Pg} (h : Has P Dn) {x : DP AF.ps} {K : DP AF.rs → DP (ptrs AF.ps) → Prop} (hw : GV P x K) : Fn P zS7 AF x K :=
 BI (c := EN) h rfl rfl (by kernel_rfl) (Eq.mpr (show BC P Dn AF EN x K = _ by kernel_rfl) hw)
def D7 : Be :=
 (.seq (.region [ia 4 (kI 0)]) (.seq (.region [im 8 0, o1 9 (.nilc 8), fa 10 1 9, ld 11 10, o1 12 (.bin .add 11 (kI 1)), o1 13 (.nilc 8), fa 14 1 13, o0 ⟨none, .store 1 14 12,
 none⟩]) (.seq (.region [im 15 0, im 16 1, o1 17 (.build [(.int .i64 0), (.int .u64 0), (.int .u64 0), (.int .u64 0), (.int .u64 0), (.int .i64 0), (.int .i64 0), (.slice none 0 0)]
 [(0, 1, 16)]), oS ⟨some 18, .call zS6 [15, 17], none⟩ AG, ia 5 18]) (.seq (.seq (.region [im 20 0, oS ⟨some 21, .call
 zS7 [20], none⟩ AF, im 19 21, o1 22 (.ext 19 0), o1 23 (.ext 19 1), ia 6 22, ia 7 23]) (.seq (.region [im 24 7, im 25 24, gt 26 25
 (.mv 6), oS ⟨some 27, .call "strings.IndexByte" [(.c (.string ⟨#[42, 43, 63, 123]⟩)), 26], some (25, true)⟩ Dt, gt 28 25 (.bin .geq 27 (kI 0)), o1 29 (.pick 25 28
 kF)]) (.frame [30] [] false (.join [] (.cond 29 (.region [o1 30 (.mkI 26 (kI 40)), o0 ⟨none, .panic 30, none⟩]) .skip))))) (.seq (.region [im 31 5, ia 4 31]) .ret)))))
def CX : AFn := ⟨ Sv, D7.erase, [.tmp 4], 2⟩
def FO (P : Pg) (x : (Aa × Int)) (K : Int → Aa → Prop) : Prop :=
 Fn P zS6 AG ((x.1.1, ((i64.wrap (x.1.2.1 + (1 : Int))), x.1.2.2)), (x.2, (((0 : Int), ((0 : Int), ((0 : Int), (0 : Int)))), ((0 : Int), ((0 : Int), []))))) (fun (d1 : Int) (e2 : Aa) => Fn P zS7 AF e2 (fun (d3 : (Int × Bool)) (e4 : Aa) => Ag (D := Int) (fun J5 => ((d3.2 = true → Fn P "strings.IndexByte" Dt (([42, 43, 63, 123] : List UInt8), d3.1) (fun (d6 : Int) _ => J5 d6)) ∧ ((d3.2 = false → J5 (0 : Int)) ∧ True))) (fun d7 => Ag (D := Unit) (fun J8 => (((cond d3.2 (decide (d7 ≥ (0 : Int))) false) = true → P.kp (.iface 26 (.int .i64 (40 : Int)))) ∧ ((cond d3.2 (decide (d7 ≥ (0 : Int))) false) = false → J8 ()))) (fun d9 => K d1 e4))))
theorem Jl {P : Pg} (h : Has P CX) {x : DP AY.ps} {K : DP AY.rs → DP (ptrs AY.ps) → Prop} (hw : FO P x K) : Fn P Sv AY x K :=
 BI (c := D7) h rfl rfl (by kernel_rfl) (Eq.mpr (show BC P CX AY D7 x K = _ by kernel_rfl) hw)
def EO : Be :=
 (.seq (.region [o1 4 (.asg (.c .nilFunc))]) (.seq (.seq (.region [im 5 1]) (.frame (rg [4] 6 22) [] false (.join [] (.block 0 (.seq (.region [o1 7 (.bin .eql 5 (.c (.int .u8 40))),
 ia 6 7]) (.cond 6 (.seq (.region [im 8 0, o1 9 (.mkf (Uq, true) [8]), ia 4 9]) .ret) (.seq (.region [o1 11 (.bin .eql 5 (.c (.int .u8 91))), ia
 10 11]) (.cond 10 (.seq (.region [im 12 0, o1 13 (.mkf (Ur, true) [12]), ia 4 13]) .ret) (.seq (.region [o1 15 (.bin .eql 5 (.c (.int .u8 46))), ia
 14 15]) (.cond 14 (.seq (.region [im 16 0, o1 17 (.mkf (Us, true) [16]), ia 4 17]) .ret) (.seq (.region [o1 19 (.bin .eql 5 (.c (.int .u8 92))), ia 18
 19]) (.cond 18 (.seq (.region [im 20 0, o1 21 (.mkf (Ut, true) [20]), ia 4 21]) .ret) (.seq (.seq (.region [o1 23 (.bin .eql 5 (.c (.int .u8 42))),
 ia 22 23]) (.frame [22, 24, 25, 26] [] false (.join [.sl 22 false .bool .leaf] (.cond 22 .skip (.seq (.region [o1 24 (.bin .eql 5 (.c (.int .u8 43))), ia 22 24]) (.frame [22, 25,
 26] [] false (.join [.sl 22 false .bool .leaf] (.cond 22 .skip (.seq (.region [o1 25 (.bin .eql 5 (.c (.int .u8 63))), ia 22 25]) (.frame [22, 26] [] false (.join [.sl 22 false
 .bool .leaf] (.cond 22 .skip (.region [o1 26 (.bin .eql 5 (.c (.int .u8 123))), ia 22 26]))))))))))))) (.frame [27] [] false (.join [] (.cond 22 (.region [o1 27 (.mkI 26 (kI 40)),
 o0 ⟨none, .panic 27, none⟩]) .skip)))))))))))))))) (.seq (.region [im 28 0, o1 29 (.mkf (XD, true) [28]), ia 4 29]) .ret)))
def Dp : AFn := ⟨ Ajg, EO.erase, [.tmp 4], 2⟩
def GW (P : Pg) (x : (Aa × Int)) (K : Int → Aa → Prop) : Prop :=
 Ag (D := Unit) (fun J1 => (((x.2 == (40 : Int)) = true → K (0 : Int) x.1) ∧ ((x.2 == (40 : Int)) = false → (((x.2 == (91 : Int)) = true → K (1 : Int) x.1) ∧ ((x.2 == (91 : Int)) = false → (((x.2 == (46 : Int)) = true → K (2 : Int) x.1) ∧ ((x.2 == (46 : Int)) = false → (((x.2 == (92 : Int)) = true → K (3 : Int) x.1) ∧ ((x.2 == (92 : Int)) = false → Ag (D := Bool) (fun J3 => (((x.2 == (42 : Int)) = true → J3 (x.2 == (42 : Int))) ∧ ((x.2 == (42 : Int)) = false → Ag (D := Bool) (fun J5 => (((x.2 == (43 : Int)) = true → J5 (x.2 == (43 : Int))) ∧ ((x.2 == (43 : Int)) = false → Ag (D := Bool) (fun J7 => (((x.2 == (63 : Int)) = true → J7 (x.2 == (63 : Int))) ∧ ((x.2 == (63 : Int)) = false → J7 (x.2 == (123 : Int))))) (fun d8 => J5 d8)))) (fun d6 => J3 d6)))) (fun d4 => Ag (D := Unit) (fun J9 => ((d4 = true → P.kp (.iface 26 (.int .i64 (40 : Int)))) ∧ (d4 = false → J9 ()))) (fun d10 => J1 ()))))))))))) (fun d2 => K (4 : Int) x.1)
theorem Kv {P : Pg} (h : Has P Dp) {x : DP BH.ps} {K : DP BH.rs → DP (ptrs BH.ps) → Prop} (hw : GW P x K) : Fn P Ajg BH x K :=
 BI (c := EO) h rfl rfl (by kernel_rfl) (Eq.mpr (show BC P Dp BH EO x K = _ by kernel_rfl) hw)
def Fa : Be :=
 (.seq (.region [o1 4 (.asg kF)]) (.seq (.region [im 8 0, oS ⟨some 9, .call zS7 [8], none⟩ AF, im 7 9, o1 10 (.ext 7 0), o1 11 (.ext 7
 1), ia 5 10, ia 6 11]) (.seq (.seq (.region [im 12 6, o1 13 (.un .not 12), im 14 13, gf 15 14 (.mv 5), gf 16 14 (.mv 1), gf 17 14 (.bin .neq 15 16), o1 18 (.pick 14 kT 17)]) (.cond
 18 (.seq (.region [o1 4 (.asg kF)]) .ret) .skip)) (.seq (.region [im 19 0, o1 20 (.nilc 19), fa 21 1 20, ld 22 21, o1 23 (.bin .add 22 (kI 1)), o1 24 (.nilc 19), fa 25 1 24, o0
 ⟨none, .store 1 25 23, none⟩]) (.seq (.region [o1 4 (.asg kT)]) .ret)))))
def DG : AFn := ⟨ zS1, Fa.erase, [.tmp 4], 2⟩
def Hy (P : Pg) (x : (Aa × Int)) (K : Bool → Aa → Prop) : Prop :=
 Fn P zS7 AF x.1 (fun (d1 : (Int × Bool)) (e2 : Aa) => (((cond (!d1.2) true (d1.1 != x.2)) = true → K false e2) ∧ ((cond (!d1.2) true (d1.1 != x.2)) = false → K true (e2.1, ((i64.wrap (e2.2.1 + (1 : Int))), e2.2.2)))))
theorem Lz {P : Pg} (h : Has P DG) {x : DP As.ps} {K : DP As.rs → DP (ptrs As.ps) → Prop} (hw : Hy P x K) : Fn P zS1 As x K :=
 BI (c := Fa) h rfl rfl (by kernel_rfl) (Eq.mpr (show BC P DG As Fa x K = _ by kernel_rfl) hw)
def JF : Be :=
 (.seq (.region [o1 4 (.asg kF)]) (.seq (.region [im 5 1, im 6 0, o1 7 (.lenS 6), o1 8 (.bin .lss 5 7), im 9 8, gt 10 9 (.mv 0), gt 11 9 (.mv 1), gt 12 9 (.ixS 10 11), gt 13 9 (.bin
 .geq 12 (.c (.int .u8 48))), o1 14 (.pick 9 13 kF), im 15 14, gt 16 15 (.mv 0), gt 17 15 (.mv 1), gt 18 15 (.ixS 16 17), gt 19 15 (.bin .leq 18 (.c (.int .u8 57))), o1 20 (.pick 15
 19 kF), ia 4 20]) .ret))
def G0 : AFn := ⟨ VJ, JF.erase, [.tmp 4], 2⟩
def ME (P : Pg) (x : ((List UInt8) × Int)) (K : Bool → Unit → Prop) : Prop :=
 (((decide (x.2 < (x.1.length : Int))) = true → 0 ≤ x.2 ∧ x.2 < (x.1.length : Int))) ∧
 (((cond (decide (x.2 < (x.1.length : Int))) (decide (((x.1.getD x.2.toNat 0).toNat : Int) ≥ (48 : Int))) false) = true → 0 ≤ x.2 ∧ x.2 < (x.1.length : Int))) ∧
 K (cond (cond (decide (x.2 < (x.1.length : Int))) (decide (((x.1.getD x.2.toNat 0).toNat : Int) ≥ (48 : Int))) false) (decide (((x.1.getD x.2.toNat 0).toNat : Int) ≤ (57 : Int))) false) ()
theorem QD {P : Pg} (h : Has P G0) {x : DP Cy.ps} {K : DP Cy.rs → DP (ptrs Cy.ps) → Prop} (hw : ME P x K) : Fn P VJ Cy x K :=
 BI (c := JF) h rfl rfl (by kernel_rfl) (Eq.mpr (show BC P G0 Cy JF x K = _ by kernel_rfl) hw)
def IJ : Be :=
 (.seq (.region [ia 4 (kI 0), ia 5 (kI 0), o1 6 (.asg kF)]) (.seq (.seq (.region [im 9 1, o1 10 (.bin .lss 9 (kI 0)), im 11 10, gf 12 11 (.mv 0), gf 13 11 (.mv 1), oS ⟨some 14,
 .call VJ [12, 13], some (11, false)⟩ Cy, gf 15 11 (.un .not 14), o1 16 (.pick 11 kT 15)]) (.cond 16 (.seq (.region [ia 4 (kI 0), ia 5 (kI 0), o1 6
 (.asg kF)]) .ret) .skip)) (.seq (.region [im 17 1, ia 7 (kI 0), ia 8 17]) (.seq (.frame (rg [7, 8] 18 14) [] false (.join [.si 7, .si 8] (.block 0 (.loop [.si 7, .si 8] (.seq (.seq
 (.region [im 18 0, im 19 8, oS ⟨some 20, .call VJ [18, 19], none⟩ Cy]) (.cond 20 .skip (.exit 0))) (.seq (.frame (rg [7] 23 9) [] false (.join [.si 7]
 (.block 1 (.region [im 23 7, o1 24 (.bin .mul (kI 10) 23), im 25 0, im 26 8, o1 27 (.ixS 25 26), o1 28 (.bin .sub 27 (.c (.int .u8 48))), o1 29 (.conv (.toInt .i64) 28), o1 30
 (.bin .add 24 29), o1 31 (.mm false 30 (kI 2147483648)), ia 7 31])))) (.region [im 21 8, o1 22 (.bin .add 21 (kI 1)), ia 8 22]))))))) (.seq (.seq (.region [im 32 7, o1 33 (.bin
 .gtr 32 (kI 2147483647)), im 34 33, gf 35 34 (.mv 0), gf 36 34 (.mv 1), gf 37 34 (.ixS 35 36), gf 38 34 (.bin .eql 37 (.c (.int .u8 48))), gf 39 34 (.mv 38), gt 40 39 (.mv 8), gt
 41 39 (.mv 1), gt 42 39 (.bin .add 41 (kI 1)), gt 43 39 (.bin .gtr 40 42), gf 44 34 (.pick 39 43 kF), o1 45 (.pick 34 kT 44)]) (.cond 45 (.seq (.region [ia 4 (kI 0), ia 5 (kI 0),
 o1 6 (.asg kF)]) .ret) .skip)) (.seq (.region [im 46 7, im 47 8, ia 4 46, ia 5 47, o1 6 (.asg kT)]) .ret))))))
def Gn : AFn := ⟨ Ajh, IJ.erase, [.tmp 4, .tmp 5, .tmp 6], 2⟩
def LV (P : Pg) (x : ((List UInt8) × Int)) (K : (Int × (Int × Bool)) → Unit → Prop) : Prop :=
 Ag (D := Bool) (fun J1 => (((decide (x.2 < (0 : Int))) = false → Fn P VJ Cy x (fun (d2 : Bool) _ => J1 d2)) ∧ (((decide (x.2 < (0 : Int))) = true → J1 false) ∧ True))) (fun d3 => (((cond (decide (x.2 < (0 : Int))) true (!d3)) = true → K ((0 : Int), ((0 : Int), false)) ()) ∧ ((cond (decide (x.2 < (0 : Int))) true (!d3)) = false → Ag (D := (Int × Int)) (fun J4 => B0 (D := (Int × Int)) ((0 : Int), x.2) (fun d6 J7 => Fn P VJ Cy (x.1, d6.2) (fun (d8 : Bool) _ => ((d8 = true → Ag (D := Int) (fun J10 => (0 ≤ d6.2 ∧ d6.2 < (x.1.length : Int)) ∧
 J10 (if (2147483648 : Int) < (i64.wrap ((i64.wrap ((10 : Int) * d6.1)) + (i64.wrap (u8.wrap (((x.1.getD d6.2.toNat 0).toNat : Int) - (48 : Int)))))) then (2147483648 : Int) else (i64.wrap ((i64.wrap ((10 : Int) * d6.1)) + (i64.wrap (u8.wrap (((x.1.getD d6.2.toNat 0).toNat : Int) - (48 : Int)))))))) (fun d11 => J7 (d11, (i64.wrap (d6.2 + (1 : Int)))))) ∧ (d8 = false → J4 d6))))) (fun d5 => (((decide (d5.1 > (2147483647 : Int))) = false → 0 ≤ x.2 ∧ x.2 < (x.1.length : Int))) ∧
 (((cond (decide (d5.1 > (2147483647 : Int))) true (cond (((x.1.getD x.2.toNat 0).toNat : Int) == (48 : Int)) (decide (d5.2 > (i64.wrap (x.2 + (1 : Int))))) false)) = true → K ((0 : Int), ((0 : Int), false)) ()) ∧ ((cond (decide (d5.1 > (2147483647 : Int))) true (cond (((x.1.getD x.2.toNat 0).toNat : Int) == (48 : Int)) (decide (d5.2 > (i64.wrap (x.2 + (1 : Int))))) false)) = false → K (d5.1, (d5.2, true)) ()))))))
theorem PC {P : Pg} (h : Has P Gn) {x : DP CM.ps} {K : DP CM.rs → DP (ptrs CM.ps) → Prop} (hw : LV P x K) : Fn P Ajh CM x K :=
 BI (c := IJ) h rfl rfl (by kernel_rfl) (Eq.mpr (show BC P Gn CM IJ x K = _ by kernel_rfl) hw)
def Ea : Be :=
 (.seq (.region [ia 2 (kI 0)]) (.seq (.frame (rg [] 3 16) [] false (.join [.si 3, .si 4, .sl 5 false .bool .leaf] (.draw [(.first (im 7 0) (.first (o1 8 (.nilc 7)) (.first (fa 9 0
 8) (.first (ld 10 9) (.first (im 11 0) (.first (o1 12 (.nilc 11)) (.first (fa 13 1 12) (.first (ld 14 13) (.alt (oS ⟨some 15, .call Ajh [10, 14], none⟩
 CM) (.first (im 6 15) (.alt (o1 16 (.ext 6 0)) (.alt (o1 17 (.ext 6 1)) (.alt (o1 18 (.ext 6 2)) (.alt (ia 3 16) (.alt (ia 4 17) (.alt (ia 5 18) .done .stop) .stop)
 .stop) (.alt (ia 3 16) (.alt (o1 18 (.ext 6 2)) (.alt (ia 4 17) (.alt (ia 5 18) .done .stop) .stop) (.alt (ia 4 17) (.alt (o1 18 (.ext 6 2)) (.alt (ia 5 18) .done .stop) .stop)
 .stop)) .stop)) (.alt (o1 18 (.ext 6 2)) (.alt (o1 17 (.ext 6 1)) (.alt (ia 3 16) (.alt (ia 4 17) (.alt (ia 5 18) .done .stop) .stop) .stop) (.alt (ia 3 16) (.alt (o1 17 (.ext 6
 1)) (.alt (ia 4 17) (.alt (ia 5 18) .done .stop) .stop) .stop) .stop)) (.alt (ia 3 16) (.alt (o1 17 (.ext 6 1)) (.alt (o1 18 (.ext 6 2)) (.alt (ia 4 17) (.alt (ia 5 18) .done
 .stop) .stop) (.alt (ia 4 17) (.alt (o1 18 (.ext 6 2)) (.alt (ia 5 18) .done .stop) .stop) .stop)) (.alt (o1 18 (.ext 6 2)) (.alt (o1 17 (.ext 6 1)) (.alt (ia 4 17) (.alt (ia 5 18)
 .done .stop) .stop) .stop) .stop)) .stop))) (.alt (o1 17 (.ext 6 1)) (.alt (o1 16 (.ext 6 0)) (.alt (o1 18 (.ext 6 2)) (.alt (ia 3 16) (.alt (ia 4 17) (.alt (ia 5 18) .done .stop)
 .stop) .stop) (.alt (ia 3 16) (.alt (o1 18 (.ext 6 2)) (.alt (ia 4 17) (.alt (ia 5 18) .done .stop) .stop) (.alt (ia 4 17) (.alt (o1 18 (.ext 6 2)) (.alt (ia 5 18) .done .stop)
 .stop) .stop)) .stop)) (.alt (o1 18 (.ext 6 2)) (.alt (o1 16 (.ext 6 0)) (.alt (ia 3 16) (.alt (ia 4 17) (.alt (ia 5 18) .done .stop) .stop) .stop) .stop) .stop)) (.alt (o1 18
 (.ext 6 2)) (.alt (o1 16 (.ext 6 0)) (.alt (o1 17 (.ext 6 1)) (.alt (ia 3 16) (.alt (ia 4 17) (.alt (ia 5 18) .done .stop) .stop) .stop) (.alt (ia 3 16) (.alt (o1 17 (.ext 6 1))
 (.alt (ia 4 17) (.alt (ia 5 18) .done .stop) .stop) .stop) .stop)) (.alt (o1 17 (.ext 6 1)) (.alt (o1 16 (.ext 6 0)) (.alt (ia 3 16) (.alt (ia 4 17) (.alt (ia 5 18) .done .stop)
 .stop) .stop) .stop) .stop)) .stop)))) .stop)))))))))]))) (.seq (.seq (.region [im 19 5, o1 20 (.un .not 19), im 21 20, gf 22 21 (.mv 3), gf 23 21 (.bin .gtr 22 (kI 100)), o1 24
 (.pick 21 kT 23)]) (.frame [25] [] false (.join [] (.cond 24 (.region [o1 25 (.mkI 26 (kI 40)), o0 ⟨none, .panic 25, none⟩]) .skip)))) (.seq (.region [im 26 0, im 27 4, o1 28
 (.nilc 26), fa 29 1 28, o0 ⟨none, .store 1 29 27, none⟩]) (.seq (.region [im 30 3, ia 2 30]) .ret)))))
def C0 : AFn := ⟨ Um, Ea.erase, [.tmp 2], 1⟩
def FR (P : Pg) (x : Aa) (K : Int → Aa → Prop) : Prop :=
 Ag (D := (Int × (Int × Bool))) (fun J1 => (Fn P Ajh CM (x.1, x.2.1) (fun (d3 : (Int × (Int × Bool))) _ => ((((((J1 d3) ∧ True) ∧ True) ∧ True) ∧ (((((J1 d3) ∧ True) ∧ True) ∧ ((((J1 d3) ∧ True) ∧ True) ∧ True)) ∧ True)) ∧ ((((((J1 d3) ∧ True) ∧ True) ∧ True) ∧ (((((J1 d3) ∧ True) ∧ True) ∧ True) ∧ True)) ∧ ((((((J1 d3) ∧ True) ∧ True) ∧ ((((J1 d3) ∧ True) ∧ True) ∧ True)) ∧ (((((J1 d3) ∧ True) ∧ True) ∧ True) ∧ True)) ∧ True))) ∧ (((((((J1 d3) ∧ True) ∧ True) ∧ True) ∧ (((((J1 d3) ∧ True) ∧ True) ∧ ((((J1 d3) ∧ True) ∧ True) ∧ True)) ∧ True)) ∧ ((((((J1 d3) ∧ True) ∧ True) ∧ True) ∧ True) ∧ True)) ∧ (((((((J1 d3) ∧ True) ∧ True) ∧ True) ∧ (((((J1 d3) ∧ True) ∧ True) ∧ True) ∧ True)) ∧ ((((((J1 d3) ∧ True) ∧ True) ∧ True) ∧ True) ∧ True)) ∧ True)))) ∧ True) (fun d2 => Ag (D := Unit) (fun J5 => (((cond (!d2.2.2) true (decide (d2.1 > (100 : Int)))) = true → P.kp (.iface 26 (.int .i64 (40 : Int)))) ∧ ((cond (!d2.2.2) true (decide (d2.1 > (100 : Int)))) = false → J5 ()))) (fun d6 => K d2.1 (x.1, (d2.2.1, x.2.2))))
theorem Jo {P : Pg} (h : Has P C0) {x : DP AZ.ps} {K : DP AZ.rs → DP (ptrs AZ.ps) → Prop} (hw : FR P x K) : Fn P Um AZ x K :=
 BI (c := Ea) h rfl rfl (by kernel_rfl) (Eq.mpr (show BC P C0 AZ Ea x K = _ by kernel_rfl) hw)
def D8 : Be :=
 (.seq (.region [ia 2 (kI 0), ia 3 (kI 0)]) (.seq (.region [im 6 0, oS ⟨some 7, .call Um [6], none⟩ AZ, ia 2 7]) (.seq (.region
 [im 8 2, ia 3 8]) (.seq (.seq (.region [im 9 0, oS ⟨some 10, .call zS1 [9, (.c (.int .u8 44))], none⟩ As]) (.frame (rg [3, 4, 5] 11 12)
 [0] true (.join [.si 3, .bx 0 Aw (.pair .leaf (.pair .leaf (.pair .leaf (.node .own (.pair .leaf (.pair .leaf (.pair .leaf (.pair .leaf tM))))))))] (.cond 10 (.seq
 (.region [ia 3 (kI (-1))]) (.seq (.region [im 12 0, oS ⟨some 13, .call zS7 [12], none⟩ AF, im 11 13, o1 14 (.ext 11 0), o1 15 (.ext 11
 1), ia 4 14, ia 5 15]) (.seq (.region [im 16 5, im 17 16, gt 18 17 (.mv 4), gt 19 17 (.bin .neq 18 (.c (.int .u8 125))), o1 20 (.pick 17 19 kF)]) (.frame [3, 21, 22] [0] true
 (.join [.si 3, .bx 0 Aw (.pair .leaf (.pair .leaf (.pair .leaf (.node .own (.pair .leaf (.pair .leaf (.pair .leaf (.pair .leaf tM))))))))] (.cond 20 (.region [im 21 0,
 oS ⟨some 22, .call Um [21], none⟩ AZ, ia 3 22]) .skip)))))) .skip)))) (.seq (.seq (.region [im 23 0, oS ⟨some 24, .call
 zS1 [23, (.c (.int .u8 125))], none⟩ As, o1 25 (.un .not 24), im 26 25, gf 27 26 (.mv 3), gf 28 26 (.bin .geq 27 (kI 0)), gf 29 26 (.mv
 28), gt 30 29 (.mv 3), gt 31 29 (.mv 2), gt 32 29 (.bin .lss 30 31), gf 33 26 (.pick 29 32 kF), o1 34 (.pick 26 kT 33)]) (.frame [35] [] false (.join [] (.cond 34 (.region [o1 35
 (.mkI 26 (kI 40)), o0 ⟨none, .panic 35, none⟩]) .skip)))) (.seq (.region [im 36 2, im 37 3, ia 2 36, ia 3 37]) .ret))))))
def CY : AFn := ⟨ XJ, D8.erase, [.tmp 2, .tmp 3], 1⟩
def FP (P : Pg) (x : Aa) (K : (Int × Int) → Aa → Prop) : Prop :=
 Fn P Um AZ x (fun (d1 : Int) (e2 : Aa) => Fn P zS1 As (e2, (44 : Int)) (fun (d3 : Bool) (e4 : Aa) => Ag (D := (Int × Aa)) (fun J5 => ((d3 = true → Fn P zS7 AF e4 (fun (d7 : (Int × Bool)) (e8 : Aa) => Ag (D := (Int × Aa)) (fun J9 => (((cond d7.2 (d7.1 != (125 : Int)) false) = true → Fn P Um AZ e8 (fun (d11 : Int) (e12 : Aa) => J9 (d11, e12))) ∧ ((cond d7.2 (d7.1 != (125 : Int)) false) = false → J9 ((-1 : Int), e8)))) (fun d10 => J5 d10))) ∧ (d3 = false → J5 (d1, e4)))) (fun d6 => Fn P zS1 As (d6.2, (125 : Int)) (fun (d13 : Bool) (e14 : Aa) => Ag (D := Unit) (fun J15 => (((cond (!d13) true (cond (decide (d6.1 ≥ (0 : Int))) (decide (d6.1 < d1)) false)) = true → P.kp (.iface 26 (.int .i64 (40 : Int)))) ∧ ((cond (!d13) true (cond (decide (d6.1 ≥ (0 : Int))) (decide (d6.1 < d1)) false)) = false → J15 ()))) (fun d16 => K (d1, d6.1) e14)))))
theorem Jm {P : Pg} (h : Has P CY) {x : DP Bf.ps} {K : DP Bf.rs → DP (ptrs Bf.ps) → Prop} (hw : FP P x K) : Fn P XJ Bf x K :=
 BI (c := D8) h rfl rfl (by kernel_rfl) (Eq.mpr (show BC P CY Bf D8 x K = _ by kernel_rfl) hw)
def C6 : Be :=
 (.seq (.region [ia 2 (kI 0), ia 3 (kI 0), o1 4 (.asg kF)]) (.seq (.frame (rg [] 2 22) [0] true (.join [.si 2, .si 3, .sl 4 false .bool .leaf, .bx 0 Aw (.pair .leaf
 (.pair .leaf (.pair .leaf (.node .own (.pair .leaf (.pair .leaf (.pair .leaf (.pair .leaf tM))))))))] (.block 0 (.seq (.region [im 6 0, oS ⟨some 7, .call
 zS1 [6, (.c (.int .u8 42))], none⟩ As, ia 5 7]) (.cond 5 (.seq (.region [ia 2 (kI 0), ia 3 (kI (-1)), o1 4 (.asg kT)]) .ret) (.seq
 (.region [im 9 0, oS ⟨some 10, .call zS1 [9, (.c (.int .u8 43))], none⟩ As, ia 8 10]) (.cond 8 (.seq (.region [ia 2 (kI 1), ia 3 (kI
 (-1)), o1 4 (.asg kT)]) .ret) (.seq (.region [im 12 0, oS ⟨some 13, .call zS1 [12, (.c (.int .u8 63))], none⟩ As, ia 11 13]) (.cond 11
 (.seq (.region [ia 2 (kI 0), ia 3 (kI 1), o1 4 (.asg kT)]) .ret) (.seq (.region [im 15 0, oS ⟨some 16, .call zS1 [15, (.c (.int .u8 123))], none⟩
 As, ia 14 16]) (.cond 14 (.seq (.region [im 18 0, oS ⟨some 19, .call XJ [18], none⟩ Bf, im 17 19, o1 20 (.ext 17
 0), o1 21 (.ext 17 1), ia 2 20, ia 3 21]) (.seq (.region [im 22 2, im 23 3, ia 2 22, ia 3 23, o1 4 (.asg kT)]) .ret)) .skip))))))))))) (.seq (.region [ia 2 (kI 0), ia 3 (kI 0), o1
 4 (.asg kF)]) .ret)))
def Cn : AFn := ⟨ Aji, C6.erase, [.tmp 2, .tmp 3, .tmp 4], 1⟩
def EF (P : Pg) (x : Aa) (K : (Int × (Int × Bool)) → Aa → Prop) : Prop :=
 Ag (D := (Int × (Int × (Bool × Aa)))) (fun J1 => Fn P zS1 As (x, (42 : Int)) (fun (d3 : Bool) (e4 : Aa) => ((d3 = true → K ((0 : Int), ((-1 : Int), true)) e4) ∧ (d3 = false → Fn P zS1 As (e4, (43 : Int)) (fun (d5 : Bool) (e6 : Aa) => ((d5 = true → K ((1 : Int), ((-1 : Int), true)) e6) ∧ (d5 = false → Fn P zS1 As (e6, (63 : Int)) (fun (d7 : Bool) (e8 : Aa) => ((d7 = true → K ((0 : Int), ((1 : Int), true)) e8) ∧ (d7 = false → Fn P zS1 As (e8, (123 : Int)) (fun (d9 : Bool) (e10 : Aa) => ((d9 = true → Fn P XJ Bf e10 (fun (d11 : (Int × Int)) (e12 : Aa) => K (d11.1, (d11.2, true)) e12)) ∧ (d9 = false → J1 ((0 : Int), ((0 : Int), (false, e10)))))))))))))))) (fun d2 => K ((0 : Int), ((0 : Int), false)) d2.2.2.2)
theorem HH {P : Pg} (h : Has P Cn) {x : DP A7.ps} {K : DP A7.rs → DP (ptrs A7.ps) → Prop} (hw : EF P x K) : Fn P Aji A7 x K :=
 BI (c := C6) h rfl rfl (by kernel_rfl) (Eq.mpr (show BC P Cn A7 C6 x K = _ by kernel_rfl) hw)
end Go.VS
