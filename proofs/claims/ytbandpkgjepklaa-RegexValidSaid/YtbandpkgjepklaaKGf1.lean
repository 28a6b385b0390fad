/- Functions of the program: typed code, and what it says, lifted. -/
import Derived.Test.YtbandpkgjepklaaKTxSig
import Derived.KernelRfl
set_option linter.unusedVariables false
set_option linter.unusedSimpArgs false
set_option maxRecDepth 8000
namespace Go.VS
open IntKind
def DT : Be :=
 (.seq (.region [o1 1 (.box 0), o1 2 (.alloc [(.int .u64 0), (.int .u64 0), (.int .u64 0), (.int .u64 0)])]) (.seq (.seq (.region [o1 4 (.mv (kI 0))]) (.frame (rg [] 3 11) [1001]
 false (.join [.bx 1001 (.pair (.int .u64) (.pair (.int .u64) (.pair (.int .u64) (.int .u64)))) .leaf] (.block 0 (.loop [.si 4, .bx 1001 (.pair (.int .u64) (.pair (.int .u64) (.pair
 (.int .u64) (.int .u64)))) .leaf] (.seq (.region [o1 5 (.bin .lss 4 (kI 4))]) (.seq (.cond 5 .skip (.exit 0)) (.seq (.frame (rg [3] 6 7) [1001] false (.join [.bx 1001 (.pair (.int
 .u64) (.pair (.int .u64) (.pair (.int .u64) (.int .u64)))) .leaf] (.block 1 (.seq (.region [im 6 4, ia 3 6]) (.region [im 7 3, im 8 3, o1 9 (.ixAr 4 1 1 8), ld 10 9, o1 11 (.un
 .xor 10), o1 12 (.ixAr 4 1 1 7), o0 ⟨none, .store 1 12 11, none⟩]))))) (.region [o1 13 (.bin .add 4 (kI 1)), im 4 13]))))))))) (.seq (.region [o1 14 (.load true 4 1), o0 ⟨none,
 .store 4 2 14, none⟩]) .ret)))
def CG : AFn := ⟨ Su, DT.erase, [.cell 2 true 4], 1⟩
def Fu (P : Pg) (x : (Int × (Int × (Int × Int)))) (K : (Int × (Int × (Int × Int))) → Unit → Prop) : Prop :=
 Ag (D := (Int × (Int × (Int × Int)))) (fun J1 => B0 (D := (Int × (Int × (Int × (Int × Int))))) ((0 : Int), x) (fun d3 J4 => (((decide (d3.1 < (4 : Int))) = true → Ag (D := (Int × (Int × (Int × Int)))) (fun J5 => (0 ≤ d3.1 ∧ d3.1 < ((4 : Nat) : Int)) ∧
 (d3.1.toNat < 4) ∧
 (0 ≤ d3.1 ∧ d3.1 < ((4 : Nat) : Int)) ∧
 (d3.1.toNat < 4) ∧
 J5 ((if d3.1.toNat = 0 then (u64.wrap ((BitVec.toNat (BitVec.ofInt u64.bits (if u64.signed then -1 else u64.max) ^^^ BitVec.ofInt u64.bits (List.getD [d3.2.1, d3.2.2.1, d3.2.2.2.1, d3.2.2.2.2] d3.1.toNat (0 : Int))) : Nat) : Int)) else d3.2.1), ((if d3.1.toNat = 1 then (u64.wrap ((BitVec.toNat (BitVec.ofInt u64.bits (if u64.signed then -1 else u64.max) ^^^ BitVec.ofInt u64.bits (List.getD [d3.2.1, d3.2.2.1, d3.2.2.2.1, d3.2.2.2.2] d3.1.toNat (0 : Int))) : Nat) : Int)) else d3.2.2.1), ((if d3.1.toNat = 2 then (u64.wrap ((BitVec.toNat (BitVec.ofInt u64.bits (if u64.signed then -1 else u64.max) ^^^ BitVec.ofInt u64.bits (List.getD [d3.2.1, d3.2.2.1, d3.2.2.2.1, d3.2.2.2.2] d3.1.toNat (0 : Int))) : Nat) : Int)) else d3.2.2.2.1), (if d3.1.toNat = 3 then (u64.wrap ((BitVec.toNat (BitVec.ofInt u64.bits (if u64.signed then -1 else u64.max) ^^^ BitVec.ofInt u64.bits (List.getD [d3.2.1, d3.2.2.1, d3.2.2.2.1, d3.2.2.2.2] d3.1.toNat (0 : Int))) : Nat) : Int)) else d3.2.2.2.2))))) (fun d6 => J4 ((i64.wrap (d3.1 + (1 : Int))), d6))) ∧ ((decide (d3.1 < (4 : Int))) = false → J1 d3.2)))) (fun d2 => K d2 ())
theorem I1 {P : Pg} (h : Has P CG) {x : DP AR.ps} {K : DP AR.rs → DP (ptrs AR.ps) → Prop} (hw : Fu P x K) : Fn P Su AR x K :=
 BI (c := DT) h rfl rfl (by kernel_rfl) (Eq.mpr (show BC P CG AR DT x K = _ by kernel_rfl) hw)
def Fb : Be :=
 (.seq (.region [o1 3 (.box 1), ia 4 (kI 0)]) (.seq (.region [im 5 0, o1 6 (.load true 4 3), o1 7 (.build [(.int .i64 0), (.int .u64 0), (.int .u64 0), (.int .u64 0), (.int .u64 0),
 (.int .i64 0), (.int .i64 0), (.slice none 0 0)] [(0, 1, (kI 1)), (1, 4, 6)]), oS ⟨some 8, .call zS4 [5, 7], none⟩ AG, ia 4 8]) .ret))
def DH : AFn := ⟨ zS7, Fb.erase, [.tmp 4], 2⟩
def Hz (P : Pg) (x : (Aa × (Int × (Int × (Int × Int))))) (K : Int → Aa → Prop) : Prop :=
 Fn P zS4 AG (x.1, ((1 : Int), (x.2, ((0 : Int), ((0 : Int), []))))) (fun (d1 : Int) (e2 : Aa) => K d1 e2)
theorem LA {P : Pg} (h : Has P DH) {x : DP AM.ps} {K : DP AM.rs → DP (ptrs AM.ps) → Prop} (hw : Hz P x K) : Fn P zS7 AM x K :=
 BI (c := Fb) h rfl rfl (by kernel_rfl) (Eq.mpr (show BC P DH AM Fb x K = _ by kernel_rfl) hw)
def Eu : Be :=
 (.seq (.region [ia 2 (kI 0)]) (.seq (.region [im 5 0, o1 6 (.nilc 5), fa 7 1 6, ld 8 7, o1 9 (.bin .add 8 (kI 1)), o1 10 (.nilc 5), fa 11 1 10, o0 ⟨none, .store 1 11 9, none⟩])
 (.seq (.region [im 12 0, oS ⟨some 13, .call zS1 [12, (.c (.int .u8 94))], none⟩ As, ia 3 13]) (.seq (.region [im 14 0, o1 15 (.build
 [(.int .u64 0), (.int .u64 0), (.int .u64 0), (.int .u64 0)] []), oS ⟨some 16, .call QV [14, 15], none⟩ A9, o1 4 (.alloc [(.int .u64
 0), (.int .u64 0), (.int .u64 0), (.int .u64 0)]), o0 ⟨none, .store 4 4 16, none⟩]) (.seq (.frame (rg [] 17 6) [0, 1004] true (.join [.bx 0 Aw (.pair .leaf (.pair .leaf
 (.pair .leaf (.node .own (.pair .leaf (.pair .leaf (.pair .leaf (.pair .leaf tM)))))))), .bx 1004 (.pair (.int .u64) (.pair (.int .u64) (.pair (.int .u64) (.int .u64)))) .leaf]
 (.block 0 (.loop [.bx 0 Aw (.pair .leaf (.pair .leaf (.pair .leaf (.node .own (.pair .leaf (.pair .leaf (.pair .leaf (.pair .leaf tM)))))))), .bx 1004 (.pair (.int .u64)
 (.pair (.int .u64) (.pair (.int .u64) (.int .u64)))) .leaf] (.seq (.seq (.region [im 17 0, oS ⟨some 18, .call zS1 [17, (.c (.int .u8 93))], none⟩
 As, o1 19 (.un .not 18)]) (.cond 19 .skip (.exit 0))) (.frame [20, 21, 22] [0, 1004] true (.join [.bx 0 Aw (.pair .leaf (.pair .leaf (.pair .leaf (.node
 .own (.pair .leaf (.pair .leaf (.pair .leaf (.pair .leaf tM)))))))), .bx 1004 (.pair (.int .u64) (.pair (.int .u64) (.pair (.int .u64) (.int .u64)))) .leaf] (.block 1 (.region [im
 20 0, o1 21 (.load true 4 4), oS ⟨some 22, .call QV [20, 21], none⟩ A9, o0 ⟨none, .store 4 4 22, none⟩]))))))))) (.seq (.seq (.region
 [im 23 3]) (.frame [24, 25] [1004] false (.join [.bx 1004 (.pair (.int .u64) (.pair (.int .u64) (.pair (.int .u64) (.int .u64)))) .leaf] (.cond 23 (.region [o1 24 (.load true 4 4),
 oS ⟨some 25, .call Su [24], none⟩ AR, o0 ⟨none, .store 4 4 25, none⟩]) .skip)))) (.seq (.region [im 26 0, o1 27 (.load true 4
 4), oS ⟨some 28, .call zS7 [26, 27], none⟩ AM, ia 2 28]) .ret)))))))
def C9 : AFn := ⟨ Um, Eu.erase, [.tmp 2], 1⟩
def GA (P : Pg) (x : Aa) (K : Int → Aa → Prop) : Prop :=
 Fn P zS1 As ((x.1, ((i64.wrap (x.2.1 + (1 : Int))), x.2.2)), (94 : Int)) (fun (d1 : Bool) (e2 : Aa) => Fn P QV A9 (e2, ((0 : Int), ((0 : Int), ((0 : Int), (0 : Int))))) (fun (d3 : (Int × (Int × (Int × Int)))) (e4 : Aa) => Ag (D := (Aa × (Int × (Int × (Int × Int))))) (fun J5 => B0 (D := (Aa × (Int × (Int × (Int × Int))))) (e4, d3) (fun d7 J8 => Fn P zS1 As (d7.1, (93 : Int)) (fun (d9 : Bool) (e10 : Aa) => (((!d9) = true → Ag (D := (Aa × (Int × (Int × (Int × Int))))) (fun J11 => Fn P QV A9 (e10, d7.2) (fun (d13 : (Int × (Int × (Int × Int)))) (e14 : Aa) => J11 (e14, d13))) (fun d12 => J8 d12)) ∧ ((!d9) = false → J5 (e10, d7.2)))))) (fun d6 => Ag (D := (Int × (Int × (Int × Int)))) (fun J15 => ((d1 = true → Fn P Su AR d6.2 (fun (d17 : (Int × (Int × (Int × Int)))) (e18 : Unit) => J15 d17)) ∧ (d1 = false → J15 d6.2))) (fun d16 => Fn P zS7 AM (d6.1, d16) (fun (d19 : Int) (e20 : Aa) => K d19 e20)))))
theorem JQ {P : Pg} (h : Has P C9) {x : DP B9.ps} {K : DP B9.rs → DP (ptrs B9.ps) → Prop} (hw : GA P x K) : Fn P Um B9 x K :=
 BI (c := Eu) h rfl rfl (by kernel_rfl) (Eq.mpr (show BC P C9 B9 Eu x K = _ by kernel_rfl) hw)
def E9 : Be :=
 (.seq (.region [ia 2 (kI 0)]) (.seq (.region [im 3 0, o1 4 (.nilc 3), fa 5 1 4, ld 6 5, o1 7 (.bin .add 6 (kI 1)), o1 8 (.nilc 3), fa 9 1 8, o0 ⟨none, .store 1 9 7, none⟩]) (.seq
 (.region [im 10 0, o1 11 (.build [(.int .u64 0), (.int .u64 0), (.int .u64 0), (.int .u64 0)] []), oS ⟨some 12, .call Su [11], none⟩
 AR, oS ⟨some 13, .call zS7 [10, 12], none⟩ AM, ia 2 13]) .ret)))
def DF : AFn := ⟨ Un, E9.erase, [.tmp 2], 1⟩
def Hx (P : Pg) (x : Aa) (K : Int → Aa → Prop) : Prop :=
 Fn P Su AR ((0 : Int), ((0 : Int), ((0 : Int), (0 : Int)))) (fun (d1 : (Int × (Int × (Int × Int)))) (e2 : Unit) => Fn P zS7 AM ((x.1, ((i64.wrap (x.2.1 + (1 : Int))), x.2.2)), d1) (fun (d3 : Int) (e4 : Aa) => K d3 e4))
theorem Ly {P : Pg} (h : Has P DF) {x : DP Cs.ps} {K : DP Cs.rs → DP (ptrs Cs.ps) → Prop} (hw : Hx P x K) : Fn P Un Cs x K :=
 BI (c := E9) h rfl rfl (by kernel_rfl) (Eq.mpr (show BC P DF Cs E9 x K = _ by kernel_rfl) hw)
def D9 : Be :=
 (.seq (.region [ia 2 (kI 0)]) (.seq (.region [im 3 0, o1 4 (.nilc 3), fa 5 1 4, ld 6 5, o1 7 (.bin .add 6 (kI 1)), o1 8 (.nilc 3), fa 9 1 8, o0 ⟨none, .store 1 9 7, none⟩]) (.seq
 (.region [im 10 0, o1 11 (.build [(.int .u64 0), (.int .u64 0), (.int .u64 0), (.int .u64 0)] []), im 12 0, oS ⟨some 13, .call zS9 [12], none⟩
 AS, oS ⟨some 14, .call zS6 [11, 13], none⟩ AO, oS ⟨some 15, .call zS7 [10, 14], none⟩
 AM, ia 2 15]) .ret)))
def CZ : AFn := ⟨ Uo, D9.erase, [.tmp 2], 1⟩
def FQ (P : Pg) (x : Aa) (K : Int → Aa → Prop) : Prop :=
 Fn P zS9 AS (x.1, ((i64.wrap (x.2.1 + (1 : Int))), x.2.2)) (fun (d1 : Int) (e2 : Aa) => Fn P zS6 AO (((0 : Int), ((0 : Int), ((0 : Int), (0 : Int)))), d1) (fun (d3 : (Int × (Int × (Int × Int)))) (e4 : Unit) => Fn P zS7 AM (e2, d3) (fun (d5 : Int) (e6 : Aa) => K d5 e6)))
theorem Jn {P : Pg} (h : Has P CZ) {x : DP BX.ps} {K : DP BX.rs → DP (ptrs BX.ps) → Prop} (hw : FQ P x K) : Fn P Uo BX x K :=
 BI (c := D9) h rfl rfl (by kernel_rfl) (Eq.mpr (show BC P CZ BX D9 x K = _ by kernel_rfl) hw)
def Eb : Be :=
 (.seq (.region [ia 2 (kI 0)]) (.seq (.region [im 3 0, o1 4 (.build [(.int .u64 0), (.int .u64 0), (.int .u64 0), (.int .u64 0)] []), im 5 0, oS ⟨some 6, .call
 zS9 [5], none⟩ AS, oS ⟨some 7, .call zS6 [4, 6], none⟩ AO, oS ⟨some 8, .call
 zS7 [3, 7], none⟩ AM, ia 2 8]) .ret))
def C1 : AFn := ⟨ Up, Eb.erase, [.tmp 2], 1⟩
def FT (P : Pg) (x : Aa) (K : Int → Aa → Prop) : Prop :=
 Fn P zS9 AS x (fun (d1 : Int) (e2 : Aa) => Fn P zS6 AO (((0 : Int), ((0 : Int), ((0 : Int), (0 : Int)))), d1) (fun (d3 : (Int × (Int × (Int × Int)))) (e4 : Unit) => Fn P zS7 AM (e2, d3) (fun (d5 : Int) (e6 : Aa) => K d5 e6)))
theorem Jp {P : Pg} (h : Has P C1) {x : DP BZ.ps} {K : DP BZ.rs → DP (ptrs BZ.ps) → Prop} (hw : FT P x K) : Fn P Up BZ x K :=
 BI (c := Eb) h rfl rfl (by kernel_rfl) (Eq.mpr (show BC P C1 BZ Eb x K = _ by kernel_rfl) hw)
def Ew : Be :=
 (.seq (.region [ia 4 (kI 0)]) (.seq (.seq (.region [im 10 1]) (.frame (rg [4] 11 8) [0] true (.join [.si 4, .bx 0 Aw (.pair .leaf (.pair .leaf (.pair .leaf (.node .own
 (.pair .leaf (.pair .leaf (.pair .leaf (.pair .leaf tM))))))))] (.block 0 (.seq (.region [o1 12 (.bin .eql 10 (.c (.int .u8 94))), ia 11 12]) (.cond 11 (.seq (.region [im 13 0, oS
 ⟨some 14, .call OV [13, (kI 2)], none⟩ AY, ia 4 14]) .ret) (.seq (.region [o1 16 (.bin .eql 10 (.c (.int .u8 36))), ia 15 16])
 (.cond 15 (.seq (.region [im 17 0, oS ⟨some 18, .call OV [17, (kI 3)], none⟩ AY, ia 4 18]) .ret) .skip)))))))) (.seq (.region [im
 19 0, im 20 1, oS ⟨some 21, .call VF [19, 20], none⟩ BH, ia 5 21]) (.seq (.region [im 22 5, oS ⟨some 23, .callv 22 [], none⟩
 AP, ia 6 23]) (.seq (.region [im 25 0, oS ⟨some 26, .call VH [25], none⟩ A7, im 24 26, o1 27
 (.ext 24 0), o1 28 (.ext 24 1), o1 29 (.ext 24 2), ia 7 27, ia 8 28, ia 9 29]) (.seq (.seq (.region [im 30 9, o1 31 (.un .not 30)]) (.cond 31 (.seq (.region [im 32 6, ia 4 32])
 .ret) .skip)) (.seq (.region [im 33 0, im 34 7, im 35 8, im 36 6, ⟨⟨some 37, .buildSl 1 [(.int .i64 0)] 1 [(0, 36)], none⟩, some (bI, .leaf), ⟨[], []⟩, true, none, false, false⟩,
 o1 38 (.build [(.int .i64 0), (.int .u64 0), (.int .u64 0), (.int .u64 0), (.int .u64 0), (.int .i64 0), (.int .i64 0), (.slice none 0 0)] [(0, 1, (kI 6)), (5, 1, 34), (6, 1, 35),
 (7, 1, 37)]), oS ⟨some 39, .call zS4 [33, 38], none⟩ AG, ia 4 39]) .ret)))))))
def B8 : AFn := ⟨ VJ, Ew.erase, [.tmp 4], 2⟩
def GC (P : Pg) (x : (Aa × Int)) (K : Int → Aa → Prop) : Prop :=
 Ag (D := (Int × Aa)) (fun J1 => (((x.2 == (94 : Int)) = true → Fn P OV AY (x.1, (2 : Int)) (fun (d3 : Int) (e4 : Aa) => K d3 e4)) ∧ ((x.2 == (94 : Int)) = false → (((x.2 == (36 : Int)) = true → Fn P OV AY (x.1, (3 : Int)) (fun (d5 : Int) (e6 : Aa) => K d5 e6)) ∧ ((x.2 == (36 : Int)) = false → J1 ((0 : Int), x.1)))))) (fun d2 => Fn P VF BH (d2.2, x.2) (fun (d7 : Int) (e8 : Aa) => Fn P (List.getD [Sv, Um, Un, Uo, Up] d7.toNat "") AP e8 (fun (d9 : Int) (e10 : Aa) => Fn P VH A7 e10 (fun (d11 : (Int × (Int × Bool))) (e12 : Aa) => (((!d11.2.2) = true → K d9 e12) ∧ ((!d11.2.2) = false → Fn P zS4 AG (e12, ((6 : Int), (((0 : Int), ((0 : Int), ((0 : Int), (0 : Int)))), (d11.1, (d11.2.1, ([d9] : List Int)))))) (fun (d13 : Int) (e14 : Aa) => K d13 e14)))))))
theorem JS {P : Pg} (h : Has P B8) {x : DP Bv.ps} {K : DP Bv.rs → DP (ptrs Bv.ps) → Prop} (hw : GC P x K) : Fn P VJ Bv x K :=
 BI (c := Ew) h rfl rfl (by kernel_rfl) (Eq.mpr (show BC P B8 Bv Ew x K = _ by kernel_rfl) hw)
def CU : Be :=
 (.seq (.region [ia 2 (kI 0)]) (.seq (.region [o1 3 (.asg (.c (.slice none 0 0)))]) (.frame (rg [] 2 28) [0] true (.block 0 (.loop [.si 2, .sl 3 false (.sl bI) tO, .bx 0
 Aw (.pair .leaf (.pair .leaf (.pair .leaf (.node .own (.pair .leaf (.pair .leaf (.pair .leaf (.pair .leaf tM))))))))] (.frame (rg [] 2 28) [0] true (.join [.si 2, .sl 3
 false (.sl bI) tO, .bx 0 Aw (.pair .leaf (.pair .leaf (.pair .leaf (.node .own (.pair .leaf (.pair .leaf (.pair .leaf (.pair .leaf tM))))))))] (.block 1 (.seq (.region
 [im 7 0, oS ⟨some 8, .call zS5 [7], none⟩ AF, im 6 8, o1 9 (.ext 6 0), o1 10 (.ext 6 1), ia 4 9, ia 5 10]) (.seq (.seq (.region [im 11
 5, o1 12 (.un .not 11), im 13 12, gf 14 13 (.mv 4), gf 15 13 (.bin .eql 14 (.c (.int .u8 124))), o1 16 (.pick 13 kT 15), im 17 16, gf 18 17 (.mv 4), gf 19 17 (.bin .eql 18 (.c
 (.int .u8 41))), o1 20 (.pick 17 kT 19)]) (.cond 20 (.seq (.frz [3] (.region [im 21 0, im 22 3, oS ⟨some 23, .call Oe [21, (kI 4), 22], none⟩
 A5, ia 2 23])) .ret) .skip)) (.region [im 24 3, im 25 0, im 26 4, oS ⟨some 27, .call VJ [25, 26], none⟩ Bv, oT
 ⟨some 28, .buildSl 1 [(.int .i64 0)] 1 [(0, 27)], none⟩ (some (bI, .leaf)), oT ⟨some 29, .app 1 8 24 28, none⟩ (some (bI, .leaf)), ia 3 29])))))))))))
def Bm : AFn := ⟨ Us, CU.erase, [.tmp 2], 1⟩
def Ej (P : Pg) (x : Aa) (K : Int → Aa → Prop) : Prop :=
 B0 (D := (Int × ((List Int) × Aa))) ((0 : Int), ([], x)) (fun d1 J2 => Ag (D := (Int × ((List Int) × Aa))) (fun J3 => Fn P zS5 AF d1.2.2 (fun (d5 : (Int × Bool)) (e6 : Aa) => (((cond (cond (!d5.2) true (d5.1 == (124 : Int))) true (d5.1 == (41 : Int))) = true → Fn P Oe A5 (e6, ((4 : Int), d1.2.1)) (fun (d7 : Int) (e8 : Aa) => K d7 e8)) ∧ ((cond (cond (!d5.2) true (d5.1 == (124 : Int))) true (d5.1 == (41 : Int))) = false → Fn P VJ Bv (e6, d5.1) (fun (d9 : Int) (e10 : Aa) => ((d1.2.1.length + List.length ([d9] : List Int)) * 8 ≤ 140737488355328) ∧
 J3 (d1.1, ((d1.2.1 ++ ([d9] : List Int)), e10))))))) (fun d4 => J2 d4))
theorem G7 {P : Pg} (h : Has P Bm) {x : DP AJ.ps} {K : DP AJ.rs → DP (ptrs AJ.ps) → Prop} (hw : Ej P x K) : Fn P Us AJ x K :=
 BI (c := CU) h rfl rfl (by kernel_rfl) (Eq.mpr (show BC P Bm AJ CU x K = _ by kernel_rfl) hw)
def DS : Be :=
 (.seq (.region [ia 2 (kI 0)]) (.seq (.region [im 4 0, oS ⟨some 5, .call Us [4], none⟩ AJ, oT ⟨some 6, .buildSl 1 [(.int
 .i64 0)] 1 [(0, 5)], none⟩ (some (bI, .leaf)), ia 3 6]) (.seq (.frame (rg [3] 7 7) [0] true (.join [.sl 3 false (.sl bI) tO, .bx 0 Aw (.pair .leaf (.pair .leaf (.pair
 .leaf (.node .own (.pair .leaf (.pair .leaf (.pair .leaf (.pair .leaf tM))))))))] (.block 0 (.loop [.sl 3 false (.sl bI) tO, .bx 0 Aw (.pair .leaf (.pair .leaf (.pair
 .leaf (.node .own (.pair .leaf (.pair .leaf (.pair .leaf (.pair .leaf tM))))))))] (.seq (.seq (.region [im 7 0, oS ⟨some 8, .call zS1 [7, (.c (.int .u8
 124))], none⟩ As]) (.cond 8 .skip (.exit 0))) (.frame (rg [3] 9 5) [0] true (.join [.sl 3 false (.sl bI) tO, .bx 0 Aw (.pair .leaf (.pair .leaf (.pair
 .leaf (.node .own (.pair .leaf (.pair .leaf (.pair .leaf (.pair .leaf tM))))))))] (.block 1 (.region [im 9 3, im 10 0, oS ⟨some 11, .call Us
 [10], none⟩ AJ, oT ⟨some 12, .buildSl 1 [(.int .i64 0)] 1 [(0, 11)], none⟩ (some (bI, .leaf)), oT ⟨some 13, .app 1 8 9 12, none⟩ (some (bI, .leaf)), ia 3
 13]))))))))) (.seq (.frz [3] (.region [im 14 0, im 15 3, oS ⟨some 16, .call Oe [14, (kI 5), 15], none⟩ A5, ia 2 16])) .ret))))
def BS : AFn := ⟨ QU, DS.erase, [.tmp 2], 1⟩
def Ft (P : Pg) (x : Aa) (K : Int → Aa → Prop) : Prop :=
 Fn P Us AJ x (fun (d1 : Int) (e2 : Aa) => Ag (D := ((List Int) × Aa)) (fun J3 => B0 (D := ((List Int) × Aa)) (([d1] : List Int), e2) (fun d5 J6 => Fn P zS1 As (d5.2, (124 : Int)) (fun (d7 : Bool) (e8 : Aa) => ((d7 = true → Ag (D := ((List Int) × Aa)) (fun J9 => Fn P Us AJ e8 (fun (d11 : Int) (e12 : Aa) => ((d5.1.length + List.length ([d11] : List Int)) * 8 ≤ 140737488355328) ∧
 J9 ((d5.1 ++ ([d11] : List Int)), e12))) (fun d10 => J6 d10)) ∧ (d7 = false → J3 (d5.1, e8)))))) (fun d4 => Fn P Oe A5 (d4.2, ((5 : Int), d4.1)) (fun (d13 : Int) (e14 : Aa) => K d13 e14)))
theorem IZ {P : Pg} (h : Has P BS) {x : DP AQ.ps} {K : DP AQ.rs → DP (ptrs AQ.ps) → Prop} (hw : Ft P x K) : Fn P QU AQ x K :=
 BI (c := DS) h rfl rfl (by kernel_rfl) (Eq.mpr (show BC P BS AQ DS x K = _ by kernel_rfl) hw)
end Go.VS
