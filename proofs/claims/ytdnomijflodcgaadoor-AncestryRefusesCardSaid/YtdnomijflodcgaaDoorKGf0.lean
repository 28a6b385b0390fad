/- Functions of the program: typed code, and what it says, lifted. -/
import Derived.Test.YtdnomijflodcgaaDoorKTxSig
import Derived.KernelRfl
set_option linter.unusedVariables false
set_option linter.unusedSimpArgs false
set_option maxRecDepth 8000
namespace Go.VS
open IntKind
def AeJ : Bw :=
 (.seq (.region [o1 4 (.asg (.c (.slice none 0 0)))]) (.seq (.region [im 10 0, o1 11 (.lenK 10), oT ⟨some 12, .mkSl 1 1 [(.bool false)] 11 11, none⟩ (some (.bool, .leaf)), ia 5 12])
 (.seq (.seq (.region [ia 6 (kI 0)]) (.frame (rg [5, 6] 13 12) [] false (.join [.sl 5 false (.sl .bool) tO] (.block 0 (.loop [.sl 5 false (.sl .bool) tO, .si 6] (.seq (.seq (.region
 [im 13 6, im 14 1, o1 15 (.lenK 14), o1 16 (.bin .lss 13 15)]) (.cond 16 .skip (.exit 0))) (.seq (.frame (rg [5] 19 6) [] false (.join [.sl 5 false (.sl .bool) tO] (.block 1
 (.region [im 19 5, im 20 1, im 21 6, o1 22 (.ixA 1 20 21), ld 23 22, o1 24 (.ixA 1 19 23), o0 ⟨none, .store 1 24 kT, none⟩])))) (.region [im 17 6, o1 18 (.bin .add 17 (kI 1)), ia 6
 18])))))))) (.seq (.seq (.region [ia 7 (kI 0)]) (.frame (rg [5, 7, 8, 9] 25 38) [] false (.join [.sl 5 false (.sl .bool) tO] (.block 2 (.loop [.sl 5 false (.sl .bool) tO, .si 7]
 (.seq (.seq (.region [im 25 7, im 26 0, o1 27 (.lenK 26), o1 28 (.bin .lss 25 27)]) (.cond 28 .skip (.exit 2))) (.seq (.frame (rg [5, 8, 9] 31 32) [] false (.join [.sl 5 false (.sl
 .bool) tO] (.block 3 (.seq (.region [ia 8 (kI 0)]) (.frame (rg [5, 8, 9] 31 32) [] false (.join [.sl 5 false (.sl .bool) tO] (.block 4 (.loop [.sl 5 false (.sl .bool) tO, .si 8]
 (.seq (.seq (.region [im 31 8, im 32 0, o1 33 (.lenK 32), o1 34 (.bin .lss 31 33)]) (.cond 34 .skip (.exit 4))) (.seq (.frame (rg [5, 9] 37 26) [] false (.join [.sl 5 false (.sl
 .bool) tO] (.block 5 (.seq (.region [ia 9 (kI 0)]) (.frame (rg [5, 9] 37 26) [] false (.join [.sl 5 false (.sl .bool) tO] (.block 6 (.loop [.sl 5 false (.sl .bool) tO, .si 9] (.seq
 (.seq (.region [im 37 9, im 38 0, im 39 8, o1 40 (.ixA 3 38 39), fa 41 0 40, ld 42 41, o1 43 (.lenK 42), o1 44 (.bin .lss 37 43), im 45 44, gt 46 45 (.mv 5), gt 47 45 (.mv 8), gt
 48 45 (.ixA 1 46 47), gt 49 45 (.load false 1 48), o1 50 (.pick 45 49 kF)]) (.cond 50 .skip (.exit 6))) (.seq (.frame (rg [5] 53 10) [] false (.join [.sl 5 false (.sl .bool) tO]
 (.block 7 (.region [im 53 5, im 54 0, im 55 8, o1 56 (.ixA 3 54 55), fa 57 0 56, ld 58 57, im 59 9, o1 60 (.ixA 1 58 59), ld 61 60, o1 62 (.ixA 1 53 61), o0 ⟨none, .store 1 62 kT,
 none⟩])))) (.region [im 51 9, o1 52 (.bin .add 51 (kI 1)), ia 9 52]))))))))))) (.region [im 35 8, o1 36 (.bin .add 35 (kI 1)), ia 8 36]))))))))))) (.region [im 29 7, o1 30 (.bin
 .add 29 (kI 1)), ia 7 30])))))))) (.seq (.region [im 63 5, ia 4 63]) .ret)))))
def AeA : AFn := ⟨ WQ, AeJ.erase, [.tmp 4], 2⟩
def AeX (P : Pg) (x : ((List Commit) × (List Int))) (K : (List Bool) → Unit → Prop) : Prop :=
 (0 ≤ (x.1.length : Int) ∧ (x.1.length : Int) ≤ (x.1.length : Int) ∧ ((1 : Nat) : Int) * (x.1.length : Int) ≤ 281474976710656) ∧
 Ai (D := (List Bool)) (fun J1 => Bl (D := ((List Bool) × Int)) ((List.replicate (Int.toNat (x.1.length : Int)) false), (0 : Int)) (fun d3 J4 => (((decide (d3.2 < (x.2.length : Int))) = true → Ai (D := (List Bool)) (fun J5 => (0 ≤ d3.2 ∧ d3.2 < (x.2.length : Int)) ∧
 (d3.2.toNat < x.2.length) ∧
 (0 ≤ (List.getD x.2 d3.2.toNat (0 : Int)) ∧ (List.getD x.2 d3.2.toNat (0 : Int)) < (d3.1.length : Int)) ∧
 ((Int.toNat (List.getD x.2 d3.2.toNat (0 : Int))) < d3.1.length) ∧
 J5 (List.set d3.1 (Int.toNat (List.getD x.2 d3.2.toNat (0 : Int))) true)) (fun d6 => J4 (d6, (i64.wrap (d3.2 + (1 : Int)))))) ∧ ((decide (d3.2 < (x.2.length : Int))) = false → J1 d3.1)))) (fun d2 => Ai (D := (List Bool)) (fun J7 => Bl (D := ((List Bool) × Int)) (d2, (0 : Int)) (fun d9 J10 => (((decide (d9.2 < (x.1.length : Int))) = true → Ai (D := (List Bool)) (fun J11 => Ai (D := (List Bool)) (fun J13 => Bl (D := ((List Bool) × Int)) (d9.1, (0 : Int)) (fun d15 J16 => (((decide (d15.2 < (x.1.length : Int))) = true → Ai (D := (List Bool)) (fun J17 => Ai (D := (List Bool)) (fun J19 => Bl (D := ((List Bool) × Int)) (d15.1, (0 : Int)) (fun d21 J22 => (0 ≤ d15.2 ∧ d15.2 < (x.1.length : Int)) ∧
 (d15.2.toNat < x.1.length) ∧
 (((decide (d21.2 < ((List.length (List.getD x.1 d15.2.toNat Ak).1 : Nat) : Int))) = true → 0 ≤ d15.2 ∧ d15.2 < (d21.1.length : Int))) ∧
 (((decide (d21.2 < ((List.length (List.getD x.1 d15.2.toNat Ak).1 : Nat) : Int))) = true → d15.2.toNat < d21.1.length)) ∧
 (((cond (decide (d21.2 < ((List.length (List.getD x.1 d15.2.toNat Ak).1 : Nat) : Int))) (List.getD d21.1 d15.2.toNat false) false) = true → Ai (D := (List Bool)) (fun J23 => (0 ≤ d15.2 ∧ d15.2 < (x.1.length : Int)) ∧
 (d15.2.toNat < x.1.length) ∧
 (0 ≤ d21.2 ∧ d21.2 < ((List.length (List.getD x.1 d15.2.toNat Ak).1 : Nat) : Int)) ∧
 (d21.2.toNat < List.length (List.getD x.1 d15.2.toNat Ak).1) ∧
 (0 ≤ (List.getD (List.getD x.1 d15.2.toNat Ak).1 d21.2.toNat (0 : Int)) ∧ (List.getD (List.getD x.1 d15.2.toNat Ak).1 d21.2.toNat (0 : Int)) < (d21.1.length : Int)) ∧
 ((Int.toNat (List.getD (List.getD x.1 d15.2.toNat Ak).1 d21.2.toNat (0 : Int))) < d21.1.length) ∧
 J23 (List.set d21.1 (Int.toNat (List.getD (List.getD x.1 d15.2.toNat Ak).1 d21.2.toNat (0 : Int))) true)) (fun d24 => J22 (d24, (i64.wrap (d21.2 + (1 : Int)))))) ∧ ((cond (decide (d21.2 < ((List.length (List.getD x.1 d15.2.toNat Ak).1 : Nat) : Int))) (List.getD d21.1 d15.2.toNat false) false) = false → J19 d21.1)))) (fun d20 => J17 d20)) (fun d18 => J16 (d18, (i64.wrap (d15.2 + (1 : Int)))))) ∧ ((decide (d15.2 < (x.1.length : Int))) = false → J13 d15.1)))) (fun d14 => J11 d14)) (fun d12 => J10 (d12, (i64.wrap (d9.2 + (1 : Int)))))) ∧ ((decide (d9.2 < (x.1.length : Int))) = false → J7 d9.1)))) (fun d8 => K d8 ()))
theorem Afl {P : Pg} (h : Has P AeA) {x : DP Aei.ps} {K : DP Aei.rs → DP (ptrs Aei.ps) → Prop} (hw : AeX P x K) : Fn P WQ Aei x K :=
 Cc (c := AeJ) h rfl rfl (by kernel_rfl) (Eq.mpr (show Ca P AeA Aei AeJ x K = _ by kernel_rfl) hw)
def Aha : Bw :=
 (.seq (.region [o1 4 (.asg kF)]) (.seq (.seq (.region [ia 5 (kI 0)]) (.frame (rg [] 4 14) [] false (.join [.sl 4 false .bool .leaf] (.block 0 (.loop [.sl 4 false .bool .leaf, .si
 5] (.seq (.seq (.region [im 6 5, im 7 0, o1 8 (.lenK 7), o1 9 (.bin .lss 6 8)]) (.cond 9 .skip (.exit 0))) (.seq (.frame (rg [4] 12 6) [] false (.join [.sl 4 false .bool .leaf]
 (.block 1 (.seq (.region [im 12 0, im 13 5, o1 14 (.ixA 1 12 13), ld 15 14, im 16 1, o1 17 (.bin .eql 15 16)]) (.cond 17 (.seq (.region [o1 4 (.asg kT)]) .ret) .skip))))) (.region
 [im 10 5, o1 11 (.bin .add 10 (kI 1)), ia 5 11])))))))) (.seq (.region [o1 4 (.asg kF)]) .ret)))
def Ag8 : AFn := ⟨ WR, Aha.erase, [.tmp 4], 2⟩
def Ahb (P : Pg) (x : ((List Int) × Int)) (K : Bool → Unit → Prop) : Prop :=
 Ai (D := Bool) (fun J1 => Bl (D := (Bool × Int)) (false, (0 : Int)) (fun d3 J4 => (((decide (d3.2 < (x.1.length : Int))) = true → Ai (D := Bool) (fun J5 => (0 ≤ d3.2 ∧ d3.2 < (x.1.length : Int)) ∧
 (d3.2.toNat < x.1.length) ∧
 ((((List.getD x.1 d3.2.toNat (0 : Int)) == x.2) = true → K true ()) ∧ (((List.getD x.1 d3.2.toNat (0 : Int)) == x.2) = false → J5 d3.1))) (fun d6 => J4 (d6, (i64.wrap (d3.2 + (1 : Int)))))) ∧ ((decide (d3.2 < (x.1.length : Int))) = false → J1 d3.1)))) (fun d2 => K false ())
theorem Ahd {P : Pg} (h : Has P Ag8) {x : DP Ag4.ps} {K : DP Ag4.rs → DP (ptrs Ag4.ps) → Prop} (hw : Ahb P x K) : Fn P WR Ag4 x K :=
 Cc (c := Aha) h rfl rfl (by kernel_rfl) (Eq.mpr (show Ca P Ag8 Ag4 Aha x K = _ by kernel_rfl) hw)
def Ahy : Bw :=
 (.seq (.region [ia 2 (kI 0)]) (.seq (.seq (.region [im 5 0, o1 6 (.lenS 5), o1 7 (.bin .lss 6 (kI 1)), im 8 7, gf 9 8 (.mv 0), gf 10 8 (.lenS 9), gf 11 8 (.bin .gtr 10 (kI 200)),
 o1 12 (.pick 8 kT 11)]) (.cond 12 (.seq (.region [ia 2 (kI 210)]) .ret) .skip)) (.seq (.region [o1 3 (.asg (.c (.string ⟨#[]⟩)))]) (.seq (.seq (.region [ia 4 (kI 0)]) (.frame (rg
 [2, 3, 4] 13 43) [] false (.join [.si 2] (.block 0 (.loop [.si 2, .sl 3 false .str .leaf, .si 4] (.seq (.seq (.region [im 13 4, im 14 0, o1 15 (.lenS 14), o1 16 (.bin .leq 13 15)])
 (.cond 16 .skip (.exit 0))) (.seq (.frame (rg [2, 3] 19 37) [] false (.join [.si 2, .sl 3 false .str .leaf] (.block 1 (.seq (.seq (.region [im 19 4, im 20 0, o1 21 (.lenS 20), o1
 22 (.bin .lss 19 21), im 23 22, gt 24 23 (.mv 0), gt 25 23 (.mv 4), gt 26 23 (.ixS 24 25), gt 27 23 (.bin .eql 26 (.c (.int .u8 0))), o1 28 (.pick 23 27 kF)]) (.cond 28 (.seq
 (.region [ia 2 (kI 210)]) .ret) .skip)) (.seq (.seq (.region [im 29 4, im 30 0, o1 31 (.lenS 30), o1 32 (.bin .lss 29 31), im 33 32, gt 34 33 (.mv 0), gt 35 33 (.mv 4), gt 36 33
 (.ixS 34 35), gt 37 33 (.bin .neq 36 (.c (.int .u8 47))), o1 38 (.pick 33 37 kF)]) (.cond 38 (.seq (.region [im 39 3, im 40 0, im 41 4, im 42 4, o1 43 (.bin .add 42 (kI 1)), o1 44
 (.slS 40 (some 41) (some 43)), o1 45 (.bin .add 39 44), ia 3 45]) (.exit 1)) .skip)) (.seq (.seq (.region [im 46 3, o1 47 (.bin .eql 46 (.c (.string ⟨#[]⟩))), im 48 47, gf 49 48
 (.mv 3), o0 ⟨some 50, .bin .eql 49 (.c (.string ⟨#[46]⟩)), some (48, false)⟩, o1 51 (.pick 48 kT 50), im 52 51, gf 53 52 (.mv 3), o0 ⟨some 54, .bin .eql 53 (.c (.string ⟨#[46,
 46]⟩)), some (52, false)⟩, o1 55 (.pick 52 kT 54)]) (.cond 55 (.seq (.region [ia 2 (kI 210)]) .ret) .skip)) (.region [o1 3 (.asg (.c (.string ⟨#[]⟩)))]))))))) (.region [im 17 4, o1
 18 (.bin .add 17 (kI 1)), ia 4 18])))))))) (.seq (.region [ia 2 (kI 0)]) .ret)))))
def Ahs : AFn := ⟨ WO, Ahy.erase, [.tmp 2], 1⟩
def AhF (P : Pg) (x : (List UInt8)) (K : Int → Unit → Prop) : Prop :=
 (((cond (decide ((x.length : Int) < (1 : Int))) true (decide ((x.length : Int) > (200 : Int)))) = true → K (210 : Int) ()) ∧ ((cond (decide ((x.length : Int) < (1 : Int))) true (decide ((x.length : Int) > (200 : Int)))) = false → Ai (D := Int) (fun J1 => Bl (D := (Int × ((List UInt8) × Int))) ((0 : Int), (([] : List UInt8), (0 : Int))) (fun d3 J4 => (((decide (d3.2.2 ≤ (x.length : Int))) = true → Ai (D := (Int × (List UInt8))) (fun J5 => (((decide (d3.2.2 < (x.length : Int))) = true → 0 ≤ d3.2.2 ∧ d3.2.2 < (x.length : Int))) ∧
 (((cond (decide (d3.2.2 < (x.length : Int))) (((x.getD d3.2.2.toNat 0).toNat : Int) == (0 : Int)) false) = true → K (210 : Int) ()) ∧ ((cond (decide (d3.2.2 < (x.length : Int))) (((x.getD d3.2.2.toNat 0).toNat : Int) == (0 : Int)) false) = false → (((decide (d3.2.2 < (x.length : Int))) = true → 0 ≤ d3.2.2 ∧ d3.2.2 < (x.length : Int))) ∧
 (((cond (decide (d3.2.2 < (x.length : Int))) (((x.getD d3.2.2.toNat 0).toNat : Int) != (47 : Int)) false) = true → (0 ≤ d3.2.2 ∧ d3.2.2 ≤ (i64.wrap (d3.2.2 + (1 : Int))) ∧ (i64.wrap (d3.2.2 + (1 : Int))) ≤ (x.length : Int)) ∧
 (d3.2.1.length + List.length (List.drop d3.2.2.toNat (List.take (Int.toNat (i64.wrap (d3.2.2 + (1 : Int)))) x)) ≤ 9223372036854775807) ∧
 J5 (d3.1, (d3.2.1 ++ (List.drop d3.2.2.toNat (List.take (Int.toNat (i64.wrap (d3.2.2 + (1 : Int)))) x))))) ∧ ((cond (decide (d3.2.2 < (x.length : Int))) (((x.getD d3.2.2.toNat 0).toNat : Int) != (47 : Int)) false) = false → (((cond (cond (d3.2.1 == ([] : List UInt8)) true (d3.2.1 == ([46] : List UInt8))) true (d3.2.1 == ([46, 46] : List UInt8))) = true → K (210 : Int) ()) ∧ ((cond (cond (d3.2.1 == ([] : List UInt8)) true (d3.2.1 == ([46] : List UInt8))) true (d3.2.1 == ([46, 46] : List UInt8))) = false → J5 (d3.1, ([] : List UInt8))))))))) (fun d6 => J4 (d6.1, (d6.2, (i64.wrap (d3.2.2 + (1 : Int))))))) ∧ ((decide (d3.2.2 ≤ (x.length : Int))) = false → J1 d3.1)))) (fun d2 => K (0 : Int) ())))
theorem AhZ {P : Pg} (h : Has P Ahs) {x : DP Ahj.ps} {K : DP Ahj.rs → DP (ptrs Ahj.ps) → Prop} (hw : AhF P x K) : Fn P WO Ahj x K :=
 Cc (c := Ahy) h rfl rfl (by kernel_rfl) (Eq.mpr (show Ca P Ahs Ahj Ahy x K = _ by kernel_rfl) hw)
def AhL : Bw :=
 (.seq (.region [o1 4 (.asg kF)]) (.seq (.region [im 5 1, o1 6 (.lenS 5), im 7 0, o1 8 (.lenS 7), o1 9 (.bin .gtr 6 8), im 10 9, gt 11 10 (.mv 1), gt 12 10 (.mv 0), gt 13 10 (.lenS
 12), gt 14 10 (.slS 11 none (some 13)), gt 15 10 (.mv 0), gt 16 10 (.bin .eql 14 15), o1 17 (.pick 10 16 kF), im 18 17, gt 19 18 (.mv 1), gt 20 18 (.mv 0), gt 21 18 (.lenS 20), gt
 22 18 (.ixS 19 21), gt 23 18 (.bin .eql 22 (.c (.int .u8 47))), o1 24 (.pick 18 23 kF), ia 4 24]) .ret))
def AhB : AFn := ⟨ Ab2, AhL.erase, [.tmp 4], 2⟩
def AhV (P : Pg) (x : ((List UInt8) × (List UInt8))) (K : Bool → Unit → Prop) : Prop :=
 (((decide ((x.2.length : Int) > (x.1.length : Int))) = true → 0 ≤ (x.1.length : Int) ∧ (x.1.length : Int) ≤ (x.2.length : Int))) ∧
 (((cond (decide ((x.2.length : Int) > (x.1.length : Int))) ((List.take (Int.toNat (x.1.length : Int)) x.2) == x.1) false) = true → 0 ≤ (x.1.length : Int) ∧ (x.1.length : Int) < (x.2.length : Int))) ∧
 K (cond (cond (decide ((x.2.length : Int) > (x.1.length : Int))) ((List.take (Int.toNat (x.1.length : Int)) x.2) == x.1) false) (((UInt8.toNat (List.getD x.2 (Int.toNat (x.1.length : Int)) 0) : Nat) : Int) == (47 : Int)) false) ()
theorem Ah8 {P : Pg} (h : Has P AhB) {x : DP Ahp.ps} {K : DP Ahp.rs → DP (ptrs Ahp.ps) → Prop} (hw : AhV P x K) : Fn P Ab2 Ahp x K :=
 Cc (c := AhL) h rfl rfl (by kernel_rfl) (Eq.mpr (show Ca P AhB Ahp AhL x K = _ by kernel_rfl) hw)
def HU : Bw :=
 (.seq (.region [o1 2 (.asg (.c (.slice none 0 0)))]) (.seq (.region [o1 3 (.asg (.c (.slice none 0 0)))]) (.seq (.region [ia 4 (kI 0)]) (.seq (.seq (.region [ia 5 (kI 0)]) (.frame
 (rg [] 3 30) [] false (.join [.sl 3 false (.sl .str) tO] (.block 0 (.loop [.sl 3 false (.sl .str) tO, .si 4, .si 5] (.seq (.seq (.region [im 6 5, im 7 0, o1 8 (.lenS 7), o1 9 (.bin
 .lss 6 8)]) (.cond 9 .skip (.exit 0))) (.seq (.frame (rg [3, 4] 12 21) [] false (.join [.sl 3 false (.sl .str) tO, .si 4] (.block 1 (.seq (.region [im 12 0, im 13 5, o1 14 (.ixS 12
 13), o1 15 (.bin .eql 14 (.c (.int .u8 10))), im 16 15, gf 17 16 (.mv 5), gf 18 16 (.bin .add 17 (kI 1)), gf 19 16 (.mv 0), gf 20 16 (.lenS 19), gf 21 16 (.bin .eql 18 20), o1 22
 (.pick 16 kT 21)]) (.frame (rg [3, 4] 23 10) [] false (.join [.sl 3 false (.sl .str) tO, .si 4] (.cond 22 (.seq (.region [im 23 3, im 24 0, im 25 4, im 26 5, o1 27 (.bin .add 26
 (kI 1)), o1 28 (.slS 24 (some 25) (some 27)), oT ⟨some 29, .buildSl 1 [(.string ⟨#[]⟩)] 1 [(0, 28)], none⟩ (some (.str, .leaf)), oT ⟨some 30, .app 1 16 23 29, none⟩ (some (.str,
 .leaf)), ia 3 30]) (.region [im 31 5, o1 32 (.bin .add 31 (kI 1)), ia 4 32])) .skip))))))) (.region [im 10 5, o1 11 (.bin .add 10 (kI 1)), ia 5 11])))))))) (.seq (.region [im 33 3,
 ia 2 33]) .ret)))))
def FT : AFn := ⟨ Ab3, HU.erase, [.tmp 2], 1⟩
def K4 (P : Pg) (x : (List UInt8)) (K : (List (List UInt8)) → Unit → Prop) : Prop :=
 Ai (D := (List (List UInt8))) (fun J1 => Bl (D := ((List (List UInt8)) × (Int × Int))) ([], ((0 : Int), (0 : Int))) (fun d3 J4 => (((decide (d3.2.2 < (x.length : Int))) = true → Ai (D := ((List (List UInt8)) × Int)) (fun J5 => (0 ≤ d3.2.2 ∧ d3.2.2 < (x.length : Int)) ∧
 Ai (D := ((List (List UInt8)) × Int)) (fun J7 => (((cond (((x.getD d3.2.2.toNat 0).toNat : Int) == (10 : Int)) true ((i64.wrap (d3.2.2 + (1 : Int))) == (x.length : Int))) = true → (0 ≤ d3.2.1 ∧ d3.2.1 ≤ (i64.wrap (d3.2.2 + (1 : Int))) ∧ (i64.wrap (d3.2.2 + (1 : Int))) ≤ (x.length : Int)) ∧
 ((d3.1.length + List.length ([(List.drop d3.2.1.toNat (List.take (Int.toNat (i64.wrap (d3.2.2 + (1 : Int)))) x))] : List (List UInt8))) * 16 ≤ 140737488355328) ∧
 J7 ((d3.1 ++ ([(List.drop d3.2.1.toNat (List.take (Int.toNat (i64.wrap (d3.2.2 + (1 : Int)))) x))] : List (List UInt8))), (i64.wrap (d3.2.2 + (1 : Int))))) ∧ ((cond (((x.getD d3.2.2.toNat 0).toNat : Int) == (10 : Int)) true ((i64.wrap (d3.2.2 + (1 : Int))) == (x.length : Int))) = false → J7 (d3.1, d3.2.1)))) (fun d8 => J5 d8)) (fun d6 => J4 (d6.1, (d6.2, (i64.wrap (d3.2.2 + (1 : Int))))))) ∧ ((decide (d3.2.2 < (x.length : Int))) = false → J1 d3.1)))) (fun d2 => K d2 ())
theorem Pm {P : Pg} (h : Has P FT) {x : DP Dc.ps} {K : DP Dc.rs → DP (ptrs Dc.ps) → Prop} (hw : K4 P x K) : Fn P Ab3 Dc x K :=
 Cc (c := HU) h rfl rfl (by kernel_rfl) (Eq.mpr (show Ca P FT Dc HU x K = _ by kernel_rfl) hw)
def AhK : Bw :=
 (.seq (.region [ia 2 (kI 0)]) (.seq (.seq (.region [im 3 0, o1 4 (.lenS 3), o1 5 (.bin .gtr 4 (kI 1048576)), im 6 5, ⟨⟨some 7, .mv 0, some (6, false)⟩, none, ⟨[], []⟩, false, some
 6, true, false⟩, ⟨⟨some 8, .call Ab3 [7], some (6, false)⟩, none, Dc, false, none, true, false⟩, ⟨⟨some 9, .lenK 8, some (6, false)⟩, none,
 ⟨[], []⟩, false, none, true, false⟩, ⟨⟨some 10, .bin .gtr 9 (kI 4096), some (6, false)⟩, none, ⟨[], []⟩, false, none, true, true⟩, o1 11 (.pick 6 kT 10)]) (.cond 11 (.seq (.region
 [ia 2 (kI 1)]) .ret) .skip)) (.seq (.region [ia 2 (kI 0)]) .ret)))
def AhA : AFn := ⟨ YU, AhK.erase, [.tmp 2], 1⟩
def AhU (P : Pg) (x : (List UInt8)) (K : Int → Unit → Prop) : Prop :=
 (((decide ((x.length : Int) > (1048576 : Int))) = true → (((cond true true false) = true → K (1 : Int) ()) ∧ ((cond true true false) = false → K (0 : Int) ()))) ∧ ((decide ((x.length : Int) > (1048576 : Int))) = false → Fn P Ab3 Dc x (fun (d1 : (List (List UInt8))) (e2 : Unit) => (((cond false true (decide ((d1.length : Int) > (4096 : Int)))) = true → K (1 : Int) ()) ∧ ((cond false true (decide ((d1.length : Int) > (4096 : Int)))) = false → K (0 : Int) ())))))
theorem Ah7 {P : Pg} (h : Has P AhA) {x : DP Aho.ps} {K : DP Aho.rs → DP (ptrs Aho.ps) → Prop} (hw : AhU P x K) : Fn P YU Aho x K :=
 Cc (c := AhK) h rfl rfl (by kernel_rfl) (Eq.mpr (show Ca P AhA Aho AhK x K = _ by kernel_rfl) hw)
def AhM : Bw :=
 (.seq (.region [ia 2 (kI 0)]) (.seq (.seq (.region [im 7 0, o1 8 (.lenK 7), o1 9 (.bin .gtr 8 (kI 200))]) (.cond 9 (.seq (.region [ia 2 (kI 1)]) .ret) .skip)) (.seq (.seq (.region
 [ia 3 (kI 0)]) (.frame (rg [2, 3] 10 13) [] false (.join [.si 2] (.block 0 (.loop [.si 2, .si 3] (.seq (.seq (.region [im 10 3, im 11 0, o1 12 (.lenK 11), o1 13 (.bin .lss 10 12)])
 (.cond 13 .skip (.exit 0))) (.seq (.frame (rg [2] 16 7) [] false (.join [.si 2] (.block 1 (.seq (.region [im 16 0, im 17 3, o1 18 (.ixA 2 16 17), fa 19 0 18, ld 20 19, oS ⟨some 21,
 .call WO [20], none⟩ Ahj, o1 22 (.bin .neq 21 (kI 0))]) (.cond 22 (.seq (.region [ia 2 (kI 210)]) .ret) .skip))))) (.region [im 14
 3, o1 15 (.bin .add 14 (kI 1)), ia 3 15])))))))) (.seq (.seq (.region [ia 4 (kI 0)]) (.frame (rg [2, 4, 5] 23 35) [] false (.join [.si 2] (.block 2 (.loop [.si 2, .si 4] (.seq
 (.seq (.region [im 23 4, im 24 0, o1 25 (.lenK 24), o1 26 (.bin .lss 23 25)]) (.cond 26 .skip (.exit 2))) (.seq (.frame (rg [2, 5] 29 29) [] false (.join [.si 2] (.block 3 (.seq
 (.region [ia 5 (kI 0)]) (.frame (rg [2, 5] 29 29) [] false (.join [.si 2] (.block 4 (.loop [.si 2, .si 5] (.seq (.seq (.region [im 29 5, im 30 4, o1 31 (.bin .lss 29 30)]) (.cond
 31 .skip (.exit 4))) (.seq (.frame (rg [2] 34 24) [] false (.join [.si 2] (.block 5 (.seq (.frame (rg [] 34 24) [] false (.join [.sl 57 false .bool .leaf] (.draw [(.first (im 34 0)
 (.first (im 35 5) (.first (o1 36 (.ixA 2 34 35)) (.first (fa 37 0 36) (.first (ld 38 37) (.first (im 39 0) (.first (im 40 4) (.first (o1 41 (.ixA 2 39 40)) (.first (fa 42 0 41)
 (.first (ld 43 42) (.first (o1 44 (.bin .geq 38 43)) (.first (im 45 44) (.first (gf 46 45 (.mv 0)) (.first (gf 47 45 (.mv 5)) (.first (gf 48 45 (.ixA 2 46 47)) (.first (gf 49 45
 (.fAddr 0 48)) (.first (gf 50 45 (.load false 1 49)) (.first (gf 51 45 (.mv 0)) (.first (gf 52 45 (.mv 4)) (.first (gf 53 45 (.ixA 2 51 52)) (.first (gf 54 45 (.fAddr 0 53))
 (.first (gf 55 45 (.load false 1 54)) (.alt (oS ⟨some 56, .call Ab2 [50, 55], some (45, false)⟩ Ahp) (.first (o1 57 (.pick 45 kT 56)) .done)
 .stop)))))))))))))))))))))))]))) (.cond 57 (.seq (.region [ia 2 (kI 211)]) .ret) .skip))))) (.region [im 32 5, o1 33 (.bin .add 32 (kI 1)), ia 5 33]))))))))))) (.region [im 27 4,
 o1 28 (.bin .add 27 (kI 1)), ia 4 28])))))))) (.seq (.seq (.region [ia 6 (kI 0)]) (.frame (rg [2, 6] 58 13) [] false (.join [.si 2] (.block 6 (.loop [.si 2, .si 6] (.seq (.seq
 (.region [im 58 6, im 59 0, o1 60 (.lenK 59), o1 61 (.bin .lss 58 60)]) (.cond 61 .skip (.exit 6))) (.seq (.frame (rg [2] 64 7) [] false (.join [.si 2] (.block 7 (.seq (.region [im
 64 0, im 65 6, o1 66 (.ixA 2 64 65), fa 67 1 66, ld 68 67, oS ⟨some 69, .call YU [68], none⟩ Aho, o1 70 (.bin .neq 69 (kI 0))]) (.cond 70
 (.seq (.region [ia 2 (kI 1)]) .ret) .skip))))) (.region [im 62 6, o1 63 (.bin .add 62 (kI 1)), ia 6 63])))))))) (.seq (.region [ia 2 (kI 0)]) .ret))))))
def Ahu : AFn := ⟨ zS8, AhM.erase, [.tmp 2], 1⟩
def AhH (P : Pg) (x : (List ((List UInt8) × (List UInt8)))) (K : Int → Unit → Prop) : Prop :=
 (((decide ((x.length : Int) > (200 : Int))) = true → K (1 : Int) ()) ∧ ((decide ((x.length : Int) > (200 : Int))) = false → Ai (D := Int) (fun J1 => Bl (D := (Int × Int)) ((0 : Int), (0 : Int)) (fun d3 J4 => (((decide (d3.2 < (x.length : Int))) = true → Ai (D := Int) (fun J5 => (0 ≤ d3.2 ∧ d3.2 < (x.length : Int)) ∧
 (d3.2.toNat < x.length) ∧
 Fn P WO Ahj (List.getD x d3.2.toNat ([], [])).1 (fun (d7 : Int) (e8 : Unit) => (((d7 != (0 : Int)) = true → K (210 : Int) ()) ∧ ((d7 != (0 : Int)) = false → J5 d3.1)))) (fun d6 => J4 (d6, (i64.wrap (d3.2 + (1 : Int)))))) ∧ ((decide (d3.2 < (x.length : Int))) = false → J1 d3.1)))) (fun d2 => Ai (D := Int) (fun J9 => Bl (D := (Int × Int)) (d2, (0 : Int)) (fun d11 J12 => (((decide (d11.2 < (x.length : Int))) = true → Ai (D := Int) (fun J13 => Ai (D := Int) (fun J15 => Bl (D := (Int × Int)) (d11.1, (0 : Int)) (fun d17 J18 => (((decide (d17.2 < d11.2)) = true → Ai (D := Int) (fun J19 => Ai (D := Bool) (fun J21 => (0 ≤ d17.2 ∧ d17.2 < (x.length : Int)) ∧
 (d17.2.toNat < x.length) ∧
 (0 ≤ d11.2 ∧ d11.2 < (x.length : Int)) ∧
 (d11.2.toNat < x.length) ∧
 (((!(Op.bytesLess (List.getD x d17.2.toNat ([], [])).1 (List.getD x d11.2.toNat ([], [])).1)) = false → 0 ≤ d17.2 ∧ d17.2 < (x.length : Int))) ∧
 (((!(Op.bytesLess (List.getD x d17.2.toNat ([], [])).1 (List.getD x d11.2.toNat ([], [])).1)) = false → d17.2.toNat < x.length)) ∧
 (((!(Op.bytesLess (List.getD x d17.2.toNat ([], [])).1 (List.getD x d11.2.toNat ([], [])).1)) = false → 0 ≤ d11.2 ∧ d11.2 < (x.length : Int))) ∧
 (((!(Op.bytesLess (List.getD x d17.2.toNat ([], [])).1 (List.getD x d11.2.toNat ([], [])).1)) = false → d11.2.toNat < x.length)) ∧
 (Ai (D := Bool) (fun J23 => (((!(Op.bytesLess (List.getD x d17.2.toNat ([], [])).1 (List.getD x d11.2.toNat ([], [])).1)) = false → Fn P Ab2 Ahp ((List.getD x d17.2.toNat ([], [])).1, (List.getD x d11.2.toNat ([], [])).1) (fun (d24 : Bool) _ => J23 d24)) ∧ (((!(Op.bytesLess (List.getD x d17.2.toNat ([], [])).1 (List.getD x d11.2.toNat ([], [])).1)) = true → J23 false) ∧ True))) (fun d25 => J21 (cond (!(Op.bytesLess (List.getD x d17.2.toNat ([], [])).1 (List.getD x d11.2.toNat ([], [])).1)) true d25))) ∧ True) (fun d22 => ((d22 = true → K (211 : Int) ()) ∧ (d22 = false → J19 d17.1)))) (fun d20 => J18 (d20, (i64.wrap (d17.2 + (1 : Int)))))) ∧ ((decide (d17.2 < d11.2)) = false → J15 d17.1)))) (fun d16 => J13 d16)) (fun d14 => J12 (d14, (i64.wrap (d11.2 + (1 : Int)))))) ∧ ((decide (d11.2 < (x.length : Int))) = false → J9 d11.1)))) (fun d10 => Ai (D := Int) (fun J26 => Bl (D := (Int × Int)) (d10, (0 : Int)) (fun d28 J29 => (((decide (d28.2 < (x.length : Int))) = true → Ai (D := Int) (fun J30 => (0 ≤ d28.2 ∧ d28.2 < (x.length : Int)) ∧
 (d28.2.toNat < x.length) ∧
 Fn P YU Aho (List.getD x d28.2.toNat ([], [])).2 (fun (d32 : Int) (e33 : Unit) => (((d32 != (0 : Int)) = true → K (1 : Int) ()) ∧ ((d32 != (0 : Int)) = false → J30 d28.1)))) (fun d31 => J29 (d31, (i64.wrap (d28.2 + (1 : Int)))))) ∧ ((decide (d28.2 < (x.length : Int))) = false → J26 d28.1)))) (fun d27 => K (0 : Int) ())))))
theorem AhR {P : Pg} (h : Has P Ahu) {x : DP Ahk.ps} {K : DP Ahk.rs → DP (ptrs Ahk.ps) → Prop} (hw : AhH P x K) : Fn P zS8 Ahk x K :=
 Cc (c := AhM) h rfl rfl (by kernel_rfl) (Eq.mpr (show Ca P Ahu Ahk AhM x K = _ by kernel_rfl) hw)
def AhN : Bw :=
 (.seq (.region [ia 2 (kI 0)]) (.seq (.seq (.region [im 11 0, o1 12 (.lenK 11), o1 13 (.bin .gtr 12 (kI 300))]) (.cond 13 (.seq (.region [ia 2 (kI 1)]) .ret) .skip)) (.seq (.seq
 (.region [ia 3 (kI 0)]) (.frame (rg [2, 3] 14 13) [] false (.join [.si 2] (.block 0 (.loop [.si 2, .si 3] (.seq (.seq (.region [im 14 3, im 15 0, o1 16 (.lenK 15), o1 17 (.bin .lss
 14 16)]) (.cond 17 .skip (.exit 0))) (.seq (.frame (rg [2] 20 7) [] false (.join [.si 2] (.block 1 (.seq (.region [im 20 0, im 21 3, o1 22 (.ixA 3 20 21), fa 23 0 22, ld 24 23, o1
 25 (.lenK 24), o1 26 (.bin .gtr 25 (kI 32))]) (.cond 26 (.seq (.region [ia 2 (kI 1)]) .ret) .skip))))) (.region [im 18 3, o1 19 (.bin .add 18 (kI 1)), ia 3 19])))))))) (.seq (.seq
 (.region [ia 4 (kI 0)]) (.frame (rg [2, 4, 5, 6] 27 43) [] false (.join [.si 2] (.block 2 (.loop [.si 2, .si 4] (.seq (.seq (.region [im 27 4, im 28 0, o1 29 (.lenK 28), o1 30
 (.bin .lss 27 29)]) (.cond 30 .skip (.exit 2))) (.seq (.frame (rg [2, 5, 6] 33 37) [] false (.join [.si 2] (.block 3 (.seq (.region [ia 5 (kI 0)]) (.frame (rg [2, 5, 6] 33 37) []
 false (.join [.si 2] (.block 4 (.loop [.si 2, .si 5] (.seq (.seq (.region [im 33 5, im 34 0, im 35 4, o1 36 (.ixA 3 34 35), fa 37 0 36, ld 38 37, o1 39 (.lenK 38), o1 40 (.bin .lss
 33 39)]) (.cond 40 .skip (.exit 4))) (.seq (.frame (rg [2, 6] 43 27) [] false (.join [.si 2] (.block 5 (.seq (.region [im 43 0, im 44 4, o1 45 (.ixA 3 43 44), fa 46 0 45, ld 47 46,
 im 48 5, o1 49 (.ixA 1 47 48), ld 50 49, ia 6 50]) (.seq (.region [im 51 6, o1 52 (.bin .lss 51 (kI 0)), im 53 52, gf 54 53 (.mv 6), gf 55 53 (.mv 0), gf 56 53 (.lenK 55), gf 57 53
 (.bin .geq 54 56), o1 58 (.pick 53 kT 57), im 59 58, gf 60 59 (.mv 0), gf 61 59 (.mv 4), gf 62 59 (.ixA 3 60 61), gf 63 59 (.fAddr 0 62), gf 64 59 (.load false 1 63), gf 65 59 (.mv
 5), gf 66 59 (.slK 1 64 none (some 65)), gf 67 59 (.mv 6), oS ⟨some 68, .call WR [66, 67], some (59, false)⟩ Ag4, o1 69 (.pick 59 kT 68)])
 (.cond 69 (.seq (.region [ia 2 (kI 230)]) .ret) .skip)))))) (.region [im 41 5, o1 42 (.bin .add 41 (kI 1)), ia 5 42]))))))))))) (.region [im 31 4, o1 32 (.bin .add 31 (kI 1)), ia 4
 32])))))))) (.seq (.seq (.region [ia 7 (kI 0)]) (.frame (rg [2, 7] 70 25) [] false (.join [.si 2] (.block 6 (.loop [.si 2, .si 7] (.seq (.seq (.region [im 70 7, im 71 0, o1 72
 (.lenK 71), o1 73 (.bin .lss 70 72)]) (.cond 73 .skip (.exit 6))) (.seq (.frame (rg [2] 76 19) [] false (.join [.si 2] (.block 7 (.seq (.region [im 76 0, im 77 7, o1 78 (.ixA 3 76
 77), fa 79 0 78, ld 80 79, o1 81 (.lenK 80), o1 82 (.bin .gtr 81 (kI 0)), im 83 82, ⟨⟨some 84, .mv 0, some (83, true)⟩, none, ⟨[], []⟩, false, some 83, true, false⟩, ⟨⟨some 85, .mv
 0, some (83, true)⟩, none, ⟨[], []⟩, false, none, true, false⟩, ⟨⟨some 86, .mv 7, some (83, true)⟩, none, ⟨[], []⟩, false, none, true, false⟩, ⟨⟨some 87, .ixA 3 85 86, some (83,
 true)⟩, none, ⟨[], []⟩, false, none, true, false⟩, ⟨⟨some 88, .fAddr 0 87, some (83, true)⟩, none, ⟨[], []⟩, false, none, true, false⟩, ⟨⟨some 89, .load false 1 88, some (83,
 true)⟩, none, ⟨[], []⟩, false, none, true, false⟩, ⟨⟨some 90, .call WQ [84, 89], some (83, true)⟩, none, Aei, false, none, true, false⟩,
 ⟨⟨some 91, .mv 7, some (83, true)⟩, none, ⟨[], []⟩, false, none, true, false⟩, ⟨⟨some 92, .ixA 1 90 91, some (83, true)⟩, none, ⟨[], []⟩, false, none, true, false⟩, ⟨⟨some 93,
 .load false 1 92, some (83, true)⟩, none, ⟨[], []⟩, false, none, true, true⟩, o1 94 (.pick 83 93 kF)]) (.cond 94 (.seq (.region [ia 2 (kI 231)]) .ret) .skip))))) (.region [im 74 7,
 o1 75 (.bin .add 74 (kI 1)), ia 7 75])))))))) (.seq (.seq (.region [ia 8 (kI 0)]) (.frame (rg [2, 8] 95 20) [] false (.join [.si 2] (.block 8 (.loop [.si 2, .si 8] (.seq (.seq
 (.region [im 95 8, im 96 0, o1 97 (.lenK 96), o1 98 (.bin .lss 95 97)]) (.cond 98 .skip (.exit 8))) (.seq (.frame (rg [2] 101 14) [] false (.join [.si 2] (.block 9 (.seq (.region
 [im 101 0, im 102 8, o1 103 (.ixA 3 101 102), fa 104 1 103, ld 105 104, o1 106 (.bin .lss 105 (kI 0)), im 107 106, gf 108 107 (.mv 0), gf 109 107 (.mv 8), gf 110 107 (.ixA 3 108
 109), gf 111 107 (.fAddr 1 110), gf 112 107 (.load false 1 111), gf 113 107 (.bin .gtr 112 (kI 2147483647)), o1 114 (.pick 107 kT 113)]) (.cond 114 (.seq (.region [ia 2 (kI 3)])
 .ret) .skip))))) (.region [im 99 8, o1 100 (.bin .add 99 (kI 1)), ia 8 100])))))))) (.seq (.seq (.region [ia 9 (kI 0)]) (.frame (rg [2, 9, 10] 115 15) [] false (.join [.si 2]
 (.block 10 (.loop [.si 2, .si 9] (.seq (.seq (.region [im 115 9, im 116 0, o1 117 (.lenK 116), o1 118 (.bin .lss 115 117)]) (.cond 118 .skip (.exit 10))) (.seq (.frame (rg [2, 10]
 121 9) [] false (.join [.si 2] (.block 11 (.seq (.region [im 121 0, im 122 9, o1 123 (.ixA 3 121 122), fa 124 2 123, ld 125 124, oS ⟨some 126, .call
 zS8 [125], none⟩ Ahk, ia 10 126]) (.seq (.region [im 127 10, o1 128 (.bin .neq 127 (kI 0))]) (.cond 128 (.seq (.region [im 129 10, ia 2 129])
 .ret) .skip)))))) (.region [im 119 9, o1 120 (.bin .add 119 (kI 1)), ia 9 120])))))))) (.seq (.region [ia 2 (kI 0)]) .ret))))))))
def AhC : AFn := ⟨ zS9, AhN.erase, [.tmp 2], 1⟩
def AhW (P : Pg) (x : (List Commit)) (K : Int → Unit → Prop) : Prop :=
 (((decide ((x.length : Int) > (300 : Int))) = true → K (1 : Int) ()) ∧ ((decide ((x.length : Int) > (300 : Int))) = false → Ai (D := Int) (fun J1 => Bl (D := (Int × Int)) ((0 : Int), (0 : Int)) (fun d3 J4 => (((decide (d3.2 < (x.length : Int))) = true → Ai (D := Int) (fun J5 => (0 ≤ d3.2 ∧ d3.2 < (x.length : Int)) ∧
 (d3.2.toNat < x.length) ∧
 (((decide (((List.length (List.getD x d3.2.toNat Ak).1 : Nat) : Int) > (32 : Int))) = true → K (1 : Int) ()) ∧ ((decide (((List.length (List.getD x d3.2.toNat Ak).1 : Nat) : Int) > (32 : Int))) = false → J5 d3.1))) (fun d6 => J4 (d6, (i64.wrap (d3.2 + (1 : Int)))))) ∧ ((decide (d3.2 < (x.length : Int))) = false → J1 d3.1)))) (fun d2 => Ai (D := Int) (fun J7 => Bl (D := (Int × Int)) (d2, (0 : Int)) (fun d9 J10 => (((decide (d9.2 < (x.length : Int))) = true → Ai (D := Int) (fun J11 => Ai (D := Int) (fun J13 => Bl (D := (Int × Int)) (d9.1, (0 : Int)) (fun d15 J16 => (0 ≤ d9.2 ∧ d9.2 < (x.length : Int)) ∧
 (d9.2.toNat < x.length) ∧
 (((decide (d15.2 < ((List.length (List.getD x d9.2.toNat Ak).1 : Nat) : Int))) = true → Ai (D := Int) (fun J17 => (0 ≤ d9.2 ∧ d9.2 < (x.length : Int)) ∧
 (d9.2.toNat < x.length) ∧
 (0 ≤ d15.2 ∧ d15.2 < ((List.length (List.getD x d9.2.toNat Ak).1 : Nat) : Int)) ∧
 (d15.2.toNat < List.length (List.getD x d9.2.toNat Ak).1) ∧
 (((cond (decide ((List.getD (List.getD x d9.2.toNat Ak).1 d15.2.toNat (0 : Int)) < (0 : Int))) true (decide ((List.getD (List.getD x d9.2.toNat Ak).1 d15.2.toNat (0 : Int)) ≥ (x.length : Int)))) = false → 0 ≤ d9.2 ∧ d9.2 < (x.length : Int))) ∧
 (((cond (decide ((List.getD (List.getD x d9.2.toNat Ak).1 d15.2.toNat (0 : Int)) < (0 : Int))) true (decide ((List.getD (List.getD x d9.2.toNat Ak).1 d15.2.toNat (0 : Int)) ≥ (x.length : Int)))) = false → d9.2.toNat < x.length)) ∧
 (((cond (decide ((List.getD (List.getD x d9.2.toNat Ak).1 d15.2.toNat (0 : Int)) < (0 : Int))) true (decide ((List.getD (List.getD x d9.2.toNat Ak).1 d15.2.toNat (0 : Int)) ≥ (x.length : Int)))) = false → 0 ≤ d15.2 ∧ d15.2 ≤ ((List.length (List.getD x d9.2.toNat Ak).1 : Nat) : Int))) ∧
 Ai (D := Bool) (fun J19 => (((cond (decide ((List.getD (List.getD x d9.2.toNat Ak).1 d15.2.toNat (0 : Int)) < (0 : Int))) true (decide ((List.getD (List.getD x d9.2.toNat Ak).1 d15.2.toNat (0 : Int)) ≥ (x.length : Int)))) = false → Fn P WR Ag4 ((List.take d15.2.toNat (List.getD x d9.2.toNat Ak).1), (List.getD (List.getD x d9.2.toNat Ak).1 d15.2.toNat (0 : Int))) (fun (d20 : Bool) _ => J19 d20)) ∧ (((cond (decide ((List.getD (List.getD x d9.2.toNat Ak).1 d15.2.toNat (0 : Int)) < (0 : Int))) true (decide ((List.getD (List.getD x d9.2.toNat Ak).1 d15.2.toNat (0 : Int)) ≥ (x.length : Int)))) = true → J19 false) ∧ True))) (fun d21 => (((cond (cond (decide ((List.getD (List.getD x d9.2.toNat Ak).1 d15.2.toNat (0 : Int)) < (0 : Int))) true (decide ((List.getD (List.getD x d9.2.toNat Ak).1 d15.2.toNat (0 : Int)) ≥ (x.length : Int)))) true d21) = true → K (230 : Int) ()) ∧ ((cond (cond (decide ((List.getD (List.getD x d9.2.toNat Ak).1 d15.2.toNat (0 : Int)) < (0 : Int))) true (decide ((List.getD (List.getD x d9.2.toNat Ak).1 d15.2.toNat (0 : Int)) ≥ (x.length : Int)))) true d21) = false → J17 d15.1)))) (fun d18 => J16 (d18, (i64.wrap (d15.2 + (1 : Int)))))) ∧ ((decide (d15.2 < ((List.length (List.getD x d9.2.toNat Ak).1 : Nat) : Int))) = false → J13 d15.1)))) (fun d14 => J11 d14)) (fun d12 => J10 (d12, (i64.wrap (d9.2 + (1 : Int)))))) ∧ ((decide (d9.2 < (x.length : Int))) = false → J7 d9.1)))) (fun d8 => Ai (D := Int) (fun J22 => Bl (D := (Int × Int)) (d8, (0 : Int)) (fun d24 J25 => (((decide (d24.2 < (x.length : Int))) = true → Ai (D := Int) (fun J26 => (0 ≤ d24.2 ∧ d24.2 < (x.length : Int)) ∧
 (d24.2.toNat < x.length) ∧
 (((decide (((List.length (List.getD x d24.2.toNat Ak).1 : Nat) : Int) > (0 : Int))) = true → (0 ≤ d24.2 ∧ d24.2 < (x.length : Int)) ∧
 (d24.2.toNat < x.length) ∧
 Fn P WQ Aei (x, (List.getD x d24.2.toNat Ak).1) (fun (d28 : (List Bool)) (e29 : Unit) => (0 ≤ d24.2 ∧ d24.2 < (d28.length : Int)) ∧
 (d24.2.toNat < d28.length) ∧
 (((cond true (List.getD d28 d24.2.toNat false) false) = true → K (231 : Int) ()) ∧ ((cond true (List.getD d28 d24.2.toNat false) false) = false → J26 d24.1)))) ∧ ((decide (((List.length (List.getD x d24.2.toNat Ak).1 : Nat) : Int) > (0 : Int))) = false → (((cond false false false) = true → K (231 : Int) ()) ∧ ((cond false false false) = false → J26 d24.1))))) (fun d27 => J25 (d27, (i64.wrap (d24.2 + (1 : Int)))))) ∧ ((decide (d24.2 < (x.length : Int))) = false → J22 d24.1)))) (fun d23 => Ai (D := Int) (fun J30 => Bl (D := (Int × Int)) (d23, (0 : Int)) (fun d32 J33 => (((decide (d32.2 < (x.length : Int))) = true → Ai (D := Int) (fun J34 => (0 ≤ d32.2 ∧ d32.2 < (x.length : Int)) ∧
 (d32.2.toNat < x.length) ∧
 (((decide ((List.getD x d32.2.toNat Ak).2.1 < (0 : Int))) = false → 0 ≤ d32.2 ∧ d32.2 < (x.length : Int))) ∧
 (((decide ((List.getD x d32.2.toNat Ak).2.1 < (0 : Int))) = false → d32.2.toNat < x.length)) ∧
 (((cond (decide ((List.getD x d32.2.toNat Ak).2.1 < (0 : Int))) true (decide ((List.getD x d32.2.toNat Ak).2.1 > (2147483647 : Int)))) = true → K (3 : Int) ()) ∧ ((cond (decide ((List.getD x d32.2.toNat Ak).2.1 < (0 : Int))) true (decide ((List.getD x d32.2.toNat Ak).2.1 > (2147483647 : Int)))) = false → J34 d32.1))) (fun d35 => J33 (d35, (i64.wrap (d32.2 + (1 : Int)))))) ∧ ((decide (d32.2 < (x.length : Int))) = false → J30 d32.1)))) (fun d31 => Ai (D := Int) (fun J36 => Bl (D := (Int × Int)) (d31, (0 : Int)) (fun d38 J39 => (((decide (d38.2 < (x.length : Int))) = true → Ai (D := Int) (fun J40 => (0 ≤ d38.2 ∧ d38.2 < (x.length : Int)) ∧
 (d38.2.toNat < x.length) ∧
 Fn P zS8 Ahk (List.getD x d38.2.toNat Ak).2.2 (fun (d42 : Int) (e43 : Unit) => (((d42 != (0 : Int)) = true → K d42 ()) ∧ ((d42 != (0 : Int)) = false → J40 d38.1)))) (fun d41 => J39 (d41, (i64.wrap (d38.2 + (1 : Int)))))) ∧ ((decide (d38.2 < (x.length : Int))) = false → J36 d38.1)))) (fun d37 => K (0 : Int) ())))))))
theorem Ah9 {P : Pg} (h : Has P AhC) {x : DP Ahl.ps} {K : DP Ahl.rs → DP (ptrs Ahl.ps) → Prop} (hw : AhW P x K) : Fn P zS9 Ahl x K :=
 Cc (c := AhN) h rfl rfl (by kernel_rfl) (Eq.mpr (show Ca P AhC Ahl AhN x K = _ by kernel_rfl) hw)
def Ae1 : Bw :=
 (.seq (.region [o1 4 (.asg kF)]) (.seq (.seq (.region [im 6 0, o1 7 (.lenK 6), im 8 1, o1 9 (.lenK 8), o1 10 (.bin .neq 7 9)]) (.cond 10 (.seq (.region [o1 4 (.asg kF)]) .ret)
 .skip)) (.seq (.seq (.region [ia 5 (kI 0)]) (.frame (rg [4, 5] 11 15) [] false (.join [.sl 4 false .bool .leaf] (.block 0 (.loop [.sl 4 false .bool .leaf, .si 5] (.seq (.seq
 (.region [im 11 5, im 12 0, o1 13 (.lenK 12), o1 14 (.bin .lss 11 13)]) (.cond 14 .skip (.exit 0))) (.seq (.frame (rg [4] 17 9) [] false (.join [.sl 4 false .bool .leaf] (.block 1
 (.seq (.draw [(.first (im 17 0) (.first (im 18 5) (.first (o1 19 (.ixA 1 17 18)) (.first (ld 20 19) (.first (im 21 1) (.first (im 22 5) (.first (o1 23 (.ixA 1 21 22)) (.first (ld
 24 23) (.first (o1 25 (.bin .neq 20 24)) .done)))))))))]) (.cond 25 (.seq (.region [o1 4 (.asg kF)]) .ret) .skip))))) (.region [im 15 5, o1 16 (.bin .add 15 (kI 1)), ia 5
 16])))))))) (.seq (.region [o1 4 (.asg kT)]) .ret))))
def AeL : AFn := ⟨ zS4, Ae1.erase, [.tmp 4], 2⟩
def Afj (P : Pg) (x : ((List Int) × (List Int))) (K : Bool → Unit → Prop) : Prop :=
 ((((x.1.length : Int) != (x.2.length : Int)) = true → K false ()) ∧ (((x.1.length : Int) != (x.2.length : Int)) = false → Ai (D := Bool) (fun J1 => Bl (D := (Bool × Int)) (false, (0 : Int)) (fun d3 J4 => (((decide (d3.2 < (x.1.length : Int))) = true → Ai (D := Bool) (fun J5 => (0 ≤ d3.2 ∧ d3.2 < (x.1.length : Int)) ∧
 (d3.2.toNat < x.1.length) ∧
 (0 ≤ d3.2 ∧ d3.2 < (x.2.length : Int)) ∧
 (d3.2.toNat < x.2.length) ∧
 ((((List.getD x.1 d3.2.toNat (0 : Int)) != (List.getD x.2 d3.2.toNat (0 : Int))) = true → K false ()) ∧ (((List.getD x.1 d3.2.toNat (0 : Int)) != (List.getD x.2 d3.2.toNat (0 : Int))) = false → J5 d3.1))) (fun d6 => J4 (d6, (i64.wrap (d3.2 + (1 : Int)))))) ∧ ((decide (d3.2 < (x.1.length : Int))) = false → J1 d3.1)))) (fun d2 => K true ())))
theorem AfM {P : Pg} (h : Has P AeL) {x : DP Aem.ps} {K : DP Aem.rs → DP (ptrs Aem.ps) → Prop} (hw : Afj P x K) : Fn P zS4 Aem x K :=
 Cc (c := Ae1) h rfl rfl (by kernel_rfl) (Eq.mpr (show Ca P AeL Aem Ae1 x K = _ by kernel_rfl) hw)
def AeI : Bw :=
 (.seq (.region [o1 0 (.asg kF)]) (.seq (.region [o1 6 (.build [(.slice none 0 0), (.int .i64 0), (.slice none 0 0)] []), ⟨⟨some 7, .buildSl 1 [(.int .i64 0)] 1 [(0, (kI 0))],
 none⟩, some (bI, .leaf), ⟨[], []⟩, true, none, false, false⟩, o1 8 (.build [(.slice none 0 0), (.int .i64 0), (.slice none 0 0)] [(0, 1, 7), (1, 1, (kI 5))]), ⟨⟨some 9, .buildSl 1
 [(.int .i64 0)] 1 [(0, (kI 0))], none⟩, some (bI, .leaf), ⟨[], []⟩, true, none, false, false⟩, o1 10 (.build [(.slice none 0 0), (.int .i64 0), (.slice none 0 0)] [(0, 1, 9), (1,
 1, (kI 7))]), oT ⟨some 11, .buildSl 3 [(.slice none 0 0), (.int .i64 0), (.slice none 0 0)] 3 [(0, 6), (1, 8), (2, 10)], none⟩ (some (AB, (.pair tM (.pair .leaf tM)))), ia 1
 11]) (.seq (.region [im 13 1, oS ⟨some 14, .call AaC [13, (kI 1), (kI 2)], none⟩ Aen, im 12 14, o1 15 (.ext 12 0), o1 16 (.ext 12 1), ia 2 15,
 ia 3 16]) (.seq (.region [im 18 1, oT ⟨some 19, .buildSl 1 [(.int .i64 0)] 3 [(0, (kI 0)), (1, (kI 1)), (2, (kI 2))], none⟩ (some (bI, .leaf)), oS ⟨some 20, .call
 AaD [18, 19], none⟩ Aep, im 17 20, o1 21 (.ext 17 0), o1 22 (.ext 17 1), ia 4 21, ia 5 22]) (.seq (.region [im 23 3, o1 24 (.bin
 .eql 23 (kI 0)), im 25 24, gt 26 25 (.mv 5), gt 27 25 (.bin .eql 26 (kI 0)), o1 28 (.pick 25 27 kF), im 29 28, ⟨⟨some 30, .mv 2, some (29, true)⟩, none, ⟨[], []⟩, false, some 29,
 true, false⟩, ⟨⟨some 31, .buildSl 1 [(.int .i64 0)] 1 [(0, (kI 0))], some (29, true)⟩, some (bI, .leaf), ⟨[], []⟩, false, none, true, false⟩, ⟨⟨some 32, .call
 zS4 [30, 31], some (29, true)⟩, none, Aem, false, none, true, true⟩, o1 33 (.pick 29 32 kF), im 34 33, ⟨⟨some 35, .mv 4, some (34, true)⟩, none,
 ⟨[], []⟩, false, some 34, true, false⟩, ⟨⟨some 36, .buildSl 1 [(.int .i64 0)] 2 [(0, (kI 1)), (1, (kI 2))], some (34, true)⟩, some (bI, .leaf), ⟨[], []⟩, false, none, true, false⟩,
 ⟨⟨some 37, .call zS4 [35, 36], some (34, true)⟩, none, Aem, false, none, true, true⟩, o1 38 (.pick 34 37 kF), ia 0 38]) .ret)))))
def Aez : AFn := ⟨ zS5, AeI.erase, [.tmp 0], 0⟩
def AeW (P : Pg) (x : Unit) (K : Bool → Unit → Prop) : Prop :=
 Fn P AaC Aen (([([], ((0 : Int), [])), (([(0 : Int)] : List Int), ((5 : Int), [])), (([(0 : Int)] : List Int), ((7 : Int), []))] : List Commit), ((1 : Int), (2 : Int))) (fun (d1 : ((List Int) × Int)) (e2 : Unit) => Fn P AaD Aep (([([], ((0 : Int), [])), (([(0 : Int)] : List Int), ((5 : Int), [])), (([(0 : Int)] : List Int), ((7 : Int), []))] : List Commit), ([(0 : Int), (1 : Int), (2 : Int)] : List Int)) (fun (d3 : ((List Int) × Int)) (e4 : Unit) => (((cond (d1.2 == (0 : Int)) (d3.2 == (0 : Int)) false) = true → Fn P zS4 Aem (d1.1, ([(0 : Int)] : List Int)) (fun (d5 : Bool) (e6 : Unit) => (((cond true d5 false) = true → Fn P zS4 Aem (d3.1, ([(1 : Int), (2 : Int)] : List Int)) (fun (d7 : Bool) (e8 : Unit) => K (cond true d7 false) ())) ∧ ((cond true d5 false) = false → K (cond false false false) ())))) ∧ ((cond (d1.2 == (0 : Int)) (d3.2 == (0 : Int)) false) = false → (((cond false false false) = true → Fn P zS4 Aem (d3.1, ([(1 : Int), (2 : Int)] : List Int)) (fun (d9 : Bool) (e10 : Unit) => K (cond true d9 false) ())) ∧ ((cond false false false) = false → K (cond false false false) ()))))))
theorem Afk {P : Pg} (h : Has P Aez) {x : DP Ael.ps} {K : DP Ael.rs → DP (ptrs Ael.ps) → Prop} (hw : AeW P x K) : Fn P zS5 Ael x K :=
 Cc (c := AeI) h rfl rfl (by kernel_rfl) (Eq.mpr (show Ca P Aez Ael AeI x K = _ by kernel_rfl) hw)
def Gh : Bw :=
 (.seq (.region [o1 1 (.box 0), o1 2 (.asg kF)]) (.seq (.region [fa 3 0 1, ld 4 3, o1 5 (.lenK 4), o1 6 (.bin .gtr 5 (kI 32)), ia 2 6]) .ret))
def EU : AFn := ⟨ WN, Gh.erase, [.tmp 2], 1⟩
def Od (P : Pg) (x : Commit) (K : Bool → Unit → Prop) : Prop :=
 K (decide ((x.1.length : Int) > (32 : Int))) ()
theorem Np {P : Pg} (h : Has P EU) {x : DP CV.ps} {K : DP CV.rs → DP (ptrs CV.ps) → Prop} (hw : Od P x K) : Fn P WN CV x K :=
 Cc (c := Gh) h rfl rfl (by kernel_rfl) (Eq.mpr (show Ca P EU CV Gh x K = _ by kernel_rfl) hw)
def Be : Bw :=
 (.seq (.region [ia 4 (kI 0)]) (.seq (.seq (.region [im 6 0, o1 7 (.lenK 6), o1 8 (.mv (kI 0))]) (.frame (rg [4, 5] 8 11) [] false (.join [.si 4] (.block 0 (.loop [.si 4, .si 8]
 (.seq (.region [o1 9 (.bin .lss 8 7)]) (.seq (.cond 9 .skip (.exit 0)) (.seq (.frame (rg [4, 5] 10 8) [] false (.join [.si 4] (.block 1 (.seq (.region [im 10 8, ia 5 10]) (.seq
 (.region [im 11 1, im 12 0, im 13 5, o1 14 (.ixA 3 12 13), o1 15 (.load true 3 14), oS ⟨some 16, .callv 11 [15], none⟩ CV]) (.cond 16 (.seq (.region [im 17 5, ia 4
 17]) .ret) .skip)))))) (.region [o1 18 (.bin .add 8 (kI 1)), im 8 18]))))))))) (.seq (.region [ia 4 (kI (-1))]) .ret)))
def AO : AFn := ⟨ zS0, Be.erase, [.tmp 4], 2⟩
def BJ (P : Pg) (x : ((List Commit) × Unit)) (K : Int → Unit → Prop) : Prop :=
 Ai (D := Int) (fun J1 => Bl (D := (Int × Int)) ((0 : Int), (0 : Int)) (fun d3 J4 => (((decide (d3.2 < (x.1.length : Int))) = true → Ai (D := Int) (fun J5 => (0 ≤ d3.2 ∧ d3.2 < (x.1.length : Int)) ∧
 (d3.2.toNat < x.1.length) ∧
 Fn P WN CV (List.getD x.1 d3.2.toNat Ak) (fun (d7 : Bool) (e8 : Unit) => ((d7 = true → K d3.2 ()) ∧ (d7 = false → J5 d3.1)))) (fun d6 => J4 (d6, (i64.wrap (d3.2 + (1 : Int)))))) ∧ ((decide (d3.2 < (x.1.length : Int))) = false → J1 d3.1)))) (fun d2 => K (-1 : Int) ())
theorem CO {P : Pg} (h : Has P AO) {x : DP Ap.ps} {K : DP Ap.rs → DP (ptrs Ap.ps) → Prop} (hw : BJ P x K) : Fn P zS0 Ap x K :=
 Cc (c := Be) h rfl rfl (by kernel_rfl) (Eq.mpr (show Ca P AO Ap Be x K = _ by kernel_rfl) hw)
def A8 : Bw :=
 (.seq (.region [o1 4 (.asg kF)]) (.seq (.region [im 5 0, im 6 1, oS ⟨some 7, .call zS0 [5, 6], none⟩
 Ap, o1 8 (.bin .geq 7 (kI 0)), ia 4 8]) .ret))
def AK : AFn := ⟨ zS1, A8.erase, [.tmp 4], 2⟩
def Bz (P : Pg) (x : ((List Commit) × Unit)) (K : Bool → Unit → Prop) : Prop :=
 Fn P zS0 Ap (x.1, ()) (fun (d1 : Int) (e2 : Unit) => K (decide (d1 ≥ (0 : Int))) ())
theorem CA {P : Pg} (h : Has P AK) {x : DP Al.ps} {K : DP Al.rs → DP (ptrs Al.ps) → Prop} (hw : Bz P x K) : Fn P zS1 Al x K :=
 Cc (c := A8) h rfl rfl (by kernel_rfl) (Eq.mpr (show Ca P AK Al A8 x K = _ by kernel_rfl) hw)
def HR : Bw :=
 (.seq (.region [o1 2 (.asg kF)]) (.seq (.region [im 3 0, o1 4 (.lenK 3), o1 5 (.bin .leq 4 (kI 300)), im 6 5, gt 7 6 (.mv 0), oS ⟨some 8, .call
 zS1 [7, (.f WN)], some (6, true)⟩ Al,
 gt 9 6 (.un .not 8), o1 10 (.pick 6 9 kF), ia 2 10]) .ret))
def FP : AFn := ⟨ AaE, HR.erase, [.tmp 2], 1⟩
def K1 (P : Pg) (x : (List Commit)) (K : Bool → Unit → Prop) : Prop :=
 Ai (D := Bool) (fun J1 => (((decide ((x.length : Int) ≤ (300 : Int))) = true → Fn P zS1 Al (x, ()) (fun (d2 : Bool) _ => J1 d2)) ∧ (((decide ((x.length : Int) ≤ (300 : Int))) = false → J1 false) ∧ True))) (fun d3 => K (cond (decide ((x.length : Int) ≤ (300 : Int))) (!d3) false) ())
theorem Pj {P : Pg} (h : Has P FP) {x : DP Da.ps} {K : DP Da.rs → DP (ptrs Da.ps) → Prop} (hw : K1 P x K) : Fn P AaE Da x K :=
 Cc (c := HR) h rfl rfl (by kernel_rfl) (Eq.mpr (show Ca P FP Da HR x K = _ by kernel_rfl) hw)
def D2 : Bw :=
 (.seq (.region [ia 4 (kI 0)]) (.seq (.seq (.region [im 6 0, o1 7 (.lenK 6), o1 8 (.mv (kI 0))]) (.frame (rg [4, 5] 8 11) [] false (.join [.si 4] (.block 0 (.loop [.si 4, .si 8]
 (.seq (.region [o1 9 (.bin .lss 8 7)]) (.seq (.cond 9 .skip (.exit 0)) (.seq (.frame (rg [4, 5] 10 8) [] false (.join [.si 4] (.block 1 (.seq (.region [im 10 8, ia 5 10]) (.seq
 (.region [im 11 1, im 12 0, im 13 5, o1 14 (.ixA 1 12 13), ld 15 14, o1 16 (.bin .eql 11 15)]) (.cond 16 (.seq (.region [im 17 5, ia 4 17]) .ret) .skip)))))) (.region [o1 18 (.bin
 .add 8 (kI 1)), im 8 18]))))))))) (.seq (.region [ia 4 (kI (-1))]) .ret)))
def C6 : AFn := ⟨ "slices.Index[[]int,int]", D2.erase, [.tmp 4], 2⟩
def Fc (P : Pg) (x : ((List Int) × Int)) (K : Int → Unit → Prop) : Prop :=
 Ai (D := Int) (fun J1 => Bl (D := (Int × Int)) ((0 : Int), (0 : Int)) (fun d3 J4 => (((decide (d3.2 < (x.1.length : Int))) = true → Ai (D := Int) (fun J5 => (0 ≤ d3.2 ∧ d3.2 < (x.1.length : Int)) ∧
 (d3.2.toNat < x.1.length) ∧
 (((x.2 == (List.getD x.1 d3.2.toNat (0 : Int))) = true → K d3.2 ()) ∧ ((x.2 == (List.getD x.1 d3.2.toNat (0 : Int))) = false → J5 d3.1))) (fun d6 => J4 (d6, (i64.wrap (d3.2 + (1 : Int)))))) ∧ ((decide (d3.2 < (x.1.length : Int))) = false → J1 d3.1)))) (fun d2 => K (-1 : Int) ())
theorem H8 {P : Pg} (h : Has P C6) {x : DP Bp.ps} {K : DP Bp.rs → DP (ptrs Bp.ps) → Prop} (hw : Fc P x K) : Fn P "slices.Index[[]int,int]" Bp x K :=
 Cc (c := D2) h rfl rfl (by kernel_rfl) (Eq.mpr (show Ca P C6 Bp D2 x K = _ by kernel_rfl) hw)
def Dq : Bw :=
 (.seq (.region [o1 4 (.asg kF)]) (.seq (.region [im 5 0, im 6 1, oS ⟨some 7, .call "slices.Index[[]int,int]" [5, 6], none⟩ Bp, o1 8 (.bin .geq 7 (kI 0)), ia 4
 8]) .ret))
def Cy : AFn := ⟨ "slices.Contains[[]int,int]", Dq.erase, [.tmp 4], 2⟩
def ED (P : Pg) (x : ((List Int) × Int)) (K : Bool → Unit → Prop) : Prop :=
 Fn P "slices.Index[[]int,int]" Bp x (fun (d1 : Int) (e2 : Unit) => K (decide (d1 ≥ (0 : Int))) ())
theorem G1 {P : Pg} (h : Has P Cy) {x : DP Bg.ps} {K : DP Bg.rs → DP (ptrs Bg.ps) → Prop} (hw : ED P x K) : Fn P "slices.Contains[[]int,int]" Bg x K :=
 Cc (c := Dq) h rfl rfl (by kernel_rfl) (Eq.mpr (show Ca P Cy Bg Dq x K = _ by kernel_rfl) hw)
def HS : Bw :=
 (.seq (.region [o1 2 (.asg kF)]) (.seq (.seq (.region [im 7 0, o1 8 (.lenK 7), o1 9 (.mv (kI 0))]) (.frame (rg [2, 4, 5, 6] 9 30) [1004] false (.join [.sl 2 false .bool .leaf]
 (.block 0 (.loop [.sl 2 false .bool .leaf, .si 9] (.seq (.region [o1 10 (.bin .lss 9 8)]) (.seq (.cond 10 .skip (.exit 0)) (.seq (.frame (rg [2, 4, 5, 6] 11 27) [1004] false (.join
 [.sl 2 false .bool .leaf] (.block 1 (.seq (.region [o1 11 (.ixA 3 7 9), o1 12 (.load true 3 11), o1 4 (.alloc [(.slice none 0 0), (.int .i64 0), (.slice none 0 0)]), o0 ⟨none,
 .store 3 4 12, none⟩]) (.seq (.region [fa 13 0 4, ld 14 13, o1 15 (.lenK 14), o1 16 (.mv (kI 0))]) (.frame (rg [2, 5, 6] 16 22) [] false (.join [.sl 2 false .bool .leaf] (.block 2
 (.loop [.sl 2 false .bool .leaf, .si 16] (.seq (.region [o1 17 (.bin .lss 16 15)]) (.seq (.cond 17 .skip (.exit 2)) (.seq (.frame (rg [2, 5, 6] 18 19) [] false (.join [.sl 2 false
 .bool .leaf] (.block 3 (.seq (.region [im 18 16, o1 19 (.ixA 1 14 16), ld 20 19, ia 5 18, ia 6 20]) (.seq (.region [im 21 6, o1 22 (.bin .lss 21 (kI 0)), im 23 22, gf 24 23 (.mv
 6), gf 25 23 (.mv 0), gf 26 23 (.lenK 25), gf 27 23 (.bin .geq 24 26), o1 28 (.pick 23 kT 27), im 29 28, gf 30 29 (.fAddr 0 4), gf 31 29 (.load false 1 30), gf 32 29 (.mv 5), gf 33
 29 (.slK 1 31 none (some 32)), gf 34 29 (.mv 6), oS ⟨some 35, .call "slices.Contains[[]int,int]" [33, 34], some (29, false)⟩ Bg, o1 36 (.pick 29 kT 35)])
 (.cond 36 (.seq (.region [o1 2 (.asg kF)]) .ret) .skip)))))) (.region [o1 37 (.bin .add 16 (kI 1)), im 16 37]))))))))))))) (.region [o1 38 (.bin .add 9 (kI 1)), im 9 38])))))))))
 (.seq (.region [o1 2 (.asg kT)]) .ret)))
def FQ : AFn := ⟨ AaF, HS.erase, [.tmp 2], 1⟩
def K2 (P : Pg) (x : (List Commit)) (K : Bool → Unit → Prop) : Prop :=
 Ai (D := Bool) (fun J1 => Bl (D := (Bool × Int)) (false, (0 : Int)) (fun d3 J4 => (((decide (d3.2 < (x.length : Int))) = true → Ai (D := Bool) (fun J5 => (0 ≤ d3.2 ∧ d3.2 < (x.length : Int)) ∧
 (d3.2.toNat < x.length) ∧
 Ai (D := Bool) (fun J7 => Bl (D := (Bool × Int)) (d3.1, (0 : Int)) (fun d9 J10 => (((decide (d9.2 < ((List.length (List.getD x d3.2.toNat Ak).1 : Nat) : Int))) = true → Ai (D := Bool) (fun J11 => (0 ≤ d9.2 ∧ d9.2 < ((List.length (List.getD x d3.2.toNat Ak).1 : Nat) : Int)) ∧
 (d9.2.toNat < List.length (List.getD x d3.2.toNat Ak).1) ∧
 (((cond (decide ((List.getD (List.getD x d3.2.toNat Ak).1 d9.2.toNat (0 : Int)) < (0 : Int))) true (decide ((List.getD (List.getD x d3.2.toNat Ak).1 d9.2.toNat (0 : Int)) ≥ (x.length : Int)))) = false → 0 ≤ d9.2 ∧ d9.2 ≤ ((List.length (List.getD x d3.2.toNat Ak).1 : Nat) : Int))) ∧
 Ai (D := Bool) (fun J13 => (((cond (decide ((List.getD (List.getD x d3.2.toNat Ak).1 d9.2.toNat (0 : Int)) < (0 : Int))) true (decide ((List.getD (List.getD x d3.2.toNat Ak).1 d9.2.toNat (0 : Int)) ≥ (x.length : Int)))) = false → Fn P "slices.Contains[[]int,int]" Bg ((List.take d9.2.toNat (List.getD x d3.2.toNat Ak).1), (List.getD (List.getD x d3.2.toNat Ak).1 d9.2.toNat (0 : Int))) (fun (d14 : Bool) _ => J13 d14)) ∧ (((cond (decide ((List.getD (List.getD x d3.2.toNat Ak).1 d9.2.toNat (0 : Int)) < (0 : Int))) true (decide ((List.getD (List.getD x d3.2.toNat Ak).1 d9.2.toNat (0 : Int)) ≥ (x.length : Int)))) = true → J13 false) ∧ True))) (fun d15 => (((cond (cond (decide ((List.getD (List.getD x d3.2.toNat Ak).1 d9.2.toNat (0 : Int)) < (0 : Int))) true (decide ((List.getD (List.getD x d3.2.toNat Ak).1 d9.2.toNat (0 : Int)) ≥ (x.length : Int)))) true d15) = true → K false ()) ∧ ((cond (cond (decide ((List.getD (List.getD x d3.2.toNat Ak).1 d9.2.toNat (0 : Int)) < (0 : Int))) true (decide ((List.getD (List.getD x d3.2.toNat Ak).1 d9.2.toNat (0 : Int)) ≥ (x.length : Int)))) true d15) = false → J11 d9.1)))) (fun d12 => J10 (d12, (i64.wrap (d9.2 + (1 : Int)))))) ∧ ((decide (d9.2 < ((List.length (List.getD x d3.2.toNat Ak).1 : Nat) : Int))) = false → J7 d9.1)))) (fun d8 => J5 d8)) (fun d6 => J4 (d6, (i64.wrap (d3.2 + (1 : Int)))))) ∧ ((decide (d3.2 < (x.length : Int))) = false → J1 d3.1)))) (fun d2 => K true ())
theorem Pk {P : Pg} (h : Has P FQ) {x : DP Db.ps} {K : DP Db.rs → DP (ptrs Db.ps) → Prop} (hw : K2 P x K) : Fn P AaF Db x K :=
 Cc (c := HS) h rfl rfl (by kernel_rfl) (Eq.mpr (show Ca P FQ Db HS x K = _ by kernel_rfl) hw)
def IV : Bw :=
 (.seq (.region [o1 2 (.asg (.c (.slice none 0 0)))]) (.seq (.region [im 14 0, o1 15 (.lenK 14), oT ⟨some 16, .mkSl 1 8 [(.int .i64 0)] 15 15, none⟩ (some (bI, .leaf)), ia 3 16])
 (.seq (.seq (.region [im 17 0, o1 18 (.lenK 17), o1 19 (.mv (kI 0))]) (.frame (rg [3, 5, 7] 19 19) [1005] false (.join [.sl 3 false (.sl bI) tO] (.block 0 (.loop [.sl 3 false (.sl
 bI) tO, .si 19] (.seq (.region [o1 20 (.bin .lss 19 18)]) (.seq (.cond 20 .skip (.exit 0)) (.seq (.frame (rg [3, 5, 7] 21 16) [1005] false (.join [.sl 3 false (.sl bI) tO] (.block
 1 (.seq (.region [o1 21 (.ixA 3 17 19), o1 22 (.load true 3 21), o1 5 (.alloc [(.slice none 0 0), (.int .i64 0), (.slice none 0 0)]), o0 ⟨none, .store 3 5 22, none⟩]) (.seq
 (.region [fa 23 0 5, ld 24 23, o1 25 (.lenK 24), o1 26 (.mv (kI 0))]) (.frame (rg [3, 7] 26 11) [] false (.join [.sl 3 false (.sl bI) tO] (.block 2 (.loop [.sl 3 false (.sl bI) tO,
 .si 26] (.seq (.region [o1 27 (.bin .lss 26 25)]) (.seq (.cond 27 .skip (.exit 2)) (.seq (.frame (rg [3, 7] 28 8) [] false (.join [.sl 3 false (.sl bI) tO] (.block 3 (.seq (.region
 [o1 28 (.ixA 1 24 26), ld 29 28, ia 7 29]) (.region [im 30 3, im 31 7, o1 32 (.ixA 1 30 31), ld 33 32, o1 34 (.bin .add 33 (kI 1)), o1 35 (.ixA 1 30 31), o0 ⟨none, .store 1 35 34,
 none⟩]))))) (.region [o1 36 (.bin .add 26 (kI 1)), im 26 36]))))))))))))) (.region [o1 37 (.bin .add 19 (kI 1)), im 19 37]))))))))) (.seq (.region [o1 8 (.asg (.c (.slice none 0
 0)))]) (.seq (.seq (.region [im 38 3, o1 39 (.lenK 38), o1 40 (.mv (kI 0))]) (.frame (rg [8, 9, 10] 40 12) [] false (.join [.sl 8 false (.sl bI) tO] (.block 4 (.loop [.sl 8 false
 (.sl bI) tO, .si 40] (.seq (.region [o1 41 (.bin .lss 40 39)]) (.seq (.cond 41 .skip (.exit 4)) (.seq (.frame (rg [8, 9, 10] 42 9) [] false (.join [.sl 8 false (.sl bI) tO] (.block
 5 (.seq (.region [im 42 40, o1 43 (.ixA 1 38 40), ld 44 43, ia 9 42, ia 10 44]) (.seq (.region [im 45 10, o1 46 (.bin .eql 45 (kI 0))]) (.frame (rg [8] 47 4) [] false (.join [.sl 8
 false (.sl bI) tO] (.cond 46 (.region [im 47 8, im 48 9, oT ⟨some 49, .buildSl 1 [(.int .i64 0)] 1 [(0, 48)], none⟩ (some (bI, .leaf)), oT ⟨some 50, .app 1 8 47 49, none⟩ (some
 (bI, .leaf)), ia 8 50]) .skip)))))))) (.region [o1 51 (.bin .add 40 (kI 1)), im 40 51]))))))))) (.seq (.seq (.region [ia 11 (kI 0)]) (.frame (rg [3, 8, 11, 13] 52 35) [] false
 (.join [.sl 8 false (.sl bI) tO] (.block 6 (.loop [.sl 3 false (.sl bI) tO, .sl 8 false (.sl bI) tO, .si 11] (.seq (.seq (.region [im 52 11, im 53 8, o1 54 (.lenK 53), o1 55 (.bin
 .lss 52 54)]) (.cond 55 .skip (.exit 6))) (.seq (.frame (rg [3, 8, 13] 58 29) [] false (.join [.sl 3 false (.sl bI) tO, .sl 8 false (.sl bI) tO] (.block 7 (.seq (.region [im 58 0,
 im 59 8, im 60 11, o1 61 (.ixA 1 59 60), ld 62 61, o1 63 (.ixA 3 58 62), fa 64 0 63, ld 65 64, o1 66 (.lenK 65), o1 67 (.mv (kI 0))]) (.frame (rg [3, 8, 13] 67 20) [] false (.join
 [.sl 3 false (.sl bI) tO, .sl 8 false (.sl bI) tO] (.block 8 (.loop [.sl 3 false (.sl bI) tO, .sl 8 false (.sl bI) tO, .si 67] (.seq (.region [o1 68 (.bin .lss 67 66)]) (.seq
 (.cond 68 .skip (.exit 8)) (.seq (.frame (rg [3, 8, 13] 69 17) [] false (.join [.sl 3 false (.sl bI) tO, .sl 8 false (.sl bI) tO] (.block 9 (.seq (.region [o1 69 (.ixA 1 65 67), ld
 70 69, ia 13 70]) (.seq (.region [im 71 3, im 72 13, o1 73 (.ixA 1 71 72), ld 74 73, o1 75 (.bin .sub 74 (kI 1)), o1 76 (.ixA 1 71 72), o0 ⟨none, .store 1 76 75, none⟩]) (.seq
 (.region [im 77 3, im 78 13, o1 79 (.ixA 1 77 78), ld 80 79, o1 81 (.bin .eql 80 (kI 0))]) (.frame (rg [8] 82 4) [] false (.join [.sl 8 false (.sl bI) tO] (.cond 81 (.region [im 82
 8, im 83 13, oT ⟨some 84, .buildSl 1 [(.int .i64 0)] 1 [(0, 83)], none⟩ (some (bI, .leaf)), oT ⟨some 85, .app 1 8 82 84, none⟩ (some (bI, .leaf)), ia 8 85]) .skip))))))))) (.region
 [o1 86 (.bin .add 67 (kI 1)), im 67 86])))))))))))) (.region [im 56 11, o1 57 (.bin .add 56 (kI 1)), ia 11 57])))))))) (.seq (.region [im 87 8, ia 2 87]) .ret)))))))
def Gl : AFn := ⟨ AaG, IV.erase, [.tmp 2], 1⟩
def LO (P : Pg) (x : (List Commit)) (K : (List Int) → Unit → Prop) : Prop :=
 (0 ≤ (x.length : Int) ∧ (x.length : Int) ≤ (x.length : Int) ∧ ((8 : Nat) : Int) * (x.length : Int) ≤ 281474976710656) ∧
 Ai (D := (List Int)) (fun J1 => Bl (D := ((List Int) × Int)) ((List.replicate (Int.toNat (x.length : Int)) (0 : Int)), (0 : Int)) (fun d3 J4 => (((decide (d3.2 < (x.length : Int))) = true → Ai (D := (List Int)) (fun J5 => (0 ≤ d3.2 ∧ d3.2 < (x.length : Int)) ∧
 (d3.2.toNat < x.length) ∧
 Ai (D := (List Int)) (fun J7 => Bl (D := ((List Int) × Int)) (d3.1, (0 : Int)) (fun d9 J10 => (((decide (d9.2 < ((List.length (List.getD x d3.2.toNat Ak).1 : Nat) : Int))) = true → Ai (D := (List Int)) (fun J11 => (0 ≤ d9.2 ∧ d9.2 < ((List.length (List.getD x d3.2.toNat Ak).1 : Nat) : Int)) ∧
 (d9.2.toNat < List.length (List.getD x d3.2.toNat Ak).1) ∧
 (0 ≤ (List.getD (List.getD x d3.2.toNat Ak).1 d9.2.toNat (0 : Int)) ∧ (List.getD (List.getD x d3.2.toNat Ak).1 d9.2.toNat (0 : Int)) < (d9.1.length : Int)) ∧
 ((Int.toNat (List.getD (List.getD x d3.2.toNat Ak).1 d9.2.toNat (0 : Int))) < d9.1.length) ∧
 (0 ≤ (List.getD (List.getD x d3.2.toNat Ak).1 d9.2.toNat (0 : Int)) ∧ (List.getD (List.getD x d3.2.toNat Ak).1 d9.2.toNat (0 : Int)) < (d9.1.length : Int)) ∧
 ((Int.toNat (List.getD (List.getD x d3.2.toNat Ak).1 d9.2.toNat (0 : Int))) < d9.1.length) ∧
 J11 (List.set d9.1 (Int.toNat (List.getD (List.getD x d3.2.toNat Ak).1 d9.2.toNat (0 : Int))) (i64.wrap ((List.getD d9.1 (Int.toNat (List.getD (List.getD x d3.2.toNat Ak).1 d9.2.toNat (0 : Int))) (0 : Int)) + (1 : Int))))) (fun d12 => J10 (d12, (i64.wrap (d9.2 + (1 : Int)))))) ∧ ((decide (d9.2 < ((List.length (List.getD x d3.2.toNat Ak).1 : Nat) : Int))) = false → J7 d9.1)))) (fun d8 => J5 d8)) (fun d6 => J4 (d6, (i64.wrap (d3.2 + (1 : Int)))))) ∧ ((decide (d3.2 < (x.length : Int))) = false → J1 d3.1)))) (fun d2 => Ai (D := (List Int)) (fun J13 => Bl (D := ((List Int) × Int)) ([], (0 : Int)) (fun d15 J16 => (((decide (d15.2 < (d2.length : Int))) = true → Ai (D := (List Int)) (fun J17 => (0 ≤ d15.2 ∧ d15.2 < (d2.length : Int)) ∧
 (d15.2.toNat < d2.length) ∧
 Ai (D := (List Int)) (fun J19 => ((((List.getD d2 d15.2.toNat (0 : Int)) == (0 : Int)) = true → ((d15.1.length + List.length ([d15.2] : List Int)) * 8 ≤ 140737488355328) ∧
 J19 (d15.1 ++ ([d15.2] : List Int))) ∧ (((List.getD d2 d15.2.toNat (0 : Int)) == (0 : Int)) = false → J19 d15.1))) (fun d20 => J17 d20)) (fun d18 => J16 (d18, (i64.wrap (d15.2 + (1 : Int)))))) ∧ ((decide (d15.2 < (d2.length : Int))) = false → J13 d15.1)))) (fun d14 => Ai (D := (List Int)) (fun J21 => Bl (D := ((List Int) × ((List Int) × Int))) (d2, (d14, (0 : Int))) (fun d23 J24 => (((decide (d23.2.2 < (d23.2.1.length : Int))) = true → Ai (D := ((List Int) × (List Int))) (fun J25 => (0 ≤ d23.2.2 ∧ d23.2.2 < (d23.2.1.length : Int)) ∧
 (d23.2.2.toNat < d23.2.1.length) ∧
 (0 ≤ (List.getD d23.2.1 d23.2.2.toNat (0 : Int)) ∧ (List.getD d23.2.1 d23.2.2.toNat (0 : Int)) < (x.length : Int)) ∧
 ((Int.toNat (List.getD d23.2.1 d23.2.2.toNat (0 : Int))) < x.length) ∧
 Ai (D := ((List Int) × (List Int))) (fun J27 => Bl (D := ((List Int) × ((List Int) × Int))) (d23.1, (d23.2.1, (0 : Int))) (fun d29 J30 => (((decide (d29.2.2 < ((List.length (List.getD x (Int.toNat (List.getD d23.2.1 d23.2.2.toNat (0 : Int))) Ak).1 : Nat) : Int))) = true → Ai (D := ((List Int) × (List Int))) (fun J31 => (0 ≤ d29.2.2 ∧ d29.2.2 < ((List.length (List.getD x (Int.toNat (List.getD d23.2.1 d23.2.2.toNat (0 : Int))) Ak).1 : Nat) : Int)) ∧
 (d29.2.2.toNat < List.length (List.getD x (Int.toNat (List.getD d23.2.1 d23.2.2.toNat (0 : Int))) Ak).1) ∧
 (0 ≤ (List.getD (List.getD x (Int.toNat (List.getD d23.2.1 d23.2.2.toNat (0 : Int))) Ak).1 d29.2.2.toNat (0 : Int)) ∧ (List.getD (List.getD x (Int.toNat (List.getD d23.2.1 d23.2.2.toNat (0 : Int))) Ak).1 d29.2.2.toNat (0 : Int)) < (d29.1.length : Int)) ∧
 ((Int.toNat (List.getD (List.getD x (Int.toNat (List.getD d23.2.1 d23.2.2.toNat (0 : Int))) Ak).1 d29.2.2.toNat (0 : Int))) < d29.1.length) ∧
 (0 ≤ (List.getD (List.getD x (Int.toNat (List.getD d23.2.1 d23.2.2.toNat (0 : Int))) Ak).1 d29.2.2.toNat (0 : Int)) ∧ (List.getD (List.getD x (Int.toNat (List.getD d23.2.1 d23.2.2.toNat (0 : Int))) Ak).1 d29.2.2.toNat (0 : Int)) < (d29.1.length : Int)) ∧
 ((Int.toNat (List.getD (List.getD x (Int.toNat (List.getD d23.2.1 d23.2.2.toNat (0 : Int))) Ak).1 d29.2.2.toNat (0 : Int))) < d29.1.length) ∧
 (0 ≤ (List.getD (List.getD x (Int.toNat (List.getD d23.2.1 d23.2.2.toNat (0 : Int))) Ak).1 d29.2.2.toNat (0 : Int)) ∧ (List.getD (List.getD x (Int.toNat (List.getD d23.2.1 d23.2.2.toNat (0 : Int))) Ak).1 d29.2.2.toNat (0 : Int)) < ((List.length (List.set d29.1 (Int.toNat (List.getD (List.getD x (Int.toNat (List.getD d23.2.1 d23.2.2.toNat (0 : Int))) Ak).1 d29.2.2.toNat (0 : Int))) (i64.wrap ((List.getD d29.1 (Int.toNat (List.getD (List.getD x (Int.toNat (List.getD d23.2.1 d23.2.2.toNat (0 : Int))) Ak).1 d29.2.2.toNat (0 : Int))) (0 : Int)) - (1 : Int)))) : Nat) : Int)) ∧
 ((Int.toNat (List.getD (List.getD x (Int.toNat (List.getD d23.2.1 d23.2.2.toNat (0 : Int))) Ak).1 d29.2.2.toNat (0 : Int))) < List.length (List.set d29.1 (Int.toNat (List.getD (List.getD x (Int.toNat (List.getD d23.2.1 d23.2.2.toNat (0 : Int))) Ak).1 d29.2.2.toNat (0 : Int))) (i64.wrap ((List.getD d29.1 (Int.toNat (List.getD (List.getD x (Int.toNat (List.getD d23.2.1 d23.2.2.toNat (0 : Int))) Ak).1 d29.2.2.toNat (0 : Int))) (0 : Int)) - (1 : Int))))) ∧
 Ai (D := (List Int)) (fun J33 => ((((List.getD (List.set d29.1 (Int.toNat (List.getD (List.getD x (Int.toNat (List.getD d23.2.1 d23.2.2.toNat (0 : Int))) Ak).1 d29.2.2.toNat (0 : Int))) (i64.wrap ((List.getD d29.1 (Int.toNat (List.getD (List.getD x (Int.toNat (List.getD d23.2.1 d23.2.2.toNat (0 : Int))) Ak).1 d29.2.2.toNat (0 : Int))) (0 : Int)) - (1 : Int)))) (Int.toNat (List.getD (List.getD x (Int.toNat (List.getD d23.2.1 d23.2.2.toNat (0 : Int))) Ak).1 d29.2.2.toNat (0 : Int))) (0 : Int)) == (0 : Int)) = true → ((d29.2.1.length + List.length ([(List.getD (List.getD x (Int.toNat (List.getD d23.2.1 d23.2.2.toNat (0 : Int))) Ak).1 d29.2.2.toNat (0 : Int))] : List Int)) * 8 ≤ 140737488355328) ∧
 J33 (d29.2.1 ++ ([(List.getD (List.getD x (Int.toNat (List.getD d23.2.1 d23.2.2.toNat (0 : Int))) Ak).1 d29.2.2.toNat (0 : Int))] : List Int))) ∧ (((List.getD (List.set d29.1 (Int.toNat (List.getD (List.getD x (Int.toNat (List.getD d23.2.1 d23.2.2.toNat (0 : Int))) Ak).1 d29.2.2.toNat (0 : Int))) (i64.wrap ((List.getD d29.1 (Int.toNat (List.getD (List.getD x (Int.toNat (List.getD d23.2.1 d23.2.2.toNat (0 : Int))) Ak).1 d29.2.2.toNat (0 : Int))) (0 : Int)) - (1 : Int)))) (Int.toNat (List.getD (List.getD x (Int.toNat (List.getD d23.2.1 d23.2.2.toNat (0 : Int))) Ak).1 d29.2.2.toNat (0 : Int))) (0 : Int)) == (0 : Int)) = false → J33 d29.2.1))) (fun d34 => J31 ((List.set d29.1 (Int.toNat (List.getD (List.getD x (Int.toNat (List.getD d23.2.1 d23.2.2.toNat (0 : Int))) Ak).1 d29.2.2.toNat (0 : Int))) (i64.wrap ((List.getD d29.1 (Int.toNat (List.getD (List.getD x (Int.toNat (List.getD d23.2.1 d23.2.2.toNat (0 : Int))) Ak).1 d29.2.2.toNat (0 : Int))) (0 : Int)) - (1 : Int)))), d34))) (fun d32 => J30 (d32.1, (d32.2, (i64.wrap (d29.2.2 + (1 : Int))))))) ∧ ((decide (d29.2.2 < ((List.length (List.getD x (Int.toNat (List.getD d23.2.1 d23.2.2.toNat (0 : Int))) Ak).1 : Nat) : Int))) = false → J27 (d29.1, d29.2.1))))) (fun d28 => J25 d28)) (fun d26 => J24 (d26.1, (d26.2, (i64.wrap (d23.2.2 + (1 : Int))))))) ∧ ((decide (d23.2.2 < (d23.2.1.length : Int))) = false → J21 d23.2.1)))) (fun d22 => K d22 ())))
theorem Qw {P : Pg} (h : Has P Gl) {x : DP Ds.ps} {K : DP Ds.rs → DP (ptrs Ds.ps) → Prop} (hw : LO P x K) : Fn P AaG Ds x K :=
 Cc (c := IV) h rfl rfl (by kernel_rfl) (Eq.mpr (show Ca P Gl Ds IV x K = _ by kernel_rfl) hw)
def Hf : Bw :=
 (.seq (.region [o1 1 (.box 0), o1 2 (.asg kF)]) (.seq (.region [fa 3 0 1, ld 4 3, oS ⟨some 5, .call AaM [4], none⟩ DJ, o1 6 (.bin .neq 5 (kI
 0)), ia 2 6]) .ret))
def E8 : AFn := ⟨ zS6, Hf.erase, [.tmp 2], 1⟩
def Jo (P : Pg) (x : ((List UInt8) × (List UInt8))) (K : Bool → Unit → Prop) : Prop :=
 Fn P AaM DJ x.1 (fun (d1 : Int) (e2 : Unit) => K (d1 != (0 : Int)) ())
theorem Oi {P : Pg} (h : Has P E8) {x : DP CJ.ps} {K : DP CJ.rs → DP (ptrs CJ.ps) → Prop} (hw : Jo P x K) : Fn P zS6 CJ x K :=
 Cc (c := Hf) h rfl rfl (by kernel_rfl) (Eq.mpr (show Ca P E8 CJ Hf x K = _ by kernel_rfl) hw)
def Bn : Bw :=
 (.seq (.region [ia 4 (kI 0)]) (.seq (.seq (.region [im 6 0, o1 7 (.lenK 6), o1 8 (.mv (kI 0))]) (.frame (rg [4, 5] 8 11) [] false (.join [.si 4] (.block 0 (.loop [.si 4, .si 8]
 (.seq (.region [o1 9 (.bin .lss 8 7)]) (.seq (.cond 9 .skip (.exit 0)) (.seq (.frame (rg [4, 5] 10 8) [] false (.join [.si 4] (.block 1 (.seq (.region [im 10 8, ia 5 10]) (.seq
 (.region [im 11 1, im 12 0, im 13 5, o1 14 (.ixA 2 12 13), o1 15 (.load true 2 14), oS ⟨some 16, .callv 11 [15], none⟩ CJ]) (.cond 16 (.seq (.region [im 17 5, ia 4 17])
 .ret) .skip)))))) (.region [o1 18 (.bin .add 8 (kI 1)), im 8 18]))))))))) (.seq (.region [ia 4 (kI (-1))]) .ret)))
def A1 : AFn := ⟨ zS2, Bn.erase, [.tmp 4], 2⟩
def BZ (P : Pg) (x : ((List ((List UInt8) × (List UInt8))) × Unit)) (K : Int → Unit → Prop) : Prop :=
 Ai (D := Int) (fun J1 => Bl (D := (Int × Int)) ((0 : Int), (0 : Int)) (fun d3 J4 => (((decide (d3.2 < (x.1.length : Int))) = true → Ai (D := Int) (fun J5 => (0 ≤ d3.2 ∧ d3.2 < (x.1.length : Int)) ∧
 (d3.2.toNat < x.1.length) ∧
 Fn P zS6 CJ (List.getD x.1 d3.2.toNat ([], [])) (fun (d7 : Bool) (e8 : Unit) => ((d7 = true → K d3.2 ()) ∧ (d7 = false → J5 d3.1)))) (fun d6 => J4 (d6, (i64.wrap (d3.2 + (1 : Int)))))) ∧ ((decide (d3.2 < (x.1.length : Int))) = false → J1 d3.1)))) (fun d2 => K (-1 : Int) ())
theorem De {P : Pg} (h : Has P A1) {x : DP Aw.ps} {K : DP Aw.rs → DP (ptrs Aw.ps) → Prop} (hw : BZ P x K) : Fn P zS2 Aw x K :=
 Cc (c := Bn) h rfl rfl (by kernel_rfl) (Eq.mpr (show Ca P A1 Aw Bn x K = _ by kernel_rfl) hw)
def Bh : Bw :=
 (.seq (.region [o1 4 (.asg kF)]) (.seq (.region [im 5 0, im 6 1, oS ⟨some 7, .call zS2 [5, 6], none⟩
 Aw, o1 8 (.bin .geq 7 (kI 0)), ia 4 8]) .ret))
def AW : AFn := ⟨ zS3, Bh.erase, [.tmp 4], 2⟩
def BM (P : Pg) (x : ((List ((List UInt8) × (List UInt8))) × Unit)) (K : Bool → Unit → Prop) : Prop :=
 Fn P zS2 Aw (x.1, ()) (fun (d1 : Int) (e2 : Unit) => K (decide (d1 ≥ (0 : Int))) ())
theorem CW {P : Pg} (h : Has P AW) {x : DP Ar.ps} {K : DP Ar.rs → DP (ptrs Ar.ps) → Prop} (hw : BM P x K) : Fn P zS3 Ar x K :=
 Cc (c := Bh) h rfl rfl (by kernel_rfl) (Eq.mpr (show Ca P AW Ar Bh x K = _ by kernel_rfl) hw)
def I2 : Bw :=
 (.seq (.region [o1 2 (.asg kF)]) (.seq (.region [im 3 0, oS ⟨some 4, .call "strings.HasSuffix" [3, (.c (.string ⟨#[10]⟩))], none⟩ CZ, ia 2 4]) .ret))
def Gs : AFn := ⟨ AaH, I2.erase, [.tmp 2], 1⟩
def LV (P : Pg) (x : (List UInt8)) (K : Bool → Unit → Prop) : Prop :=
 Fn P "strings.HasSuffix" CZ (x, ([10] : List UInt8)) (fun (d1 : Bool) (e2 : Unit) => K d1 ())
theorem QC {P : Pg} (h : Has P Gs) {x : DP Dw.ps} {K : DP Dw.rs → DP (ptrs Dw.ps) → Prop} (hw : LV P x K) : Fn P AaH Dw x K :=
 Cc (c := I2) h rfl rfl (by kernel_rfl) (Eq.mpr (show Ca P Gs Dw I2 x K = _ by kernel_rfl) hw)
def I1 : Bw :=
 (.seq (.region [ia 2 (kI 0)]) (.seq (.region [im 4 0, oS ⟨some 5, .call "strings.Count" [4, (.c (.string ⟨#[10]⟩))], none⟩ D3, ia 3 5]) (.seq (.seq (.region [im 6 0,
 o1 7 (.bin .neq 6 (.c (.string ⟨#[]⟩))), im 8 7, gt 9 8 (.mv 0), oS ⟨some 10, .call AaH [9], some (8, true)⟩ Dw, gt 11 8 (.un .not 10), o1 12 (.pick 8
 11 kF)]) (.frame [3, 13, 14] [] false (.join [.si 3] (.cond 12 (.region [im 13 3, o1 14 (.bin .add 13 (kI 1)), ia 3 14]) .skip)))) (.seq (.seq (.region [im 15 0, o1 16 (.lenS 15),
 o1 17 (.bin .gtr 16 (kI 1048576)), im 18 17, gf 19 18 (.mv 3), gf 20 18 (.bin .gtr 19 (kI 4096)), o1 21 (.pick 18 kT 20)]) (.cond 21 (.seq (.region [ia 2 (kI 1)]) .ret) .skip))
 (.seq (.region [ia 2 (kI 0)]) .ret)))))
def Gr : AFn := ⟨ AaI, I1.erase, [.tmp 2], 1⟩
def LU (P : Pg) (x : (List UInt8)) (K : Int → Unit → Prop) : Prop :=
 Fn P "strings.Count" D3 (x, ([10] : List UInt8)) (fun (d1 : Int) (e2 : Unit) => Ai (D := Bool) (fun J3 => (((!(x == ([] : List UInt8))) = true → Fn P AaH Dw x (fun (d4 : Bool) _ => J3 d4)) ∧ (((!(x == ([] : List UInt8))) = false → J3 false) ∧ True))) (fun d5 => Ai (D := Int) (fun J6 => (((cond (!(x == ([] : List UInt8))) (!d5) false) = true → J6 (i64.wrap (d1 + (1 : Int)))) ∧ ((cond (!(x == ([] : List UInt8))) (!d5) false) = false → J6 d1))) (fun d7 => (((cond (decide ((x.length : Int) > (1048576 : Int))) true (decide (d7 > (4096 : Int)))) = true → K (1 : Int) ()) ∧ ((cond (decide ((x.length : Int) > (1048576 : Int))) true (decide (d7 > (4096 : Int)))) = false → K (0 : Int) ())))))
theorem QB {P : Pg} (h : Has P Gr) {x : DP Dv.ps} {K : DP Dv.rs → DP (ptrs Dv.ps) → Prop} (hw : LU P x K) : Fn P AaI Dv x K :=
 Cc (c := I1) h rfl rfl (by kernel_rfl) (Eq.mpr (show Ca P Gr Dv I1 x K = _ by kernel_rfl) hw)
def Hg : Bw :=
 (.seq (.region [o1 1 (.box 0), o1 2 (.asg kF)]) (.seq (.region [fa 3 1 1, ld 4 3, oS ⟨some 5, .call AaI [4], none⟩ Dv, o1 6 (.bin .neq 5 (kI 0)), ia 2
 6]) .ret))
def E9 : AFn := ⟨ zS7, Hg.erase, [.tmp 2], 1⟩
def Jp (P : Pg) (x : ((List UInt8) × (List UInt8))) (K : Bool → Unit → Prop) : Prop :=
 Fn P AaI Dv x.2 (fun (d1 : Int) (e2 : Unit) => K (d1 != (0 : Int)) ())
theorem Oj {P : Pg} (h : Has P E9) {x : DP CL.ps} {K : DP CL.rs → DP (ptrs CL.ps) → Prop} (hw : Jp P x K) : Fn P zS7 CL x K :=
 Cc (c := Hg) h rfl rfl (by kernel_rfl) (Eq.mpr (show Ca P E9 CL Hg x K = _ by kernel_rfl) hw)
def Bo : Bw :=
 (.seq (.region [ia 4 (kI 0)]) (.seq (.seq (.region [im 6 0, o1 7 (.lenK 6), o1 8 (.mv (kI 0))]) (.frame (rg [4, 5] 8 11) [] false (.join [.si 4] (.block 0 (.loop [.si 4, .si 8]
 (.seq (.region [o1 9 (.bin .lss 8 7)]) (.seq (.cond 9 .skip (.exit 0)) (.seq (.frame (rg [4, 5] 10 8) [] false (.join [.si 4] (.block 1 (.seq (.region [im 10 8, ia 5 10]) (.seq
 (.region [im 11 1, im 12 0, im 13 5, o1 14 (.ixA 2 12 13), o1 15 (.load true 2 14), oS ⟨some 16, .callv 11 [15], none⟩ CL]) (.cond 16 (.seq (.region [im 17 5, ia 4 17])
 .ret) .skip)))))) (.region [o1 18 (.bin .add 8 (kI 1)), im 8 18]))))))))) (.seq (.region [ia 4 (kI (-1))]) .ret)))
def A2 : AFn := ⟨ zS2, Bo.erase, [.tmp 4], 2⟩
def B0 (P : Pg) (x : ((List ((List UInt8) × (List UInt8))) × Unit)) (K : Int → Unit → Prop) : Prop :=
 Ai (D := Int) (fun J1 => Bl (D := (Int × Int)) ((0 : Int), (0 : Int)) (fun d3 J4 => (((decide (d3.2 < (x.1.length : Int))) = true → Ai (D := Int) (fun J5 => (0 ≤ d3.2 ∧ d3.2 < (x.1.length : Int)) ∧
 (d3.2.toNat < x.1.length) ∧
 Fn P zS7 CL (List.getD x.1 d3.2.toNat ([], [])) (fun (d7 : Bool) (e8 : Unit) => ((d7 = true → K d3.2 ()) ∧ (d7 = false → J5 d3.1)))) (fun d6 => J4 (d6, (i64.wrap (d3.2 + (1 : Int)))))) ∧ ((decide (d3.2 < (x.1.length : Int))) = false → J1 d3.1)))) (fun d2 => K (-1 : Int) ())
theorem Df {P : Pg} (h : Has P A2) {x : DP Ax.ps} {K : DP Ax.rs → DP (ptrs Ax.ps) → Prop} (hw : B0 P x K) : Fn P zS2 Ax x K :=
 Cc (c := Bo) h rfl rfl (by kernel_rfl) (Eq.mpr (show Ca P A2 Ax Bo x K = _ by kernel_rfl) hw)
def Bj : Bw :=
 (.seq (.region [o1 4 (.asg kF)]) (.seq (.region [im 5 0, im 6 1, oS ⟨some 7, .call zS2 [5, 6], none⟩
 Ax, o1 8 (.bin .geq 7 (kI 0)), ia 4 8]) .ret))
def AX : AFn := ⟨ zS3, Bj.erase, [.tmp 4], 2⟩
def BN (P : Pg) (x : ((List ((List UInt8) × (List UInt8))) × Unit)) (K : Bool → Unit → Prop) : Prop :=
 Fn P zS2 Ax (x.1, ()) (fun (d1 : Int) (e2 : Unit) => K (decide (d1 ≥ (0 : Int))) ())
theorem CX {P : Pg} (h : Has P AX) {x : DP Au.ps} {K : DP Au.rs → DP (ptrs Au.ps) → Prop} (hw : BN P x K) : Fn P zS3 Au x K :=
 Cc (c := Bj) h rfl rfl (by kernel_rfl) (Eq.mpr (show Ca P AX Au Bj x K = _ by kernel_rfl) hw)
def I3 : Bw :=
 (.seq (.region [ia 2 (kI 0)]) (.seq (.frame (rg [] 2 15) [] false (.join [.si 2] (.block 0 (.seq (.region [im 4 0, o1 5 (.lenK 4), o1 6 (.bin .gtr 5 (kI 200)), ia 3 6]) (.cond 3
 (.seq (.region [ia 2 (kI 1)]) .ret) (.seq (.region [im 8 0, oS ⟨some 9, .call zS3 [8, (.f zS6)],
 none⟩ Ar, ia 7 9]) (.cond 7 (.seq (.region [ia 2 (kI 210)]) .ret) (.seq (.region [im 11 0, oS ⟨some 12, .call
 "mergelens/tree.ordered" [11], none⟩ Fa, o1 13 (.un .not 12), ia 10 13]) (.cond 10 (.seq (.region [ia 2 (kI 211)]) .ret) (.seq (.region [im 15 0, oS ⟨some 16, .call
 zS3 [15, (.f zS7)], none⟩ Au, ia 14 16]) (.cond
 14 (.seq (.region [ia 2 (kI 1)]) .ret) .skip))))))))))) (.seq (.region [ia 2 (kI 0)]) .ret)))
def E7 : AFn := ⟨ Vm, I3.erase, [.tmp 2], 1⟩
def Iw (P : Pg) (x : (List ((List UInt8) × (List UInt8)))) (K : Int → Unit → Prop) : Prop :=
 Ai (D := Int) (fun J1 => (((decide ((x.length : Int) > (200 : Int))) = true → K (1 : Int) ()) ∧ ((decide ((x.length : Int) > (200 : Int))) = false → Fn P zS3 Ar (x, ()) (fun (d3 : Bool) (e4 : Unit) => ((d3 = true → K (210 : Int) ()) ∧ (d3 = false → Fn P "mergelens/tree.ordered" Fa x (fun (d5 : Bool) (e6 : Unit) => (((!d5) = true → K (211 : Int) ()) ∧ ((!d5) = false → Fn P zS3 Au (x, ()) (fun (d7 : Bool) (e8 : Unit) => ((d7 = true → K (1 : Int) ()) ∧ (d7 = false → J1 (0 : Int))))))))))))) (fun d2 => K (0 : Int) ())
theorem K6 {P : Pg} (h : Has P E7) {x : DP BQ.ps} {K : DP BQ.rs → DP (ptrs BQ.ps) → Prop} (hw : Iw P x K) : Fn P Vm BQ x K :=
 Cc (c := I3) h rfl rfl (by kernel_rfl) (Eq.mpr (show Ca P E7 BQ I3 x K = _ by kernel_rfl) hw)
def HQ : Bw :=
 (.seq (.region [o1 1 (.box 0), o1 2 (.asg kF)]) (.seq (.region [fa 3 1 1, ld 4 3, o1 5 (.bin .lss 4 (kI 0)), im 6 5, gf 7 6 (.fAddr 1 1), gf 8 6 (.load false 1 7), gf 9 6 (.bin
 .gtr 8 (kI 2147483647)), o1 10 (.pick 6 kT 9), ia 2 10]) .ret))
def FO : AFn := ⟨ AaB, HQ.erase, [.tmp 2], 1⟩
def Qt (P : Pg) (x : Commit) (K : Bool → Unit → Prop) : Prop :=
 K (cond (decide (x.2.1 < (0 : Int))) true (decide (x.2.1 > (2147483647 : Int)))) ()
theorem Ph {P : Pg} (h : Has P FO) {x : DP DC.ps} {K : DP DC.rs → DP (ptrs DC.ps) → Prop} (hw : Qt P x K) : Fn P AaB DC x K :=
 Cc (c := HQ) h rfl rfl (by kernel_rfl) (Eq.mpr (show Ca P FO DC HQ x K = _ by kernel_rfl) hw)
def Bk : Bw :=
 (.seq (.region [ia 4 (kI 0)]) (.seq (.seq (.region [im 6 0, o1 7 (.lenK 6), o1 8 (.mv (kI 0))]) (.frame (rg [4, 5] 8 11) [] false (.join [.si 4] (.block 0 (.loop [.si 4, .si 8]
 (.seq (.region [o1 9 (.bin .lss 8 7)]) (.seq (.cond 9 .skip (.exit 0)) (.seq (.frame (rg [4, 5] 10 8) [] false (.join [.si 4] (.block 1 (.seq (.region [im 10 8, ia 5 10]) (.seq
 (.region [im 11 1, im 12 0, im 13 5, o1 14 (.ixA 3 12 13), o1 15 (.load true 3 14), oS ⟨some 16, .callv 11 [15], none⟩ DC]) (.cond 16 (.seq (.region [im 17 5, ia 4 17])
 .ret) .skip)))))) (.region [o1 18 (.bin .add 8 (kI 1)), im 8 18]))))))))) (.seq (.region [ia 4 (kI (-1))]) .ret)))
def AY : AFn := ⟨ zS0, Bk.erase, [.tmp 4], 2⟩
def BO (P : Pg) (x : ((List Commit) × Unit)) (K : Int → Unit → Prop) : Prop :=
 Ai (D := Int) (fun J1 => Bl (D := (Int × Int)) ((0 : Int), (0 : Int)) (fun d3 J4 => (((decide (d3.2 < (x.1.length : Int))) = true → Ai (D := Int) (fun J5 => (0 ≤ d3.2 ∧ d3.2 < (x.1.length : Int)) ∧
 (d3.2.toNat < x.1.length) ∧
 Fn P AaB DC (List.getD x.1 d3.2.toNat Ak) (fun (d7 : Bool) (e8 : Unit) => ((d7 = true → K d3.2 ()) ∧ (d7 = false → J5 d3.1)))) (fun d6 => J4 (d6, (i64.wrap (d3.2 + (1 : Int)))))) ∧ ((decide (d3.2 < (x.1.length : Int))) = false → J1 d3.1)))) (fun d2 => K (-1 : Int) ())
theorem CY {P : Pg} (h : Has P AY) {x : DP Av.ps} {K : DP Av.rs → DP (ptrs Av.ps) → Prop} (hw : BO P x K) : Fn P zS0 Av x K :=
 Cc (c := Bk) h rfl rfl (by kernel_rfl) (Eq.mpr (show Ca P AY Av Bk x K = _ by kernel_rfl) hw)
def Bb : Bw :=
 (.seq (.region [o1 4 (.asg kF)]) (.seq (.region [im 5 0, im 6 1, oS ⟨some 7, .call zS0 [5, 6], none⟩
 Av, o1 8 (.bin .geq 7 (kI 0)), ia 4 8]) .ret))
def AN : AFn := ⟨ zS1, Bb.erase, [.tmp 4], 2⟩
def BD (P : Pg) (x : ((List Commit) × Unit)) (K : Bool → Unit → Prop) : Prop :=
 Fn P zS0 Av (x.1, ()) (fun (d1 : Int) (e2 : Unit) => K (decide (d1 ≥ (0 : Int))) ())
theorem CG {P : Pg} (h : Has P AN) {x : DP Ao.ps} {K : DP Ao.rs → DP (ptrs Ao.ps) → Prop} (hw : BD P x K) : Fn P zS1 Ao x K :=
 Cc (c := Bb) h rfl rfl (by kernel_rfl) (Eq.mpr (show Ca P AN Ao Bb x K = _ by kernel_rfl) hw)
def JX : Bw :=
 (.seq (.region [ia 2 (kI 0)]) (.seq (.frame (rg [2] 6 18) [] false (.join [.si 2] (.block 0 (.seq (.region [im 7 0, oS ⟨some 8, .call AaE [7], none⟩
 Da, o1 9 (.un .not 8), ia 6 9]) (.cond 6 (.seq (.region [ia 2 (kI 1)]) .ret) (.seq (.region [im 11 0, oS ⟨some 12, .call AaF [11], none⟩
 Db, o1 13 (.un .not 12), ia 10 13]) (.cond 10 (.seq (.region [ia 2 (kI 230)]) .ret) (.seq (.region [im 15 0, oS ⟨some 16, .call AaG [15], none⟩
 Ds, o1 17 (.lenK 16), im 18 0, o1 19 (.lenK 18), o1 20 (.bin .lss 17 19), ia 14 20]) (.cond 14 (.seq (.region [ia 2 (kI 231)]) .ret) (.seq (.region [im 22 0, oS ⟨some 23,
 .call zS1 [22, (.f AaB)], none⟩ Ao, ia 21
 23]) (.cond 21 (.seq (.region [ia 2 (kI 3)]) .ret) .skip))))))))))) (.seq (.seq (.region [im 24 0, o1 25 (.lenK 24), o1 26 (.mv (kI 0))]) (.frame (rg [2, 4, 5] 26 11) [1004] false
 (.join [.si 2] (.block 1 (.loop [.si 2, .si 26] (.seq (.region [o1 27 (.bin .lss 26 25)]) (.seq (.cond 27 .skip (.exit 1)) (.seq (.frame (rg [2, 4, 5] 28 8) [1004] false (.join
 [.si 2] (.block 2 (.seq (.region [o1 28 (.ixA 3 24 26), o1 29 (.load true 3 28), o1 4 (.alloc [(.slice none 0 0), (.int .i64 0), (.slice none 0 0)]), o0 ⟨none, .store 3 4 29,
 none⟩]) (.seq (.region [fa 30 2 4, ld 31 30, oS ⟨some 32, .call Vm [31], none⟩ BQ, ia 5 32]) (.seq (.region [im 33 5, o1 34 (.bin .neq 33 (kI 0))])
 (.cond 34 (.seq (.region [im 35 5, ia 2 35]) .ret) .skip))))))) (.region [o1 36 (.bin .add 26 (kI 1)), im 26 36]))))))))) (.seq (.region [ia 2 (kI 0)]) .ret))))
def Hs : AFn := ⟨ AaJ, JX.erase, [.tmp 2], 1⟩
def NJ (P : Pg) (x : (List Commit)) (K : Int → Unit → Prop) : Prop :=
 Ai (D := Int) (fun J1 => Fn P AaE Da x (fun (d3 : Bool) (e4 : Unit) => (((!d3) = true → K (1 : Int) ()) ∧ ((!d3) = false → Fn P AaF Db x (fun (d5 : Bool) (e6 : Unit) => (((!d5) = true → K (230 : Int) ()) ∧ ((!d5) = false → Fn P AaG Ds x (fun (d7 : (List Int)) (e8 : Unit) => (((decide ((d7.length : Int) < (x.length : Int))) = true → K (231 : Int) ()) ∧ ((decide ((d7.length : Int) < (x.length : Int))) = false → Fn P zS1 Ao (x, ()) (fun (d9 : Bool) (e10 : Unit) => ((d9 = true → K (3 : Int) ()) ∧ (d9 = false → J1 (0 : Int)))))))))))))) (fun d2 => Ai (D := Int) (fun J11 => Bl (D := (Int × Int)) (d2, (0 : Int)) (fun d13 J14 => (((decide (d13.2 < (x.length : Int))) = true → Ai (D := Int) (fun J15 => (0 ≤ d13.2 ∧ d13.2 < (x.length : Int)) ∧
 (d13.2.toNat < x.length) ∧
 Fn P Vm BQ (List.getD x d13.2.toNat Ak).2.2 (fun (d17 : Int) (e18 : Unit) => (((d17 != (0 : Int)) = true → K d17 ()) ∧ ((d17 != (0 : Int)) = false → J15 d13.1)))) (fun d16 => J14 (d16, (i64.wrap (d13.2 + (1 : Int)))))) ∧ ((decide (d13.2 < (x.length : Int))) = false → J11 d13.1)))) (fun d12 => K (0 : Int) ()))
theorem Sg {P : Pg} (h : Has P Hs) {x : DP DO.ps} {K : DP DO.rs → DP (ptrs DO.ps) → Prop} (hw : NJ P x K) : Fn P AaJ DO x K :=
 Cc (c := JX) h rfl rfl (by kernel_rfl) (Eq.mpr (show Ca P Hs DO JX x K = _ by kernel_rfl) hw)
def Qg : Bw :=
 (.seq (.region [o1 4 (.asg kF)]) (.seq (.region [im 5 1, o1 6 (.bin .geq 5 (kI 0)), im 7 6, gt 8 7 (.mv 1), gt 9 7 (.mv 0), gt 10 7 (.lenK 9), gt 11 7 (.bin .lss 8 10), o1 12
 (.pick 7 11 kF), ia 4 12]) .ret))
def LK : AFn := ⟨ "mergelens/dag.Is", Qg.erase, [.tmp 4], 2⟩
def Tm (P : Pg) (x : ((List Commit) × Int)) (K : Bool → Unit → Prop) : Prop :=
 K (cond (decide (x.2 ≥ (0 : Int))) (decide (x.2 < (x.1.length : Int))) false) ()
theorem X3 {P : Pg} (h : Has P LK) {x : DP GL.ps} {K : DP GL.rs → DP (ptrs GL.ps) → Prop} (hw : Tm P x K) : Fn P "mergelens/dag.Is" GL x K :=
 Cc (c := Qg) h rfl rfl (by kernel_rfl) (Eq.mpr (show Ca P LK GL Qg x K = _ by kernel_rfl) hw)
def Aey : Bw :=
 (.seq (.region [ia 4 (kI 0)]) (.seq (.seq (.region [im 8 0, oS ⟨some 9, .call AaJ [8], none⟩ DO, ia 5 9]) (.seq (.region [im 10 5, o1 11 (.bin .neq 10
 (kI 0))]) (.cond 11 (.seq (.region [im 12 5, ia 4 12]) .ret) .skip))) (.seq (.seq (.region [im 13 1, o1 14 (.lenK 13), o1 15 (.mv (kI 0))]) (.frame (rg [4, 7] 15 9) [] false (.join
 [.si 4] (.block 0 (.loop [.si 4, .si 15] (.seq (.region [o1 16 (.bin .lss 15 14)]) (.seq (.cond 16 .skip (.exit 0)) (.seq (.frame (rg [4, 7] 17 6) [] false (.join [.si 4] (.block 1
 (.seq (.region [o1 17 (.ixA 1 13 15), ld 18 17, ia 7 18]) (.seq (.region [im 19 0, im 20 7, oS ⟨some 21, .call "mergelens/dag.Is" [19, 20], none⟩ GL, o1 22 (.un .not 21)])
 (.cond 22 (.seq (.region [ia 4 (kI 5)]) .ret) .skip)))))) (.region [o1 23 (.bin .add 15 (kI 1)), im 15 23]))))))))) (.seq (.region [ia 4 (kI 0)]) .ret))))
def Aeu : AFn := ⟨ Vn, Aey.erase, [.tmp 4], 2⟩
def AeK (P : Pg) (x : ((List Commit) × (List Int))) (K : Int → Unit → Prop) : Prop :=
 Fn P AaJ DO x.1 (fun (d1 : Int) (e2 : Unit) => (((d1 != (0 : Int)) = true → K d1 ()) ∧ ((d1 != (0 : Int)) = false → Ai (D := Int) (fun J3 => Bl (D := (Int × Int)) ((0 : Int), (0 : Int)) (fun d5 J6 => (((decide (d5.2 < (x.2.length : Int))) = true → Ai (D := Int) (fun J7 => (0 ≤ d5.2 ∧ d5.2 < (x.2.length : Int)) ∧
 (d5.2.toNat < x.2.length) ∧
 Fn P "mergelens/dag.Is" GL (x.1, (List.getD x.2 d5.2.toNat (0 : Int))) (fun (d9 : Bool) (e10 : Unit) => (((!d9) = true → K (5 : Int) ()) ∧ ((!d9) = false → J7 d5.1)))) (fun d8 => J6 (d8, (i64.wrap (d5.2 + (1 : Int)))))) ∧ ((decide (d5.2 < (x.2.length : Int))) = false → J3 d5.1)))) (fun d4 => K (0 : Int) ()))))
theorem Ae4 {P : Pg} (h : Has P Aeu) {x : DP Aeo.ps} {K : DP Aeo.rs → DP (ptrs Aeo.ps) → Prop} (hw : AeK P x K) : Fn P Vn Aeo x K :=
 Cc (c := Aey) h rfl rfl (by kernel_rfl) (Eq.mpr (show Ca P Aeu Aeo Aey x K = _ by kernel_rfl) hw)
def Aet : Bw :=
 (.seq (.region [o1 4 (.asg (.c (.slice none 0 0)))]) (.seq (.region [im 10 0, o1 11 (.lenK 10), oT ⟨some 12, .mkSl 1 1 [(.bool false)] 11 11, none⟩ (some (.bool, .leaf)), ia 5 12])
 (.seq (.region [im 13 5, im 14 1, o1 15 (.ixA 1 13 14), o0 ⟨none, .store 1 15 kT, none⟩]) (.seq (.seq (.region [im 16 1, oT ⟨some 17, .buildSl 1 [(.int .i64 0)] 1 [(0, 16)], none⟩
 (some (bI, .leaf)), ia 6 17]) (.frame (rg [5, 6, 7, 9] 18 37) [] false (.join [.sl 5 false (.sl .bool) tO] (.block 0 (.loop [.sl 5 false (.sl .bool) tO, .sl 6 false (.sl bI) tO]
 (.seq (.seq (.region [im 18 6, o1 19 (.lenK 18), o1 20 (.bin .gtr 19 (kI 0))]) (.cond 20 .skip (.exit 0))) (.frame (rg [5, 6, 7, 9] 21 34) [] false (.join [.sl 5 false (.sl .bool)
 tO, .sl 6 false (.sl bI) tO] (.block 1 (.seq (.region [im 21 6, im 22 6, o1 23 (.lenK 22), o1 24 (.bin .sub 23 (kI 1)), o1 25 (.ixA 1 21 24), ld 26 25, ia 7 26]) (.seq (.region [im
 27 6, im 28 6, o1 29 (.lenK 28), o1 30 (.bin .sub 29 (kI 1)), o1 31 (.slK 1 27 none (some 30)), ia 6 31]) (.seq (.region [im 32 0, im 33 7, o1 34 (.ixA 3 32 33), fa 35 0 34, ld 36
 35, o1 37 (.lenK 36), o1 38 (.mv (kI 0))]) (.frame (rg [5, 6, 9] 38 17) [] false (.join [.sl 5 false (.sl .bool) tO, .sl 6 false (.sl bI) tO] (.block 2 (.loop [.sl 5 false (.sl
 .bool) tO, .sl 6 false (.sl bI) tO, .si 38] (.seq (.region [o1 39 (.bin .lss 38 37)]) (.seq (.cond 39 .skip (.exit 2)) (.seq (.frame (rg [5, 6, 9] 40 14) [] false (.join [.sl 5
 false (.sl .bool) tO, .sl 6 false (.sl bI) tO] (.block 3 (.seq (.region [o1 40 (.ixA 1 36 38), ld 41 40, ia 9 41]) (.seq (.region [im 42 5, im 43 9, o1 44 (.ixA 1 42 43), ld 45 44,
 o1 46 (.un .not 45)]) (.frame (rg [5, 6] 47 7) [] false (.join [.sl 5 false (.sl .bool) tO, .sl 6 false (.sl bI) tO] (.cond 46 (.seq (.region [im 47 5, im 48 9, o1 49 (.ixA 1 47
 48), o0 ⟨none, .store 1 49 kT, none⟩]) (.region [im 50 6, im 51 9, oT ⟨some 52, .buildSl 1 [(.int .i64 0)] 1 [(0, 51)], none⟩ (some (bI, .leaf)), oT ⟨some 53, .app 1 8 50 52, none⟩
 (some (bI, .leaf)), ia 6 53])) .skip)))))))) (.region [o1 54 (.bin .add 38 (kI 1)), im 38 54])))))))))))))))))))) (.seq (.region [im 55 5, ia 4 55]) .ret)))))
def Aer : AFn := ⟨ AaA, Aet.erase, [.tmp 4], 2⟩
def AeD (P : Pg) (x : ((List Commit) × Int)) (K : (List Bool) → Unit → Prop) : Prop :=
 (0 ≤ (x.1.length : Int) ∧ (x.1.length : Int) ≤ (x.1.length : Int) ∧ ((1 : Nat) : Int) * (x.1.length : Int) ≤ 281474976710656) ∧
 (0 ≤ x.2 ∧ x.2 < ((List.length (List.replicate (Int.toNat (x.1.length : Int)) false) : Nat) : Int)) ∧
 (x.2.toNat < List.length (List.replicate (Int.toNat (x.1.length : Int)) false)) ∧
 Ai (D := (List Bool)) (fun J1 => Bl (D := ((List Bool) × (List Int))) ((List.set (List.replicate (Int.toNat (x.1.length : Int)) false) x.2.toNat true), ([x.2] : List Int)) (fun d3 J4 => (((decide ((d3.2.length : Int) > (0 : Int))) = true → Ai (D := ((List Bool) × (List Int))) (fun J5 => (0 ≤ (i64.wrap ((d3.2.length : Int) - (1 : Int))) ∧ (i64.wrap ((d3.2.length : Int) - (1 : Int))) < (d3.2.length : Int)) ∧
 ((Int.toNat (i64.wrap ((d3.2.length : Int) - (1 : Int)))) < d3.2.length) ∧
 (0 ≤ (i64.wrap ((d3.2.length : Int) - (1 : Int))) ∧ (i64.wrap ((d3.2.length : Int) - (1 : Int))) ≤ (d3.2.length : Int)) ∧
 (0 + (Int.toNat (i64.wrap ((d3.2.length : Int) - (1 : Int)))) ≤ d3.2.length) ∧
 (0 ≤ (List.getD d3.2 (Int.toNat (i64.wrap ((d3.2.length : Int) - (1 : Int)))) (0 : Int)) ∧ (List.getD d3.2 (Int.toNat (i64.wrap ((d3.2.length : Int) - (1 : Int)))) (0 : Int)) < (x.1.length : Int)) ∧
 ((Int.toNat (List.getD d3.2 (Int.toNat (i64.wrap ((d3.2.length : Int) - (1 : Int)))) (0 : Int))) < x.1.length) ∧
 Ai (D := ((List Bool) × (List Int))) (fun J7 => Bl (D := ((List Bool) × ((List Int) × Int))) (d3.1, ((List.take (Int.toNat (i64.wrap ((d3.2.length : Int) - (1 : Int)))) (List.drop 0 d3.2)), (0 : Int))) (fun d9 J10 => (((decide (d9.2.2 < ((List.length (List.getD x.1 (Int.toNat (List.getD d3.2 (Int.toNat (i64.wrap ((d3.2.length : Int) - (1 : Int)))) (0 : Int))) Ak).1 : Nat) : Int))) = true → Ai (D := ((List Bool) × (List Int))) (fun J11 => (0 ≤ d9.2.2 ∧ d9.2.2 < ((List.length (List.getD x.1 (Int.toNat (List.getD d3.2 (Int.toNat (i64.wrap ((d3.2.length : Int) - (1 : Int)))) (0 : Int))) Ak).1 : Nat) : Int)) ∧
 (d9.2.2.toNat < List.length (List.getD x.1 (Int.toNat (List.getD d3.2 (Int.toNat (i64.wrap ((d3.2.length : Int) - (1 : Int)))) (0 : Int))) Ak).1) ∧
 (0 ≤ (List.getD (List.getD x.1 (Int.toNat (List.getD d3.2 (Int.toNat (i64.wrap ((d3.2.length : Int) - (1 : Int)))) (0 : Int))) Ak).1 d9.2.2.toNat (0 : Int)) ∧ (List.getD (List.getD x.1 (Int.toNat (List.getD d3.2 (Int.toNat (i64.wrap ((d3.2.length : Int) - (1 : Int)))) (0 : Int))) Ak).1 d9.2.2.toNat (0 : Int)) < (d9.1.length : Int)) ∧
 ((Int.toNat (List.getD (List.getD x.1 (Int.toNat (List.getD d3.2 (Int.toNat (i64.wrap ((d3.2.length : Int) - (1 : Int)))) (0 : Int))) Ak).1 d9.2.2.toNat (0 : Int))) < d9.1.length) ∧
 Ai (D := ((List Bool) × (List Int))) (fun J13 => (((!(List.getD d9.1 (Int.toNat (List.getD (List.getD x.1 (Int.toNat (List.getD d3.2 (Int.toNat (i64.wrap ((d3.2.length : Int) - (1 : Int)))) (0 : Int))) Ak).1 d9.2.2.toNat (0 : Int))) false)) = true → (0 ≤ (List.getD (List.getD x.1 (Int.toNat (List.getD d3.2 (Int.toNat (i64.wrap ((d3.2.length : Int) - (1 : Int)))) (0 : Int))) Ak).1 d9.2.2.toNat (0 : Int)) ∧ (List.getD (List.getD x.1 (Int.toNat (List.getD d3.2 (Int.toNat (i64.wrap ((d3.2.length : Int) - (1 : Int)))) (0 : Int))) Ak).1 d9.2.2.toNat (0 : Int)) < (d9.1.length : Int)) ∧
 ((Int.toNat (List.getD (List.getD x.1 (Int.toNat (List.getD d3.2 (Int.toNat (i64.wrap ((d3.2.length : Int) - (1 : Int)))) (0 : Int))) Ak).1 d9.2.2.toNat (0 : Int))) < d9.1.length) ∧
 ((d9.2.1.length + List.length ([(List.getD (List.getD x.1 (Int.toNat (List.getD d3.2 (Int.toNat (i64.wrap ((d3.2.length : Int) - (1 : Int)))) (0 : Int))) Ak).1 d9.2.2.toNat (0 : Int))] : List Int)) * 8 ≤ 140737488355328) ∧
 J13 ((List.set d9.1 (Int.toNat (List.getD (List.getD x.1 (Int.toNat (List.getD d3.2 (Int.toNat (i64.wrap ((d3.2.length : Int) - (1 : Int)))) (0 : Int))) Ak).1 d9.2.2.toNat (0 : Int))) true), (d9.2.1 ++ ([(List.getD (List.getD x.1 (Int.toNat (List.getD d3.2 (Int.toNat (i64.wrap ((d3.2.length : Int) - (1 : Int)))) (0 : Int))) Ak).1 d9.2.2.toNat (0 : Int))] : List Int)))) ∧ ((!(List.getD d9.1 (Int.toNat (List.getD (List.getD x.1 (Int.toNat (List.getD d3.2 (Int.toNat (i64.wrap ((d3.2.length : Int) - (1 : Int)))) (0 : Int))) Ak).1 d9.2.2.toNat (0 : Int))) false)) = false → J13 (d9.1, d9.2.1)))) (fun d14 => J11 d14)) (fun d12 => J10 (d12.1, (d12.2, (i64.wrap (d9.2.2 + (1 : Int))))))) ∧ ((decide (d9.2.2 < ((List.length (List.getD x.1 (Int.toNat (List.getD d3.2 (Int.toNat (i64.wrap ((d3.2.length : Int) - (1 : Int)))) (0 : Int))) Ak).1 : Nat) : Int))) = false → J7 (d9.1, d9.2.1))))) (fun d8 => J5 d8)) (fun d6 => J4 d6)) ∧ ((decide ((d3.2.length : Int) > (0 : Int))) = false → J1 d3.1)))) (fun d2 => K d2 ())
theorem AeO {P : Pg} (h : Has P Aer) {x : DP Aek.ps} {K : DP Aek.rs → DP (ptrs Aek.ps) → Prop} (hw : AeD P x K) : Fn P AaA Aek x K :=
 Cc (c := Aet) h rfl rfl (by kernel_rfl) (Eq.mpr (show Ca P Aer Aek Aet x K = _ by kernel_rfl) hw)
def Aht : Bw :=
 (.seq (.region [o1 4 (.asg (.c (.slice none 0 0))), ia 5 (kI 0)]) (.seq (.seq (.region [im 10 0, im 11 1, oT ⟨some 12, .buildSl 1 [(.int .i64 0)] 1 [(0, 11)], none⟩ (some (bI,
 .leaf)), oS ⟨some 13, .call Vn [10, 12], none⟩ Aeo, ia 6 13]) (.seq (.region [im 14 6, o1 15 (.bin .neq 14 (kI 0))]) (.cond 15 (.seq (.region
 [im 16 6, o1 4 (.asg (.c (.slice none 0 0))), ia 5 16]) .ret) .skip))) (.seq (.region [o1 7 (.asg (.c (.slice none 0 0)))]) (.seq (.seq (.region [im 17 0, im 18 1, oS ⟨some 19,
 .call AaA [17, 18], none⟩ Aek, o1 20 (.lenK 19), o1 21 (.mv (kI 0))]) (.frame (rg [7, 8, 9] 21 11) [] false (.join [.sl 7 false (.sl bI)
 tO] (.block 0 (.loop [.sl 7 false (.sl bI) tO, .si 21] (.seq (.region [o1 22 (.bin .lss 21 20)]) (.seq (.cond 22 .skip (.exit 0)) (.seq (.frame (rg [7, 8, 9] 23 8) [] false (.join
 [.sl 7 false (.sl bI) tO] (.block 1 (.seq (.region [im 23 21, o1 24 (.ixA 1 19 21), ld 25 24, ia 8 23, ia 9 25]) (.seq (.region [im 26 9]) (.frame (rg [7] 27 4) [] false (.join
 [.sl 7 false (.sl bI) tO] (.cond 26 (.region [im 27 7, im 28 8, oT ⟨some 29, .buildSl 1 [(.int .i64 0)] 1 [(0, 28)], none⟩ (some (bI, .leaf)), oT ⟨some 30, .app 1 8 27 29, none⟩
 (some (bI, .leaf)), ia 7 30]) .skip)))))))) (.region [o1 31 (.bin .add 21 (kI 1)), im 21 31]))))))))) (.seq (.region [im 32 7, ia 4 32, ia 5 (kI 0)]) .ret)))))
def Ahq : AFn := ⟨ AaK, Aht.erase, [.tmp 4, .tmp 5], 2⟩
def AhD (P : Pg) (x : ((List Commit) × Int)) (K : ((List Int) × Int) → Unit → Prop) : Prop :=
 Fn P Vn Aeo (x.1, ([x.2] : List Int)) (fun (d1 : Int) (e2 : Unit) => (((d1 != (0 : Int)) = true → K ([], d1) ()) ∧ ((d1 != (0 : Int)) = false → Fn P AaA Aek x (fun (d3 : (List Bool)) (e4 : Unit) => Ai (D := (List Int)) (fun J5 => Bl (D := ((List Int) × Int)) ([], (0 : Int)) (fun d7 J8 => (((decide (d7.2 < (d3.length : Int))) = true → Ai (D := (List Int)) (fun J9 => (0 ≤ d7.2 ∧ d7.2 < (d3.length : Int)) ∧
 (d7.2.toNat < d3.length) ∧
 Ai (D := (List Int)) (fun J11 => (((List.getD d3 d7.2.toNat false) = true → ((d7.1.length + List.length ([d7.2] : List Int)) * 8 ≤ 140737488355328) ∧
 J11 (d7.1 ++ ([d7.2] : List Int))) ∧ ((List.getD d3 d7.2.toNat false) = false → J11 d7.1))) (fun d12 => J9 d12)) (fun d10 => J8 (d10, (i64.wrap (d7.2 + (1 : Int)))))) ∧ ((decide (d7.2 < (d3.length : Int))) = false → J5 d7.1)))) (fun d6 => K (d6, (0 : Int)) ())))))
theorem AhQ {P : Pg} (h : Has P Ahq) {x : DP Ahi.ps} {K : DP Ahi.rs → DP (ptrs Ahi.ps) → Prop} (hw : AhD P x K) : Fn P AaK Ahi x K :=
 Cc (c := Aht) h rfl rfl (by kernel_rfl) (Eq.mpr (show Ca P Ahq Ahi Aht x K = _ by kernel_rfl) hw)
end Go.VS
