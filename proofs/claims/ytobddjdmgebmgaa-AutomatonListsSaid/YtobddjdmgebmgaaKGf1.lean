/- Functions of the program: typed code, and what it says, lifted. -/
import Derived.Test.YtobddjdmgebmgaaKTxSig
import Derived.KernelRfl
set_option linter.unusedVariables false
set_option linter.unusedSimpArgs false
set_option linter.unusedSectionVars false
namespace Go.VS

def t_ref05_Ends : TCode :=
 (.seq (.region [o1 3 (.box 0), o1 6 (.asg (.c (.slice none 0 0)))]) (.seq (.region [im 13 1, o1 14 (.lenS 13), o1 15 (.bin .add 14 (kI 1)), oT ⟨some 16, .mkSl 1 1 [(.bool false)]
 15 15, none⟩ (some (.bool, .leaf)), ia 7 16]) (.seq (.region [fa 17 0 3, ld 18 17, o1 19 (.lenK 18), oT ⟨some 20, .mkSl 1 1 [(.bool false)] 19 19, none⟩ (some (.bool, .leaf)), ia 8
 20]) (.seq (.region [im 21 8, fa 22 1 3, ld 23 22, o1 24 (.ixA 1 21 23), o0 ⟨none, .store 1 24 kT, none⟩]) (.seq (.seq (.region [im 25 2, ia 9 25]) (.frame (rg [7, 8, 9, 10, 11,
 12] 26 69) [1012] false (.join [.sl 7 false (.sl .bool) tO] (.block 0 (.loop [.sl 7 false (.sl .bool) tO, .sl 8 false (.sl .bool) tO, .si 9] (.seq (.seq (.region [im 26 9, im 27 1,
 o1 28 (.lenS 27), o1 29 (.bin .leq 26 28)]) (.cond 29 .skip (.exit 0))) (.seq (.frame (rg [7, 8, 10, 11, 12] 32 63) [1012] false (.join [.sl 7 false (.sl .bool) tO, .sl 8 false
 (.sl .bool) tO] (.block 1 (.seq (.region [o1 32 (.load true 2 3), im 33 8, im 34 9, o1 35 (.bin .eql 34 (kI 0)), im 36 9, im 37 1, o1 38 (.lenS 37), o1 39 (.bin .eql 36 38), oS
 ⟨some 40, .call "mergelens/mergelensref05.Close" [32, 33, 35, 39], none⟩ S_ref05_Close, ia 8 40]) (.seq (.region [im 41 8, o1 42 (.lenK 41), oT ⟨some 43, .mkSl 1 1 [(.bool false)]
 42 42, none⟩ (some (.bool, .leaf)), ia 10 43]) (.seq (.seq (.region [ia 11 (kI 0)]) (.frame (rg [7, 10, 11, 12] 44 50) [1012] false (.join [.sl 7 false (.sl .bool) tO, .sl 10 false
 (.sl .bool) tO] (.block 2 (.loop [.sl 7 false (.sl .bool) tO, .sl 10 false (.sl .bool) tO, .si 11] (.seq (.seq (.region [im 44 11, im 45 8, o1 46 (.lenK 45), o1 47 (.bin .lss 44
 46)]) (.cond 47 .skip (.exit 2))) (.seq (.frame (rg [7, 10, 12] 50 44) [1012] false (.join [.sl 7 false (.sl .bool) tO, .sl 10 false (.sl .bool) tO] (.block 3 (.seq (.region [fa 50
 0 3, ld 51 50, im 52 11, o1 53 (.ixA 7 51 52), o1 54 (.load true 7 53), o1 12 (.alloc [(.int .i64 0), (.int .u64 0), (.int .u64 0), (.int .u64 0), (.int .u64 0), (.int .i64 0),
 (.int .i64 0)]), o0 ⟨none, .store 7 12 54, none⟩]) (.seq (.seq (.region [im 55 8, im 56 11, o1 57 (.ixA 1 55 56), ld 58 57, im 59 58, gt 60 59 (.fAddr 0 12), gt 61 59 (.load false
 1 60), gt 62 59 (.bin .eql 61 (kI 4)), o1 63 (.pick 59 62 kF)]) (.frame [7, 64, 65, 66] [] false (.join [.sl 7 false (.sl .bool) tO] (.cond 63 (.region [im 64 7, im 65 9, o1 66
 (.ixA 1 64 65), o0 ⟨none, .store 1 66 kT, none⟩]) .skip)))) (.seq (.frame (rg [] 67 23) [] false (.join [.sl 89 false .bool .leaf] (.draw [(.first (im 67 8) (.first (im 68 11)
 (.first (o1 69 (.ixA 1 67 68)) (.first (ld 70 69) (.first (im 71 70) (.first (gt 72 71 (.fAddr 0 12)) (.first (gt 73 71 (.load false 1 72)) (.first (gt 74 71 (.bin .eql 73 (kI 0)))
 (.first (o1 75 (.pick 71 74 kF)) (.first (im 76 75) (.first (gt 77 76 (.mv 9)) (.first (gt 78 76 (.mv 1)) (.first (gt 79 76 (.lenS 78)) (.first (gt 80 76 (.bin .lss 77 79)) (.first
 (o1 81 (.pick 76 80 kF)) (.first (im 82 81) (.first (gt 83 82 (.fAddr 1 12)) (.first (gt 84 82 (.load true 4 83)) (.first (gt 85 82 (.mv 1)) (.first (gt 86 82 (.mv 9)) (.first (gt
 87 82 (.ixS 85 86)) (.alt (oS ⟨some 88, .call "mergelens/mergelensref04.Has" [84, 87], some (82, true)⟩ S_ref04_Has) (.first (o1 89 (.pick 82 88 kF)) .done)
 .stop))))))))))))))))))))))]))) (.frame (rg [10] 90 4) [] false (.join [.sl 10 false (.sl .bool) tO] (.cond 89 (.region [im 90 10, fa 91 5 12, ld 92 91, o1 93 (.ixA 1 90 92), o0
 ⟨none, .store 1 93 kT, none⟩]) .skip))))))))) (.region [im 48 11, o1 49 (.bin .add 48 (kI 1)), ia 11 49])))))))) (.region [im 94 10, ia 8 94]))))))) (.region [im 30 9, o1 31 (.bin
 .add 30 (kI 1)), ia 9 31])))))))) (.seq (.region [im 95 7, ia 6 95]) .ret))))))
def F_ref05_Ends : AFn := ⟨ "mergelens/mergelensref05.Ends", t_ref05_Ends.erase, [.tmp 6], 3⟩
def W_ref05_Ends (P : Program) (x : (((List State) × Int) × ((List UInt8) × Int))) (K : (List Bool) → Unit → Prop) : Prop :=
 (0 ≤ (IntKind.i64.wrap (((List.length x.2.1 : Nat) : Int) + (1 : Int))) ∧ (IntKind.i64.wrap (((List.length x.2.1 : Nat) : Int) + (1 : Int))) ≤ (IntKind.i64.wrap (((List.length x.2.1 : Nat) : Int) + (1 : Int))) ∧ ((1 : Nat) : Int) * (IntKind.i64.wrap (((List.length x.2.1 : Nat) : Int) + (1 : Int))) ≤ 281474976710656) ∧
 (0 ≤ ((List.length x.1.1 : Nat) : Int) ∧ ((List.length x.1.1 : Nat) : Int) ≤ ((List.length x.1.1 : Nat) : Int) ∧ ((1 : Nat) : Int) * ((List.length x.1.1 : Nat) : Int) ≤ 281474976710656) ∧
 (0 ≤ x.1.2 ∧ x.1.2 < ((List.length (List.replicate (Int.toNat ((List.length x.1.1 : Nat) : Int)) false) : Nat) : Int)) ∧
 ((Int.toNat x.1.2) < List.length (List.replicate (Int.toNat ((List.length x.1.1 : Nat) : Int)) false)) ∧
 JoinW (D := (List Bool)) (fun J1 => LoopW (D := ((List Bool) × ((List Bool) × Int))) ((List.replicate (Int.toNat (IntKind.i64.wrap (((List.length x.2.1 : Nat) : Int) + (1 : Int)))) false), ((List.set (List.replicate (Int.toNat ((List.length x.1.1 : Nat) : Int)) false) (Int.toNat x.1.2) true), x.2.2)) (fun (d3 : ((List Bool) × ((List Bool) × Int))) J4 => (((decide (d3.2.2 ≤ ((List.length x.2.1 : Nat) : Int))) = true → JoinW (D := ((List Bool) × (List Bool))) (fun J5 => Fn P "mergelens/mergelensref05.Close" S_ref05_Close (x.1, (d3.2.1, ((d3.2.2 == (0 : Int)), (d3.2.2 == ((List.length x.2.1 : Nat) : Int))))) (fun (d7 : (List Bool)) (e8 : Unit) => (0 ≤ ((List.length d7 : Nat) : Int) ∧ ((List.length d7 : Nat) : Int) ≤ ((List.length d7 : Nat) : Int) ∧ ((1 : Nat) : Int) * ((List.length d7 : Nat) : Int) ≤ 281474976710656) ∧
 JoinW (D := ((List Bool) × (List Bool))) (fun J9 => LoopW (D := ((List Bool) × ((List Bool) × Int))) (d3.1, ((List.replicate (Int.toNat ((List.length d7 : Nat) : Int)) false), (0 : Int))) (fun (d11 : ((List Bool) × ((List Bool) × Int))) J12 => (((decide (d11.2.2 < ((List.length d7 : Nat) : Int))) = true → JoinW (D := ((List Bool) × (List Bool))) (fun J13 => (0 ≤ d11.2.2 ∧ d11.2.2 < ((List.length x.1.1 : Nat) : Int)) ∧
 ((Int.toNat d11.2.2) < List.length x.1.1) ∧
 (0 ≤ d11.2.2 ∧ d11.2.2 < ((List.length d7 : Nat) : Int)) ∧
 ((Int.toNat d11.2.2) < List.length d7) ∧
 JoinW (D := (List Bool)) (fun J15 => (((cond (List.getD d7 (Int.toNat d11.2.2) false) ((List.getD x.1.1 (Int.toNat d11.2.2) zState).1 == (4 : Int)) false) = true → (0 ≤ d3.2.2 ∧ d3.2.2 < ((List.length d11.1 : Nat) : Int)) ∧
 ((Int.toNat d3.2.2) < List.length d11.1) ∧
 J15 (List.set d11.1 (Int.toNat d3.2.2) true)) ∧ ((cond (List.getD d7 (Int.toNat d11.2.2) false) ((List.getD x.1.1 (Int.toNat d11.2.2) zState).1 == (4 : Int)) false) = false → J15 d11.1))) (fun (d16 : (List Bool)) => JoinW (D := Bool) (fun J17 => (0 ≤ d11.2.2 ∧ d11.2.2 < ((List.length d7 : Nat) : Int)) ∧
 ((Int.toNat d11.2.2) < List.length d7) ∧
 (((cond (cond (List.getD d7 (Int.toNat d11.2.2) false) ((List.getD x.1.1 (Int.toNat d11.2.2) zState).1 == (0 : Int)) false) (decide (d3.2.2 < ((List.length x.2.1 : Nat) : Int))) false) = true → 0 ≤ d3.2.2 ∧ d3.2.2 < ((List.length x.2.1 : Nat) : Int))) ∧
 (JoinW (D := Bool) (fun J19 => (((cond (cond (List.getD d7 (Int.toNat d11.2.2) false) ((List.getD x.1.1 (Int.toNat d11.2.2) zState).1 == (0 : Int)) false) (decide (d3.2.2 < ((List.length x.2.1 : Nat) : Int))) false) = true → Fn P "mergelens/mergelensref04.Has" S_ref04_Has ((List.getD x.1.1 (Int.toNat d11.2.2) zState).2.1, ((UInt8.toNat (List.getD x.2.1 (Int.toNat d3.2.2) 0) : Nat) : Int)) (fun (d20 : Bool) _ => J19 d20)) ∧ (((cond (cond (List.getD d7 (Int.toNat d11.2.2) false) ((List.getD x.1.1 (Int.toNat d11.2.2) zState).1 == (0 : Int)) false) (decide (d3.2.2 < ((List.length x.2.1 : Nat) : Int))) false) = false → J19 false) ∧ True))) (fun d21 => J17 (cond (cond (cond (List.getD d7 (Int.toNat d11.2.2) false) ((List.getD x.1.1 (Int.toNat d11.2.2) zState).1 == (0 : Int)) false) (decide (d3.2.2 < ((List.length x.2.1 : Nat) : Int))) false) d21 false))) ∧ (True)) (fun (d18 : Bool) => JoinW (D := (List Bool)) (fun J22 => ((d18 = true → (0 ≤ (List.getD x.1.1 (Int.toNat d11.2.2) zState).2.2.1 ∧ (List.getD x.1.1 (Int.toNat d11.2.2) zState).2.2.1 < ((List.length d11.2.1 : Nat) : Int)) ∧
 ((Int.toNat (List.getD x.1.1 (Int.toNat d11.2.2) zState).2.2.1) < List.length d11.2.1) ∧
 J22 (List.set d11.2.1 (Int.toNat (List.getD x.1.1 (Int.toNat d11.2.2) zState).2.2.1) true)) ∧ (d18 = false → J22 d11.2.1))) (fun (d23 : (List Bool)) => J13 (d16, d23))))) (fun (d14 : ((List Bool) × (List Bool))) => J12 (d14.1, (d14.2, (IntKind.i64.wrap (d11.2.2 + (1 : Int))))))) ∧ ((decide (d11.2.2 < ((List.length d7 : Nat) : Int))) = false → J9 (d11.1, d11.2.1))))) (fun (d10 : ((List Bool) × (List Bool))) => J5 d10))) (fun (d6 : ((List Bool) × (List Bool))) => J4 (d6.1, (d6.2, (IntKind.i64.wrap (d3.2.2 + (1 : Int))))))) ∧ ((decide (d3.2.2 ≤ ((List.length x.2.1 : Nat) : Int))) = false → J1 d3.1)))) (fun (d2 : (List Bool)) => K d2 ())
theorem fn_ref05_Ends {P : Program} (h : Has P F_ref05_Ends) {x : DP S_ref05_Ends.ps} {K : DP S_ref05_Ends.rs → DP (ptrs S_ref05_Ends.ps) → Prop} (hw : W_ref05_Ends P x K) : Fn P "mergelens/mergelensref05.Ends" S_ref05_Ends x K :=
  fn_of (c := t_ref05_Ends) h rfl rfl (by kernel_rfl) (Eq.mpr (show liftT P F_ref05_Ends S_ref05_Ends t_ref05_Ends x K = W_ref05_Ends P x K by kernel_rfl) hw)

def t_law05_awake : TCode :=
 (.seq (.region [o1 0 (.asg kF)]) (.seq (.region [oS ⟨some 7, .call "mergelens/mergelensref04.Parse" [(.c (.string ⟨#[97]⟩))], none⟩ S_ref04_Parse, im 6 7, o1 8 (.ext 6 0), o1 9
 (.ext 6 1), ia 1 8, ia 2 9]) (.seq (.frz [1] (.region [im 11 1, oS ⟨some 12, .call "mergelens/automaton.Build" [11], none⟩ S_automaton_Build, im 10 12, o1 13 (.ext 10 0), o1 14
 (.ext 10 1), o1 3 (.alloc [(.slice none 0 0), (.int .i64 0)]), o0 ⟨none, .store 2 3 13, none⟩, ia 4 14])) (.seq (.seq (.region [im 15 4, o1 16 (.bin .neq 15 (kI 0)), im 17 16, gf
 18 17 (.load true 2 3), oS ⟨some 19, .call "mergelens/mergelensref05.Check" [18], some (17, false)⟩ S_ref05_Check, gf 20 17 (.bin .neq 19 (kI 0)), o1 21 (.pick 17 kT 20)]) (.cond
 21 (.seq (.region [o1 0 (.asg kF)]) .ret) .skip)) (.seq (.region [o1 22 (.load true 2 3), oS ⟨some 23, .call "mergelens/mergelensref05.Ends" [22, (.c (.string ⟨#[97]⟩)), (kI 0)],
 none⟩ S_ref05_Ends, ia 5 23]) (.seq (.region [im 24 5, o1 25 (.ixA 1 24 (kI 1)), ld 26 25, im 27 26, gt 28 27 (.mv 5), gt 29 27 (.ixA 1 28 (kI 0)), gt 30 27 (.load false 1 29), gt
 31 27 (.un .not 30), o1 32 (.pick 27 31 kF), im 33 32, gt 34 33 (.load true 2 3), oS ⟨some 35, .call "mergelens/automaton.Check" [34], some (33, true)⟩ S_automaton_Check, gt 36 33
 (.bin .eql 35 (kI 0)), o1 37 (.pick 33 36 kF), im 38 37, gt 39 38 (.build [(.slice none 0 0), (.int .i64 0)] []), oS ⟨some 40, .call "mergelens/automaton.Check" [39], some (38,
 true)⟩ S_automaton_Check, gt 41 38 (.bin .eql 40 (kI 2)), o1 42 (.pick 38 41 kF), ia 0 42]) .ret))))))
def F_law05_awake : AFn := ⟨ "mergelens/mergelenslaw05.awake", t_law05_awake.erase, [.tmp 0], 0⟩
def W_law05_awake (P : Program) (x : Unit) (K : Bool → Unit → Prop) : Prop :=
 Fn P "mergelens/mergelensref04.Parse" S_ref04_Parse ([97] : List UInt8) (fun (d1 : ((List Node) × Int)) (e2 : Unit) => Fn P "mergelens/automaton.Build" S_automaton_Build d1.1 (fun (d3 : (((List State) × Int) × Int)) (e4 : Unit) => JoinW (D := Int) (fun J5 => (((d3.2 != (0 : Int)) = false → Fn P "mergelens/mergelensref05.Check" S_ref05_Check d3.1 (fun (d6 : Int) _ => J5 d6)) ∧ (((d3.2 != (0 : Int)) = true → J5 (0 : Int)) ∧ True))) (fun d7 => (((cond (d3.2 != (0 : Int)) true (d7 != (0 : Int))) = true → K false ()) ∧ ((cond (d3.2 != (0 : Int)) true (d7 != (0 : Int))) = false → Fn P "mergelens/mergelensref05.Ends" S_ref05_Ends (d3.1, (([97] : List UInt8), (0 : Int))) (fun (d8 : (List Bool)) (e9 : Unit) => (0 ≤ (1 : Int) ∧ (1 : Int) < ((List.length d8 : Nat) : Int)) ∧
 ((Int.toNat (1 : Int)) < List.length d8) ∧
 (((List.getD d8 (Int.toNat (1 : Int)) false) = true → 0 ≤ (0 : Int) ∧ (0 : Int) < ((List.length d8 : Nat) : Int))) ∧
 (((List.getD d8 (Int.toNat (1 : Int)) false) = true → (Int.toNat (0 : Int)) < List.length d8)) ∧
 JoinW (D := Int) (fun J10 => (((cond (List.getD d8 (Int.toNat (1 : Int)) false) (!(List.getD d8 (Int.toNat (0 : Int)) false)) false) = true → Fn P "mergelens/automaton.Check" S_automaton_Check d3.1 (fun (d11 : Int) _ => J10 d11)) ∧ (((cond (List.getD d8 (Int.toNat (1 : Int)) false) (!(List.getD d8 (Int.toNat (0 : Int)) false)) false) = false → J10 (0 : Int)) ∧ True))) (fun d12 => JoinW (D := Int) (fun J13 => (((cond (cond (List.getD d8 (Int.toNat (1 : Int)) false) (!(List.getD d8 (Int.toNat (0 : Int)) false)) false) (d12 == (0 : Int)) false) = true → Fn P "mergelens/automaton.Check" S_automaton_Check ([], (0 : Int)) (fun (d14 : Int) _ => J13 d14)) ∧ (((cond (cond (List.getD d8 (Int.toNat (1 : Int)) false) (!(List.getD d8 (Int.toNat (0 : Int)) false)) false) (d12 == (0 : Int)) false) = false → J13 (0 : Int)) ∧ True))) (fun d15 => K (cond (cond (cond (List.getD d8 (Int.toNat (1 : Int)) false) (!(List.getD d8 (Int.toNat (0 : Int)) false)) false) (d12 == (0 : Int)) false) (d15 == (2 : Int)) false) ()))))))))
theorem fn_law05_awake {P : Program} (h : Has P F_law05_awake) {x : DP S_law05_awake.ps} {K : DP S_law05_awake.rs → DP (ptrs S_law05_awake.ps) → Prop} (hw : W_law05_awake P x K) : Fn P "mergelens/mergelenslaw05.awake" S_law05_awake x K :=
  fn_of (c := t_law05_awake) h rfl rfl (by kernel_rfl) (Eq.mpr (show liftT P F_law05_awake S_law05_awake t_law05_awake x K = W_law05_awake P x K by kernel_rfl) hw)

def t_gen_At : TCode :=
 (.seq (.region [ia 4 (kI 0)]) (.seq (.region [im 6 1, o1 7 (.bin .add 6 (kI 1)), o1 8 (.conv (.toInt .u64) 7), o1 9 (.bin .mul 8 (.c (.int .u64 11400714819323198485))), ia 5 9])
 (.seq (.seq (.region [im 10 0, o1 11 (.lenK 10), o1 12 (.bin .gtr 11 (kI 0))]) (.frame (rg [5] 13 10) [] false (.join [.sl 5 false (.int .u64) .leaf] (.cond 12 (.region [im 13 5,
 im 14 0, im 15 1, im 16 0, o1 17 (.lenK 16), o1 18 (.bin .rem 15 17), o1 19 (.ixA 1 14 18), ld 20 19, o1 21 (.conv (.toInt .u64) 20), o1 22 (.bin .xor 13 21), ia 5 22]) .skip))))
 (.seq (.region [im 23 5, im 24 5, o1 25 (.bin .shr 24 (.c (.int .u64 31))), o1 26 (.bin .xor 23 25), o1 27 (.bin .mul 26 (.c (.int .u64 13787848793156543929))), ia 5 27]) (.seq
 (.region [im 28 5, im 29 5, o1 30 (.bin .shr 29 (.c (.int .u64 29))), o1 31 (.bin .xor 28 30), o1 32 (.bin .shr 31 (.c (.int .u64 1))), o1 33 (.conv (.toInt .i64) 32), ia 4 33])
 .ret)))))
def F_gen_At : AFn := ⟨ "mergelens/mergelensgen.At", t_gen_At.erase, [.tmp 4], 2⟩
def W_gen_At (P : Program) (x : ((List Int) × Int)) (K : Int → Unit → Prop) : Prop :=
 JoinW (D := Int) (fun J1 => (((decide (((List.length x.1 : Nat) : Int) > (0 : Int))) = true → (((List.length x.1 : Nat) : Int) ≠ 0) ∧
 (0 ≤ (Int.tmod x.2 ((List.length x.1 : Nat) : Int)) ∧ (Int.tmod x.2 ((List.length x.1 : Nat) : Int)) < ((List.length x.1 : Nat) : Int)) ∧
 ((Int.toNat (Int.tmod x.2 ((List.length x.1 : Nat) : Int))) < List.length x.1) ∧
 J1 (IntKind.u64.wrap ((BitVec.toNat (BitVec.ofInt IntKind.u64.bits (IntKind.u64.wrap ((IntKind.u64.wrap (IntKind.i64.wrap (x.2 + (1 : Int)))) * (11400714819323198485 : Int))) ^^^ BitVec.ofInt IntKind.u64.bits (IntKind.u64.wrap (List.getD x.1 (Int.toNat (Int.tmod x.2 ((List.length x.1 : Nat) : Int))) (0 : Int)))) : Nat) : Int))) ∧ ((decide (((List.length x.1 : Nat) : Int) > (0 : Int))) = false → J1 (IntKind.u64.wrap ((IntKind.u64.wrap (IntKind.i64.wrap (x.2 + (1 : Int)))) * (11400714819323198485 : Int)))))) (fun (d2 : Int) => (0 ≤ (31 : Int)) ∧
 (0 ≤ (29 : Int)) ∧
 (0 ≤ (1 : Int)) ∧
 K (IntKind.i64.wrap (Int.fdiv (IntKind.u64.wrap ((BitVec.toNat (BitVec.ofInt IntKind.u64.bits (IntKind.u64.wrap ((IntKind.u64.wrap ((BitVec.toNat (BitVec.ofInt IntKind.u64.bits d2 ^^^ BitVec.ofInt IntKind.u64.bits (Int.fdiv d2 (2 ^ (min (Int.toNat (31 : Int)) IntKind.u64.bits)))) : Nat) : Int)) * (13787848793156543929 : Int))) ^^^ BitVec.ofInt IntKind.u64.bits (Int.fdiv (IntKind.u64.wrap ((IntKind.u64.wrap ((BitVec.toNat (BitVec.ofInt IntKind.u64.bits d2 ^^^ BitVec.ofInt IntKind.u64.bits (Int.fdiv d2 (2 ^ (min (Int.toNat (31 : Int)) IntKind.u64.bits)))) : Nat) : Int)) * (13787848793156543929 : Int))) (2 ^ (min (Int.toNat (29 : Int)) IntKind.u64.bits)))) : Nat) : Int)) (2 ^ (min (Int.toNat (1 : Int)) IntKind.u64.bits)))) ())
theorem fn_gen_At {P : Program} (h : Has P F_gen_At) {x : DP S_gen_At.ps} {K : DP S_gen_At.rs → DP (ptrs S_gen_At.ps) → Prop} (hw : W_gen_At P x K) : Fn P "mergelens/mergelensgen.At" S_gen_At x K :=
  fn_of (c := t_gen_At) h rfl rfl (by kernel_rfl) (Eq.mpr (show liftT P F_gen_At S_gen_At t_gen_At x K = W_gen_At P x K by kernel_rfl) hw)

def t_ref04_Check : TCode :=
 (.seq (.region [ia 2 (kI 0)]) (.seq (.seq (.region [im 7 0, o1 8 (.lenK 7), o1 9 (.bin .eql 8 (kI 0)), im 10 9, gf 11 10 (.mv 0), gf 12 10 (.lenK 11), gf 13 10 (.bin .gtr 12 (kI
 4000)), o1 14 (.pick 10 kT 13)]) (.cond 14 (.seq (.region [ia 2 (kI 2)]) .ret) .skip)) (.seq (.seq (.region [ia 3 (kI 0)]) (.frame (rg [2, 3, 4, 5, 6] 15 90) [1004] false (.join
 [.si 2] (.block 0 (.loop [.si 2, .si 3] (.seq (.seq (.region [im 15 3, im 16 0, o1 17 (.lenK 16), o1 18 (.bin .lss 15 17)]) (.cond 18 .skip (.exit 0))) (.seq (.frame (rg [2, 4, 5,
 6] 21 84) [1004] false (.join [.si 2] (.block 1 (.seq (.region [im 21 0, im 22 3, o1 23 (.ixA 8 21 22), o1 24 (.load true 8 23), o1 4 (.alloc [(.int .i64 0), (.int .u64 0), (.int
 .u64 0), (.int .u64 0), (.int .u64 0), (.int .i64 0), (.int .i64 0), (.slice none 0 0)]), o0 ⟨none, .store 8 4 24, none⟩]) (.seq (.seq (.region [ia 5 (kI 0)]) (.frame (rg [2, 5] 25
 22) [] false (.join [.si 2] (.block 2 (.loop [.si 2, .si 5] (.seq (.seq (.region [im 25 5, fa 26 7 4, ld 27 26, o1 28 (.lenK 27), o1 29 (.bin .lss 25 28)]) (.cond 29 .skip (.exit
 2))) (.seq (.frame (rg [2] 32 15) [] false (.join [.si 2] (.block 3 (.seq (.region [fa 32 7 4, ld 33 32, im 34 5, o1 35 (.ixA 1 33 34), ld 36 35, o1 37 (.bin .lss 36 (kI 0)), im 38
 37, gf 39 38 (.fAddr 7 4), gf 40 38 (.load false 1 39), gf 41 38 (.mv 5), gf 42 38 (.ixA 1 40 41), gf 43 38 (.load false 1 42), gf 44 38 (.mv 3), gf 45 38 (.bin .geq 43 44), o1 46
 (.pick 38 kT 45)]) (.cond 46 (.seq (.region [ia 2 (kI 2)]) .ret) .skip))))) (.region [im 30 5, o1 31 (.bin .add 30 (kI 1)), ia 5 31])))))))) (.seq (.region [fa 47 7 4, ld 48 47, o1
 49 (.lenK 48), o1 50 (.bin .eql 49 (kI 0)), ia 6 50]) (.seq (.seq (.region [fa 51 0 4, ld 52 51]) (.frame (rg [6] 53 40) [] false (.join [.sl 6 false .bool .leaf] (.block 4 (.seq
 (.region [o1 54 (.bin .eql 52 (kI 6)), ia 53 54]) (.frame (rg [6] 55 38) [] false (.join [.sl 6 false .bool .leaf] (.cond 53 (.region [fa 55 7 4, ld 56 55, o1 57 (.lenK 56), o1 58
 (.bin .eql 57 (kI 1)), im 59 58, gt 60 59 (.fAddr 5 4), gt 61 59 (.load false 1 60), gt 62 59 (.bin .geq 61 (kI 0)), o1 63 (.pick 59 62 kF), im 64 63, gt 65 64 (.fAddr 5 4), gt 66
 64 (.load false 1 65), gt 67 64 (.bin .leq 66 (kI 100)), o1 68 (.pick 64 67 kF), im 69 68, gt 70 69 (.fAddr 6 4), gt 71 69 (.load false 1 70), gt 72 69 (.bin .eql 71 (kI (-1))), gt
 73 69 (.mv 72), gf 74 73 (.fAddr 6 4), gf 75 73 (.load false 1 74), gf 76 73 (.fAddr 5 4), gf 77 73 (.load false 1 76), gf 78 73 (.bin .geq 75 77), gf 79 73 (.mv 78), gt 80 79
 (.fAddr 6 4), gt 81 79 (.load false 1 80), gt 82 79 (.bin .leq 81 (kI 100)), gf 83 73 (.pick 79 82 kF), gt 84 69 (.pick 73 kT 83), o1 85 (.pick 69 84 kF), ia 6 85]) (.seq (.seq
 (.region [o1 87 (.bin .eql 52 (kI 4)), ia 86 87]) (.frame [86, 88] [] false (.join [.sl 86 false .bool .leaf] (.cond 86 .skip (.region [o1 88 (.bin .eql 52 (kI 5)), ia 86 88])))))
 (.frame (rg [6] 89 4) [] false (.join [.sl 6 false .bool .leaf] (.cond 86 (.region [fa 89 7 4, ld 90 89, o1 91 (.lenK 90), o1 92 (.bin .geq 91 (kI 2)), ia 6 92]) .skip))))))))))))
 (.seq (.region [im 93 6, o1 94 (.un .not 93), im 95 94, gf 96 95 (.fAddr 0 4), gf 97 95 (.load false 1 96), gf 98 95 (.bin .lss 97 (kI 0)), o1 99 (.pick 95 kT 98), im 100 99, gf
 101 100 (.fAddr 0 4), gf 102 100 (.load false 1 101), gf 103 100 (.bin .gtr 102 (kI 6)), o1 104 (.pick 100 kT 103)]) (.cond 104 (.seq (.region [ia 2 (kI 2)]) .ret) .skip)))))))))
 (.region [im 19 3, o1 20 (.bin .add 19 (kI 1)), ia 3 20])))))))) (.seq (.region [ia 2 (kI 0)]) .ret))))
def F_ref04_Check : AFn := ⟨ "mergelens/mergelensref04.Check", t_ref04_Check.erase, [.tmp 2], 1⟩
def W_ref04_Check (P : Program) (x : (List Node)) (K : Int → Unit → Prop) : Prop :=
 (((cond (((List.length x : Nat) : Int) == (0 : Int)) true (decide (((List.length x : Nat) : Int) > (4000 : Int)))) = true → K (2 : Int) ()) ∧ ((cond (((List.length x : Nat) : Int) == (0 : Int)) true (decide (((List.length x : Nat) : Int) > (4000 : Int)))) = false → JoinW (D := Int) (fun J1 => LoopW (D := (Int × Int)) ((0 : Int), (0 : Int)) (fun (d3 : (Int × Int)) J4 => (((decide (d3.2 < ((List.length x : Nat) : Int))) = true → JoinW (D := Int) (fun J5 => (0 ≤ d3.2 ∧ d3.2 < ((List.length x : Nat) : Int)) ∧
 ((Int.toNat d3.2) < List.length x) ∧
 JoinW (D := Int) (fun J7 => LoopW (D := (Int × Int)) (d3.1, (0 : Int)) (fun (d9 : (Int × Int)) J10 => (((decide (d9.2 < ((List.length (List.getD x (Int.toNat d3.2) zNode).2.2.2.2 : Nat) : Int))) = true → JoinW (D := Int) (fun J11 => (0 ≤ d9.2 ∧ d9.2 < ((List.length (List.getD x (Int.toNat d3.2) zNode).2.2.2.2 : Nat) : Int)) ∧
 ((Int.toNat d9.2) < List.length (List.getD x (Int.toNat d3.2) zNode).2.2.2.2) ∧
 (((decide ((List.getD (List.getD x (Int.toNat d3.2) zNode).2.2.2.2 (Int.toNat d9.2) (0 : Int)) < (0 : Int))) = false → 0 ≤ d9.2 ∧ d9.2 < ((List.length (List.getD x (Int.toNat d3.2) zNode).2.2.2.2 : Nat) : Int))) ∧
 (((decide ((List.getD (List.getD x (Int.toNat d3.2) zNode).2.2.2.2 (Int.toNat d9.2) (0 : Int)) < (0 : Int))) = false → (Int.toNat d9.2) < List.length (List.getD x (Int.toNat d3.2) zNode).2.2.2.2)) ∧
 (((cond (decide ((List.getD (List.getD x (Int.toNat d3.2) zNode).2.2.2.2 (Int.toNat d9.2) (0 : Int)) < (0 : Int))) true (decide ((List.getD (List.getD x (Int.toNat d3.2) zNode).2.2.2.2 (Int.toNat d9.2) (0 : Int)) ≥ d3.2))) = true → K (2 : Int) ()) ∧ ((cond (decide ((List.getD (List.getD x (Int.toNat d3.2) zNode).2.2.2.2 (Int.toNat d9.2) (0 : Int)) < (0 : Int))) true (decide ((List.getD (List.getD x (Int.toNat d3.2) zNode).2.2.2.2 (Int.toNat d9.2) (0 : Int)) ≥ d3.2))) = false → J11 d9.1))) (fun (d12 : Int) => J10 (d12, (IntKind.i64.wrap (d9.2 + (1 : Int)))))) ∧ ((decide (d9.2 < ((List.length (List.getD x (Int.toNat d3.2) zNode).2.2.2.2 : Nat) : Int))) = false → J7 d9.1)))) (fun (d8 : Int) => JoinW (D := Bool) (fun J13 => JoinW (D := Bool) (fun J15 => ((((List.getD x (Int.toNat d3.2) zNode).1 == (6 : Int)) = true → J15 (cond (cond (cond (((List.length (List.getD x (Int.toNat d3.2) zNode).2.2.2.2 : Nat) : Int) == (1 : Int)) (decide ((List.getD x (Int.toNat d3.2) zNode).2.2.1 ≥ (0 : Int))) false) (decide ((List.getD x (Int.toNat d3.2) zNode).2.2.1 ≤ (100 : Int))) false) (cond ((List.getD x (Int.toNat d3.2) zNode).2.2.2.1 == (-1 : Int)) true (cond (decide ((List.getD x (Int.toNat d3.2) zNode).2.2.2.1 ≥ (List.getD x (Int.toNat d3.2) zNode).2.2.1)) (decide ((List.getD x (Int.toNat d3.2) zNode).2.2.2.1 ≤ (100 : Int))) false)) false)) ∧ (((List.getD x (Int.toNat d3.2) zNode).1 == (6 : Int)) = false → JoinW (D := Bool) (fun J17 => ((((List.getD x (Int.toNat d3.2) zNode).1 == (4 : Int)) = true → J17 ((List.getD x (Int.toNat d3.2) zNode).1 == (4 : Int))) ∧ (((List.getD x (Int.toNat d3.2) zNode).1 == (4 : Int)) = false → J17 ((List.getD x (Int.toNat d3.2) zNode).1 == (5 : Int))))) (fun (d18 : Bool) => JoinW (D := Bool) (fun J19 => ((d18 = true → J19 (decide (((List.length (List.getD x (Int.toNat d3.2) zNode).2.2.2.2 : Nat) : Int) ≥ (2 : Int)))) ∧ (d18 = false → J19 (((List.length (List.getD x (Int.toNat d3.2) zNode).2.2.2.2 : Nat) : Int) == (0 : Int))))) (fun (d20 : Bool) => J15 d20))))) (fun (d16 : Bool) => J13 d16)) (fun (d14 : Bool) => (((cond (cond (!d14) true (decide ((List.getD x (Int.toNat d3.2) zNode).1 < (0 : Int)))) true (decide ((List.getD x (Int.toNat d3.2) zNode).1 > (6 : Int)))) = true → K (2 : Int) ()) ∧ ((cond (cond (!d14) true (decide ((List.getD x (Int.toNat d3.2) zNode).1 < (0 : Int)))) true (decide ((List.getD x (Int.toNat d3.2) zNode).1 > (6 : Int)))) = false → J5 d8))))) (fun (d6 : Int) => J4 (d6, (IntKind.i64.wrap (d3.2 + (1 : Int)))))) ∧ ((decide (d3.2 < ((List.length x : Nat) : Int))) = false → J1 d3.1)))) (fun (d2 : Int) => K (0 : Int) ())))
theorem fn_ref04_Check {P : Program} (h : Has P F_ref04_Check) {x : DP S_ref04_Check.ps} {K : DP S_ref04_Check.rs → DP (ptrs S_ref04_Check.ps) → Prop} (hw : W_ref04_Check P x K) : Fn P "mergelens/mergelensref04.Check" S_ref04_Check x K :=
  fn_of (c := t_ref04_Check) h rfl rfl (by kernel_rfl) (Eq.mpr (show liftT P F_ref04_Check S_ref04_Check t_ref04_Check x K = W_ref04_Check P x K by kernel_rfl) hw)

def t_ref04_capped : TCode :=
 (.seq (.region [ia 2 (kI 0)]) (.seq (.region [im 3 0, o1 4 (.mm false 3 (kI 4001)), ia 2 4]) .ret))
def F_ref04_capped : AFn := ⟨ "mergelens/mergelensref04.capped", t_ref04_capped.erase, [.tmp 2], 1⟩
def W_ref04_capped (P : Program) (x : Int) (K : Int → Unit → Prop) : Prop :=
 K (if (4001 : Int) < x then (4001 : Int) else x) ()
theorem fn_ref04_capped {P : Program} (h : Has P F_ref04_capped) {x : DP S_ref04_capped.ps} {K : DP S_ref04_capped.rs → DP (ptrs S_ref04_capped.ps) → Prop} (hw : W_ref04_capped P x K) : Fn P "mergelens/mergelensref04.capped" S_ref04_capped x K :=
  fn_of (c := t_ref04_capped) h rfl rfl (by kernel_rfl) (Eq.mpr (show liftT P F_ref04_capped S_ref04_capped t_ref04_capped x K = W_ref04_capped P x K by kernel_rfl) hw)

def t_ref04_Weight : TCode :=
 (.seq (.region [ia 2 (kI 0), ia 3 (kI 0)]) (.seq (.seq (.region [im 9 0, oS ⟨some 10, .call "mergelens/mergelensref04.Check" [9], none⟩ S_ref04_Check, o1 11 (.bin .neq 10 (kI 0))])
 (.cond 11 (.seq (.region [ia 2 (kI 0), ia 3 (kI 2)]) .ret) .skip)) (.seq (.region [o1 4 (.asg (.c (.slice none 0 0)))]) (.seq (.seq (.region [ia 5 (kI 0)]) (.frame (rg [4, 5, 6, 7,
 8] 12 86) [] false (.join [.sl 4 false (.sl bI) tO] (.block 0 (.loop [.sl 4 false (.sl bI) tO, .si 5] (.seq (.seq (.region [im 12 5, im 13 0, o1 14 (.lenK 13), o1 15 (.bin .lss 12
 14)]) (.cond 15 .skip (.exit 0))) (.seq (.frame (rg [4, 6, 7, 8] 18 80) [] false (.join [.sl 4 false (.sl bI) tO] (.block 1 (.seq (.region [ia 6 (kI 0)]) (.seq (.seq (.region [ia 7
 (kI 0)]) (.frame (rg [6, 7] 18 24) [] false (.join [.si 6] (.block 2 (.loop [.si 6, .si 7] (.seq (.seq (.region [im 18 7, im 19 0, im 20 5, o1 21 (.ixA 8 19 20), fa 22 7 21, ld 23
 22, o1 24 (.lenK 23), o1 25 (.bin .lss 18 24)]) (.cond 25 .skip (.exit 2))) (.seq (.frame (rg [6] 28 14) [] false (.join [.si 6] (.block 3 (.region [im 28 6, im 29 4, im 30 0, im
 31 5, o1 32 (.ixA 8 30 31), fa 33 7 32, ld 34 33, im 35 7, o1 36 (.ixA 1 34 35), ld 37 36, o1 38 (.ixA 1 29 37), ld 39 38, o1 40 (.bin .add 28 39), oS ⟨some 41, .call
 "mergelens/mergelensref04.capped" [40], none⟩ S_ref04_capped, ia 6 41])))) (.region [im 26 7, o1 27 (.bin .add 26 (kI 1)), ia 7 27])))))))) (.seq (.seq (.region [im 42 0, im 43 5,
 o1 44 (.ixA 8 42 43), fa 45 0 44, ld 46 45]) (.frame (rg [6, 8] 47 46) [] false (.join [.si 6] (.block 4 (.seq (.region [o1 48 (.bin .eql 46 (kI 5)), ia 47 48]) (.frame (rg [6, 8]
 49 44) [] false (.join [.si 6] (.cond 47 (.region [im 49 6, im 50 0, im 51 5, o1 52 (.ixA 8 50 51), fa 53 7 52, ld 54 53, o1 55 (.lenK 54), o1 56 (.bin .add 49 55), o1 57 (.bin
 .sub 56 (kI 1)), ia 6 57]) (.seq (.region [o1 59 (.bin .eql 46 (kI 6)), ia 58 59]) (.frame (rg [6, 8] 60 33) [] false (.join [.si 6] (.cond 58 (.seq (.region [im 60 6, o1 61 (.bin
 .add 60 (kI 1)), ia 8 61]) (.seq (.seq (.region [im 62 0, im 63 5, o1 64 (.ixA 8 62 63), fa 65 6 64, ld 66 65, o1 67 (.bin .geq 66 (kI 0))]) (.frame (rg [8] 68 14) [] false (.join
 [.si 8] (.cond 67 (.frame (rg [8] 68 14) [] false (.join [.si 8] (.draw [(.first (im 68 0) (.first (im 69 5) (.first (o1 70 (.ixA 8 68 69)) (.first (fa 71 6 70) (.first (ld 72 71)
 (.first (im 73 0) (.first (im 74 5) (.first (o1 75 (.ixA 8 73 74)) (.first (fa 76 5 75) (.first (ld 77 76) (.first (o1 78 (.bin .sub 72 77)) (.first (im 79 6) (.first (o1 80 (.bin
 .add 79 (kI 1))) (.first (o1 81 (.bin .mul 78 80)) (.alt (ia 8 81) .done .stop)))))))))))))))]))) .skip)))) (.region [im 82 0, im 83 5, o1 84 (.ixA 8 82 83), fa 85 5 84, ld 86 85,
 im 87 6, o1 88 (.bin .mul 86 87), im 89 8, o1 90 (.bin .add 88 89), ia 6 90]))) (.seq (.region [o1 92 (.bin .eql 46 (kI 4)), ia 91 92]) (.frame [6] [] false (.join [.si 6] (.cond
 91 .skip (.region [ia 6 (kI 1)]))))))))))))))))) (.region [im 93 4, im 94 6, oS ⟨some 95, .call "mergelens/mergelensref04.capped" [94], none⟩ S_ref04_capped, oT ⟨some 96, .buildSl
 1 [(.int .i64 0)] 1 [(0, 95)], none⟩ (some (bI, .leaf)), oT ⟨some 97, .app 1 8 93 96, none⟩ (some (bI, .leaf)), ia 4 97]))))))) (.region [im 16 5, o1 17 (.bin .add 16 (kI 1)), ia 5
 17])))))))) (.seq (.region [im 98 4, im 99 4, o1 100 (.lenK 99), o1 101 (.bin .sub 100 (kI 1)), o1 102 (.ixA 1 98 101), ld 103 102, ia 2 103, ia 3 (kI 0)]) .ret)))))
def F_ref04_Weight : AFn := ⟨ "mergelens/mergelensref04.Weight", t_ref04_Weight.erase, [.tmp 2, .tmp 3], 1⟩
def W_ref04_Weight (P : Program) (x : (List Node)) (K : (Int × Int) → Unit → Prop) : Prop :=
 Fn P "mergelens/mergelensref04.Check" S_ref04_Check x (fun (d1 : Int) (e2 : Unit) => (((d1 != (0 : Int)) = true → K ((0 : Int), (2 : Int)) ()) ∧ ((d1 != (0 : Int)) = false → JoinW (D := (List Int)) (fun J3 => LoopW (D := ((List Int) × Int)) ([], (0 : Int)) (fun (d5 : ((List Int) × Int)) J6 => (((decide (d5.2 < ((List.length x : Nat) : Int))) = true → JoinW (D := (List Int)) (fun J7 => JoinW (D := Int) (fun J9 => LoopW (D := (Int × Int)) ((0 : Int), (0 : Int)) (fun (d11 : (Int × Int)) J12 => (0 ≤ d5.2 ∧ d5.2 < ((List.length x : Nat) : Int)) ∧
 ((Int.toNat d5.2) < List.length x) ∧
 (((decide (d11.2 < ((List.length (List.getD x (Int.toNat d5.2) zNode).2.2.2.2 : Nat) : Int))) = true → JoinW (D := Int) (fun J13 => (0 ≤ d5.2 ∧ d5.2 < ((List.length x : Nat) : Int)) ∧
 ((Int.toNat d5.2) < List.length x) ∧
 (0 ≤ d11.2 ∧ d11.2 < ((List.length (List.getD x (Int.toNat d5.2) zNode).2.2.2.2 : Nat) : Int)) ∧
 ((Int.toNat d11.2) < List.length (List.getD x (Int.toNat d5.2) zNode).2.2.2.2) ∧
 (0 ≤ (List.getD (List.getD x (Int.toNat d5.2) zNode).2.2.2.2 (Int.toNat d11.2) (0 : Int)) ∧ (List.getD (List.getD x (Int.toNat d5.2) zNode).2.2.2.2 (Int.toNat d11.2) (0 : Int)) < ((List.length d5.1 : Nat) : Int)) ∧
 ((Int.toNat (List.getD (List.getD x (Int.toNat d5.2) zNode).2.2.2.2 (Int.toNat d11.2) (0 : Int))) < List.length d5.1) ∧
 Fn P "mergelens/mergelensref04.capped" S_ref04_capped (IntKind.i64.wrap (d11.1 + (List.getD d5.1 (Int.toNat (List.getD (List.getD x (Int.toNat d5.2) zNode).2.2.2.2 (Int.toNat d11.2) (0 : Int))) (0 : Int)))) (fun (d15 : Int) (e16 : Unit) => J13 d15)) (fun (d14 : Int) => J12 (d14, (IntKind.i64.wrap (d11.2 + (1 : Int)))))) ∧ ((decide (d11.2 < ((List.length (List.getD x (Int.toNat d5.2) zNode).2.2.2.2 : Nat) : Int))) = false → J9 d11.1)))) (fun (d10 : Int) => (0 ≤ d5.2 ∧ d5.2 < ((List.length x : Nat) : Int)) ∧
 ((Int.toNat d5.2) < List.length x) ∧
 JoinW (D := Int) (fun J17 => JoinW (D := Int) (fun J19 => ((((List.getD x (Int.toNat d5.2) zNode).1 == (5 : Int)) = true → (0 ≤ d5.2 ∧ d5.2 < ((List.length x : Nat) : Int)) ∧
 ((Int.toNat d5.2) < List.length x) ∧
 J19 (IntKind.i64.wrap ((IntKind.i64.wrap (d10 + ((List.length (List.getD x (Int.toNat d5.2) zNode).2.2.2.2 : Nat) : Int))) - (1 : Int)))) ∧ (((List.getD x (Int.toNat d5.2) zNode).1 == (5 : Int)) = false → JoinW (D := Int) (fun J21 => ((((List.getD x (Int.toNat d5.2) zNode).1 == (6 : Int)) = true → (0 ≤ d5.2 ∧ d5.2 < ((List.length x : Nat) : Int)) ∧
 ((Int.toNat d5.2) < List.length x) ∧
 JoinW (D := Int) (fun J23 => (((decide ((List.getD x (Int.toNat d5.2) zNode).2.2.2.1 ≥ (0 : Int))) = true → JoinW (D := Int) (fun J25 => (0 ≤ d5.2 ∧ d5.2 < ((List.length x : Nat) : Int)) ∧
 ((Int.toNat d5.2) < List.length x) ∧
 (0 ≤ d5.2 ∧ d5.2 < ((List.length x : Nat) : Int)) ∧
 ((Int.toNat d5.2) < List.length x) ∧
 (J25 (IntKind.i64.wrap ((IntKind.i64.wrap ((List.getD x (Int.toNat d5.2) zNode).2.2.2.1 - (List.getD x (Int.toNat d5.2) zNode).2.2.1)) * (IntKind.i64.wrap (d10 + (1 : Int)))))) ∧ (True)) (fun (d26 : Int) => J23 d26)) ∧ ((decide ((List.getD x (Int.toNat d5.2) zNode).2.2.2.1 ≥ (0 : Int))) = false → J23 (IntKind.i64.wrap (d10 + (1 : Int)))))) (fun (d24 : Int) => (0 ≤ d5.2 ∧ d5.2 < ((List.length x : Nat) : Int)) ∧
 ((Int.toNat d5.2) < List.length x) ∧
 J21 (IntKind.i64.wrap ((IntKind.i64.wrap ((List.getD x (Int.toNat d5.2) zNode).2.2.1 * d10)) + d24)))) ∧ (((List.getD x (Int.toNat d5.2) zNode).1 == (6 : Int)) = false → JoinW (D := Int) (fun J27 => ((((List.getD x (Int.toNat d5.2) zNode).1 == (4 : Int)) = true → J27 d10) ∧ (((List.getD x (Int.toNat d5.2) zNode).1 == (4 : Int)) = false → J27 (1 : Int)))) (fun (d28 : Int) => J21 d28)))) (fun (d22 : Int) => J19 d22)))) (fun (d20 : Int) => J17 d20)) (fun (d18 : Int) => Fn P "mergelens/mergelensref04.capped" S_ref04_capped d18 (fun (d29 : Int) (e30 : Unit) => ((List.length d5.1 + List.length ([d29] : List Int)) * 8 ≤ 140737488355328) ∧
 J7 (d5.1 ++ ([d29] : List Int)))))) (fun (d8 : (List Int)) => J6 (d8, (IntKind.i64.wrap (d5.2 + (1 : Int)))))) ∧ ((decide (d5.2 < ((List.length x : Nat) : Int))) = false → J3 d5.1)))) (fun (d4 : (List Int)) => (0 ≤ (IntKind.i64.wrap (((List.length d4 : Nat) : Int) - (1 : Int))) ∧ (IntKind.i64.wrap (((List.length d4 : Nat) : Int) - (1 : Int))) < ((List.length d4 : Nat) : Int)) ∧
 ((Int.toNat (IntKind.i64.wrap (((List.length d4 : Nat) : Int) - (1 : Int)))) < List.length d4) ∧
 K ((List.getD d4 (Int.toNat (IntKind.i64.wrap (((List.length d4 : Nat) : Int) - (1 : Int)))) (0 : Int)), (0 : Int)) ()))))
theorem fn_ref04_Weight {P : Program} (h : Has P F_ref04_Weight) {x : DP S_ref04_Weight.ps} {K : DP S_ref04_Weight.rs → DP (ptrs S_ref04_Weight.ps) → Prop} (hw : W_ref04_Weight P x K) : Fn P "mergelens/mergelensref04.Weight" S_ref04_Weight x K :=
  fn_of (c := t_ref04_Weight) h rfl rfl (by kernel_rfl) (Eq.mpr (show liftT P F_ref04_Weight S_ref04_Weight t_ref04_Weight x K = W_ref04_Weight P x K by kernel_rfl) hw)

def t_ref05_empty : TCode :=
 (.seq (.region [o1 4 (.asg (.c (.slice none 0 0)))]) (.seq (.region [o1 5 (.asg (.c (.slice none 0 0)))]) (.seq (.seq (.region [ia 6 (kI 0)]) (.frame (rg [] 5 21) [] false (.join
 [.sl 5 false (.sl (.sl .bool)) (.node .own tO)] (.block 0 (.loop [.sl 5 false (.sl (.sl .bool)) (.node .own tO), .si 6] (.seq (.seq (.region [im 8 6, im 9 0, o1 10 (.lenS 9), o1 11
 (.bin .leq 8 10)]) (.cond 11 .skip (.exit 0))) (.seq (.frame (rg [5, 7] 14 12) [] false (.join [.sl 5 false (.sl (.sl .bool)) (.node .own tO)] (.block 1 (.seq (.region [im 14 0, o1
 15 (.lenS 14), o1 16 (.bin .add 15 (kI 1)), oT ⟨some 17, .mkSl 1 1 [(.bool false)] 16 16, none⟩ (some (.bool, .leaf)), ia 7 17]) (.seq (.region [im 18 7, im 19 6, im 20 1, o1 21
 (.ixA 1 18 19), o0 ⟨none, .store 1 21 20, none⟩]) (.region [im 22 5, im 23 7, oT ⟨some 24, .buildSl 1 [(.slice none 0 0)] 1 [(0, 23)], none⟩ (some ((.sl .bool), tO)), oT ⟨some 25,
 .app 1 24 22 24, none⟩ (some ((.sl .bool), tO)), ia 5 25])))))) (.region [im 12 6, o1 13 (.bin .add 12 (kI 1)), ia 6 13])))))))) (.seq (.region [im 26 5, ia 4 26]) .ret))))
def F_ref05_empty : AFn := ⟨ "mergelens/mergelensref05.empty", t_ref05_empty.erase, [.tmp 4], 2⟩
def W_ref05_empty (P : Program) (x : ((List UInt8) × Bool)) (K : (List (List Bool)) → Unit → Prop) : Prop :=
 JoinW (D := (List (List Bool))) (fun J1 => LoopW (D := ((List (List Bool)) × Int)) ([], (0 : Int)) (fun (d3 : ((List (List Bool)) × Int)) J4 => (((decide (d3.2 ≤ ((List.length x.1 : Nat) : Int))) = true → JoinW (D := (List (List Bool))) (fun J5 => (0 ≤ (IntKind.i64.wrap (((List.length x.1 : Nat) : Int) + (1 : Int))) ∧ (IntKind.i64.wrap (((List.length x.1 : Nat) : Int) + (1 : Int))) ≤ (IntKind.i64.wrap (((List.length x.1 : Nat) : Int) + (1 : Int))) ∧ ((1 : Nat) : Int) * (IntKind.i64.wrap (((List.length x.1 : Nat) : Int) + (1 : Int))) ≤ 281474976710656) ∧
 (0 ≤ d3.2 ∧ d3.2 < ((List.length (List.replicate (Int.toNat (IntKind.i64.wrap (((List.length x.1 : Nat) : Int) + (1 : Int)))) false) : Nat) : Int)) ∧
 ((Int.toNat d3.2) < List.length (List.replicate (Int.toNat (IntKind.i64.wrap (((List.length x.1 : Nat) : Int) + (1 : Int)))) false)) ∧
 ((List.length d3.1 + List.length ([(List.set (List.replicate (Int.toNat (IntKind.i64.wrap (((List.length x.1 : Nat) : Int) + (1 : Int)))) false) (Int.toNat d3.2) x.2)] : List (List Bool))) * 24 ≤ 140737488355328) ∧
 J5 (d3.1 ++ ([(List.set (List.replicate (Int.toNat (IntKind.i64.wrap (((List.length x.1 : Nat) : Int) + (1 : Int)))) false) (Int.toNat d3.2) x.2)] : List (List Bool)))) (fun (d6 : (List (List Bool))) => J4 (d6, (IntKind.i64.wrap (d3.2 + (1 : Int)))))) ∧ ((decide (d3.2 ≤ ((List.length x.1 : Nat) : Int))) = false → J1 d3.1)))) (fun (d2 : (List (List Bool))) => K d2 ())
theorem fn_ref05_empty {P : Program} (h : Has P F_ref05_empty) {x : DP S_ref05_empty.ps} {K : DP S_ref05_empty.rs → DP (ptrs S_ref05_empty.ps) → Prop} (hw : W_ref05_empty P x K) : Fn P "mergelens/mergelensref05.empty" S_ref05_empty x K :=
  fn_of (c := t_ref05_empty) h rfl rfl (by kernel_rfl) (Eq.mpr (show liftT P F_ref05_empty S_ref05_empty t_ref05_empty x K = W_ref05_empty P x K by kernel_rfl) hw)

def t_ref05_compose : TCode :=
 (.seq (.region [o1 4 (.asg (.c (.slice none 0 0)))]) (.seq (.region [im 11 0, o1 12 (.lenK 11), ia 5 12]) (.seq (.region [o1 6 (.asg (.c (.slice none 0 0)))]) (.seq (.seq (.region
 [ia 7 (kI 0)]) (.frame (rg [6, 7, 8, 9, 10] 13 48) [] false (.join [.sl 6 false (.sl (.sl .bool)) (.node .own tO)] (.block 0 (.loop [.sl 6 false (.sl (.sl .bool)) (.node .own tO),
 .si 7] (.seq (.seq (.region [im 13 7, im 14 5, o1 15 (.bin .lss 13 14)]) (.cond 15 .skip (.exit 0))) (.seq (.frame (rg [6, 8, 9, 10] 18 43) [] false (.join [.sl 6 false (.sl (.sl
 .bool)) (.node .own tO)] (.block 1 (.seq (.region [im 18 5, oT ⟨some 19, .mkSl 1 1 [(.bool false)] 18 18, none⟩ (some (.bool, .leaf)), ia 8 19]) (.seq (.seq (.region [im 20 7, ia 9
 20]) (.frame (rg [8, 9, 10] 21 36) [] false (.join [.sl 8 false (.sl .bool) tO] (.block 2 (.loop [.sl 8 false (.sl .bool) tO, .si 9] (.seq (.seq (.region [im 21 9, im 22 5, o1 23
 (.bin .lss 21 22)]) (.cond 23 .skip (.exit 2))) (.seq (.frame (rg [8, 10] 26 31) [] false (.join [.sl 8 false (.sl .bool) tO] (.block 3 (.seq (.region [im 26 9, ia 10 26]) (.frame
 (rg [8, 10] 27 30) [] false (.join [.sl 8 false (.sl .bool) tO] (.block 4 (.loop [.sl 8 false (.sl .bool) tO, .si 10] (.seq (.seq (.region [im 27 10, im 28 5, o1 29 (.bin .lss 27
 28), im 30 29, gt 31 30 (.mv 0), gt 32 30 (.mv 7), gt 33 30 (.ixA 1 31 32), gt 34 30 (.load false 1 33), gt 35 30 (.mv 9), gt 36 30 (.ixA 1 34 35), gt 37 30 (.load false 1 36), o1
 38 (.pick 30 37 kF)]) (.cond 38 .skip (.exit 4))) (.seq (.frame (rg [8] 41 16) [] false (.join [.sl 8 false (.sl .bool) tO] (.block 5 (.region [im 41 8, im 42 10, im 43 8, im 44
 10, o1 45 (.ixA 1 43 44), ld 46 45, im 47 46, gf 48 47 (.mv 1), gf 49 47 (.mv 9), gf 50 47 (.ixA 1 48 49), gf 51 47 (.load false 1 50), gf 52 47 (.mv 10), gf 53 47 (.ixA 1 51 52),
 gf 54 47 (.load false 1 53), o1 55 (.pick 47 kT 54), o1 56 (.ixA 1 41 42), o0 ⟨none, .store 1 56 55, none⟩])))) (.region [im 39 10, o1 40 (.bin .add 39 (kI 1)), ia 10
 40]))))))))))) (.region [im 24 9, o1 25 (.bin .add 24 (kI 1)), ia 9 25])))))))) (.region [im 57 6, im 58 8, oT ⟨some 59, .buildSl 1 [(.slice none 0 0)] 1 [(0, 58)], none⟩ (some
 ((.sl .bool), tO)), oT ⟨some 60, .app 1 24 57 59, none⟩ (some ((.sl .bool), tO)), ia 6 60])))))) (.region [im 16 7, o1 17 (.bin .add 16 (kI 1)), ia 7 17])))))))) (.seq (.region [im
 61 6, ia 4 61]) .ret)))))
def F_ref05_compose : AFn := ⟨ "mergelens/mergelensref05.compose", t_ref05_compose.erase, [.tmp 4], 2⟩
def W_ref05_compose (P : Program) (x : ((List (List Bool)) × (List (List Bool)))) (K : (List (List Bool)) → Unit → Prop) : Prop :=
 JoinW (D := (List (List Bool))) (fun J1 => LoopW (D := ((List (List Bool)) × Int)) ([], (0 : Int)) (fun (d3 : ((List (List Bool)) × Int)) J4 => (((decide (d3.2 < ((List.length x.1 : Nat) : Int))) = true → JoinW (D := (List (List Bool))) (fun J5 => (0 ≤ ((List.length x.1 : Nat) : Int) ∧ ((List.length x.1 : Nat) : Int) ≤ ((List.length x.1 : Nat) : Int) ∧ ((1 : Nat) : Int) * ((List.length x.1 : Nat) : Int) ≤ 281474976710656) ∧
 JoinW (D := (List Bool)) (fun J7 => LoopW (D := ((List Bool) × Int)) ((List.replicate (Int.toNat ((List.length x.1 : Nat) : Int)) false), d3.2) (fun (d9 : ((List Bool) × Int)) J10 => (((decide (d9.2 < ((List.length x.1 : Nat) : Int))) = true → JoinW (D := (List Bool)) (fun J11 => JoinW (D := (List Bool)) (fun J13 => LoopW (D := ((List Bool) × Int)) d9 (fun (d15 : ((List Bool) × Int)) J16 => (((decide (d15.2 < ((List.length x.1 : Nat) : Int))) = true → 0 ≤ d3.2 ∧ d3.2 < ((List.length x.1 : Nat) : Int))) ∧
 (((decide (d15.2 < ((List.length x.1 : Nat) : Int))) = true → (Int.toNat d3.2) < List.length x.1)) ∧
 (((decide (d15.2 < ((List.length x.1 : Nat) : Int))) = true → 0 ≤ d9.2 ∧ d9.2 < ((List.length (List.getD x.1 (Int.toNat d3.2) []) : Nat) : Int))) ∧
 (((decide (d15.2 < ((List.length x.1 : Nat) : Int))) = true → (Int.toNat d9.2) < List.length (List.getD x.1 (Int.toNat d3.2) []))) ∧
 (((cond (decide (d15.2 < ((List.length x.1 : Nat) : Int))) (List.getD (List.getD x.1 (Int.toNat d3.2) []) (Int.toNat d9.2) false) false) = true → JoinW (D := (List Bool)) (fun J17 => (0 ≤ d15.2 ∧ d15.2 < ((List.length d15.1 : Nat) : Int)) ∧
 ((Int.toNat d15.2) < List.length d15.1) ∧
 (((List.getD d15.1 (Int.toNat d15.2) false) = false → 0 ≤ d9.2 ∧ d9.2 < ((List.length x.2 : Nat) : Int))) ∧
 (((List.getD d15.1 (Int.toNat d15.2) false) = false → (Int.toNat d9.2) < List.length x.2)) ∧
 (((List.getD d15.1 (Int.toNat d15.2) false) = false → 0 ≤ d15.2 ∧ d15.2 < ((List.length (List.getD x.2 (Int.toNat d9.2) []) : Nat) : Int))) ∧
 (((List.getD d15.1 (Int.toNat d15.2) false) = false → (Int.toNat d15.2) < List.length (List.getD x.2 (Int.toNat d9.2) []))) ∧
 (0 ≤ d15.2 ∧ d15.2 < ((List.length d15.1 : Nat) : Int)) ∧
 ((Int.toNat d15.2) < List.length d15.1) ∧
 J17 (List.set d15.1 (Int.toNat d15.2) (cond (List.getD d15.1 (Int.toNat d15.2) false) true (List.getD (List.getD x.2 (Int.toNat d9.2) []) (Int.toNat d15.2) false)))) (fun (d18 : (List Bool)) => J16 (d18, (IntKind.i64.wrap (d15.2 + (1 : Int)))))) ∧ ((cond (decide (d15.2 < ((List.length x.1 : Nat) : Int))) (List.getD (List.getD x.1 (Int.toNat d3.2) []) (Int.toNat d9.2) false) false) = false → J13 d15.1)))) (fun (d14 : (List Bool)) => J11 d14)) (fun (d12 : (List Bool)) => J10 (d12, (IntKind.i64.wrap (d9.2 + (1 : Int)))))) ∧ ((decide (d9.2 < ((List.length x.1 : Nat) : Int))) = false → J7 d9.1)))) (fun (d8 : (List Bool)) => ((List.length d3.1 + List.length ([d8] : List (List Bool))) * 24 ≤ 140737488355328) ∧
 J5 (d3.1 ++ ([d8] : List (List Bool))))) (fun (d6 : (List (List Bool))) => J4 (d6, (IntKind.i64.wrap (d3.2 + (1 : Int)))))) ∧ ((decide (d3.2 < ((List.length x.1 : Nat) : Int))) = false → J1 d3.1)))) (fun (d2 : (List (List Bool))) => K d2 ())
theorem fn_ref05_compose {P : Program} (h : Has P F_ref05_compose) {x : DP S_ref05_compose.ps} {K : DP S_ref05_compose.rs → DP (ptrs S_ref05_compose.ps) → Prop} (hw : W_ref05_compose P x K) : Fn P "mergelens/mergelensref05.compose" S_ref05_compose x K :=
  fn_of (c := t_ref05_compose) h rfl rfl (by kernel_rfl) (Eq.mpr (show liftT P F_ref05_compose S_ref05_compose t_ref05_compose x K = W_ref05_compose P x K by kernel_rfl) hw)

def t_ref05_union : TCode :=
 (.seq (.region [o1 4 (.asg (.c (.slice none 0 0)))]) (.seq (.region [o1 5 (.asg (.c (.slice none 0 0)))]) (.seq (.seq (.region [ia 6 (kI 0)]) (.frame (rg [] 5 42) [] false (.join
 [.sl 5 false (.sl (.sl .bool)) (.node .own tO)] (.block 0 (.loop [.sl 5 false (.sl (.sl .bool)) (.node .own tO), .si 6] (.seq (.seq (.region [im 9 6, im 10 0, o1 11 (.lenK 10), o1
 12 (.bin .lss 9 11)]) (.cond 12 .skip (.exit 0))) (.seq (.frame (rg [5, 7, 8] 15 32) [] false (.join [.sl 5 false (.sl (.sl .bool)) (.node .own tO)] (.block 1 (.seq (.region [im 15
 0, o1 16 (.lenK 15), oT ⟨some 17, .mkSl 1 1 [(.bool false)] 16 16, none⟩ (some (.bool, .leaf)), ia 7 17]) (.seq (.seq (.region [ia 8 (kI 0)]) (.frame (rg [7, 8] 18 25) [] false
 (.join [.sl 7 false (.sl .bool) tO] (.block 2 (.loop [.sl 7 false (.sl .bool) tO, .si 8] (.seq (.seq (.region [im 18 8, im 19 0, o1 20 (.lenK 19), o1 21 (.bin .lss 18 20)]) (.cond
 21 .skip (.exit 2))) (.seq (.frame (rg [7] 24 19) [] false (.join [.sl 7 false (.sl .bool) tO] (.block 3 (.region [im 24 7, im 25 8, im 26 0, im 27 6, o1 28 (.ixA 1 26 27), ld 29
 28, im 30 8, o1 31 (.ixA 1 29 30), ld 32 31, im 33 32, gf 34 33 (.mv 1), gf 35 33 (.mv 6), gf 36 33 (.ixA 1 34 35), gf 37 33 (.load false 1 36), gf 38 33 (.mv 8), gf 39 33 (.ixA 1
 37 38), gf 40 33 (.load false 1 39), o1 41 (.pick 33 kT 40), o1 42 (.ixA 1 24 25), o0 ⟨none, .store 1 42 41, none⟩])))) (.region [im 22 8, o1 23 (.bin .add 22 (kI 1)), ia 8
 23])))))))) (.region [im 43 5, im 44 7, oT ⟨some 45, .buildSl 1 [(.slice none 0 0)] 1 [(0, 44)], none⟩ (some ((.sl .bool), tO)), oT ⟨some 46, .app 1 24 43 45, none⟩ (some ((.sl
 .bool), tO)), ia 5 46])))))) (.region [im 13 6, o1 14 (.bin .add 13 (kI 1)), ia 6 14])))))))) (.seq (.region [im 47 5, ia 4 47]) .ret))))
def F_ref05_union : AFn := ⟨ "mergelens/mergelensref05.union", t_ref05_union.erase, [.tmp 4], 2⟩
def W_ref05_union (P : Program) (x : ((List (List Bool)) × (List (List Bool)))) (K : (List (List Bool)) → Unit → Prop) : Prop :=
 JoinW (D := (List (List Bool))) (fun J1 => LoopW (D := ((List (List Bool)) × Int)) ([], (0 : Int)) (fun (d3 : ((List (List Bool)) × Int)) J4 => (((decide (d3.2 < ((List.length x.1 : Nat) : Int))) = true → JoinW (D := (List (List Bool))) (fun J5 => (0 ≤ ((List.length x.1 : Nat) : Int) ∧ ((List.length x.1 : Nat) : Int) ≤ ((List.length x.1 : Nat) : Int) ∧ ((1 : Nat) : Int) * ((List.length x.1 : Nat) : Int) ≤ 281474976710656) ∧
 JoinW (D := (List Bool)) (fun J7 => LoopW (D := ((List Bool) × Int)) ((List.replicate (Int.toNat ((List.length x.1 : Nat) : Int)) false), (0 : Int)) (fun (d9 : ((List Bool) × Int)) J10 => (((decide (d9.2 < ((List.length x.1 : Nat) : Int))) = true → JoinW (D := (List Bool)) (fun J11 => (0 ≤ d3.2 ∧ d3.2 < ((List.length x.1 : Nat) : Int)) ∧
 ((Int.toNat d3.2) < List.length x.1) ∧
 (0 ≤ d9.2 ∧ d9.2 < ((List.length (List.getD x.1 (Int.toNat d3.2) []) : Nat) : Int)) ∧
 ((Int.toNat d9.2) < List.length (List.getD x.1 (Int.toNat d3.2) [])) ∧
 (((List.getD (List.getD x.1 (Int.toNat d3.2) []) (Int.toNat d9.2) false) = false → 0 ≤ d3.2 ∧ d3.2 < ((List.length x.2 : Nat) : Int))) ∧
 (((List.getD (List.getD x.1 (Int.toNat d3.2) []) (Int.toNat d9.2) false) = false → (Int.toNat d3.2) < List.length x.2)) ∧
 (((List.getD (List.getD x.1 (Int.toNat d3.2) []) (Int.toNat d9.2) false) = false → 0 ≤ d9.2 ∧ d9.2 < ((List.length (List.getD x.2 (Int.toNat d3.2) []) : Nat) : Int))) ∧
 (((List.getD (List.getD x.1 (Int.toNat d3.2) []) (Int.toNat d9.2) false) = false → (Int.toNat d9.2) < List.length (List.getD x.2 (Int.toNat d3.2) []))) ∧
 (0 ≤ d9.2 ∧ d9.2 < ((List.length d9.1 : Nat) : Int)) ∧
 ((Int.toNat d9.2) < List.length d9.1) ∧
 J11 (List.set d9.1 (Int.toNat d9.2) (cond (List.getD (List.getD x.1 (Int.toNat d3.2) []) (Int.toNat d9.2) false) true (List.getD (List.getD x.2 (Int.toNat d3.2) []) (Int.toNat d9.2) false)))) (fun (d12 : (List Bool)) => J10 (d12, (IntKind.i64.wrap (d9.2 + (1 : Int)))))) ∧ ((decide (d9.2 < ((List.length x.1 : Nat) : Int))) = false → J7 d9.1)))) (fun (d8 : (List Bool)) => ((List.length d3.1 + List.length ([d8] : List (List Bool))) * 24 ≤ 140737488355328) ∧
 J5 (d3.1 ++ ([d8] : List (List Bool))))) (fun (d6 : (List (List Bool))) => J4 (d6, (IntKind.i64.wrap (d3.2 + (1 : Int)))))) ∧ ((decide (d3.2 < ((List.length x.1 : Nat) : Int))) = false → J1 d3.1)))) (fun (d2 : (List (List Bool))) => K d2 ())
theorem fn_ref05_union {P : Program} (h : Has P F_ref05_union) {x : DP S_ref05_union.ps} {K : DP S_ref05_union.rs → DP (ptrs S_ref05_union.ps) → Prop} (hw : W_ref05_union P x K) : Fn P "mergelens/mergelensref05.union" S_ref05_union x K :=
  fn_of (c := t_ref05_union) h rfl rfl (by kernel_rfl) (Eq.mpr (show liftT P F_ref05_union S_ref05_union t_ref05_union x K = W_ref05_union P x K by kernel_rfl) hw)


def t_ref05_pairs : TCode :=
 (.seq (.region [o1 3 (.box 0), o1 6 (.asg (.c (.slice none 0 0)))]) (.seq (.region [im 15 2, fa 16 0 3, ld 17 16, o1 18 (.bin .eql 17 (kI 0)), im 19 18, gf 20 19 (.fAddr 0 3), gf
 21 19 (.load false 1 20), gf 22 19 (.bin .eql 21 (kI 4)), o1 23 (.pick 19 kT 22), im 24 23, gf 25 24 (.fAddr 0 3), gf 26 24 (.load false 1 25), gf 27 24 (.bin .eql 26 (kI 6)), o1
 28 (.pick 24 kT 27), oS ⟨some 29, .call "mergelens/mergelensref05.empty" [15, 28], none⟩ S_ref05_empty, ia 7 29]) (.seq (.seq (.region [fa 30 0 3, ld 31 30]) (.frame (rg [7, 8, 9,
 10, 11, 12, 13, 14] 32 114) [] false (.join [.sl 7 false (.sl (.sl .bool)) (.node .own tO)] (.block 0 (.seq (.region [o1 33 (.bin .eql 31 (kI 1)), ia 32 33]) (.frame (rg [7, 8, 9,
 10, 11, 12, 13, 14] 34 112) [] false (.join [.sl 7 false (.sl (.sl .bool)) (.node .own tO)] (.cond 32 (.seq (.region [ia 8 (kI 0)]) (.frame (rg [7, 8] 34 19) [] false (.join [.sl 7
 false (.sl (.sl .bool)) (.node .own tO)] (.block 1 (.loop [.sl 7 false (.sl (.sl .bool)) (.node .own tO), .si 8] (.seq (.seq (.region [im 34 8, im 35 2, o1 36 (.lenS 35), o1 37
 (.bin .lss 34 36)]) (.cond 37 .skip (.exit 1))) (.seq (.frame (rg [7] 40 13) [] false (.join [.sl 7 false (.sl (.sl .bool)) (.node .own tO)] (.block 2 (.frame (rg [7] 40 13) []
 false (.join [.sl 7 false (.sl (.sl .bool)) (.node .own tO)] (.draw [(.first (im 40 7) (.first (im 41 8) (.first (o1 42 (.ixA 1 40 41)) (.first (im 44 8) (.first (o1 45 (.bin .add
 44 (kI 1))) (.first (fa 46 1 3) (.first (o1 47 (.load true 4 46)) (.first (im 48 2) (.first (im 49 8) (.first (o1 50 (.ixS 48 49)) (.alt (ld 43 42) (.alt (oS ⟨some 51, .call
 "mergelens/mergelensref04.Has" [47, 50], none⟩ S_ref04_Has) (.first (o1 52 (.ixA 1 43 45)) (.alt (o0 ⟨none, .store 1 52 51, none⟩) .done .stop)) .stop) (.alt (oS ⟨some 51, .call
 "mergelens/mergelensref04.Has" [47, 50], none⟩ S_ref04_Has) (.first (ld 43 42) (.first (o1 52 (.ixA 1 43 45)) (.alt (o0 ⟨none, .store 1 52 51, none⟩) .done .stop)))
 .stop))))))))))))])))))) (.region [im 38 8, o1 39 (.bin .add 38 (kI 1)), ia 8 39])))))))) (.seq (.region [o1 54 (.bin .eql 31 (kI 2)), ia 53 54]) (.frame (rg [7, 9, 10, 11, 12, 13,
 14] 55 91) [] false (.join [.sl 7 false (.sl (.sl .bool)) (.node .own tO)] (.cond 53 (.region [im 55 7, o1 56 (.ixA 1 55 (kI 0)), ld 57 56, o1 58 (.ixA 1 57 (kI 0)), o0 ⟨none,
 .store 1 58 kT, none⟩]) (.seq (.region [o1 60 (.bin .eql 31 (kI 3)), ia 59 60]) (.frame (rg [7, 9, 10, 11, 12, 13, 14] 61 85) [] false (.join [.sl 7 false (.sl (.sl .bool)) (.node
 .own tO)] (.cond 59 (.region [im 61 7, im 62 2, o1 63 (.lenS 62), o1 64 (.ixA 1 61 63), ld 65 64, im 66 2, o1 67 (.lenS 66), o1 68 (.ixA 1 65 67), o0 ⟨none, .store 1 68 kT, none⟩])
 (.seq (.region [o1 70 (.bin .eql 31 (kI 4)), ia 69 70]) (.frame (rg [7, 9, 10, 11, 12, 13, 14] 71 75) [] false (.join [.sl 7 false (.sl (.sl .bool)) (.node .own tO)] (.cond 69
 (.seq (.region [ia 9 (kI 0)]) (.frame (rg [7, 9] 71 17) [] false (.join [.sl 7 false (.sl (.sl .bool)) (.node .own tO)] (.block 3 (.loop [.sl 7 false (.sl (.sl .bool)) (.node .own
 tO), .si 9] (.seq (.seq (.region [im 71 9, fa 72 7 3, ld 73 72, o1 74 (.lenK 73), o1 75 (.bin .lss 71 74)]) (.cond 75 .skip (.exit 3))) (.seq (.frame (rg [7] 78 10) [] false (.join
 [.sl 7 false (.sl (.sl .bool)) (.node .own tO)] (.block 4 (.region [im 78 7, im 79 1, fa 80 7 3, ld 81 80, im 82 9, o1 83 (.ixA 1 81 82), ld 84 83, o1 85 (.ixA 1 79 84), ld 86 85,
 oS ⟨some 87, .call "mergelens/mergelensref05.compose" [78, 86], none⟩ S_ref05_compose, ia 7 87])))) (.region [im 76 9, o1 77 (.bin .add 76 (kI 1)), ia 9 77])))))))) (.seq (.region
 [o1 89 (.bin .eql 31 (kI 5)), ia 88 89]) (.frame (rg [7, 10, 11, 12, 13, 14] 90 56) [] false (.join [.sl 7 false (.sl (.sl .bool)) (.node .own tO)] (.cond 88 (.seq (.region [ia 10
 (kI 0)]) (.frame (rg [7, 10] 90 17) [] false (.join [.sl 7 false (.sl (.sl .bool)) (.node .own tO)] (.block 5 (.loop [.sl 7 false (.sl (.sl .bool)) (.node .own tO), .si 10] (.seq
 (.seq (.region [im 90 10, fa 91 7 3, ld 92 91, o1 93 (.lenK 92), o1 94 (.bin .lss 90 93)]) (.cond 94 .skip (.exit 5))) (.seq (.frame (rg [7] 97 10) [] false (.join [.sl 7 false
 (.sl (.sl .bool)) (.node .own tO)] (.block 6 (.region [im 97 7, im 98 1, fa 99 7 3, ld 100 99, im 101 10, o1 102 (.ixA 1 100 101), ld 103 102, o1 104 (.ixA 1 98 103), ld 105 104,
 oS ⟨some 106, .call "mergelens/mergelensref05.union" [97, 105], none⟩ S_ref05_union, ia 7 106])))) (.region [im 95 10, o1 96 (.bin .add 95 (kI 1)), ia 10 96])))))))) (.seq (.region
 [o1 108 (.bin .eql 31 (kI 6)), ia 107 108]) (.frame (rg [7, 11, 12, 13, 14] 109 37) [] false (.join [.sl 7 false (.sl (.sl .bool)) (.node .own tO)] (.cond 107 (.seq (.region [im
 109 1, fa 110 7 3, ld 111 110, o1 112 (.ixA 1 111 (kI 0)), ld 113 112, o1 114 (.ixA 1 109 113), ld 115 114, ia 11 115]) (.seq (.seq (.region [ia 12 (kI 0)]) (.frame (rg [7, 12] 116
 9) [] false (.join [.sl 7 false (.sl (.sl .bool)) (.node .own tO)] (.block 7 (.loop [.sl 7 false (.sl (.sl .bool)) (.node .own tO), .si 12] (.seq (.seq (.region [im 116 12, fa 117
 5 3, ld 118 117, o1 119 (.bin .lss 116 118)]) (.cond 119 .skip (.exit 7))) (.seq (.frame [7, 122, 123, 124] [] false (.join [.sl 7 false (.sl (.sl .bool)) (.node .own tO)] (.block
 8 (.region [im 122 7, im 123 11, oS ⟨some 124, .call "mergelens/mergelensref05.compose" [122, 123], none⟩ S_ref05_compose, ia 7 124])))) (.region [im 120 12, o1 121 (.bin .add 120
 (kI 1)), ia 12 121])))))))) (.seq (.region [fa 125 6 3, ld 126 125, fa 127 5 3, ld 128 127, o1 129 (.bin .sub 126 128), ia 13 129]) (.seq (.seq (.region [fa 130 6 3, ld 131 130, o1
 132 (.bin .lss 131 (kI 0))]) (.frame [13, 133, 134, 135] [] false (.join [.si 13] (.cond 132 (.region [im 133 2, o1 134 (.lenS 133), o1 135 (.bin .add 134 (kI 1)), ia 13 135])
 .skip)))) (.seq (.region [ia 14 (kI 0)]) (.frame (rg [7, 14] 136 10) [] false (.join [.sl 7 false (.sl (.sl .bool)) (.node .own tO)] (.block 9 (.loop [.sl 7 false (.sl (.sl .bool))
 (.node .own tO), .si 14] (.seq (.seq (.region [im 136 14, im 137 13, o1 138 (.bin .lss 136 137)]) (.cond 138 .skip (.exit 9))) (.seq (.frame (rg [7] 141 5) [] false (.join [.sl 7
 false (.sl (.sl .bool)) (.node .own tO)] (.block 10 (.region [im 141 7, im 142 7, im 143 11, oS ⟨some 144, .call "mergelens/mergelensref05.compose" [142, 143], none⟩
 S_ref05_compose, oS ⟨some 145, .call "mergelens/mergelensref05.union" [141, 144], none⟩ S_ref05_union, ia 7 145])))) (.region [im 139 14, o1 140 (.bin .add 139 (kI 1)), ia 14
 140])))))))))))) .skip)))))))))))))))))))))))))))) (.seq (.region [im 146 7, ia 6 146]) .ret))))
def F_ref05_pairs : AFn := ⟨ "mergelens/mergelensref05.pairs", t_ref05_pairs.erase, [.tmp 6], 3⟩
def W_ref05_pairs (P : Program) (x : (Node × ((List (List (List Bool))) × (List UInt8)))) (K : (List (List Bool)) → Unit → Prop) : Prop :=
 Fn P "mergelens/mergelensref05.empty" S_ref05_empty (x.2.2, (cond (cond (x.1.1 == (0 : Int)) true (x.1.1 == (4 : Int))) true (x.1.1 == (6 : Int)))) (fun (d1 : (List (List Bool))) (e2 : Unit) => JoinW (D := (List (List Bool))) (fun J3 => JoinW (D := (List (List Bool))) (fun J5 => (((x.1.1 == (1 : Int)) = true → JoinW (D := (List (List Bool))) (fun J7 => LoopW (D := ((List (List Bool)) × Int)) (d1, (0 : Int)) (fun (d9 : ((List (List Bool)) × Int)) J10 => (((decide (d9.2 < ((List.length x.2.2 : Nat) : Int))) = true → JoinW (D := (List (List Bool))) (fun J11 => JoinW (D := (List (List Bool))) (fun J13 => (0 ≤ d9.2 ∧ d9.2 < ((List.length d9.1 : Nat) : Int)) ∧
 (0 ≤ d9.2 ∧ d9.2 < ((List.length x.2.2 : Nat) : Int)) ∧
 (((Int.toNat d9.2) < List.length d9.1) ∧
 (Fn P "mergelens/mergelensref04.Has" S_ref04_Has (x.1.2.1, ((UInt8.toNat (List.getD x.2.2 (Int.toNat d9.2) 0) : Nat) : Int)) (fun (d15 : Bool) (e16 : Unit) => ((Int.toNat d9.2) < List.length d9.1) ∧
 (0 ≤ (IntKind.i64.wrap (d9.2 + (1 : Int))) ∧ (IntKind.i64.wrap (d9.2 + (1 : Int))) < ((List.length (List.getD d9.1 (Int.toNat d9.2) []) : Nat) : Int)) ∧
 (((Int.toNat d9.2) < List.length d9.1) ∧
 ((Int.toNat (IntKind.i64.wrap (d9.2 + (1 : Int)))) < List.length (List.getD d9.1 (Int.toNat d9.2) [])) ∧
 J13 (List.set d9.1 (Int.toNat d9.2) (List.set (List.getD d9.1 (Int.toNat d9.2) []) (Int.toNat (IntKind.i64.wrap (d9.2 + (1 : Int)))) d15))) ∧ (True))) ∧ (True)) ∧ ((Fn P "mergelens/mergelensref04.Has" S_ref04_Has (x.1.2.1, ((UInt8.toNat (List.getD x.2.2 (Int.toNat d9.2) 0) : Nat) : Int)) (fun (d17 : Bool) (e18 : Unit) => ((Int.toNat d9.2) < List.length d9.1) ∧
 ((Int.toNat d9.2) < List.length d9.1) ∧
 (0 ≤ (IntKind.i64.wrap (d9.2 + (1 : Int))) ∧ (IntKind.i64.wrap (d9.2 + (1 : Int))) < ((List.length (List.getD d9.1 (Int.toNat d9.2) []) : Nat) : Int)) ∧
 (((Int.toNat d9.2) < List.length d9.1) ∧
 ((Int.toNat (IntKind.i64.wrap (d9.2 + (1 : Int)))) < List.length (List.getD d9.1 (Int.toNat d9.2) [])) ∧
 J13 (List.set d9.1 (Int.toNat d9.2) (List.set (List.getD d9.1 (Int.toNat d9.2) []) (Int.toNat (IntKind.i64.wrap (d9.2 + (1 : Int)))) d17))) ∧ (True))) ∧ (True))) (fun (d14 : (List (List Bool))) => J11 d14)) (fun (d12 : (List (List Bool))) => J10 (d12, (IntKind.i64.wrap (d9.2 + (1 : Int)))))) ∧ ((decide (d9.2 < ((List.length x.2.2 : Nat) : Int))) = false → J7 d9.1)))) (fun (d8 : (List (List Bool))) => J5 d8)) ∧ ((x.1.1 == (1 : Int)) = false → JoinW (D := (List (List Bool))) (fun J19 => (((x.1.1 == (2 : Int)) = true → (0 ≤ (0 : Int) ∧ (0 : Int) < ((List.length d1 : Nat) : Int)) ∧
 ((Int.toNat (0 : Int)) < List.length d1) ∧
 ((Int.toNat (0 : Int)) < List.length d1) ∧
 (0 ≤ (0 : Int) ∧ (0 : Int) < ((List.length (List.getD d1 (Int.toNat (0 : Int)) []) : Nat) : Int)) ∧
 ((Int.toNat (0 : Int)) < List.length d1) ∧
 ((Int.toNat (0 : Int)) < List.length (List.getD d1 (Int.toNat (0 : Int)) [])) ∧
 J19 (List.set d1 (Int.toNat (0 : Int)) (List.set (List.getD d1 (Int.toNat (0 : Int)) []) (Int.toNat (0 : Int)) true))) ∧ ((x.1.1 == (2 : Int)) = false → JoinW (D := (List (List Bool))) (fun J21 => (((x.1.1 == (3 : Int)) = true → (0 ≤ ((List.length x.2.2 : Nat) : Int) ∧ ((List.length x.2.2 : Nat) : Int) < ((List.length d1 : Nat) : Int)) ∧
 ((Int.toNat ((List.length x.2.2 : Nat) : Int)) < List.length d1) ∧
 ((Int.toNat ((List.length x.2.2 : Nat) : Int)) < List.length d1) ∧
 (0 ≤ ((List.length x.2.2 : Nat) : Int) ∧ ((List.length x.2.2 : Nat) : Int) < ((List.length (List.getD d1 (Int.toNat ((List.length x.2.2 : Nat) : Int)) []) : Nat) : Int)) ∧
 ((Int.toNat ((List.length x.2.2 : Nat) : Int)) < List.length d1) ∧
 ((Int.toNat ((List.length x.2.2 : Nat) : Int)) < List.length (List.getD d1 (Int.toNat ((List.length x.2.2 : Nat) : Int)) [])) ∧
 J21 (List.set d1 (Int.toNat ((List.length x.2.2 : Nat) : Int)) (List.set (List.getD d1 (Int.toNat ((List.length x.2.2 : Nat) : Int)) []) (Int.toNat ((List.length x.2.2 : Nat) : Int)) true))) ∧ ((x.1.1 == (3 : Int)) = false → JoinW (D := (List (List Bool))) (fun J23 => (((x.1.1 == (4 : Int)) = true → JoinW (D := (List (List Bool))) (fun J25 => LoopW (D := ((List (List Bool)) × Int)) (d1, (0 : Int)) (fun (d27 : ((List (List Bool)) × Int)) J28 => (((decide (d27.2 < ((List.length x.1.2.2.2.2 : Nat) : Int))) = true → JoinW (D := (List (List Bool))) (fun J29 => (0 ≤ d27.2 ∧ d27.2 < ((List.length x.1.2.2.2.2 : Nat) : Int)) ∧
 ((Int.toNat d27.2) < List.length x.1.2.2.2.2) ∧
 (0 ≤ (List.getD x.1.2.2.2.2 (Int.toNat d27.2) (0 : Int)) ∧ (List.getD x.1.2.2.2.2 (Int.toNat d27.2) (0 : Int)) < ((List.length x.2.1 : Nat) : Int)) ∧
 ((Int.toNat (List.getD x.1.2.2.2.2 (Int.toNat d27.2) (0 : Int))) < List.length x.2.1) ∧
 Fn P "mergelens/mergelensref05.compose" S_ref05_compose (d27.1, (List.getD x.2.1 (Int.toNat (List.getD x.1.2.2.2.2 (Int.toNat d27.2) (0 : Int))) [])) (fun (d31 : (List (List Bool))) (e32 : Unit) => J29 d31)) (fun (d30 : (List (List Bool))) => J28 (d30, (IntKind.i64.wrap (d27.2 + (1 : Int)))))) ∧ ((decide (d27.2 < ((List.length x.1.2.2.2.2 : Nat) : Int))) = false → J25 d27.1)))) (fun (d26 : (List (List Bool))) => J23 d26)) ∧ ((x.1.1 == (4 : Int)) = false → JoinW (D := (List (List Bool))) (fun J33 => (((x.1.1 == (5 : Int)) = true → JoinW (D := (List (List Bool))) (fun J35 => LoopW (D := ((List (List Bool)) × Int)) (d1, (0 : Int)) (fun (d37 : ((List (List Bool)) × Int)) J38 => (((decide (d37.2 < ((List.length x.1.2.2.2.2 : Nat) : Int))) = true → JoinW (D := (List (List Bool))) (fun J39 => (0 ≤ d37.2 ∧ d37.2 < ((List.length x.1.2.2.2.2 : Nat) : Int)) ∧
 ((Int.toNat d37.2) < List.length x.1.2.2.2.2) ∧
 (0 ≤ (List.getD x.1.2.2.2.2 (Int.toNat d37.2) (0 : Int)) ∧ (List.getD x.1.2.2.2.2 (Int.toNat d37.2) (0 : Int)) < ((List.length x.2.1 : Nat) : Int)) ∧
 ((Int.toNat (List.getD x.1.2.2.2.2 (Int.toNat d37.2) (0 : Int))) < List.length x.2.1) ∧
 Fn P "mergelens/mergelensref05.union" S_ref05_union (d37.1, (List.getD x.2.1 (Int.toNat (List.getD x.1.2.2.2.2 (Int.toNat d37.2) (0 : Int))) [])) (fun (d41 : (List (List Bool))) (e42 : Unit) => J39 d41)) (fun (d40 : (List (List Bool))) => J38 (d40, (IntKind.i64.wrap (d37.2 + (1 : Int)))))) ∧ ((decide (d37.2 < ((List.length x.1.2.2.2.2 : Nat) : Int))) = false → J35 d37.1)))) (fun (d36 : (List (List Bool))) => J33 d36)) ∧ ((x.1.1 == (5 : Int)) = false → JoinW (D := (List (List Bool))) (fun J43 => (((x.1.1 == (6 : Int)) = true → (0 ≤ (0 : Int) ∧ (0 : Int) < ((List.length x.1.2.2.2.2 : Nat) : Int)) ∧
 ((Int.toNat (0 : Int)) < List.length x.1.2.2.2.2) ∧
 (0 ≤ (List.getD x.1.2.2.2.2 (Int.toNat (0 : Int)) (0 : Int)) ∧ (List.getD x.1.2.2.2.2 (Int.toNat (0 : Int)) (0 : Int)) < ((List.length x.2.1 : Nat) : Int)) ∧
 ((Int.toNat (List.getD x.1.2.2.2.2 (Int.toNat (0 : Int)) (0 : Int))) < List.length x.2.1) ∧
 JoinW (D := (List (List Bool))) (fun J45 => LoopW (D := ((List (List Bool)) × Int)) (d1, (0 : Int)) (fun (d47 : ((List (List Bool)) × Int)) J48 => (((decide (d47.2 < x.1.2.2.1)) = true → JoinW (D := (List (List Bool))) (fun J49 => Fn P "mergelens/mergelensref05.compose" S_ref05_compose (d47.1, (List.getD x.2.1 (Int.toNat (List.getD x.1.2.2.2.2 (Int.toNat (0 : Int)) (0 : Int))) [])) (fun (d51 : (List (List Bool))) (e52 : Unit) => J49 d51)) (fun (d50 : (List (List Bool))) => J48 (d50, (IntKind.i64.wrap (d47.2 + (1 : Int)))))) ∧ ((decide (d47.2 < x.1.2.2.1)) = false → J45 d47.1)))) (fun (d46 : (List (List Bool))) => JoinW (D := Int) (fun J53 => (((decide (x.1.2.2.2.1 < (0 : Int))) = true → J53 (IntKind.i64.wrap (((List.length x.2.2 : Nat) : Int) + (1 : Int)))) ∧ ((decide (x.1.2.2.2.1 < (0 : Int))) = false → J53 (IntKind.i64.wrap (x.1.2.2.2.1 - x.1.2.2.1))))) (fun (d54 : Int) => JoinW (D := (List (List Bool))) (fun J55 => LoopW (D := ((List (List Bool)) × Int)) (d46, (0 : Int)) (fun (d57 : ((List (List Bool)) × Int)) J58 => (((decide (d57.2 < d54)) = true → JoinW (D := (List (List Bool))) (fun J59 => Fn P "mergelens/mergelensref05.compose" S_ref05_compose (d57.1, (List.getD x.2.1 (Int.toNat (List.getD x.1.2.2.2.2 (Int.toNat (0 : Int)) (0 : Int))) [])) (fun (d61 : (List (List Bool))) (e62 : Unit) => Fn P "mergelens/mergelensref05.union" S_ref05_union (d57.1, d61) (fun (d63 : (List (List Bool))) (e64 : Unit) => J59 d63))) (fun (d60 : (List (List Bool))) => J58 (d60, (IntKind.i64.wrap (d57.2 + (1 : Int)))))) ∧ ((decide (d57.2 < d54)) = false → J55 d57.1)))) (fun (d56 : (List (List Bool))) => J43 d56)))) ∧ ((x.1.1 == (6 : Int)) = false → J43 d1))) (fun (d44 : (List (List Bool))) => J33 d44)))) (fun (d34 : (List (List Bool))) => J23 d34)))) (fun (d24 : (List (List Bool))) => J21 d24)))) (fun (d22 : (List (List Bool))) => J19 d22)))) (fun (d20 : (List (List Bool))) => J5 d20)))) (fun (d6 : (List (List Bool))) => J3 d6)) (fun (d4 : (List (List Bool))) => K d4 ()))
theorem fn_ref05_pairs {P : Program} (h : Has P F_ref05_pairs) {x : DP S_ref05_pairs.ps} {K : DP S_ref05_pairs.rs → DP (ptrs S_ref05_pairs.ps) → Prop} (hw : W_ref05_pairs P x K) : Fn P "mergelens/mergelensref05.pairs" S_ref05_pairs x K :=
  fn_of (c := t_ref05_pairs) h rfl rfl (by kernel_rfl) (Eq.mpr (show liftT P F_ref05_pairs S_ref05_pairs t_ref05_pairs x K = W_ref05_pairs P x K by kernel_rfl) hw)

def t_ref05_Pairs : TCode :=
 (.seq (.region [o1 4 (.asg (.c (.slice none 0 0)))]) (.seq (.region [o1 5 (.asg (.c (.slice none 0 0)))]) (.seq (.seq (.region [ia 6 (kI 0)]) (.frame (rg [] 5 18) [] false (.join
 [.sl 5 false (.sl (.sl (.sl .bool))) (.node .own (.node .imm tM))] (.block 0 (.loop [.sl 5 false (.sl (.sl (.sl .bool))) (.node .own (.node .imm tM)), .si 6] (.seq (.seq (.region
 [im 7 6, im 8 0, o1 9 (.lenK 8), o1 10 (.bin .lss 7 9)]) (.cond 10 .skip (.exit 0))) (.seq (.frame (rg [5] 13 10) [] false (.join [.sl 5 false (.sl (.sl (.sl .bool))) (.node .own
 (.node .imm tM))] (.block 1 (.region [im 13 5, im 14 0, im 15 6, o1 16 (.ixA 8 14 15), o1 17 (.load true 8 16), im 18 5, im 19 1, oS ⟨some 20, .call
 "mergelens/mergelensref05.pairs" [17, 18, 19], none⟩ S_ref05_pairs, ⟨⟨some 21, .buildSl 1 [(.slice none 0 0)] 1 [(0, 20)], none⟩, some ((.sl (.sl .bool)), (.node .own tO)), ⟨[],
 []⟩, true, none, false, false⟩, oT ⟨some 22, .app 1 24 13 21, none⟩ (some ((.sl (.sl .bool)), (.node .imm tM))), ia 5 22])))) (.region [im 11 6, o1 12 (.bin .add 11 (kI 1)), ia 6
 12])))))))) (.seq (.region [im 23 5, im 24 5, o1 25 (.lenK 24), o1 26 (.bin .sub 25 (kI 1)), o1 27 (.ixA 1 23 26), ld 28 27, ia 4 28]) .ret))))
def F_ref05_Pairs : AFn := ⟨ "mergelens/mergelensref05.Pairs", t_ref05_Pairs.erase, [.tmp 4], 2⟩
def W_ref05_Pairs (P : Program) (x : ((List Node) × (List UInt8))) (K : (List (List Bool)) → Unit → Prop) : Prop :=
 JoinW (D := (List (List (List Bool)))) (fun J1 => LoopW (D := ((List (List (List Bool))) × Int)) ([], (0 : Int)) (fun (d3 : ((List (List (List Bool))) × Int)) J4 => (((decide (d3.2 < ((List.length x.1 : Nat) : Int))) = true → JoinW (D := (List (List (List Bool)))) (fun J5 => (0 ≤ d3.2 ∧ d3.2 < ((List.length x.1 : Nat) : Int)) ∧
 ((Int.toNat d3.2) < List.length x.1) ∧
 Fn P "mergelens/mergelensref05.pairs" S_ref05_pairs ((List.getD x.1 (Int.toNat d3.2) zNode), (d3.1, x.2)) (fun (d7 : (List (List Bool))) (e8 : Unit) => ((List.length d3.1 + List.length ([d7] : List (List (List Bool)))) * 24 ≤ 140737488355328) ∧
 J5 (d3.1 ++ ([d7] : List (List (List Bool)))))) (fun (d6 : (List (List (List Bool)))) => J4 (d6, (IntKind.i64.wrap (d3.2 + (1 : Int)))))) ∧ ((decide (d3.2 < ((List.length x.1 : Nat) : Int))) = false → J1 d3.1)))) (fun (d2 : (List (List (List Bool)))) => (0 ≤ (IntKind.i64.wrap (((List.length d2 : Nat) : Int) - (1 : Int))) ∧ (IntKind.i64.wrap (((List.length d2 : Nat) : Int) - (1 : Int))) < ((List.length d2 : Nat) : Int)) ∧
 ((Int.toNat (IntKind.i64.wrap (((List.length d2 : Nat) : Int) - (1 : Int)))) < List.length d2) ∧
 K (List.getD d2 (Int.toNat (IntKind.i64.wrap (((List.length d2 : Nat) : Int) - (1 : Int)))) []) ())
theorem fn_ref05_Pairs {P : Program} (h : Has P F_ref05_Pairs) {x : DP S_ref05_Pairs.ps} {K : DP S_ref05_Pairs.rs → DP (ptrs S_ref05_Pairs.ps) → Prop} (hw : W_ref05_Pairs P x K) : Fn P "mergelens/mergelensref05.Pairs" S_ref05_Pairs x K :=
  fn_of (c := t_ref05_Pairs) h rfl rfl (by kernel_rfl) (Eq.mpr (show liftT P F_ref05_Pairs S_ref05_Pairs t_ref05_Pairs x K = W_ref05_Pairs P x K by kernel_rfl) hw)

def t_law05_accepts : TCode :=
 (.seq (.region [o1 4 (.box 1), o1 6 (.asg kF)]) (.seq (.region [im 11 0, im 12 2, oS ⟨some 13, .call "mergelens/mergelensref05.Pairs" [11, 12], none⟩ S_ref05_Pairs, ia 7 13]) (.seq
 (.seq (.region [ia 8 (kI 0)]) (.frame (rg [6, 8, 9, 10] 14 29) [] false (.join [.sl 6 false .bool .leaf] (.block 0 (.loop [.sl 6 false .bool .leaf, .si 8] (.seq (.seq (.region [im
 14 8, im 15 2, o1 16 (.lenS 15), o1 17 (.bin .leq 14 16)]) (.cond 17 .skip (.exit 0))) (.seq (.frame (rg [6, 9, 10] 20 23) [] false (.join [.sl 6 false .bool .leaf] (.block 1 (.seq
 (.region [o1 20 (.load true 2 4), im 21 2, im 22 8, oS ⟨some 23, .call "mergelens/mergelensref05.Ends" [20, 21, 22], none⟩ S_ref05_Ends, ia 9 23]) (.seq (.region [im 24 8, ia 10
 24]) (.frame (rg [6, 10] 25 18) [] false (.join [.sl 6 false .bool .leaf] (.block 2 (.loop [.sl 6 false .bool .leaf, .si 10] (.seq (.seq (.region [im 25 10, im 26 2, o1 27 (.lenS
 26), o1 28 (.bin .leq 25 27)]) (.cond 28 .skip (.exit 2))) (.seq (.frame (rg [6] 31 12) [] false (.join [.sl 6 false .bool .leaf] (.block 3 (.seq (.draw [(.first (im 31 9) (.first
 (im 32 10) (.first (o1 33 (.ixA 1 31 32)) (.first (ld 34 33) (.first (im 35 7) (.first (im 36 8) (.first (o1 37 (.ixA 1 35 36)) (.first (ld 38 37) (.first (im 39 10) (.first (o1 40
 (.ixA 1 38 39)) (.first (ld 41 40) (.first (o1 42 (.eqB true 34 41)) .done))))))))))))]) (.cond 42 (.seq (.region [o1 6 (.asg kF)]) .ret) .skip))))) (.region [im 29 10, o1 30 (.bin
 .add 29 (kI 1)), ia 10 30])))))))))))) (.region [im 18 8, o1 19 (.bin .add 18 (kI 1)), ia 8 19])))))))) (.seq (.region [o1 6 (.asg kT)]) .ret))))
def F_law05_accepts : AFn := ⟨ "mergelens/mergelenslaw05.accepts", t_law05_accepts.erase, [.tmp 6], 3⟩
def W_law05_accepts (P : Program) (x : ((List Node) × (((List State) × Int) × (List UInt8)))) (K : Bool → Unit → Prop) : Prop :=
 Fn P "mergelens/mergelensref05.Pairs" S_ref05_Pairs (x.1, x.2.2) (fun (d1 : (List (List Bool))) (e2 : Unit) => JoinW (D := Bool) (fun J3 => LoopW (D := (Bool × Int)) (false, (0 : Int)) (fun (d5 : (Bool × Int)) J6 => (((decide (d5.2 ≤ ((List.length x.2.2 : Nat) : Int))) = true → JoinW (D := Bool) (fun J7 => Fn P "mergelens/mergelensref05.Ends" S_ref05_Ends (x.2.1, (x.2.2, d5.2)) (fun (d9 : (List Bool)) (e10 : Unit) => JoinW (D := Bool) (fun J11 => LoopW (D := (Bool × Int)) d5 (fun (d13 : (Bool × Int)) J14 => (((decide (d13.2 ≤ ((List.length x.2.2 : Nat) : Int))) = true → JoinW (D := Bool) (fun J15 => (0 ≤ d13.2 ∧ d13.2 < ((List.length d9 : Nat) : Int)) ∧
 ((Int.toNat d13.2) < List.length d9) ∧
 (0 ≤ d5.2 ∧ d5.2 < ((List.length d1 : Nat) : Int)) ∧
 ((Int.toNat d5.2) < List.length d1) ∧
 (0 ≤ d13.2 ∧ d13.2 < ((List.length (List.getD d1 (Int.toNat d5.2) []) : Nat) : Int)) ∧
 ((Int.toNat d13.2) < List.length (List.getD d1 (Int.toNat d5.2) [])) ∧
 (((!((List.getD d9 (Int.toNat d13.2) false) == (List.getD (List.getD d1 (Int.toNat d5.2) []) (Int.toNat d13.2) false))) = true → K false ()) ∧ ((!((List.getD d9 (Int.toNat d13.2) false) == (List.getD (List.getD d1 (Int.toNat d5.2) []) (Int.toNat d13.2) false))) = false → J15 d13.1))) (fun (d16 : Bool) => J14 (d16, (IntKind.i64.wrap (d13.2 + (1 : Int)))))) ∧ ((decide (d13.2 ≤ ((List.length x.2.2 : Nat) : Int))) = false → J11 d13.1)))) (fun (d12 : Bool) => J7 d12))) (fun (d8 : Bool) => J6 (d8, (IntKind.i64.wrap (d5.2 + (1 : Int)))))) ∧ ((decide (d5.2 ≤ ((List.length x.2.2 : Nat) : Int))) = false → J3 d5.1)))) (fun (d4 : Bool) => K true ()))
theorem fn_law05_accepts {P : Program} (h : Has P F_law05_accepts) {x : DP S_law05_accepts.ps} {K : DP S_law05_accepts.rs → DP (ptrs S_law05_accepts.ps) → Prop} (hw : W_law05_accepts P x K) : Fn P "mergelens/mergelenslaw05.accepts" S_law05_accepts x K :=
  fn_of (c := t_law05_accepts) h rfl rfl (by kernel_rfl) (Eq.mpr (show liftT P F_law05_accepts S_law05_accepts t_law05_accepts x K = W_law05_accepts P x K by kernel_rfl) hw)

def t_law05_nodes : TCode :=
 (.seq (.region [o1 4 (.asg (.c (.slice none 0 0)))]) (.seq (.region [o1 5 (.asg (.c (.slice none 0 0)))]) (.seq (.seq (.region [ia 6 (kI 0)]) (.frame (rg [] 5 86) [1007] true
 (.join [.sl 5 false (.sl bNode) (.node .own (.pair .leaf (.pair .leaf (.pair .leaf (.pair .leaf tM)))))] (.block 0 (.loop [.sl 5 false (.sl bNode) (.node .own (.pair .leaf (.pair
 .leaf (.pair .leaf (.pair .leaf tM))))), .si 6] (.seq (.seq (.region [im 10 6, im 11 1, oS ⟨some 12, .call "mergelens/mergelensgen.Mod" [11, (kI 6)], none⟩ S_gen_Mod, o1 13 (.bin
 .leq 10 12)]) (.cond 13 .skip (.exit 0))) (.seq (.frame (rg [5, 7, 8, 9] 16 75) [1007] true (.join [.sl 5 false (.sl bNode) (.node .own (.pair .leaf (.pair .leaf (.pair .leaf
 (.pair .leaf tM)))))] (.block 1 (.seq (.region [im 16 0, im 17 6, o1 18 (.bin .mul (kI 10) 17), oS ⟨some 19, .call "mergelens/mergelensgen.At" [16, 18], none⟩ S_gen_At, oS ⟨some
 20, .call "mergelens/mergelensgen.Mod" [19, (kI 7)], none⟩ S_gen_Mod, o1 21 (.build [(.int .i64 0), (.int .u64 0), (.int .u64 0), (.int .u64 0), (.int .u64 0), (.int .i64 0), (.int
 .i64 0), (.slice none 0 0)] [(0, 1, 20)]), o1 7 (.alloc [(.int .i64 0), (.int .u64 0), (.int .u64 0), (.int .u64 0), (.int .u64 0), (.int .i64 0), (.int .i64 0), (.slice none 0
 0)]), o0 ⟨none, .store 8 7 21, none⟩]) (.seq (.region [im 22 0, im 23 6, o1 24 (.bin .mul (kI 10) 23), o1 25 (.bin .add 24 (kI 1)), oS ⟨some 26, .call "mergelens/mergelensgen.At"
 [22, 25], none⟩ S_gen_At, im 27 0, im 28 6, o1 29 (.bin .mul (kI 10) 28), o1 30 (.bin .add 29 (kI 2)), oS ⟨some 31, .call "mergelens/mergelensgen.At" [27, 30], none⟩ S_gen_At, ia 8
 26, ia 9 31]) (.seq (.frame (rg [] 32 55) [1007] false (.join [.bx 1007 bNode (.pair .leaf (.pair .leaf (.pair .leaf (.pair .leaf tO))))] (.block 2 (.seq (.region [im 41 6, o1 42
 (.bin .eql 41 (kI 0)), im 43 42, gf 44 43 (.fAddr 0 7), gf 45 43 (.load false 1 44), gf 46 43 (.bin .lss 45 (kI 4)), o1 47 (.pick 43 kT 46), ia 40 47]) (.frame (rg [32, 33, 34, 35,
 36, 37, 38, 39] 48 39) [1007] false (.join [.bx 1007 bNode (.pair .leaf (.pair .leaf (.pair .leaf (.pair .leaf tO))))] (.cond 40 (.seq (.region [fa 48 0 7, ld 49 48, oS ⟨some 50,
 .call "mergelens/mergelensgen.Mod" [49, (kI 4)], none⟩ S_gen_Mod, fa 51 0 7, o0 ⟨none, .store 1 51 50, none⟩]) (.seq (.region [fa 52 0 7, ld 53 52, o1 54 (.bin .eql 53 (kI 1))])
 (.frame (rg [] 55 9) [1007] false (.join [.bx 1007 bNode (.pair .leaf (.pair .leaf (.pair .leaf (.pair .leaf tO))))] (.cond 54 (.frame (rg [] 55 9) [1007] false (.join [.bx 1007
 bNode (.pair .leaf (.pair .leaf (.pair .leaf (.pair .leaf tO))))] (.draw [(.first (fa 55 1 7) (.first (im 57 8) (.alt (o1 56 (.load true 4 55)) (.alt (oS ⟨some 58, .call
 "mergelens/mergelensgen.Mod" [57, (kI 2)], none⟩ S_gen_Mod) (.first (o1 59 (.conv (.toInt .u8) 58)) (.first (o1 60 (.bin .add (.c (.int .u8 97)) 59)) (.alt (oS ⟨some 61, .call
 "mergelens/mergelensref04.Put" [56, 60], none⟩ S_ref04_Put) (.alt (oS ⟨some 62, .call "mergelens/mergelensref04.Put" [61, (.c (.int .u8 120))], none⟩ S_ref04_Put) (.first (fa 63 1
 7) (.alt (o0 ⟨none, .store 4 63 62, none⟩) .done .stop)) .stop) .stop))) .stop) (.alt (oS ⟨some 58, .call "mergelens/mergelensgen.Mod" [57, (kI 2)], none⟩ S_gen_Mod) (.first (o1 56
 (.load true 4 55)) (.first (o1 59 (.conv (.toInt .u8) 58)) (.first (o1 60 (.bin .add (.c (.int .u8 97)) 59)) (.alt (oS ⟨some 61, .call "mergelens/mergelensref04.Put" [56, 60],
 none⟩ S_ref04_Put) (.alt (oS ⟨some 62, .call "mergelens/mergelensref04.Put" [61, (.c (.int .u8 120))], none⟩ S_ref04_Put) (.first (fa 63 1 7) (.alt (o0 ⟨none, .store 4 63 62,
 none⟩) .done .stop)) .stop) .stop)))) .stop))))]))) .skip))))) (.seq (.region [fa 65 0 7, ld 66 65, o1 67 (.bin .eql 66 (kI 6)), ia 64 67]) (.frame (rg [32, 33, 34, 35, 36, 37, 38,
 39] 68 19) [1007] false (.join [.bx 1007 bNode (.pair .leaf (.pair .leaf (.pair .leaf (.pair .leaf tO))))] (.cond 64 (.seq (.region [im 68 8, im 69 6, oS ⟨some 70, .call
 "mergelens/mergelensgen.Mod" [68, 69], none⟩ S_gen_Mod, oT ⟨some 71, .buildSl 1 [(.int .i64 0)] 1 [(0, 70)], none⟩ (some (bI, .leaf)), im 72 9, oS ⟨some 73, .call
 "mergelens/mergelensgen.Mod" [72, (kI 3)], none⟩ S_gen_Mod, fa 74 7 7, o0 ⟨none, .store 1 74 71, none⟩, fa 75 5 7, o0 ⟨none, .store 1 75 73, none⟩, fa 76 6 7, o0 ⟨none, .store 1 76
 (kI (-1)), none⟩]) (.seq (.region [im 77 9, o1 78 (.bin .rem 77 (kI 2)), o1 79 (.bin .eql 78 (kI 0))]) (.frame (rg [] 80 7) [1007] false (.join [.bx 1007 bNode (.pair .leaf (.pair
 .leaf (.pair .leaf (.pair .leaf tO))))] (.cond 79 (.frame (rg [] 80 7) [1007] false (.join [.bx 1007 bNode (.pair .leaf (.pair .leaf (.pair .leaf (.pair .leaf tO))))] (.draw
 [(.first (fa 80 5 7) (.first (im 82 9) (.first (o1 83 (.bin .quo 82 (kI 8))) (.alt (ld 81 80) (.alt (oS ⟨some 84, .call "mergelens/mergelensgen.Mod" [83, (kI 3)], none⟩ S_gen_Mod)
 (.first (o1 85 (.bin .add 81 84)) (.first (fa 86 6 7) (.alt (o0 ⟨none, .store 1 86 85, none⟩) .done .stop))) .stop) (.alt (oS ⟨some 84, .call "mergelens/mergelensgen.Mod" [83, (kI
 3)], none⟩ S_gen_Mod) (.first (ld 81 80) (.first (o1 85 (.bin .add 81 84)) (.first (fa 86 6 7) (.alt (o0 ⟨none, .store 1 86 85, none⟩) .done .stop)))) .stop)))))]))) .skip)))))
 (.region [im 32 8, im 33 6, oS ⟨some 34, .call "mergelens/mergelensgen.Mod" [32, 33], none⟩ S_gen_Mod, im 35 9, im 36 6, oS ⟨some 37, .call "mergelens/mergelensgen.Mod" [35, 36],
 none⟩ S_gen_Mod, oT ⟨some 38, .buildSl 1 [(.int .i64 0)] 2 [(0, 34), (1, 37)], none⟩ (some (bI, .leaf)), fa 39 7 7, o0 ⟨none, .store 1 39 38, none⟩])))))))))))) (.region [im 87 5,
 o1 88 (.load true 8 7), ⟨⟨some 89, .buildSl 8 [(.int .i64 0), (.int .u64 0), (.int .u64 0), (.int .u64 0), (.int .u64 0), (.int .i64 0), (.int .i64 0), (.slice none 0 0)] 1 [(0,
 88)], none⟩, some (bNode, (.pair .leaf (.pair .leaf (.pair .leaf (.pair .leaf tO))))), ⟨[], []⟩, true, none, false, false⟩, oT ⟨some 90, .app 8 80 87 89, none⟩ (some (bNode, (.pair
 .leaf (.pair .leaf (.pair .leaf (.pair .leaf tM)))))), ia 5 90]))))))) (.region [im 14 6, o1 15 (.bin .add 14 (kI 1)), ia 6 15])))))))) (.seq (.region [im 91 5, ia 4 91]) .ret))))
def F_law05_nodes : AFn := ⟨ "mergelens/mergelenslaw05.nodes", t_law05_nodes.erase, [.tmp 4], 2⟩
def W_law05_nodes (P : Program) (x : ((List Int) × Int)) (K : (List Node) → Unit → Prop) : Prop :=
 JoinW (D := (List Node)) (fun J1 => LoopW (D := ((List Node) × Int)) ([], (0 : Int)) (fun (d3 : ((List Node) × Int)) J4 => Fn P "mergelens/mergelensgen.Mod" S_gen_Mod (x.2, (6 : Int)) (fun (d5 : Int) (e6 : Unit) => (((decide (d3.2 ≤ d5)) = true → JoinW (D := (List Node)) (fun J7 => Fn P "mergelens/mergelensgen.At" S_gen_At (x.1, (IntKind.i64.wrap ((10 : Int) * d3.2))) (fun (d9 : Int) (e10 : Unit) => Fn P "mergelens/mergelensgen.Mod" S_gen_Mod (d9, (7 : Int)) (fun (d11 : Int) (e12 : Unit) => Fn P "mergelens/mergelensgen.At" S_gen_At (x.1, (IntKind.i64.wrap ((IntKind.i64.wrap ((10 : Int) * d3.2)) + (1 : Int)))) (fun (d13 : Int) (e14 : Unit) => Fn P "mergelens/mergelensgen.At" S_gen_At (x.1, (IntKind.i64.wrap ((IntKind.i64.wrap ((10 : Int) * d3.2)) + (2 : Int)))) (fun (d15 : Int) (e16 : Unit) => JoinW (D := Node) (fun J17 => JoinW (D := Node) (fun J19 => (((cond (d3.2 == (0 : Int)) true (decide (d11 < (4 : Int)))) = true → Fn P "mergelens/mergelensgen.Mod" S_gen_Mod (d11, (4 : Int)) (fun (d21 : Int) (e22 : Unit) => JoinW (D := Node) (fun J23 => (((d21 == (1 : Int)) = true → JoinW (D := Node) (fun J25 => ((Fn P "mergelens/mergelensgen.Mod" S_gen_Mod (d13, (2 : Int)) (fun (d27 : Int) (e28 : Unit) => (Fn P "mergelens/mergelensref04.Put" S_ref04_Put (((0 : Int), ((0 : Int), ((0 : Int), (0 : Int)))), (IntKind.u8.wrap ((97 : Int) + (IntKind.u8.wrap d27)))) (fun (d29 : (Int × (Int × (Int × Int)))) (e30 : Unit) => (Fn P "mergelens/mergelensref04.Put" S_ref04_Put (d29, (120 : Int)) (fun (d31 : (Int × (Int × (Int × Int)))) (e32 : Unit) => (J25 (d21, (d31, ((0 : Int), ((0 : Int), []))))) ∧ (True))) ∧ (True))) ∧ (True))) ∧ (True)) ∧ ((Fn P "mergelens/mergelensgen.Mod" S_gen_Mod (d13, (2 : Int)) (fun (d33 : Int) (e34 : Unit) => (Fn P "mergelens/mergelensref04.Put" S_ref04_Put (((0 : Int), ((0 : Int), ((0 : Int), (0 : Int)))), (IntKind.u8.wrap ((97 : Int) + (IntKind.u8.wrap d33)))) (fun (d35 : (Int × (Int × (Int × Int)))) (e36 : Unit) => (Fn P "mergelens/mergelensref04.Put" S_ref04_Put (d35, (120 : Int)) (fun (d37 : (Int × (Int × (Int × Int)))) (e38 : Unit) => (J25 (d21, (d37, ((0 : Int), ((0 : Int), []))))) ∧ (True))) ∧ (True))) ∧ (True))) ∧ (True))) (fun (d26 : Node) => J23 d26)) ∧ ((d21 == (1 : Int)) = false → J23 (d21, (((0 : Int), ((0 : Int), ((0 : Int), (0 : Int)))), ((0 : Int), ((0 : Int), []))))))) (fun (d24 : Node) => J19 d24))) ∧ ((cond (d3.2 == (0 : Int)) true (decide (d11 < (4 : Int)))) = false → JoinW (D := Node) (fun J39 => (((d11 == (6 : Int)) = true → Fn P "mergelens/mergelensgen.Mod" S_gen_Mod (d13, d3.2) (fun (d41 : Int) (e42 : Unit) => Fn P "mergelens/mergelensgen.Mod" S_gen_Mod (d15, (3 : Int)) (fun (d43 : Int) (e44 : Unit) => ((2 : Int) ≠ 0) ∧
 JoinW (D := Node) (fun J45 => ((((Int.tmod d15 (2 : Int)) == (0 : Int)) = true → JoinW (D := Node) (fun J47 => ((8 : Int) ≠ 0) ∧
 ((Fn P "mergelens/mergelensgen.Mod" S_gen_Mod ((IntKind.i64.wrap (Int.tdiv d15 (8 : Int))), (3 : Int)) (fun (d49 : Int) (e50 : Unit) => (J47 (d11, (((0 : Int), ((0 : Int), ((0 : Int), (0 : Int)))), (d43, ((IntKind.i64.wrap (d43 + d49)), ([d41] : List Int)))))) ∧ (True))) ∧ (True)) ∧ ((Fn P "mergelens/mergelensgen.Mod" S_gen_Mod ((IntKind.i64.wrap (Int.tdiv d15 (8 : Int))), (3 : Int)) (fun (d51 : Int) (e52 : Unit) => (J47 (d11, (((0 : Int), ((0 : Int), ((0 : Int), (0 : Int)))), (d43, ((IntKind.i64.wrap (d43 + d51)), ([d41] : List Int)))))) ∧ (True))) ∧ (True))) (fun (d48 : Node) => J45 d48)) ∧ (((Int.tmod d15 (2 : Int)) == (0 : Int)) = false → J45 (d11, (((0 : Int), ((0 : Int), ((0 : Int), (0 : Int)))), (d43, ((-1 : Int), ([d41] : List Int)))))))) (fun (d46 : Node) => J39 d46)))) ∧ ((d11 == (6 : Int)) = false → Fn P "mergelens/mergelensgen.Mod" S_gen_Mod (d13, d3.2) (fun (d53 : Int) (e54 : Unit) => Fn P "mergelens/mergelensgen.Mod" S_gen_Mod (d15, d3.2) (fun (d55 : Int) (e56 : Unit) => J39 (d11, (((0 : Int), ((0 : Int), ((0 : Int), (0 : Int)))), ((0 : Int), ((0 : Int), ([d53, d55] : List Int)))))))))) (fun (d40 : Node) => J19 d40)))) (fun (d20 : Node) => J17 d20)) (fun (d18 : Node) => ((List.length d3.1 + List.length ([d18] : List Node)) * 80 ≤ 140737488355328) ∧
 J7 (d3.1 ++ ([d18] : List Node)))))))) (fun (d8 : (List Node)) => J4 (d8, (IntKind.i64.wrap (d3.2 + (1 : Int)))))) ∧ ((decide (d3.2 ≤ d5)) = false → J1 d3.1))))) (fun (d2 : (List Node)) => K d2 ())
theorem fn_law05_nodes {P : Program} (h : Has P F_law05_nodes) {x : DP S_law05_nodes.ps} {K : DP S_law05_nodes.rs → DP (ptrs S_law05_nodes.ps) → Prop} (hw : W_law05_nodes P x K) : Fn P "mergelens/mergelenslaw05.nodes" S_law05_nodes x K :=
  fn_of (c := t_law05_nodes) h rfl rfl (by kernel_rfl) (Eq.mpr (show liftT P F_law05_nodes S_law05_nodes t_law05_nodes x K = W_law05_nodes P x K by kernel_rfl) hw)

def t_law05_AutomatonLists : TCode :=
 (.seq (.region [o1 4 (.asg kF)]) (.seq (.region [im 12 0, im 13 1, oS ⟨some 14, .call "mergelens/mergelenslaw05.nodes" [12, 13], none⟩ S_law05_nodes, ia 5 14]) (.seq (.region [im
 16 5, oS ⟨some 17, .call "mergelens/mergelensref04.Weight" [16], none⟩ S_ref04_Weight, im 15 17, o1 18 (.ext 15 0), o1 19 (.ext 15 1), ia 6 18, ia 7 19]) (.seq (.region [o1 8 (.asg
 (.c (.string ⟨#[]⟩)))]) (.seq (.seq (.region [ia 9 (kI 0)]) (.frame (rg [8, 9] 20 17) [] false (.join [.sl 8 false .str .leaf] (.block 0 (.loop [.sl 8 false .str .leaf, .si 9]
 (.seq (.seq (.region [im 20 9, im 21 0, oS ⟨some 22, .call "mergelens/mergelensgen.At" [21, (kI 90)], none⟩ S_gen_At, oS ⟨some 23, .call "mergelens/mergelensgen.Mod" [22, (kI 7)],
 none⟩ S_gen_Mod, o1 24 (.bin .lss 20 23)]) (.cond 24 .skip (.exit 0))) (.seq (.frame (rg [8] 27 10) [] false (.join [.sl 8 false .str .leaf] (.block 1 (.region [im 27 8, oT ⟨some
 28, .buildSl 1 [(.string ⟨#[]⟩)] 3 [(0, (.c (.string ⟨#[97]⟩))), (1, (.c (.string ⟨#[98]⟩))), (2, (.c (.string ⟨#[120]⟩)))], none⟩ (some (.str, .leaf)), im 29 0, im 30 9, o1 31
 (.bin .add (kI 91) 30), oS ⟨some 32, .call "mergelens/mergelensgen.At" [29, 31], none⟩ S_gen_At, oS ⟨some 33, .call "mergelens/mergelensgen.Mod" [32, (kI 3)], none⟩ S_gen_Mod, o1
 34 (.ixA 1 28 33), ld 35 34, o1 36 (.bin .add 27 35), ia 8 36])))) (.region [im 25 9, o1 26 (.bin .add 25 (kI 1)), ia 9 26])))))))) (.seq (.frz [5] (.region [im 38 5, oS ⟨some 39,
 .call "mergelens/automaton.Build" [38], none⟩ S_automaton_Build, im 37 39, o1 40 (.ext 37 0), o1 41 (.ext 37 1), o1 10 (.alloc [(.slice none 0 0), (.int .i64 0)]), o0 ⟨none, .store
 2 10 40, none⟩, ia 11 41])) (.seq (.region [im 42 7, o1 43 (.bin .eql 42 (kI 0)), im 44 43, gt 45 44 (.mv 11), gt 46 44 (.bin .eql 45 (kI 0)), o1 47 (.pick 44 46 kF), im 48 47, gt
 49 48 (.load true 2 10), oS ⟨some 50, .call "mergelens/mergelensref05.Check" [49], some (48, true)⟩ S_ref05_Check, gt 51 48 (.bin .eql 50 (kI 0)), o1 52 (.pick 48 51 kF), im 53 52,
 gt 54 53 (.fAddr 0 10), gt 55 53 (.load false 1 54), gt 56 53 (.lenK 55), gt 57 53 (.mv 6), gt 58 53 (.bin .add 57 (kI 1)), gt 59 53 (.bin .leq 56 58), o1 60 (.pick 53 59 kF), im
 61 60, gt 62 61 (.mv 5), gt 63 61 (.load true 2 10), gt 64 61 (.mv 8), oS ⟨some 65, .call "mergelens/mergelenslaw05.accepts" [62, 63, 64], some (61, true)⟩ S_law05_accepts, o1 66
 (.pick 61 65 kF), im 67 66, oS ⟨some 68, .call "mergelens/mergelenslaw05.awake" [], some (67, true)⟩ S_law05_awake, o1 69 (.pick 67 68 kF), ia 4 69]) .ret)))))))
def F_law05_AutomatonLists : AFn := ⟨ "mergelens/mergelenslaw05.AutomatonLists", t_law05_AutomatonLists.erase, [.tmp 4], 2⟩
def W_law05_AutomatonLists (P : Program) (x : ((List Int) × Int)) (K : Bool → Unit → Prop) : Prop :=
 Fn P "mergelens/mergelenslaw05.nodes" S_law05_nodes x (fun (d1 : (List Node)) (e2 : Unit) => Fn P "mergelens/mergelensref04.Weight" S_ref04_Weight d1 (fun (d3 : (Int × Int)) (e4 : Unit) => JoinW (D := (List UInt8)) (fun J5 => LoopW (D := ((List UInt8) × Int)) (([] : List UInt8), (0 : Int)) (fun (d7 : ((List UInt8) × Int)) J8 => Fn P "mergelens/mergelensgen.At" S_gen_At (x.1, (90 : Int)) (fun (d9 : Int) (e10 : Unit) => Fn P "mergelens/mergelensgen.Mod" S_gen_Mod (d9, (7 : Int)) (fun (d11 : Int) (e12 : Unit) => (((decide (d7.2 < d11)) = true → JoinW (D := (List UInt8)) (fun J13 => Fn P "mergelens/mergelensgen.At" S_gen_At (x.1, (IntKind.i64.wrap ((91 : Int) + d7.2))) (fun (d15 : Int) (e16 : Unit) => Fn P "mergelens/mergelensgen.Mod" S_gen_Mod (d15, (3 : Int)) (fun (d17 : Int) (e18 : Unit) => (0 ≤ d17 ∧ d17 < ((List.length ([([97] : List UInt8), ([98] : List UInt8), ([120] : List UInt8)] : List (List UInt8)) : Nat) : Int)) ∧
 ((Int.toNat d17) < List.length ([([97] : List UInt8), ([98] : List UInt8), ([120] : List UInt8)] : List (List UInt8))) ∧
 (List.length d7.1 + List.length (List.getD ([([97] : List UInt8), ([98] : List UInt8), ([120] : List UInt8)] : List (List UInt8)) (Int.toNat d17) []) ≤ 9223372036854775807) ∧
 J13 (d7.1 ++ (List.getD ([([97] : List UInt8), ([98] : List UInt8), ([120] : List UInt8)] : List (List UInt8)) (Int.toNat d17) []))))) (fun (d14 : (List UInt8)) => J8 (d14, (IntKind.i64.wrap (d7.2 + (1 : Int)))))) ∧ ((decide (d7.2 < d11)) = false → J5 d7.1)))))) (fun (d6 : (List UInt8)) => Fn P "mergelens/automaton.Build" S_automaton_Build d1 (fun (d19 : (((List State) × Int) × Int)) (e20 : Unit) => JoinW (D := Int) (fun J21 => (((cond (d3.2 == (0 : Int)) (d19.2 == (0 : Int)) false) = true → Fn P "mergelens/mergelensref05.Check" S_ref05_Check d19.1 (fun (d22 : Int) _ => J21 d22)) ∧ (((cond (d3.2 == (0 : Int)) (d19.2 == (0 : Int)) false) = false → J21 (0 : Int)) ∧ True))) (fun d23 => JoinW (D := Bool) (fun J24 => (((cond (cond (cond (d3.2 == (0 : Int)) (d19.2 == (0 : Int)) false) (d23 == (0 : Int)) false) (decide (((List.length d19.1.1 : Nat) : Int) ≤ (IntKind.i64.wrap (d3.1 + (1 : Int))))) false) = true → Fn P "mergelens/mergelenslaw05.accepts" S_law05_accepts (d1, (d19.1, d6)) (fun (d25 : Bool) _ => J24 d25)) ∧ (((cond (cond (cond (d3.2 == (0 : Int)) (d19.2 == (0 : Int)) false) (d23 == (0 : Int)) false) (decide (((List.length d19.1.1 : Nat) : Int) ≤ (IntKind.i64.wrap (d3.1 + (1 : Int))))) false) = false → J24 false) ∧ True))) (fun d26 => JoinW (D := Bool) (fun J27 => (((cond (cond (cond (cond (d3.2 == (0 : Int)) (d19.2 == (0 : Int)) false) (d23 == (0 : Int)) false) (decide (((List.length d19.1.1 : Nat) : Int) ≤ (IntKind.i64.wrap (d3.1 + (1 : Int))))) false) d26 false) = true → Fn P "mergelens/mergelenslaw05.awake" S_law05_awake () (fun (d28 : Bool) _ => J27 d28)) ∧ (((cond (cond (cond (cond (d3.2 == (0 : Int)) (d19.2 == (0 : Int)) false) (d23 == (0 : Int)) false) (decide (((List.length d19.1.1 : Nat) : Int) ≤ (IntKind.i64.wrap (d3.1 + (1 : Int))))) false) d26 false) = false → J27 false) ∧ True))) (fun d29 => K (cond (cond (cond (cond (cond (d3.2 == (0 : Int)) (d19.2 == (0 : Int)) false) (d23 == (0 : Int)) false) (decide (((List.length d19.1.1 : Nat) : Int) ≤ (IntKind.i64.wrap (d3.1 + (1 : Int))))) false) d26 false) d29 false) ())))))))
theorem fn_law05_AutomatonLists {P : Program} (h : Has P F_law05_AutomatonLists) {x : DP S_law05_AutomatonLists.ps} {K : DP S_law05_AutomatonLists.rs → DP (ptrs S_law05_AutomatonLists.ps) → Prop} (hw : W_law05_AutomatonLists P x K) : Fn P "mergelens/mergelenslaw05.AutomatonLists" S_law05_AutomatonLists x K :=
  fn_of (c := t_law05_AutomatonLists) h rfl rfl (by kernel_rfl) (Eq.mpr (show liftT P F_law05_AutomatonLists S_law05_AutomatonLists t_law05_AutomatonLists x K = W_law05_AutomatonLists P x K by kernel_rfl) hw)


end Go.VS
