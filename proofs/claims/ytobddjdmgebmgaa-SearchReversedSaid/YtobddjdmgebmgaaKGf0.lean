/- Functions of the program: typed code, and what it says, lifted. -/
import Derived.Test.YtobddjdmgebmgaaKTxSig
import Derived.KernelRfl
set_option linter.unusedVariables false
set_option linter.unusedSimpArgs false
set_option linter.unusedSectionVars false
namespace Go.VS

def t_automaton_Check_1 : TCode :=
 (.seq (.region [o1 3 (.asg kF)]) (.seq (.region [im 4 0, o1 5 (.bin .geq 4 (kI 0)), im 6 5, gt 7 6 (.mv 0), gt 8 6 (.load false 1 1), gt 9 6 (.bin .lss 7 8), o1 10 (.pick 6 9 kF),
 ia 3 10]) .ret))
def F_automaton_Check_1 : AFn := ⟨ "mergelens/automaton.Check\x241", t_automaton_Check_1.erase, [.tmp 3], 2⟩
def W_automaton_Check_1 (P : Program) (x : (Int × Int)) (K : Bool → Int → Prop) : Prop :=
 K (cond (decide (x.1 ≥ (0 : Int))) (decide (x.1 < x.2)) false) x.2
theorem fn_automaton_Check_1 {P : Program} (h : Has P F_automaton_Check_1) {x : DP S_automaton_Check_1.ps} {K : DP S_automaton_Check_1.rs → DP (ptrs S_automaton_Check_1.ps) → Prop} (hw : W_automaton_Check_1 P x K) : Fn P "mergelens/automaton.Check\x241" S_automaton_Check_1 x K :=
  fn_of (c := t_automaton_Check_1) h rfl rfl (by kernel_rfl) (Eq.mpr (show liftT P F_automaton_Check_1 S_automaton_Check_1 t_automaton_Check_1 x K = W_automaton_Check_1 P x K by kernel_rfl) hw)

def t_automaton_Check : TCode :=
 (.seq (.region [o1 1 (.box 0), ia 2 (kI 0)]) (.seq (.region [fa 8 0 1, ld 9 8, o1 10 (.lenK 9), o1 3 (.alloc [(.int .i64 0)]), o0 ⟨none, .store 1 3 10, none⟩]) (.seq (.region [o1
 11 (.mkf "mergelens/automaton.Check\x241" [3]), ia 4 11]) (.seq (.seq (.region [ld 12 3, o1 13 (.bin .lss 12 (kI 1)), im 14 13, gf 15 14 (.load false 1 3), gf 16 14 (.bin .gtr 15 (kI
 8000)), o1 17 (.pick 14 kT 16), im 18 17, ⟨⟨some 19, .mv 4, some (18, false)⟩, none, ⟨[], []⟩, false, some 18, true, false⟩, ⟨⟨some 20, .fAddr 1 1, some (18, false)⟩, none, ⟨[],
 []⟩, false, none, true, false⟩, ⟨⟨some 21, .load false 1 20, some (18, false)⟩, none, ⟨[], []⟩, false, none, true, false⟩, ⟨⟨some 22, .callv 19 [21], some (18, false)⟩, none,
 S_automaton_Check_1, false, none, true, true⟩, ⟨⟨some 23, .un .not 22, some (18, false)⟩, none, ⟨[], []⟩, false, none, true, true⟩, o1 24 (.pick 18 kT 23)]) (.cond 24 (.seq
 (.region [ia 2 (kI 2)]) .ret) .skip)) (.seq (.seq (.region [fa 25 0 1, ld 26 25, o1 27 (.lenK 26), o1 28 (.mv (kI 0))]) (.frame (rg [2, 6, 7] 28 28) [1003, 1006] true (.join [.si
 2] (.block 0 (.loop [.si 2, .si 28, .bx 1003 bI .leaf] (.seq (.region [o1 29 (.bin .lss 28 27)]) (.seq (.cond 29 .skip (.exit 0)) (.seq (.frame (rg [2, 6, 7] 30 25) [1003, 1006]
 true (.join [.si 2, .bx 1003 bI .leaf] (.block 1 (.seq (.region [o1 30 (.ixA 7 26 28), o1 31 (.load true 7 30), o1 6 (.alloc [(.int .i64 0), (.int .u64 0), (.int .u64 0), (.int
 .u64 0), (.int .u64 0), (.int .i64 0), (.int .i64 0)]), o0 ⟨none, .store 7 6 31, none⟩]) (.seq (.region [im 32 4, fa 33 5 6, ld 34 33, oS ⟨some 35, .callv 32 [34], none⟩
 S_automaton_Check_1, ia 7 35]) (.seq (.seq (.region [fa 36 0 6, ld 37 36]) (.frame (rg [7] 38 15) [1003] true (.join [.sl 7 false .bool .leaf, .bx 1003 bI .leaf] (.block 2 (.seq
 (.seq (.region [o1 39 (.bin .eql 37 (kI 0)), ia 38 39]) (.frame [38, 40, 41] [] false (.join [.sl 38 false .bool .leaf] (.cond 38 .skip (.seq (.region [o1 40 (.bin .eql 37 (kI 2)),
 ia 38 40]) (.frame [38, 41] [] false (.join [.sl 38 false .bool .leaf] (.cond 38 .skip (.region [o1 41 (.bin .eql 37 (kI 3)), ia 38 41]))))))))) (.frame (rg [7] 42 11) [1003] true
 (.join [.sl 7 false .bool .leaf, .bx 1003 bI .leaf] (.cond 38 .skip (.seq (.region [o1 43 (.bin .eql 37 (kI 1)), ia 42 43]) (.frame (rg [7] 44 9) [1003] true (.join [.sl 7 false
 .bool .leaf, .bx 1003 bI .leaf] (.cond 42 (.region [im 44 7, im 45 44, ⟨⟨some 46, .mv 4, some (45, true)⟩, none, ⟨[], []⟩, false, some 45, true, false⟩, ⟨⟨some 47, .fAddr 6 6, some
 (45, true)⟩, none, ⟨[], []⟩, false, none, true, false⟩, ⟨⟨some 48, .load false 1 47, some (45, true)⟩, none, ⟨[], []⟩, false, none, true, false⟩, ⟨⟨some 49, .callv 46 [48], some
 (45, true)⟩, none, S_automaton_Check_1, false, none, true, true⟩, o1 50 (.pick 45 49 kF), ia 7 50]) (.seq (.region [o1 52 (.bin .eql 37 (kI 4)), ia 51 52]) (.frame [7] [] false
 (.join [.sl 7 false .bool .leaf] (.cond 51 (.region [o1 7 (.asg kT)]) (.region [o1 7 (.asg kF)]))))))))))))))))) (.seq (.region [im 53 7, o1 54 (.un .not 53)]) (.cond 54 (.seq
 (.region [ia 2 (kI 2)]) .ret) .skip)))))))) (.region [o1 55 (.bin .add 28 (kI 1)), im 28 55]))))))))) (.seq (.region [ia 2 (kI 0)]) .ret))))))
def F_automaton_Check : AFn := ⟨ "mergelens/automaton.Check", t_automaton_Check.erase, [.tmp 2], 1⟩
def W_automaton_Check (P : Program) (x : ((List State) × Int)) (K : Int → Unit → Prop) : Prop :=
 (((cond (decide (((List.length x.1 : Nat) : Int) < (1 : Int))) true (decide (((List.length x.1 : Nat) : Int) > (8000 : Int)))) = true → (((cond true true false) = true → K (2 : Int) ()) ∧ ((cond true true false) = false → JoinW (D := Int) (fun J1 => LoopW (D := (Int × (Int × Int))) ((0 : Int), ((0 : Int), ((List.length x.1 : Nat) : Int))) (fun (d3 : (Int × (Int × Int))) J4 => (((decide (d3.2.1 < ((List.length x.1 : Nat) : Int))) = true → JoinW (D := (Int × Int)) (fun J5 => (0 ≤ d3.2.1 ∧ d3.2.1 < ((List.length x.1 : Nat) : Int)) ∧
 ((Int.toNat d3.2.1) < List.length x.1) ∧
 Fn P "mergelens/automaton.Check\x241" S_automaton_Check_1 ((List.getD x.1 (Int.toNat d3.2.1) zState).2.2.1, d3.2.2) (fun (d7 : Bool) (e8 : Int) => JoinW (D := (Bool × Int)) (fun J9 => JoinW (D := Bool) (fun J11 => ((((List.getD x.1 (Int.toNat d3.2.1) zState).1 == (0 : Int)) = true → J11 ((List.getD x.1 (Int.toNat d3.2.1) zState).1 == (0 : Int))) ∧ (((List.getD x.1 (Int.toNat d3.2.1) zState).1 == (0 : Int)) = false → JoinW (D := Bool) (fun J13 => ((((List.getD x.1 (Int.toNat d3.2.1) zState).1 == (2 : Int)) = true → J13 ((List.getD x.1 (Int.toNat d3.2.1) zState).1 == (2 : Int))) ∧ (((List.getD x.1 (Int.toNat d3.2.1) zState).1 == (2 : Int)) = false → J13 ((List.getD x.1 (Int.toNat d3.2.1) zState).1 == (3 : Int))))) (fun (d14 : Bool) => J11 d14)))) (fun (d12 : Bool) => JoinW (D := (Bool × Int)) (fun J15 => ((d12 = true → J15 (d7, e8)) ∧ (d12 = false → JoinW (D := (Bool × Int)) (fun J17 => ((((List.getD x.1 (Int.toNat d3.2.1) zState).1 == (1 : Int)) = true → ((d7 = true → Fn P "mergelens/automaton.Check\x241" S_automaton_Check_1 ((List.getD x.1 (Int.toNat d3.2.1) zState).2.2.2, e8) (fun (d19 : Bool) (e20 : Int) => J17 ((cond true d19 false), e20))) ∧ (d7 = false → J17 ((cond false false false), e8)))) ∧ (((List.getD x.1 (Int.toNat d3.2.1) zState).1 == (1 : Int)) = false → JoinW (D := Bool) (fun J21 => ((((List.getD x.1 (Int.toNat d3.2.1) zState).1 == (4 : Int)) = true → J21 true) ∧ (((List.getD x.1 (Int.toNat d3.2.1) zState).1 == (4 : Int)) = false → J21 false))) (fun (d22 : Bool) => J17 (d22, e8))))) (fun (d18 : (Bool × Int)) => J15 d18)))) (fun (d16 : (Bool × Int)) => J9 d16))) (fun (d10 : (Bool × Int)) => (((!d10.1) = true → K (2 : Int) ()) ∧ ((!d10.1) = false → J5 (d3.1, d10.2)))))) (fun (d6 : (Int × Int)) => J4 (d6.1, ((IntKind.i64.wrap (d3.2.1 + (1 : Int))), d6.2)))) ∧ ((decide (d3.2.1 < ((List.length x.1 : Nat) : Int))) = false → J1 d3.1)))) (fun (d2 : Int) => K (0 : Int) ())))) ∧ ((cond (decide (((List.length x.1 : Nat) : Int) < (1 : Int))) true (decide (((List.length x.1 : Nat) : Int) > (8000 : Int)))) = false → Fn P "mergelens/automaton.Check\x241" S_automaton_Check_1 (x.2, ((List.length x.1 : Nat) : Int)) (fun (d23 : Bool) (e24 : Int) => (((cond false true (!d23)) = true → K (2 : Int) ()) ∧ ((cond false true (!d23)) = false → JoinW (D := Int) (fun J25 => LoopW (D := (Int × (Int × Int))) ((0 : Int), ((0 : Int), e24)) (fun (d27 : (Int × (Int × Int))) J28 => (((decide (d27.2.1 < ((List.length x.1 : Nat) : Int))) = true → JoinW (D := (Int × Int)) (fun J29 => (0 ≤ d27.2.1 ∧ d27.2.1 < ((List.length x.1 : Nat) : Int)) ∧
 ((Int.toNat d27.2.1) < List.length x.1) ∧
 Fn P "mergelens/automaton.Check\x241" S_automaton_Check_1 ((List.getD x.1 (Int.toNat d27.2.1) zState).2.2.1, d27.2.2) (fun (d31 : Bool) (e32 : Int) => JoinW (D := (Bool × Int)) (fun J33 => JoinW (D := Bool) (fun J35 => ((((List.getD x.1 (Int.toNat d27.2.1) zState).1 == (0 : Int)) = true → J35 ((List.getD x.1 (Int.toNat d27.2.1) zState).1 == (0 : Int))) ∧ (((List.getD x.1 (Int.toNat d27.2.1) zState).1 == (0 : Int)) = false → JoinW (D := Bool) (fun J37 => ((((List.getD x.1 (Int.toNat d27.2.1) zState).1 == (2 : Int)) = true → J37 ((List.getD x.1 (Int.toNat d27.2.1) zState).1 == (2 : Int))) ∧ (((List.getD x.1 (Int.toNat d27.2.1) zState).1 == (2 : Int)) = false → J37 ((List.getD x.1 (Int.toNat d27.2.1) zState).1 == (3 : Int))))) (fun (d38 : Bool) => J35 d38)))) (fun (d36 : Bool) => JoinW (D := (Bool × Int)) (fun J39 => ((d36 = true → J39 (d31, e32)) ∧ (d36 = false → JoinW (D := (Bool × Int)) (fun J41 => ((((List.getD x.1 (Int.toNat d27.2.1) zState).1 == (1 : Int)) = true → ((d31 = true → Fn P "mergelens/automaton.Check\x241" S_automaton_Check_1 ((List.getD x.1 (Int.toNat d27.2.1) zState).2.2.2, e32) (fun (d43 : Bool) (e44 : Int) => J41 ((cond true d43 false), e44))) ∧ (d31 = false → J41 ((cond false false false), e32)))) ∧ (((List.getD x.1 (Int.toNat d27.2.1) zState).1 == (1 : Int)) = false → JoinW (D := Bool) (fun J45 => ((((List.getD x.1 (Int.toNat d27.2.1) zState).1 == (4 : Int)) = true → J45 true) ∧ (((List.getD x.1 (Int.toNat d27.2.1) zState).1 == (4 : Int)) = false → J45 false))) (fun (d46 : Bool) => J41 (d46, e32))))) (fun (d42 : (Bool × Int)) => J39 d42)))) (fun (d40 : (Bool × Int)) => J33 d40))) (fun (d34 : (Bool × Int)) => (((!d34.1) = true → K (2 : Int) ()) ∧ ((!d34.1) = false → J29 (d27.1, d34.2)))))) (fun (d30 : (Int × Int)) => J28 (d30.1, ((IntKind.i64.wrap (d27.2.1 + (1 : Int))), d30.2)))) ∧ ((decide (d27.2.1 < ((List.length x.1 : Nat) : Int))) = false → J25 d27.1)))) (fun (d26 : Int) => K (0 : Int) ()))))))
theorem fn_automaton_Check {P : Program} (h : Has P F_automaton_Check) {x : DP S_automaton_Check.ps} {K : DP S_automaton_Check.rs → DP (ptrs S_automaton_Check.ps) → Prop} (hw : W_automaton_Check P x K) : Fn P "mergelens/automaton.Check" S_automaton_Check x K :=
  fn_of (c := t_automaton_Check) h rfl rfl (by kernel_rfl) (Eq.mpr (show liftT P F_automaton_Check S_automaton_Check t_automaton_Check x K = W_automaton_Check P x K by kernel_rfl) hw)

def t_search_start : TCode :=
 (.seq (.region [o1 3 (.box 0), o1 6 (.asg (.c (.pointer none)))]) (.seq (.frame (rg [] 6 10) [1015] false (.join [.pt 6 1015 0, .bx 1015 bsearch_machine (.pair (.pair tM .leaf)
 (.pair .leaf (.pair .leaf (.pair tO tO))))] (.draw [(.first (im 8 1) (.first (im 9 2) (.first (fa 10 0 3) (.first (ld 11 10) (.first (o1 12 (.lenK 11)) (.alt (o1 7 (.load true 2
 3)) (.alt (oT ⟨some 13, .mkSl 1 1 [(.bool false)] 12 12, none⟩ (some (.bool, .leaf))) (.first (o1 14 (.build [(.slice none 0 0), (.int .i64 0), (.string ⟨#[]⟩), (.int .i64 0),
 (.slice none 0 0), (.slice none 0 0)] [(0, 2, 7), (2, 1, 8), (3, 1, 9), (5, 1, 13)])) (.alt (o1 15 (.box 14)) (.alt (ia 6 15) .done .stop) .stop)) .stop) (.alt (oT ⟨some 13, .mkSl
 1 1 [(.bool false)] 12 12, none⟩ (some (.bool, .leaf))) (.first (o1 7 (.load true 2 3)) (.first (o1 14 (.build [(.slice none 0 0), (.int .i64 0), (.string ⟨#[]⟩), (.int .i64 0),
 (.slice none 0 0), (.slice none 0 0)] [(0, 2, 7), (2, 1, 8), (3, 1, 9), (5, 1, 13)])) (.alt (o1 15 (.box 14)) (.alt (ia 6 15) .done .stop) .stop))) .stop)))))))]))) .ret))
def F_search_start : AFn := ⟨ "mergelens/search.start", t_search_start.erase, [.tmp 6], 3⟩
def W_search_start (P : Program) (x : (((List State) × Int) × ((List UInt8) × Int))) (K : search_machine → Unit → Prop) : Prop :=
 JoinW (D := search_machine) (fun J1 => (((0 ≤ ((List.length x.1.1 : Nat) : Int) ∧ ((List.length x.1.1 : Nat) : Int) ≤ ((List.length x.1.1 : Nat) : Int) ∧ ((1 : Nat) : Int) * ((List.length x.1.1 : Nat) : Int) ≤ 281474976710656) ∧
 ((J1 (x.1, (x.2.1, (x.2.2, ([], (List.replicate (Int.toNat ((List.length x.1.1 : Nat) : Int)) false)))))) ∧ (True)) ∧ (True)) ∧ (True)) ∧ (((0 ≤ ((List.length x.1.1 : Nat) : Int) ∧ ((List.length x.1.1 : Nat) : Int) ≤ ((List.length x.1.1 : Nat) : Int) ∧ ((1 : Nat) : Int) * ((List.length x.1.1 : Nat) : Int) ≤ 281474976710656) ∧
 ((J1 (x.1, (x.2.1, (x.2.2, ([], (List.replicate (Int.toNat ((List.length x.1.1 : Nat) : Int)) false)))))) ∧ (True)) ∧ (True)) ∧ (True))) (fun (d2 : search_machine) => K d2 ())
theorem fn_search_start {P : Program} (h : Has P F_search_start) {x : DP S_search_start.ps} {K : DP S_search_start.rs → DP (ptrs S_search_start.ps) → Prop} (hw : W_search_start P x K) : Fn P "mergelens/search.start" S_search_start x K :=
  fn_of (c := t_search_start) h rfl rfl (by kernel_rfl) (Eq.mpr (show liftT P F_search_start S_search_start t_search_start x K = W_search_start P x K by kernel_rfl) hw)

def t_automaton_Steps : TCode :=
 (.seq (.region [o1 3 (.box 0), o1 6 (.asg (.c (.slice none 0 0)))]) (.seq (.seq (.region [fa 7 0 3, ld 8 7]) (.frame (rg [6] 9 19) [] false (.join [.sl 6 false (.sl bI) tO] (.block
 0 (.seq (.region [o1 10 (.bin .eql 8 (kI 1)), ia 9 10]) (.cond 9 (.seq (.region [fa 11 5 3, ld 12 11, fa 13 6 3, ld 14 13, oT ⟨some 15, .buildSl 1 [(.int .i64 0)] 2 [(0, 12), (1,
 14)], none⟩ (some (bI, .leaf)), ia 6 15]) .ret) (.seq (.region [o1 17 (.bin .eql 8 (kI 2)), ia 16 17]) (.frame (rg [6] 18 10) [] false (.join [.sl 6 false (.sl bI) tO] (.cond 16
 (.seq (.region [im 18 1]) (.cond 18 (.seq (.region [fa 19 5 3, ld 20 19, oT ⟨some 21, .buildSl 1 [(.int .i64 0)] 1 [(0, 20)], none⟩ (some (bI, .leaf)), ia 6 21]) .ret) .skip))
 (.seq (.region [o1 23 (.bin .eql 8 (kI 3)), ia 22 23]) (.frame (rg [6] 24 4) [] false (.join [.sl 6 false (.sl bI) tO] (.cond 22 (.seq (.region [im 24 2]) (.cond 24 (.seq (.region
 [fa 25 5 3, ld 26 25, oT ⟨some 27, .buildSl 1 [(.int .i64 0)] 1 [(0, 26)], none⟩ (some (bI, .leaf)), ia 6 27]) .ret) .skip)) .skip)))))))))))))) (.seq (.region [o1 6 (.asg (.c
 (.slice none 0 0)))]) .ret)))
def F_automaton_Steps : AFn := ⟨ "mergelens/automaton.Steps", t_automaton_Steps.erase, [.tmp 6], 3⟩
def W_automaton_Steps (P : Program) (x : (State × (Bool × Bool))) (K : (List Int) → Unit → Prop) : Prop :=
 JoinW (D := (List Int)) (fun J1 => (((x.1.1 == (1 : Int)) = true → K ([x.1.2.2.1, x.1.2.2.2] : List Int) ()) ∧ ((x.1.1 == (1 : Int)) = false → JoinW (D := (List Int)) (fun J3 => (((x.1.1 == (2 : Int)) = true → ((x.2.1 = true → K ([x.1.2.2.1] : List Int) ()) ∧ (x.2.1 = false → J3 []))) ∧ ((x.1.1 == (2 : Int)) = false → JoinW (D := (List Int)) (fun J5 => (((x.1.1 == (3 : Int)) = true → ((x.2.2 = true → K ([x.1.2.2.1] : List Int) ()) ∧ (x.2.2 = false → J5 []))) ∧ ((x.1.1 == (3 : Int)) = false → J5 []))) (fun (d6 : (List Int)) => J3 d6)))) (fun (d4 : (List Int)) => J1 d4)))) (fun (d2 : (List Int)) => K [] ())
theorem fn_automaton_Steps {P : Program} (h : Has P F_automaton_Steps) {x : DP S_automaton_Steps.ps} {K : DP S_automaton_Steps.rs → DP (ptrs S_automaton_Steps.ps) → Prop} (hw : W_automaton_Steps P x K) : Fn P "mergelens/automaton.Steps" S_automaton_Steps x K :=
  fn_of (c := t_automaton_Steps) h rfl rfl (by kernel_rfl) (Eq.mpr (show liftT P F_automaton_Steps S_automaton_Steps t_automaton_Steps x K = W_automaton_Steps P x K by kernel_rfl) hw)

def t_search_machine_add : TCode :=
 (.seq (.region [o1 3 (.box 1)]) (.seq (.region [fa 6 0 3, ld 7 6, oT ⟨some 8, .buildSl 1 [(.int .i64 0)] 1 [(0, 7)], none⟩ (some (bI, .leaf)), ia 4 8]) (.frame (rg [4, 5] 9 66) [0]
 true (.join [.bx 0 bsearch_machine (.pair (.pair tM .leaf) (.pair .leaf (.pair .leaf (.pair tO tO))))] (.block 0 (.loop [.sl 4 false (.sl bI) tO, .bx 0 bsearch_machine (.pair
 (.pair tM .leaf) (.pair .leaf (.pair .leaf (.pair tO tO))))] (.seq (.seq (.region [im 9 4, o1 10 (.lenK 9), o1 11 (.bin .gtr 10 (kI 0))]) (.cond 11 .skip (.exit 0))) (.frame (rg
 [4, 5] 12 63) [0] true (.join [.sl 4 false (.sl bI) tO, .bx 0 bsearch_machine (.pair (.pair tM .leaf) (.pair .leaf (.pair .leaf (.pair tO tO))))] (.block 1 (.seq (.region [im 12 4,
 im 13 4, o1 14 (.lenK 13), o1 15 (.bin .sub 14 (kI 1)), o1 16 (.ixA 1 12 15), ld 17 16, ia 5 17]) (.seq (.region [im 18 4, im 19 4, o1 20 (.lenK 19), o1 21 (.bin .sub 20 (kI 1)),
 o1 22 (.slK 1 18 none (some 21)), ia 4 22]) (.seq (.seq (.region [im 23 0, o1 24 (.nilc 23), fa 25 5 24, ld 26 25, im 27 5, o1 28 (.ixA 1 26 27), ld 29 28]) (.cond 29 (.exit 1)
 .skip)) (.seq (.region [im 30 0, o1 31 (.nilc 30), fa 32 5 31, ld 33 32, im 34 5, o1 35 (.ixA 1 33 34), o0 ⟨none, .store 1 35 kT, none⟩]) (.seq (.frame (rg [] 36 13) [0] true
 (.join [.bx 0 bsearch_machine (.pair (.pair tM .leaf) (.pair .leaf (.pair .leaf (.pair tO tO))))] (.draw [(.first (im 36 0) (.first (im 37 0) (.first (o1 38 (.nilc 37)) (.first (fa
 39 4 38) (.first (im 41 5) (.first (fa 42 1 3) (.first (ld 43 42) (.first (o1 44 (.build [(.int .i64 0), (.int .i64 0)] [(0, 1, 41), (1, 1, 43)])) (.alt (ld 40 39) (.alt (oT ⟨some
 45, .buildSl 2 [(.int .i64 0), (.int .i64 0)] 1 [(0, 44)], none⟩ (some ((.pair bI bI), .leaf))) (.alt (oT ⟨some 46, .app 2 16 40 45, none⟩ (some ((.pair bI bI), .leaf))) (.first
 (o1 47 (.nilc 36)) (.first (fa 48 4 47) (.alt (o0 ⟨none, .store 1 48 46, none⟩) .done .stop))) .stop) .stop) (.alt (oT ⟨some 45, .buildSl 2 [(.int .i64 0), (.int .i64 0)] 1 [(0,
 44)], none⟩ (some ((.pair bI bI), .leaf))) (.first (ld 40 39) (.alt (oT ⟨some 46, .app 2 16 40 45, none⟩ (some ((.pair bI bI), .leaf))) (.first (o1 47 (.nilc 36)) (.first (fa 48 4
 47) (.alt (o0 ⟨none, .store 1 48 46, none⟩) .done .stop))) .stop)) .stop))))))))))]))) (.frame (rg [4] 49 26) [] false (.join [.sl 4 false (.sl bI) tO] (.draw [(.first (im 49 4)
 (.first (im 50 0) (.first (o1 51 (.nilc 50)) (.first (fa 52 0 51) (.first (fa 53 0 52) (.first (ld 54 53) (.first (im 55 5) (.first (o1 56 (.ixA 7 54 55)) (.first (o1 57 (.load
 true 7 56)) (.first (im 58 0) (.first (o1 59 (.nilc 58)) (.first (fa 60 3 59) (.first (ld 61 60) (.first (o1 62 (.bin .eql 61 (kI 0))) (.first (im 63 0) (.first (o1 64 (.nilc 63))
 (.first (fa 65 3 64) (.first (ld 66 65) (.first (im 67 0) (.first (o1 68 (.nilc 67)) (.first (fa 69 2 68) (.first (ld 70 69) (.first (o1 71 (.lenS 70)) (.first (o1 72 (.bin .eql 66
 71)) (.alt (oS ⟨some 73, .call "mergelens/automaton.Steps" [57, 62, 72], none⟩ S_automaton_Steps) (.alt (oT ⟨some 74, .app 1 8 49 73, none⟩ (some (bI, .leaf))) (.alt (ia 4 74)
 .done .stop) .stop) .stop)))))))))))))))))))))))))]))))))))))))))))))
def F_search_machine_add : AFn := ⟨ "(*mergelens/search.machine).add", t_search_machine_add.erase, [], 2⟩
def W_search_machine_add (P : Program) (x : (search_machine × (Int × Int))) (K : Unit → search_machine → Prop) : Prop :=
 JoinW (D := search_machine) (fun J1 => LoopW (D := ((List Int) × search_machine)) (([x.2.1] : List Int), x.1) (fun (d3 : ((List Int) × search_machine)) J4 => (((decide (((List.length d3.1 : Nat) : Int) > (0 : Int))) = true → JoinW (D := ((List Int) × search_machine)) (fun J5 => (0 ≤ (IntKind.i64.wrap (((List.length d3.1 : Nat) : Int) - (1 : Int))) ∧ (IntKind.i64.wrap (((List.length d3.1 : Nat) : Int) - (1 : Int))) < ((List.length d3.1 : Nat) : Int)) ∧
 ((Int.toNat (IntKind.i64.wrap (((List.length d3.1 : Nat) : Int) - (1 : Int)))) < List.length d3.1) ∧
 (0 ≤ (IntKind.i64.wrap (((List.length d3.1 : Nat) : Int) - (1 : Int))) ∧ (IntKind.i64.wrap (((List.length d3.1 : Nat) : Int) - (1 : Int))) ≤ ((List.length d3.1 : Nat) : Int)) ∧
 (0 + (Int.toNat (IntKind.i64.wrap (((List.length d3.1 : Nat) : Int) - (1 : Int)))) ≤ List.length d3.1) ∧
 (0 ≤ (List.getD d3.1 (Int.toNat (IntKind.i64.wrap (((List.length d3.1 : Nat) : Int) - (1 : Int)))) (0 : Int)) ∧ (List.getD d3.1 (Int.toNat (IntKind.i64.wrap (((List.length d3.1 : Nat) : Int) - (1 : Int)))) (0 : Int)) < ((List.length d3.2.2.2.2.2 : Nat) : Int)) ∧
 ((Int.toNat (List.getD d3.1 (Int.toNat (IntKind.i64.wrap (((List.length d3.1 : Nat) : Int) - (1 : Int)))) (0 : Int))) < List.length d3.2.2.2.2.2) ∧
 (((List.getD d3.2.2.2.2.2 (Int.toNat (List.getD d3.1 (Int.toNat (IntKind.i64.wrap (((List.length d3.1 : Nat) : Int) - (1 : Int)))) (0 : Int))) false) = true → J5 ((List.take (Int.toNat (IntKind.i64.wrap (((List.length d3.1 : Nat) : Int) - (1 : Int)))) (List.drop 0 d3.1)), d3.2)) ∧ ((List.getD d3.2.2.2.2.2 (Int.toNat (List.getD d3.1 (Int.toNat (IntKind.i64.wrap (((List.length d3.1 : Nat) : Int) - (1 : Int)))) (0 : Int))) false) = false → (0 ≤ (List.getD d3.1 (Int.toNat (IntKind.i64.wrap (((List.length d3.1 : Nat) : Int) - (1 : Int)))) (0 : Int)) ∧ (List.getD d3.1 (Int.toNat (IntKind.i64.wrap (((List.length d3.1 : Nat) : Int) - (1 : Int)))) (0 : Int)) < ((List.length d3.2.2.2.2.2 : Nat) : Int)) ∧
 ((Int.toNat (List.getD d3.1 (Int.toNat (IntKind.i64.wrap (((List.length d3.1 : Nat) : Int) - (1 : Int)))) (0 : Int))) < List.length d3.2.2.2.2.2) ∧
 JoinW (D := search_machine) (fun J7 => (((((List.length d3.2.2.2.2.1 + List.length ([((List.getD d3.1 (Int.toNat (IntKind.i64.wrap (((List.length d3.1 : Nat) : Int) - (1 : Int)))) (0 : Int)), x.2.2)] : List (Int × Int))) * 16 ≤ 140737488355328) ∧
 (J7 (d3.2.1, (d3.2.2.1, (d3.2.2.2.1, ((d3.2.2.2.2.1 ++ ([((List.getD d3.1 (Int.toNat (IntKind.i64.wrap (((List.length d3.1 : Nat) : Int) - (1 : Int)))) (0 : Int)), x.2.2)] : List (Int × Int))), (List.set d3.2.2.2.2.2 (Int.toNat (List.getD d3.1 (Int.toNat (IntKind.i64.wrap (((List.length d3.1 : Nat) : Int) - (1 : Int)))) (0 : Int))) true)))))) ∧ (True)) ∧ (True)) ∧ (True)) ∧ (((((List.length d3.2.2.2.2.1 + List.length ([((List.getD d3.1 (Int.toNat (IntKind.i64.wrap (((List.length d3.1 : Nat) : Int) - (1 : Int)))) (0 : Int)), x.2.2)] : List (Int × Int))) * 16 ≤ 140737488355328) ∧
 (J7 (d3.2.1, (d3.2.2.1, (d3.2.2.2.1, ((d3.2.2.2.2.1 ++ ([((List.getD d3.1 (Int.toNat (IntKind.i64.wrap (((List.length d3.1 : Nat) : Int) - (1 : Int)))) (0 : Int)), x.2.2)] : List (Int × Int))), (List.set d3.2.2.2.2.2 (Int.toNat (List.getD d3.1 (Int.toNat (IntKind.i64.wrap (((List.length d3.1 : Nat) : Int) - (1 : Int)))) (0 : Int))) true)))))) ∧ (True)) ∧ (True)) ∧ (True))) (fun (d8 : search_machine) => JoinW (D := (List Int)) (fun J9 => (0 ≤ (List.getD d3.1 (Int.toNat (IntKind.i64.wrap (((List.length d3.1 : Nat) : Int) - (1 : Int)))) (0 : Int)) ∧ (List.getD d3.1 (Int.toNat (IntKind.i64.wrap (((List.length d3.1 : Nat) : Int) - (1 : Int)))) (0 : Int)) < ((List.length d8.1.1 : Nat) : Int)) ∧
 ((Int.toNat (List.getD d3.1 (Int.toNat (IntKind.i64.wrap (((List.length d3.1 : Nat) : Int) - (1 : Int)))) (0 : Int))) < List.length d8.1.1) ∧
 (Fn P "mergelens/automaton.Steps" S_automaton_Steps ((List.getD d8.1.1 (Int.toNat (List.getD d3.1 (Int.toNat (IntKind.i64.wrap (((List.length d3.1 : Nat) : Int) - (1 : Int)))) (0 : Int))) zState), ((d8.2.2.1 == (0 : Int)), (d8.2.2.1 == ((List.length d8.2.1 : Nat) : Int)))) (fun (d11 : (List Int)) (e12 : Unit) => (((List.length (List.take (Int.toNat (IntKind.i64.wrap (((List.length d3.1 : Nat) : Int) - (1 : Int)))) (List.drop 0 d3.1)) + List.length d11) * 8 ≤ 140737488355328) ∧
 (J9 ((List.take (Int.toNat (IntKind.i64.wrap (((List.length d3.1 : Nat) : Int) - (1 : Int)))) (List.drop 0 d3.1)) ++ d11)) ∧ (True)) ∧ (True))) ∧ (True)) (fun (d10 : (List Int)) => J5 (d10, d8)))))) (fun (d6 : ((List Int) × search_machine)) => J4 d6)) ∧ ((decide (((List.length d3.1 : Nat) : Int) > (0 : Int))) = false → J1 d3.2)))) (fun (d2 : search_machine) => K () d2)
theorem fn_search_machine_add {P : Program} (h : Has P F_search_machine_add) {x : DP S_search_machine_add.ps} {K : DP S_search_machine_add.rs → DP (ptrs S_search_machine_add.ps) → Prop} (hw : W_search_machine_add P x K) : Fn P "(*mergelens/search.machine).add" S_search_machine_add x K :=
  fn_of (c := t_search_machine_add) h rfl rfl (by kernel_rfl) (Eq.mpr (show liftT P F_search_machine_add S_search_machine_add t_search_machine_add x K = W_search_machine_add P x K by kernel_rfl) hw)

def t_search_machine_read : TCode :=
 (.seq (.frame (rg [2] 7 9) [] false (.join [.sl 2 false (.int .u8) .leaf] (.draw [(.first (im 7 0) (.first (o1 8 (.nilc 7)) (.first (fa 9 2 8) (.first (ld 10 9) (.first (im 11 0)
 (.first (o1 12 (.nilc 11)) (.first (fa 13 3 12) (.first (ld 14 13) (.first (o1 15 (.ixS 10 14)) (.alt (ia 2 15) .done .stop))))))))))]))) (.seq (.region [im 16 0, o1 17 (.nilc 16),
 fa 18 3 17, ld 19 18, o1 20 (.bin .add 19 (kI 1)), o1 21 (.nilc 16), fa 22 3 21, o0 ⟨none, .store 1 22 20, none⟩]) (.seq (.region [im 23 0, o1 24 (.nilc 23), fa 25 4 24, ld 26 25,
 ia 3 26]) (.seq (.frame (rg [] 27 13) [0] true (.join [.bx 0 bsearch_machine (.pair (.pair tM .leaf) (.pair .leaf (.pair .leaf (.pair tO tO))))] (.draw [(.first (im 27 0) (.first
 (im 28 0) (.first (im 29 0) (.first (o1 30 (.nilc 29)) (.first (fa 31 0 30) (.first (fa 32 0 31) (.first (ld 33 32) (.first (o1 34 (.lenK 33)) (.first (o1 36 (.nilc 27)) (.first
 (fa 37 4 36) (.alt (oT ⟨some 35, .mkSl 1 1 [(.bool false)] 34 34, none⟩ (some (.bool, .leaf))) (.alt (o0 ⟨none, .store 1 37 (.c (.slice none 0 0)), none⟩) (.first (o1 38 (.nilc
 28)) (.first (fa 39 5 38) (.alt (o0 ⟨none, .store 1 39 35, none⟩) .done .stop))) .stop) (.alt (o0 ⟨none, .store 1 37 (.c (.slice none 0 0)), none⟩) (.alt (oT ⟨some 35, .mkSl 1 1
 [(.bool false)] 34 34, none⟩ (some (.bool, .leaf))) (.first (o1 38 (.nilc 28)) (.first (fa 39 5 38) (.alt (o0 ⟨none, .store 1 39 35, none⟩) .done .stop))) .stop)
 .stop))))))))))))]))) (.seq (.region [im 40 3, o1 41 (.lenK 40), o1 42 (.mv (kI 0))]) (.frame (rg [5, 6] 42 36) [0, 1005, 1006] true (.join [.bx 0 bsearch_machine (.pair (.pair tM
 .leaf) (.pair .leaf (.pair .leaf (.pair tO tO))))] (.block 0 (.loop [.si 42, .bx 0 bsearch_machine (.pair (.pair tM .leaf) (.pair .leaf (.pair .leaf (.pair tO tO))))] (.seq
 (.region [o1 43 (.bin .lss 42 41)]) (.seq (.cond 43 .skip (.exit 0)) (.seq (.frame (rg [5, 6] 44 33) [0, 1005, 1006] true (.join [.bx 0 bsearch_machine (.pair (.pair tM .leaf)
 (.pair .leaf (.pair .leaf (.pair tO tO))))] (.block 1 (.seq (.region [o1 44 (.ixA 2 40 42), o1 45 (.load true 2 44), o1 5 (.alloc [(.int .i64 0), (.int .i64 0)]), o0 ⟨none, .store
 2 5 45, none⟩]) (.seq (.frame (rg [6] 46 9) [1006] false (.join [.pt 6 1006 0, .bx 1006 bState .leaf] (.draw [(.first (im 46 0) (.first (o1 47 (.nilc 46)) (.first (fa 48 0 47)
 (.first (fa 49 0 48) (.first (fa 51 0 5) (.alt (ld 50 49) (.alt (ld 52 51) (.first (o1 53 (.ixA 7 50 52)) (.alt (o1 54 (.load true 7 53)) (.alt (o1 6 (.alloc [(.int .i64 0), (.int
 .u64 0), (.int .u64 0), (.int .u64 0), (.int .u64 0), (.int .i64 0), (.int .i64 0)])) (.alt (o0 ⟨none, .store 7 6 54, none⟩) .done .stop) .stop) (.alt (o1 6 (.alloc [(.int .i64 0),
 (.int .u64 0), (.int .u64 0), (.int .u64 0), (.int .u64 0), (.int .i64 0), (.int .i64 0)])) (.first (o1 54 (.load true 7 53)) (.alt (o0 ⟨none, .store 7 6 54, none⟩) .done .stop))
 .stop))) (.alt (o1 6 (.alloc [(.int .i64 0), (.int .u64 0), (.int .u64 0), (.int .u64 0), (.int .u64 0), (.int .i64 0), (.int .i64 0)])) (.first (ld 52 51) (.first (o1 53 (.ixA 7
 50 52)) (.first (o1 54 (.load true 7 53)) (.alt (o0 ⟨none, .store 7 6 54, none⟩) .done .stop)))) .stop)) (.alt (ld 52 51) (.alt (ld 50 49) (.first (o1 53 (.ixA 7 50 52)) (.alt (o1
 54 (.load true 7 53)) (.alt (o1 6 (.alloc [(.int .i64 0), (.int .u64 0), (.int .u64 0), (.int .u64 0), (.int .u64 0), (.int .i64 0), (.int .i64 0)])) (.alt (o0 ⟨none, .store 7 6
 54, none⟩) .done .stop) .stop) (.alt (o1 6 (.alloc [(.int .i64 0), (.int .u64 0), (.int .u64 0), (.int .u64 0), (.int .u64 0), (.int .i64 0), (.int .i64 0)])) (.first (o1 54 (.load
 true 7 53)) (.alt (o0 ⟨none, .store 7 6 54, none⟩) .done .stop)) .stop))) (.alt (o1 6 (.alloc [(.int .i64 0), (.int .u64 0), (.int .u64 0), (.int .u64 0), (.int .u64 0), (.int .i64
 0), (.int .i64 0)])) (.first (ld 50 49) (.first (o1 53 (.ixA 7 50 52)) (.first (o1 54 (.load true 7 53)) (.alt (o0 ⟨none, .store 7 6 54, none⟩) .done .stop)))) .stop)) (.alt (o1 6
 (.alloc [(.int .i64 0), (.int .u64 0), (.int .u64 0), (.int .u64 0), (.int .u64 0), (.int .i64 0), (.int .i64 0)])) (.first (ld 50 49) (.first (ld 52 51) (.first (o1 53 (.ixA 7 50
 52)) (.first (o1 54 (.load true 7 53)) (.alt (o0 ⟨none, .store 7 6 54, none⟩) .done .stop))))) .stop))))))))]))) (.seq (.region [fa 55 0 6, ld 56 55, o1 57 (.bin .eql 56 (kI 0)),
 im 58 57, gt 59 58 (.mv 2), gt 60 58 (.bin .quo 59 (.c (.int .u8 64))), gt 61 58 (.fAddr 1 6), gt 62 58 (.ixAr 4 1 61 60), gt 63 58 (.load false 1 62), gt 64 58 (.mv 2), gt 65 58
 (.bin .rem 64 (.c (.int .u8 64))), gt 66 58 (.bin .shr 63 65), gt 67 58 (.bin .and 66 (.c (.int .u64 1))), gt 68 58 (.bin .eql 67 (.c (.int .u64 1))), o1 69 (.pick 58 68 kF)])
 (.frame (rg [] 70 7) [0] true (.join [.bx 0 bsearch_machine (.pair (.pair tM .leaf) (.pair .leaf (.pair .leaf (.pair tO tO))))] (.cond 69 (.region [im 70 0, fa 71 5 6, ld 72 71, fa
 73 1 5, ld 74 73, o1 75 (.build [(.int .i64 0), (.int .i64 0)] [(0, 1, 72), (1, 1, 74)]), oS ⟨some 76, .call "(*mergelens/search.machine).add" [70, 75], none⟩
 S_search_machine_add]) .skip))))))))) (.region [o1 77 (.bin .add 42 (kI 1)), im 42 77])))))))))))))
def F_search_machine_read : AFn := ⟨ "(*mergelens/search.machine).read", t_search_machine_read.erase, [], 1⟩
def W_search_machine_read (P : Program) (x : search_machine) (K : Unit → search_machine → Prop) : Prop :=
 JoinW (D := Int) (fun J1 => (0 ≤ x.2.2.1 ∧ x.2.2.1 < ((List.length x.2.1 : Nat) : Int)) ∧
 (J1 ((UInt8.toNat (List.getD x.2.1 (Int.toNat x.2.2.1) 0) : Nat) : Int)) ∧ (True)) (fun (d2 : Int) => JoinW (D := search_machine) (fun J3 => ((0 ≤ ((List.length x.1.1 : Nat) : Int) ∧ ((List.length x.1.1 : Nat) : Int) ≤ ((List.length x.1.1 : Nat) : Int) ∧ ((1 : Nat) : Int) * ((List.length x.1.1 : Nat) : Int) ≤ 281474976710656) ∧
 ((J3 (x.1, (x.2.1, ((IntKind.i64.wrap (x.2.2.1 + (1 : Int))), ([], (List.replicate (Int.toNat ((List.length x.1.1 : Nat) : Int)) false)))))) ∧ (True)) ∧ (True)) ∧ ((((0 ≤ ((List.length x.1.1 : Nat) : Int) ∧ ((List.length x.1.1 : Nat) : Int) ≤ ((List.length x.1.1 : Nat) : Int) ∧ ((1 : Nat) : Int) * ((List.length x.1.1 : Nat) : Int) ≤ 281474976710656) ∧
 (J3 (x.1, (x.2.1, ((IntKind.i64.wrap (x.2.2.1 + (1 : Int))), ([], (List.replicate (Int.toNat ((List.length x.1.1 : Nat) : Int)) false)))))) ∧ (True)) ∧ (True)) ∧ (True))) (fun (d4 : search_machine) => JoinW (D := search_machine) (fun J5 => LoopW (D := (Int × search_machine)) ((0 : Int), d4) (fun (d7 : (Int × search_machine)) J8 => (((decide (d7.1 < ((List.length x.2.2.2.1 : Nat) : Int))) = true → JoinW (D := search_machine) (fun J9 => (0 ≤ d7.1 ∧ d7.1 < ((List.length x.2.2.2.1 : Nat) : Int)) ∧
 ((Int.toNat d7.1) < List.length x.2.2.2.1) ∧
 JoinW (D := State) (fun J11 => (((0 ≤ (List.getD x.2.2.2.1 (Int.toNat d7.1) ((0 : Int), (0 : Int))).1 ∧ (List.getD x.2.2.2.1 (Int.toNat d7.1) ((0 : Int), (0 : Int))).1 < ((List.length d7.2.1.1 : Nat) : Int)) ∧
 (((Int.toNat (List.getD x.2.2.2.1 (Int.toNat d7.1) ((0 : Int), (0 : Int))).1) < List.length d7.2.1.1) ∧
 ((J11 (List.getD d7.2.1.1 (Int.toNat (List.getD x.2.2.2.1 (Int.toNat d7.1) ((0 : Int), (0 : Int))).1) zState)) ∧ (True)) ∧ (True)) ∧ ((((Int.toNat (List.getD x.2.2.2.1 (Int.toNat d7.1) ((0 : Int), (0 : Int))).1) < List.length d7.2.1.1) ∧
 (J11 (List.getD d7.2.1.1 (Int.toNat (List.getD x.2.2.2.1 (Int.toNat d7.1) ((0 : Int), (0 : Int))).1) zState)) ∧ (True)) ∧ (True))) ∧ (((0 ≤ (List.getD x.2.2.2.1 (Int.toNat d7.1) ((0 : Int), (0 : Int))).1 ∧ (List.getD x.2.2.2.1 (Int.toNat d7.1) ((0 : Int), (0 : Int))).1 < ((List.length d7.2.1.1 : Nat) : Int)) ∧
 ((Int.toNat (List.getD x.2.2.2.1 (Int.toNat d7.1) ((0 : Int), (0 : Int))).1) < List.length d7.2.1.1) ∧
 (J11 (List.getD d7.2.1.1 (Int.toNat (List.getD x.2.2.2.1 (Int.toNat d7.1) ((0 : Int), (0 : Int))).1) zState)) ∧ (True)) ∧ (True))) ∧ ((((0 ≤ (List.getD x.2.2.2.1 (Int.toNat d7.1) ((0 : Int), (0 : Int))).1 ∧ (List.getD x.2.2.2.1 (Int.toNat d7.1) ((0 : Int), (0 : Int))).1 < ((List.length d7.2.1.1 : Nat) : Int)) ∧
 (((Int.toNat (List.getD x.2.2.2.1 (Int.toNat d7.1) ((0 : Int), (0 : Int))).1) < List.length d7.2.1.1) ∧
 ((J11 (List.getD d7.2.1.1 (Int.toNat (List.getD x.2.2.2.1 (Int.toNat d7.1) ((0 : Int), (0 : Int))).1) zState)) ∧ (True)) ∧ (True)) ∧ ((((Int.toNat (List.getD x.2.2.2.1 (Int.toNat d7.1) ((0 : Int), (0 : Int))).1) < List.length d7.2.1.1) ∧
 (J11 (List.getD d7.2.1.1 (Int.toNat (List.getD x.2.2.2.1 (Int.toNat d7.1) ((0 : Int), (0 : Int))).1) zState)) ∧ (True)) ∧ (True))) ∧ (((0 ≤ (List.getD x.2.2.2.1 (Int.toNat d7.1) ((0 : Int), (0 : Int))).1 ∧ (List.getD x.2.2.2.1 (Int.toNat d7.1) ((0 : Int), (0 : Int))).1 < ((List.length d7.2.1.1 : Nat) : Int)) ∧
 ((Int.toNat (List.getD x.2.2.2.1 (Int.toNat d7.1) ((0 : Int), (0 : Int))).1) < List.length d7.2.1.1) ∧
 (J11 (List.getD d7.2.1.1 (Int.toNat (List.getD x.2.2.2.1 (Int.toNat d7.1) ((0 : Int), (0 : Int))).1) zState)) ∧ (True)) ∧ (True))) ∧ (((0 ≤ (List.getD x.2.2.2.1 (Int.toNat d7.1) ((0 : Int), (0 : Int))).1 ∧ (List.getD x.2.2.2.1 (Int.toNat d7.1) ((0 : Int), (0 : Int))).1 < ((List.length d7.2.1.1 : Nat) : Int)) ∧
 ((Int.toNat (List.getD x.2.2.2.1 (Int.toNat d7.1) ((0 : Int), (0 : Int))).1) < List.length d7.2.1.1) ∧
 (J11 (List.getD d7.2.1.1 (Int.toNat (List.getD x.2.2.2.1 (Int.toNat d7.1) ((0 : Int), (0 : Int))).1) zState)) ∧ (True)) ∧ (True)))) (fun (d12 : State) => (((d12.1 == (0 : Int)) = true → (64 : Int) ≠ 0)) ∧
 (((d12.1 == (0 : Int)) = true → 0 ≤ (IntKind.u8.wrap (Int.tdiv d2 (64 : Int))) ∧ (IntKind.u8.wrap (Int.tdiv d2 (64 : Int))) < ((4 : Nat) : Int))) ∧
 (((d12.1 == (0 : Int)) = true → (Int.toNat (IntKind.u8.wrap (Int.tdiv d2 (64 : Int)))) < 4)) ∧
 (((d12.1 == (0 : Int)) = true → (64 : Int) ≠ 0)) ∧
 (((d12.1 == (0 : Int)) = true → 0 ≤ (Int.tmod d2 (64 : Int)))) ∧
 JoinW (D := search_machine) (fun J13 => (((cond (d12.1 == (0 : Int)) ((IntKind.u64.wrap ((BitVec.toNat (BitVec.ofInt IntKind.u64.bits (Int.fdiv (List.getD [d12.2.1.1, d12.2.1.2.1, d12.2.1.2.2.1, d12.2.1.2.2.2] (Int.toNat (IntKind.u8.wrap (Int.tdiv d2 (64 : Int)))) (0 : Int)) (2 ^ (min (Int.toNat (Int.tmod d2 (64 : Int))) IntKind.u64.bits))) &&& BitVec.ofInt IntKind.u64.bits (1 : Int)) : Nat) : Int)) == (1 : Int)) false) = true → Fn P "(*mergelens/search.machine).add" S_search_machine_add (d7.2, (d12.2.2.1, (List.getD x.2.2.2.1 (Int.toNat d7.1) ((0 : Int), (0 : Int))).2)) (fun (d15 : Unit) (e16 : search_machine) => J13 e16)) ∧ ((cond (d12.1 == (0 : Int)) ((IntKind.u64.wrap ((BitVec.toNat (BitVec.ofInt IntKind.u64.bits (Int.fdiv (List.getD [d12.2.1.1, d12.2.1.2.1, d12.2.1.2.2.1, d12.2.1.2.2.2] (Int.toNat (IntKind.u8.wrap (Int.tdiv d2 (64 : Int)))) (0 : Int)) (2 ^ (min (Int.toNat (Int.tmod d2 (64 : Int))) IntKind.u64.bits))) &&& BitVec.ofInt IntKind.u64.bits (1 : Int)) : Nat) : Int)) == (1 : Int)) false) = false → J13 d7.2))) (fun (d14 : search_machine) => J9 d14))) (fun (d10 : search_machine) => J8 ((IntKind.i64.wrap (d7.1 + (1 : Int))), d10))) ∧ ((decide (d7.1 < ((List.length x.2.2.2.1 : Nat) : Int))) = false → J5 d7.2)))) (fun (d6 : search_machine) => K () d6)))
theorem fn_search_machine_read {P : Program} (h : Has P F_search_machine_read) {x : DP S_search_machine_read.ps} {K : DP S_search_machine_read.rs → DP (ptrs S_search_machine_read.ps) → Prop} (hw : W_search_machine_read P x K) : Fn P "(*mergelens/search.machine).read" S_search_machine_read x K :=
  fn_of (c := t_search_machine_read) h rfl rfl (by kernel_rfl) (Eq.mpr (show liftT P F_search_machine_read S_search_machine_read t_search_machine_read x K = W_search_machine_read P x K by kernel_rfl) hw)

def t_search_machine_accepted : TCode :=
 (.seq (.region [ia 2 (kI 0)]) (.seq (.seq (.region [im 5 0, o1 6 (.nilc 5), fa 7 4 6, ld 8 7, o1 9 (.lenK 8), o1 10 (.mv (kI 0))]) (.frame (rg [2, 4] 10 18) [1004] false (.join
 [.si 2] (.block 0 (.loop [.si 2, .si 10] (.seq (.region [o1 11 (.bin .lss 10 9)]) (.seq (.cond 11 .skip (.exit 0)) (.seq (.frame (rg [2, 4] 12 15) [1004] false (.join [.si 2]
 (.block 1 (.seq (.region [o1 12 (.ixA 2 8 10), o1 13 (.load true 2 12), o1 4 (.alloc [(.int .i64 0), (.int .i64 0)]), o0 ⟨none, .store 2 4 13, none⟩]) (.seq (.draw [(.first (im 14
 0) (.first (o1 15 (.nilc 14)) (.first (fa 16 0 15) (.first (fa 17 0 16) (.first (ld 18 17) (.first (fa 19 0 4) (.first (ld 20 19) (.first (o1 21 (.ixA 7 18 20)) (.first (fa 22 0
 21) (.first (ld 23 22) (.first (o1 24 (.bin .eql 23 (kI 4))) .done)))))))))))]) (.cond 24 (.seq (.region [fa 25 1 4, ld 26 25, ia 2 26]) .ret) .skip)))))) (.region [o1 27 (.bin
 .add 10 (kI 1)), im 10 27]))))))))) (.seq (.region [ia 2 (kI (-1))]) .ret)))
def F_search_machine_accepted : AFn := ⟨ "(*mergelens/search.machine).accepted", t_search_machine_accepted.erase, [.tmp 2], 1⟩
def W_search_machine_accepted (P : Program) (x : search_machine) (K : Int → search_machine → Prop) : Prop :=
 JoinW (D := Int) (fun J1 => LoopW (D := (Int × Int)) ((0 : Int), (0 : Int)) (fun (d3 : (Int × Int)) J4 => (((decide (d3.2 < ((List.length x.2.2.2.1 : Nat) : Int))) = true → JoinW (D := Int) (fun J5 => (0 ≤ d3.2 ∧ d3.2 < ((List.length x.2.2.2.1 : Nat) : Int)) ∧
 ((Int.toNat d3.2) < List.length x.2.2.2.1) ∧
 (0 ≤ (List.getD x.2.2.2.1 (Int.toNat d3.2) ((0 : Int), (0 : Int))).1 ∧ (List.getD x.2.2.2.1 (Int.toNat d3.2) ((0 : Int), (0 : Int))).1 < ((List.length x.1.1 : Nat) : Int)) ∧
 ((Int.toNat (List.getD x.2.2.2.1 (Int.toNat d3.2) ((0 : Int), (0 : Int))).1) < List.length x.1.1) ∧
 ((((List.getD x.1.1 (Int.toNat (List.getD x.2.2.2.1 (Int.toNat d3.2) ((0 : Int), (0 : Int))).1) zState).1 == (4 : Int)) = true → K (List.getD x.2.2.2.1 (Int.toNat d3.2) ((0 : Int), (0 : Int))).2 x) ∧ (((List.getD x.1.1 (Int.toNat (List.getD x.2.2.2.1 (Int.toNat d3.2) ((0 : Int), (0 : Int))).1) zState).1 == (4 : Int)) = false → J5 d3.1))) (fun (d6 : Int) => J4 (d6, (IntKind.i64.wrap (d3.2 + (1 : Int)))))) ∧ ((decide (d3.2 < ((List.length x.2.2.2.1 : Nat) : Int))) = false → J1 d3.1)))) (fun (d2 : Int) => K (-1 : Int) x)
theorem fn_search_machine_accepted {P : Program} (h : Has P F_search_machine_accepted) {x : DP S_search_machine_accepted.ps} {K : DP S_search_machine_accepted.rs → DP (ptrs S_search_machine_accepted.ps) → Prop} (hw : W_search_machine_accepted P x K) : Fn P "(*mergelens/search.machine).accepted" S_search_machine_accepted x K :=
  fn_of (c := t_search_machine_accepted) h rfl rfl (by kernel_rfl) (Eq.mpr (show liftT P F_search_machine_accepted S_search_machine_accepted t_search_machine_accepted x K = W_search_machine_accepted P x K by kernel_rfl) hw)

def t_search_machine_keep : TCode :=
 (.seq (.region [im 6 0, o1 7 (.nilc 6), fa 8 4 7, ld 9 8, o1 10 (.lenK 9), o1 11 (.mv (kI 0))]) (.frame (rg [4, 5, 9] 11 19) [0, 1005] true (.join [.bx 0 bsearch_machine (.pair
 (.pair tM .leaf) (.pair .leaf (.pair .leaf (.pair tO tO))))] (.block 0 (.loop [.rf 9 ⟨.obj 0 4, []⟩ .leaf (.pair bI bI), .si 11, .bx 0 bsearch_machine (.pair (.pair tM .leaf)
 (.pair .leaf (.pair .leaf (.pair tO tO))))] (.seq (.region [o1 12 (.bin .lss 11 10)]) (.seq (.cond 12 .skip (.exit 0)) (.seq (.frame (rg [4, 5, 9] 13 16) [0, 1005] true (.join [.rf
 9 ⟨.obj 0 4, []⟩ .leaf (.pair bI bI), .bx 0 bsearch_machine (.pair (.pair tM .leaf) (.pair .leaf (.pair .leaf (.pair tO tO))))] (.block 1 (.seq (.region [im 13 11, o1 14 (.ixA 2 9
 11), o1 15 (.load true 2 14), o1 5 (.alloc [(.int .i64 0), (.int .i64 0)]), ia 4 13, o0 ⟨none, .store 2 5 15, none⟩]) (.seq (.region [fa 16 1 5, ld 17 16, im 18 1, o1 19 (.bin .gtr
 17 18)]) (.cond 19 (.seq (.region [im 20 0, im 21 0, o1 22 (.nilc 21), fa 23 4 22, ld 24 23, im 25 4, o1 26 (.slK 2 24 none (some 25)), o1 27 (.nilc 20), fa 28 4 27, o0 ⟨none,
 .store 1 28 26, none⟩]) .ret) .skip)))))) (.region [o1 29 (.bin .add 11 (kI 1)), im 11 29])))))))))
def F_search_machine_keep : AFn := ⟨ "(*mergelens/search.machine).keep", t_search_machine_keep.erase, [], 2⟩
def W_search_machine_keep (P : Program) (x : (search_machine × Int)) (K : Unit → search_machine → Prop) : Prop :=
 JoinW (D := search_machine) (fun J1 => LoopW (D := (Int × (Int × search_machine))) (((List.length x.1.2.2.2.1 : Nat) : Int), ((0 : Int), x.1)) (fun (d3 : (Int × (Int × search_machine))) J4 => (((decide (d3.2.1 < ((List.length x.1.2.2.2.1 : Nat) : Int))) = true → JoinW (D := (Int × search_machine)) (fun J5 => (0 ≤ d3.2.1 ∧ d3.2.1 < (((Int.toNat d3.1) : Nat) : Int)) ∧
 ((0 + Int.toNat d3.2.1) < List.length d3.2.2.2.2.2.1) ∧
 (((decide ((List.getD d3.2.2.2.2.2.1 (0 + Int.toNat d3.2.1) ((0 : Int), (0 : Int))).2 > x.2)) = true → (0 ≤ d3.2.1 ∧ d3.2.1 ≤ ((List.length d3.2.2.2.2.2.1 : Nat) : Int)) ∧
 (0 + (Int.toNat d3.2.1) ≤ List.length d3.2.2.2.2.2.1) ∧
 K () (d3.2.2.1, (d3.2.2.2.1, (d3.2.2.2.2.1, ((List.take (Int.toNat d3.2.1) (List.drop 0 d3.2.2.2.2.2.1)), d3.2.2.2.2.2.2))))) ∧ ((decide ((List.getD d3.2.2.2.2.2.1 (0 + Int.toNat d3.2.1) ((0 : Int), (0 : Int))).2 > x.2)) = false → J5 ((((Int.toNat d3.1) : Nat) : Int), d3.2.2)))) (fun (d6 : (Int × search_machine)) => J4 ((((Int.toNat d6.1) : Nat) : Int), ((IntKind.i64.wrap (d3.2.1 + (1 : Int))), d6.2)))) ∧ ((decide (d3.2.1 < ((List.length x.1.2.2.2.1 : Nat) : Int))) = false → J1 d3.2.2)))) (fun (d2 : search_machine) => K () d2)
theorem fn_search_machine_keep {P : Program} (h : Has P F_search_machine_keep) {x : DP S_search_machine_keep.ps} {K : DP S_search_machine_keep.rs → DP (ptrs S_search_machine_keep.ps) → Prop} (hw : W_search_machine_keep P x K) : Fn P "(*mergelens/search.machine).keep" S_search_machine_keep x K :=
  fn_of (c := t_search_machine_keep) h rfl rfl (by kernel_rfl) (Eq.mpr (show liftT P F_search_machine_keep S_search_machine_keep t_search_machine_keep x K = W_search_machine_keep P x K by kernel_rfl) hw)

def t_search_find : TCode :=
 (.seq (.region [o1 3 (.box 0), o1 6 (.alloc [(.int .i64 0), (.int .i64 0)]), o1 7 (.asg kF)]) (.seq (.region [o1 12 (.load true 2 3), im 13 1, im 14 2, oS ⟨some 15, .call
 "mergelens/search.start" [12, 13, 14], none⟩ S_search_start, ia 8 15]) (.seq (.region [o1 9 (.alloc [(.int .i64 0), (.int .i64 0)])]) (.seq (.region [o1 10 (.asg kF)]) (.frame (rg
 [7, 10, 11] 16 46) [1006, 1009, 1015] true (.block 0 (.loop [.sl 7 false .bool .leaf, .sl 10 false .bool .leaf, .bx 1006 (.pair bI bI) .leaf, .bx 1009 (.pair bI bI) .leaf, .bx 1015
 bsearch_machine (.pair (.pair tM .leaf) (.pair .leaf (.pair .leaf (.pair tO tO))))] (.frame (rg [7, 10, 11] 16 46) [1006, 1009, 1015] true (.join [.sl 7 false .bool .leaf, .sl 10
 false .bool .leaf, .bx 1006 (.pair bI bI) .leaf, .bx 1009 (.pair bI bI) .leaf, .bx 1015 bsearch_machine (.pair (.pair tM .leaf) (.pair .leaf (.pair .leaf (.pair tO tO))))] (.block
 1 (.seq (.seq (.region [im 16 10, o1 17 (.un .not 16)]) (.frame (rg [] 18 9) [1015] true (.join [.bx 1015 bsearch_machine (.pair (.pair tM .leaf) (.pair .leaf (.pair .leaf (.pair
 tO tO))))] (.cond 17 (.frame (rg [] 18 9) [1015] true (.join [.bx 1015 bsearch_machine (.pair (.pair tM .leaf) (.pair .leaf (.pair .leaf (.pair tO tO))))] (.draw [(.first (im 18 8)
 (.first (fa 19 1 3) (.first (ld 20 19) (.first (im 21 8) (.first (o1 22 (.nilc 21)) (.first (fa 23 3 22) (.first (ld 24 23) (.first (o1 25 (.build [(.int .i64 0), (.int .i64 0)]
 [(0, 1, 20), (1, 1, 24)])) (.alt (oS ⟨some 26, .call "(*mergelens/search.machine).add" [18, 25], none⟩ S_search_machine_add) .done .stop)))))))))]))) .skip)))) (.seq (.seq (.region
 [im 27 8, oS ⟨some 28, .call "(*mergelens/search.machine).accepted" [27], none⟩ S_search_machine_accepted, ia 11 28]) (.seq (.region [im 29 11, o1 30 (.bin .geq 29 (kI 0))])
 (.frame (rg [10] 31 9) [1009, 1015] true (.join [.sl 10 false .bool .leaf, .bx 1009 (.pair bI bI) .leaf, .bx 1015 bsearch_machine (.pair (.pair tM .leaf) (.pair .leaf (.pair .leaf
 (.pair tO tO))))] (.cond 30 (.seq (.region [im 31 11, im 32 8, o1 33 (.nilc 32), fa 34 3 33, ld 35 34, o1 36 (.build [(.int .i64 0), (.int .i64 0)] [(0, 1, 31), (1, 1, 35)]), o0
 ⟨none, .store 2 9 36, none⟩, o1 10 (.asg kT)]) (.region [im 37 8, im 38 11, oS ⟨some 39, .call "(*mergelens/search.machine).keep" [37, 38], none⟩ S_search_machine_keep]))
 .skip))))) (.seq (.seq (.region [im 40 8, o1 41 (.nilc 40), fa 42 3 41, ld 43 42, im 44 1, o1 45 (.lenS 44), o1 46 (.bin .eql 43 45), im 47 46, gf 48 47 (.mv 10), gf 49 47 (.mv
 48), gt 50 49 (.mv 8), gt 51 49 (.nilc 50), gt 52 49 (.fAddr 4 51), gt 53 49 (.load false 1 52), gt 54 49 (.lenK 53), gt 55 49 (.bin .eql 54 (kI 0)), gf 56 47 (.pick 49 55 kF), o1
 57 (.pick 47 kT 56)]) (.cond 57 (.seq (.region [o1 58 (.load true 2 9), im 59 10, o0 ⟨none, .store 2 6 58, none⟩, ia 7 59]) .ret) .skip)) (.region [im 60 8, oS ⟨some 61, .call
 "(*mergelens/search.machine).read" [60], none⟩ S_search_machine_read]))))))))))))))
def F_search_find : AFn := ⟨ "mergelens/search.find", t_search_find.erase, [.cell 6 true 2, .tmp 7], 3⟩
def W_search_find (P : Program) (x : (((List State) × Int) × ((List UInt8) × Int))) (K : ((Int × Int) × Bool) → Unit → Prop) : Prop :=
 Fn P "mergelens/search.start" S_search_start x (fun (d1 : search_machine) (e2 : Unit) => LoopW (D := (Bool × (Bool × ((Int × Int) × ((Int × Int) × search_machine))))) (false, (false, (((0 : Int), (0 : Int)), (((0 : Int), (0 : Int)), d1)))) (fun (d3 : (Bool × (Bool × ((Int × Int) × ((Int × Int) × search_machine))))) J4 => JoinW (D := (Bool × (Bool × ((Int × Int) × ((Int × Int) × search_machine))))) (fun J5 => JoinW (D := search_machine) (fun J7 => (((!d3.2.1) = true → JoinW (D := search_machine) (fun J9 => (Fn P "(*mergelens/search.machine).add" S_search_machine_add (d3.2.2.2.2, (x.1.2, d3.2.2.2.2.2.2.1)) (fun (d11 : Unit) (e12 : search_machine) => J9 e12)) ∧ (True)) (fun (d10 : search_machine) => J7 d10)) ∧ ((!d3.2.1) = false → J7 d3.2.2.2.2))) (fun (d8 : search_machine) => Fn P "(*mergelens/search.machine).accepted" S_search_machine_accepted d8 (fun (d13 : Int) (e14 : search_machine) => JoinW (D := (Bool × ((Int × Int) × search_machine))) (fun J15 => (((decide (d13 ≥ (0 : Int))) = true → Fn P "(*mergelens/search.machine).keep" S_search_machine_keep (e14, d13) (fun (d17 : Unit) (e18 : search_machine) => J15 (true, ((d13, e14.2.2.1), e18)))) ∧ ((decide (d13 ≥ (0 : Int))) = false → J15 (d3.2.1, (d3.2.2.2.1, e14))))) (fun (d16 : (Bool × ((Int × Int) × search_machine))) => (((cond (d16.2.2.2.2.1 == ((List.length x.2.1 : Nat) : Int)) true (cond d16.1 (((List.length d16.2.2.2.2.2.1 : Nat) : Int) == (0 : Int)) false)) = true → K (d16.2.1, d16.1) ()) ∧ ((cond (d16.2.2.2.2.1 == ((List.length x.2.1 : Nat) : Int)) true (cond d16.1 (((List.length d16.2.2.2.2.2.1 : Nat) : Int) == (0 : Int)) false)) = false → Fn P "(*mergelens/search.machine).read" S_search_machine_read d16.2.2 (fun (d19 : Unit) (e20 : search_machine) => J5 (d3.1, (d16.1, (d3.2.2.1, (d16.2.1, e20))))))))))) (fun (d6 : (Bool × (Bool × ((Int × Int) × ((Int × Int) × search_machine))))) => J4 d6)))
theorem fn_search_find {P : Program} (h : Has P F_search_find) {x : DP S_search_find.ps} {K : DP S_search_find.rs → DP (ptrs S_search_find.ps) → Prop} (hw : W_search_find P x K) : Fn P "mergelens/search.find" S_search_find x K :=
  fn_of (c := t_search_find) h rfl rfl (by kernel_rfl) (Eq.mpr (show liftT P F_search_find S_search_find t_search_find x K = W_search_find P x K by kernel_rfl) hw)

def t_search_All : TCode :=
 (.seq (.region [o1 2 (.box 0), o1 4 (.asg (.c (.slice none 0 0))), ia 5 (kI 0)]) (.seq (.seq (.region [o1 11 (.load true 2 2), oS ⟨some 12, .call "mergelens/automaton.Check" [11],
 none⟩ S_automaton_Check, ia 6 12]) (.seq (.region [im 13 6, o1 14 (.bin .neq 13 (kI 0))]) (.cond 14 (.seq (.region [im 15 6, o1 4 (.asg (.c (.slice none 0 0))), ia 5 15]) .ret)
 .skip))) (.seq (.region [o1 7 (.asg (.c (.slice none 0 0)))]) (.seq (.seq (.region [ia 8 (kI 0)]) (.frame (rg [7, 8, 9, 10] 16 23) [1009] false (.join [.sl 7 false (.sl (.pair bI
 bI)) tO] (.block 0 (.loop [.sl 7 false (.sl (.pair bI bI)) tO, .si 8] (.seq (.seq (.region [im 16 8, im 17 1, o1 18 (.lenS 17), o1 19 (.bin .leq 16 18)]) (.cond 19 .skip (.exit
 0))) (.frame (rg [7, 8, 9, 10] 20 19) [1009] false (.join [.sl 7 false (.sl (.pair bI bI)) tO, .si 8] (.block 1 (.seq (.region [o1 21 (.load true 2 2), im 22 1, im 23 8, oS ⟨some
 24, .call "mergelens/search.find" [21, 22, 23], none⟩ S_search_find, im 20 24, o1 25 (.ext 20 0), o1 26 (.ext 20 1), o1 9 (.alloc [(.int .i64 0), (.int .i64 0)]), o0 ⟨none, .store
 2 9 25, none⟩, ia 10 26]) (.seq (.seq (.region [im 27 10, o1 28 (.un .not 27)]) (.cond 28 (.exit 0) .skip)) (.seq (.region [im 29 7, o1 30 (.load true 2 9), oT ⟨some 31, .buildSl 2
 [(.int .i64 0), (.int .i64 0)] 1 [(0, 30)], none⟩ (some ((.pair bI bI), .leaf)), oT ⟨some 32, .app 2 16 29 31, none⟩ (some ((.pair bI bI), .leaf)), ia 7 32]) (.region [fa 33 1 9,
 ld 34 33, fa 35 0 9, ld 36 35, o1 37 (.bin .add 36 (kI 1)), o1 38 (.mm true 34 37), ia 8 38]))))))))))))) (.seq (.region [im 39 7, ia 4 39, ia 5 (kI 0)]) .ret)))))
def F_search_All : AFn := ⟨ "mergelens/search.All", t_search_All.erase, [.tmp 4, .tmp 5], 2⟩
def W_search_All (P : Program) (x : (((List State) × Int) × (List UInt8))) (K : ((List (Int × Int)) × Int) → Unit → Prop) : Prop :=
 Fn P "mergelens/automaton.Check" S_automaton_Check x.1 (fun (d1 : Int) (e2 : Unit) => (((d1 != (0 : Int)) = true → K ([], d1) ()) ∧ ((d1 != (0 : Int)) = false → JoinW (D := (List (Int × Int))) (fun J3 => LoopW (D := ((List (Int × Int)) × Int)) ([], (0 : Int)) (fun (d5 : ((List (Int × Int)) × Int)) J6 => (((decide (d5.2 ≤ ((List.length x.2 : Nat) : Int))) = true → JoinW (D := ((List (Int × Int)) × Int)) (fun J7 => Fn P "mergelens/search.find" S_search_find (x.1, (x.2, d5.2)) (fun (d9 : ((Int × Int) × Bool)) (e10 : Unit) => (((!d9.2) = true → J3 d5.1) ∧ ((!d9.2) = false → ((List.length d5.1 + List.length ([d9.1] : List (Int × Int))) * 16 ≤ 140737488355328) ∧
 J7 ((d5.1 ++ ([d9.1] : List (Int × Int))), (if (IntKind.i64.wrap (d9.1.1 + (1 : Int))) > d9.1.2 then (IntKind.i64.wrap (d9.1.1 + (1 : Int))) else d9.1.2)))))) (fun (d8 : ((List (Int × Int)) × Int)) => J6 d8)) ∧ ((decide (d5.2 ≤ ((List.length x.2 : Nat) : Int))) = false → J3 d5.1)))) (fun (d4 : (List (Int × Int))) => K (d4, (0 : Int)) ()))))
theorem fn_search_All {P : Program} (h : Has P F_search_All) {x : DP S_search_All.ps} {K : DP S_search_All.rs → DP (ptrs S_search_All.ps) → Prop} (hw : W_search_All P x K) : Fn P "mergelens/search.All" S_search_All x K :=
  fn_of (c := t_search_All) h rfl rfl (by kernel_rfl) (Eq.mpr (show liftT P F_search_All S_search_All t_search_All x K = W_search_All P x K by kernel_rfl) hw)

def t_gen_Spans : TCode :=
 (.seq (.region [o1 4 (.asg kF)]) (.seq (.seq (.region [im 6 0, o1 7 (.lenK 6), im 8 1, o1 9 (.lenK 8), o1 10 (.bin .neq 7 9)]) (.cond 10 (.seq (.region [o1 4 (.asg kF)]) .ret)
 .skip)) (.seq (.seq (.region [ia 5 (kI 0)]) (.frame (rg [4, 5] 11 15) [] false (.join [.sl 4 false .bool .leaf] (.block 0 (.loop [.sl 4 false .bool .leaf, .si 5] (.seq (.seq
 (.region [im 11 5, im 12 0, o1 13 (.lenK 12), o1 14 (.bin .lss 11 13)]) (.cond 14 .skip (.exit 0))) (.seq (.frame (rg [4] 17 9) [] false (.join [.sl 4 false .bool .leaf] (.block 1
 (.seq (.draw [(.first (im 17 0) (.first (im 18 5) (.first (o1 19 (.ixA 2 17 18)) (.first (o1 20 (.load true 2 19)) (.first (im 21 1) (.first (im 22 5) (.first (o1 23 (.ixA 2 21
 22)) (.first (o1 24 (.load true 2 23)) (.first (o1 25 (.eqA true [.int, .int] 20 24)) .done)))))))))]) (.cond 25 (.seq (.region [o1 4 (.asg kF)]) .ret) .skip))))) (.region [im 15
 5, o1 16 (.bin .add 15 (kI 1)), ia 5 16])))))))) (.seq (.region [o1 4 (.asg kT)]) .ret))))
def F_gen_Spans : AFn := ⟨ "mergelens/mergelensgen.Spans", t_gen_Spans.erase, [.tmp 4], 2⟩
def W_gen_Spans (P : Program) (x : ((List (Int × Int)) × (List (Int × Int)))) (K : Bool → Unit → Prop) : Prop :=
 (((((List.length x.1 : Nat) : Int) != ((List.length x.2 : Nat) : Int)) = true → K false ()) ∧ ((((List.length x.1 : Nat) : Int) != ((List.length x.2 : Nat) : Int)) = false → JoinW (D := Bool) (fun J1 => LoopW (D := (Bool × Int)) (false, (0 : Int)) (fun (d3 : (Bool × Int)) J4 => (((decide (d3.2 < ((List.length x.1 : Nat) : Int))) = true → JoinW (D := Bool) (fun J5 => (0 ≤ d3.2 ∧ d3.2 < ((List.length x.1 : Nat) : Int)) ∧
 ((Int.toNat d3.2) < List.length x.1) ∧
 (0 ≤ d3.2 ∧ d3.2 < ((List.length x.2 : Nat) : Int)) ∧
 ((Int.toNat d3.2) < List.length x.2) ∧
 (((!(((List.getD x.1 (Int.toNat d3.2) ((0 : Int), (0 : Int))).1 == (List.getD x.2 (Int.toNat d3.2) ((0 : Int), (0 : Int))).1) && (((List.getD x.1 (Int.toNat d3.2) ((0 : Int), (0 : Int))).2 == (List.getD x.2 (Int.toNat d3.2) ((0 : Int), (0 : Int))).2) && true))) = true → K false ()) ∧ ((!(((List.getD x.1 (Int.toNat d3.2) ((0 : Int), (0 : Int))).1 == (List.getD x.2 (Int.toNat d3.2) ((0 : Int), (0 : Int))).1) && (((List.getD x.1 (Int.toNat d3.2) ((0 : Int), (0 : Int))).2 == (List.getD x.2 (Int.toNat d3.2) ((0 : Int), (0 : Int))).2) && true))) = false → J5 d3.1))) (fun (d6 : Bool) => J4 (d6, (IntKind.i64.wrap (d3.2 + (1 : Int)))))) ∧ ((decide (d3.2 < ((List.length x.1 : Nat) : Int))) = false → J1 d3.1)))) (fun (d2 : Bool) => K true ())))
theorem fn_gen_Spans {P : Program} (h : Has P F_gen_Spans) {x : DP S_gen_Spans.ps} {K : DP S_gen_Spans.rs → DP (ptrs S_gen_Spans.ps) → Prop} (hw : W_gen_Spans P x K) : Fn P "mergelens/mergelensgen.Spans" S_gen_Spans x K :=
  fn_of (c := t_gen_Spans) h rfl rfl (by kernel_rfl) (Eq.mpr (show liftT P F_gen_Spans S_gen_Spans t_gen_Spans x K = W_gen_Spans P x K by kernel_rfl) hw)

def t_search_Whole : TCode :=
 (.seq (.region [o1 2 (.box 0), o1 4 (.asg kF), ia 5 (kI 0)]) (.seq (.seq (.region [o1 8 (.load true 2 2), oS ⟨some 9, .call "mergelens/automaton.Check" [8], none⟩
 S_automaton_Check, ia 6 9]) (.seq (.region [im 10 6, o1 11 (.bin .neq 10 (kI 0))]) (.cond 11 (.seq (.region [im 12 6, o1 4 (.asg kF), ia 5 12]) .ret) .skip))) (.seq (.region [o1 13
 (.load true 2 2), im 14 1, oS ⟨some 15, .call "mergelens/search.start" [13, 14, (kI 0)], none⟩ S_search_start, ia 7 15]) (.seq (.region [im 16 7, fa 17 1 2, ld 18 17, o1 19 (.build
 [(.int .i64 0), (.int .i64 0)] [(0, 1, 18), (1, 1, (kI 0))]), oS ⟨some 20, .call "(*mergelens/search.machine).add" [16, 19], none⟩ S_search_machine_add]) (.seq (.frame (rg [] 21
 17) [1015] true (.join [.bx 1015 bsearch_machine (.pair (.pair tM .leaf) (.pair .leaf (.pair .leaf (.pair tO tO))))] (.block 0 (.loop [.bx 1015 bsearch_machine (.pair (.pair tM
 .leaf) (.pair .leaf (.pair .leaf (.pair tO tO))))] (.seq (.seq (.region [im 21 7, o1 22 (.nilc 21), fa 23 3 22, ld 24 23, im 25 1, o1 26 (.lenS 25), o1 27 (.bin .lss 24 26), im 28
 27, gt 29 28 (.mv 7), gt 30 28 (.nilc 29), gt 31 28 (.fAddr 4 30), gt 32 28 (.load false 1 31), gt 33 28 (.lenK 32), gt 34 28 (.bin .gtr 33 (kI 0)), o1 35 (.pick 28 34 kF)]) (.cond
 35 .skip (.exit 0))) (.frame [36, 37] [1015] true (.join [.bx 1015 bsearch_machine (.pair (.pair tM .leaf) (.pair .leaf (.pair .leaf (.pair tO tO))))] (.block 1 (.region [im 36 7,
 oS ⟨some 37, .call "(*mergelens/search.machine).read" [36], none⟩ S_search_machine_read]))))))))) (.seq (.region [im 38 7, oS ⟨some 39, .call "(*mergelens/search.machine).accepted"
 [38], none⟩ S_search_machine_accepted, o1 40 (.bin .geq 39 (kI 0)), ia 4 40, ia 5 (kI 0)]) .ret))))))
def F_search_Whole : AFn := ⟨ "mergelens/search.Whole", t_search_Whole.erase, [.tmp 4, .tmp 5], 2⟩
def W_search_Whole (P : Program) (x : (((List State) × Int) × (List UInt8))) (K : (Bool × Int) → Unit → Prop) : Prop :=
 Fn P "mergelens/automaton.Check" S_automaton_Check x.1 (fun (d1 : Int) (e2 : Unit) => (((d1 != (0 : Int)) = true → K (false, d1) ()) ∧ ((d1 != (0 : Int)) = false → Fn P "mergelens/search.start" S_search_start (x.1, (x.2, (0 : Int))) (fun (d3 : search_machine) (e4 : Unit) => Fn P "(*mergelens/search.machine).add" S_search_machine_add (d3, (x.1.2, (0 : Int))) (fun (d5 : Unit) (e6 : search_machine) => JoinW (D := search_machine) (fun J7 => LoopW (D := search_machine) e6 (fun (d9 : search_machine) J10 => (((cond (decide (d9.2.2.1 < ((List.length x.2 : Nat) : Int))) (decide (((List.length d9.2.2.2.1 : Nat) : Int) > (0 : Int))) false) = true → JoinW (D := search_machine) (fun J11 => Fn P "(*mergelens/search.machine).read" S_search_machine_read d9 (fun (d13 : Unit) (e14 : search_machine) => J11 e14)) (fun (d12 : search_machine) => J10 d12)) ∧ ((cond (decide (d9.2.2.1 < ((List.length x.2 : Nat) : Int))) (decide (((List.length d9.2.2.2.1 : Nat) : Int) > (0 : Int))) false) = false → J7 d9)))) (fun (d8 : search_machine) => Fn P "(*mergelens/search.machine).accepted" S_search_machine_accepted d8 (fun (d15 : Int) (e16 : search_machine) => K ((decide (d15 ≥ (0 : Int))), (0 : Int)) ())))))))
theorem fn_search_Whole {P : Program} (h : Has P F_search_Whole) {x : DP S_search_Whole.ps} {K : DP S_search_Whole.rs → DP (ptrs S_search_Whole.ps) → Prop} (hw : W_search_Whole P x K) : Fn P "mergelens/search.Whole" S_search_Whole x K :=
  fn_of (c := t_search_Whole) h rfl rfl (by kernel_rfl) (Eq.mpr (show liftT P F_search_Whole S_search_Whole t_search_Whole x K = W_search_Whole P x K by kernel_rfl) hw)

def t_ref04_Put : TCode :=
 (.seq (.region [o1 2 (.box 0), o1 4 (.alloc [(.int .u64 0), (.int .u64 0), (.int .u64 0), (.int .u64 0)])]) (.seq (.region [im 5 1, o1 6 (.bin .quo 5 (.c (.int .u8 64))), im 7 1,
 o1 8 (.bin .quo 7 (.c (.int .u8 64))), o1 9 (.ixAr 4 1 2 8), ld 10 9, im 11 1, o1 12 (.bin .rem 11 (.c (.int .u8 64))), o1 13 (.bin .shl (.c (.int .u64 1)) 12), o1 14 (.bin .or 10
 13), o1 15 (.ixAr 4 1 2 6), o0 ⟨none, .store 1 15 14, none⟩]) (.seq (.region [o1 16 (.load true 4 2), o0 ⟨none, .store 4 4 16, none⟩]) .ret)))
def F_ref04_Put : AFn := ⟨ "mergelens/mergelensref04.Put", t_ref04_Put.erase, [.cell 4 true 4], 2⟩
def W_ref04_Put (P : Program) (x : ((Int × (Int × (Int × Int))) × Int)) (K : (Int × (Int × (Int × Int))) → Unit → Prop) : Prop :=
 ((64 : Int) ≠ 0) ∧
 ((64 : Int) ≠ 0) ∧
 (0 ≤ (IntKind.u8.wrap (Int.tdiv x.2 (64 : Int))) ∧ (IntKind.u8.wrap (Int.tdiv x.2 (64 : Int))) < ((4 : Nat) : Int)) ∧
 ((Int.toNat (IntKind.u8.wrap (Int.tdiv x.2 (64 : Int)))) < 4) ∧
 ((64 : Int) ≠ 0) ∧
 (0 ≤ (Int.tmod x.2 (64 : Int))) ∧
 (0 ≤ (IntKind.u8.wrap (Int.tdiv x.2 (64 : Int))) ∧ (IntKind.u8.wrap (Int.tdiv x.2 (64 : Int))) < ((4 : Nat) : Int)) ∧
 ((Int.toNat (IntKind.u8.wrap (Int.tdiv x.2 (64 : Int)))) < 4) ∧
 K ((if (Int.toNat (IntKind.u8.wrap (Int.tdiv x.2 (64 : Int)))) = 0 then (IntKind.u64.wrap ((BitVec.toNat (BitVec.ofInt IntKind.u64.bits (List.getD [x.1.1, x.1.2.1, x.1.2.2.1, x.1.2.2.2] (Int.toNat (IntKind.u8.wrap (Int.tdiv x.2 (64 : Int)))) (0 : Int)) ||| BitVec.ofInt IntKind.u64.bits (IntKind.u64.wrap ((1 : Int) * 2 ^ (min (Int.toNat (Int.tmod x.2 (64 : Int))) IntKind.u64.bits)))) : Nat) : Int)) else x.1.1), ((if (Int.toNat (IntKind.u8.wrap (Int.tdiv x.2 (64 : Int)))) = 1 then (IntKind.u64.wrap ((BitVec.toNat (BitVec.ofInt IntKind.u64.bits (List.getD [x.1.1, x.1.2.1, x.1.2.2.1, x.1.2.2.2] (Int.toNat (IntKind.u8.wrap (Int.tdiv x.2 (64 : Int)))) (0 : Int)) ||| BitVec.ofInt IntKind.u64.bits (IntKind.u64.wrap ((1 : Int) * 2 ^ (min (Int.toNat (Int.tmod x.2 (64 : Int))) IntKind.u64.bits)))) : Nat) : Int)) else x.1.2.1), ((if (Int.toNat (IntKind.u8.wrap (Int.tdiv x.2 (64 : Int)))) = 2 then (IntKind.u64.wrap ((BitVec.toNat (BitVec.ofInt IntKind.u64.bits (List.getD [x.1.1, x.1.2.1, x.1.2.2.1, x.1.2.2.2] (Int.toNat (IntKind.u8.wrap (Int.tdiv x.2 (64 : Int)))) (0 : Int)) ||| BitVec.ofInt IntKind.u64.bits (IntKind.u64.wrap ((1 : Int) * 2 ^ (min (Int.toNat (Int.tmod x.2 (64 : Int))) IntKind.u64.bits)))) : Nat) : Int)) else x.1.2.2.1), (if (Int.toNat (IntKind.u8.wrap (Int.tdiv x.2 (64 : Int)))) = 3 then (IntKind.u64.wrap ((BitVec.toNat (BitVec.ofInt IntKind.u64.bits (List.getD [x.1.1, x.1.2.1, x.1.2.2.1, x.1.2.2.2] (Int.toNat (IntKind.u8.wrap (Int.tdiv x.2 (64 : Int)))) (0 : Int)) ||| BitVec.ofInt IntKind.u64.bits (IntKind.u64.wrap ((1 : Int) * 2 ^ (min (Int.toNat (Int.tmod x.2 (64 : Int))) IntKind.u64.bits)))) : Nat) : Int)) else x.1.2.2.2)))) ()
theorem fn_ref04_Put {P : Program} (h : Has P F_ref04_Put) {x : DP S_ref04_Put.ps} {K : DP S_ref04_Put.rs → DP (ptrs S_ref04_Put.ps) → Prop} (hw : W_ref04_Put P x K) : Fn P "mergelens/mergelensref04.Put" S_ref04_Put x K :=
  fn_of (c := t_ref04_Put) h rfl rfl (by kernel_rfl) (Eq.mpr (show liftT P F_ref04_Put S_ref04_Put t_ref04_Put x K = W_ref04_Put P x K by kernel_rfl) hw)


def t_law06_star : TCode :=
 (.seq (.region [o1 0 (.alloc [(.slice none 0 0), (.int .i64 0)])]) (.seq (.region [o1 1 (.alloc [(.int .u64 0), (.int .u64 0), (.int .u64 0), (.int .u64 0)])]) (.seq (.region [o1 2
 (.build [(.int .i64 0), (.int .u64 0), (.int .u64 0), (.int .u64 0), (.int .u64 0), (.int .i64 0), (.int .i64 0)] [(0, 1, (kI 1)), (5, 1, (kI 1)), (6, 1, (kI 2))]), o1 3 (.load
 true 4 1), oS ⟨some 4, .call "mergelens/mergelensref04.Put" [3, (.c (.int .u8 97))], none⟩ S_ref04_Put, o1 5 (.build [(.int .i64 0), (.int .u64 0), (.int .u64 0), (.int .u64 0),
 (.int .u64 0), (.int .i64 0), (.int .i64 0)] [(0, 1, (kI 0)), (1, 4, 4), (5, 1, (kI 0))]), o1 6 (.build [(.int .i64 0), (.int .u64 0), (.int .u64 0), (.int .u64 0), (.int .u64 0),
 (.int .i64 0), (.int .i64 0)] [(0, 1, (kI 4))]), oT ⟨some 7, .buildSl 7 [(.int .i64 0), (.int .u64 0), (.int .u64 0), (.int .u64 0), (.int .u64 0), (.int .i64 0), (.int .i64 0)] 3
 [(0, 2), (1, 5), (2, 6)], none⟩ (some (bState, .leaf)), o1 8 (.build [(.slice none 0 0), (.int .i64 0)] [(0, 1, 7)]), o0 ⟨none, .store 2 0 8, none⟩]) .ret)))
def F_law06_star : AFn := ⟨ "mergelens/mergelenslaw06.star", t_law06_star.erase, [.cell 0 true 2], 0⟩
def W_law06_star (P : Program) (x : Unit) (K : ((List State) × Int) → Unit → Prop) : Prop :=
 Fn P "mergelens/mergelensref04.Put" S_ref04_Put (((0 : Int), ((0 : Int), ((0 : Int), (0 : Int)))), (97 : Int)) (fun (d1 : (Int × (Int × (Int × Int)))) (e2 : Unit) => K (([((1 : Int), (((0 : Int), ((0 : Int), ((0 : Int), (0 : Int)))), ((1 : Int), (2 : Int)))), ((0 : Int), (d1, ((0 : Int), (0 : Int)))), ((4 : Int), (((0 : Int), ((0 : Int), ((0 : Int), (0 : Int)))), ((0 : Int), (0 : Int))))] : List State), (0 : Int)) ())
theorem fn_law06_star {P : Program} (h : Has P F_law06_star) {x : DP S_law06_star.ps} {K : DP S_law06_star.rs → DP (ptrs S_law06_star.ps) → Prop} (hw : W_law06_star P x K) : Fn P "mergelens/mergelenslaw06.star" S_law06_star x K :=
  fn_of (c := t_law06_star) h rfl rfl (by kernel_rfl) (Eq.mpr (show liftT P F_law06_star S_law06_star t_law06_star x K = W_law06_star P x K by kernel_rfl) hw)

def t_law06_awake : TCode :=
 (.seq (.region [o1 0 (.asg kF)]) (.seq (.region [oS ⟨some 6, .call "mergelens/mergelenslaw06.star" [], none⟩ S_law06_star, oS ⟨some 7, .call "mergelens/search.All" [6, (.c (.string
 ⟨#[98, 97, 97]⟩))], none⟩ S_search_All, im 5 7, o1 8 (.ext 5 0), o1 9 (.ext 5 1), ia 1 8, ia 2 9]) (.seq (.region [oS ⟨some 11, .call "mergelens/mergelenslaw06.star" [], none⟩
 S_law06_star, oS ⟨some 12, .call "mergelens/search.Whole" [11, (.c (.string ⟨#[97, 97]⟩))], none⟩ S_search_Whole, im 10 12, o1 13 (.ext 10 0), o1 14 (.ext 10 1), ia 3 13, ia 4 14])
 (.seq (.region [im 15 2, o1 16 (.bin .eql 15 (kI 0)), im 17 16, gt 18 17 (.mv 4), gt 19 17 (.bin .eql 18 (kI 0)), o1 20 (.pick 17 19 kF), im 21 20, gt 22 21 (.mv 3), o1 23 (.pick
 21 22 kF), im 24 23, ⟨⟨some 25, .mv 1, some (24, true)⟩, none, ⟨[], []⟩, false, some 24, true, false⟩, ⟨⟨some 26, .build [(.int .i64 0), (.int .i64 0)] [(0, 1, (kI 0)), (1, 1, (kI
 0))], some (24, true)⟩, none, ⟨[], []⟩, false, none, true, false⟩, ⟨⟨some 27, .build [(.int .i64 0), (.int .i64 0)] [(0, 1, (kI 1)), (1, 1, (kI 3))], some (24, true)⟩, none, ⟨[],
 []⟩, false, none, true, false⟩, ⟨⟨some 28, .build [(.int .i64 0), (.int .i64 0)] [(0, 1, (kI 3)), (1, 1, (kI 3))], some (24, true)⟩, none, ⟨[], []⟩, false, none, true, false⟩,
 ⟨⟨some 29, .buildSl 2 [(.int .i64 0), (.int .i64 0)] 3 [(0, 26), (1, 27), (2, 28)], some (24, true)⟩, some ((.pair bI bI), .leaf), ⟨[], []⟩, false, none, true, false⟩, ⟨⟨some 30,
 .call "mergelens/mergelensgen.Spans" [25, 29], some (24, true)⟩, none, S_gen_Spans, false, none, true, true⟩, o1 31 (.pick 24 30 kF), ia 0 31]) .ret))))
def F_law06_awake : AFn := ⟨ "mergelens/mergelenslaw06.awake", t_law06_awake.erase, [.tmp 0], 0⟩
def W_law06_awake (P : Program) (x : Unit) (K : Bool → Unit → Prop) : Prop :=
 Fn P "mergelens/mergelenslaw06.star" S_law06_star () (fun (d1 : ((List State) × Int)) (e2 : Unit) => Fn P "mergelens/search.All" S_search_All (d1, ([98, 97, 97] : List UInt8)) (fun (d3 : ((List (Int × Int)) × Int)) (e4 : Unit) => Fn P "mergelens/mergelenslaw06.star" S_law06_star () (fun (d5 : ((List State) × Int)) (e6 : Unit) => Fn P "mergelens/search.Whole" S_search_Whole (d5, ([97, 97] : List UInt8)) (fun (d7 : (Bool × Int)) (e8 : Unit) => (((cond (cond (d3.2 == (0 : Int)) (d7.2 == (0 : Int)) false) d7.1 false) = true → Fn P "mergelens/mergelensgen.Spans" S_gen_Spans (d3.1, ([((0 : Int), (0 : Int)), ((1 : Int), (3 : Int)), ((3 : Int), (3 : Int))] : List (Int × Int))) (fun (d9 : Bool) (e10 : Unit) => K (cond true d9 false) ())) ∧ ((cond (cond (d3.2 == (0 : Int)) (d7.2 == (0 : Int)) false) d7.1 false) = false → K (cond false false false) ()))))))
theorem fn_law06_awake {P : Program} (h : Has P F_law06_awake) {x : DP S_law06_awake.ps} {K : DP S_law06_awake.rs → DP (ptrs S_law06_awake.ps) → Prop} (hw : W_law06_awake P x K) : Fn P "mergelens/mergelenslaw06.awake" S_law06_awake x K :=
  fn_of (c := t_law06_awake) h rfl rfl (by kernel_rfl) (Eq.mpr (show liftT P F_law06_awake S_law06_awake t_law06_awake x K = W_law06_awake P x K by kernel_rfl) hw)

def t_gen_Mod : TCode :=
 (.seq (.region [ia 4 (kI 0)]) (.seq (.region [im 5 0, o1 6 (.conv (.toInt .u64) 5), im 7 1, o1 8 (.conv (.toInt .u64) 7), o1 9 (.bin .rem 6 8), o1 10 (.conv (.toInt .i64) 9), ia 4
 10]) .ret))
def F_gen_Mod : AFn := ⟨ "mergelens/mergelensgen.Mod", t_gen_Mod.erase, [.tmp 4], 2⟩
def W_gen_Mod (P : Program) (x : (Int × Int)) (K : Int → Unit → Prop) : Prop :=
 ((IntKind.u64.wrap x.2) ≠ 0) ∧
 K (IntKind.i64.wrap (Int.tmod (IntKind.u64.wrap x.1) (IntKind.u64.wrap x.2))) ()
theorem fn_gen_Mod {P : Program} (h : Has P F_gen_Mod) {x : DP S_gen_Mod.ps} {K : DP S_gen_Mod.rs → DP (ptrs S_gen_Mod.ps) → Prop} (hw : W_gen_Mod P x K) : Fn P "mergelens/mergelensgen.Mod" S_gen_Mod x K :=
  fn_of (c := t_gen_Mod) h rfl rfl (by kernel_rfl) (Eq.mpr (show liftT P F_gen_Mod S_gen_Mod t_gen_Mod x K = W_gen_Mod P x K by kernel_rfl) hw)

def t_gen_At : TCode :=
 (.seq (.region [ia 4 (kI 0)]) (.seq (.region [im 6 1, o1 7 (.bin .add 6 (kI 1)), o1 8 (.conv (.toInt .u64) 7), o1 9 (.bin .mul 8 (.c (.int .u64 11400714819323198485))), ia 5 9])
 (.seq (.seq (.region [im 10 0, o1 11 (.lenK 10), o1 12 (.bin .gtr 11 (kI 0))]) (.frame (rg [5] 13 10) [] false (.join [.sl 5 false (.int .u64) .leaf] (.cond 12 (.region [im 13 5,
 im 14 0, im 15 1, im 16 0, o1 17 (.lenK 16), o1 18 (.bin .rem 15 17), o1 19 (.ixA 1 14 18), ld 20 19, o1 21 (.conv (.toInt .u64) 20), o1 22 (.bin .xor 13 21), ia 5 22]) .skip))))
 (.seq (.region [im 23 5, im 24 5, o1 25 (.bin .shr 24 (.c (.int .u64 31))), o1 26 (.bin .xor 23 25), o1 27 (.bin .mul 26 (.c (.int .u64 13787848793156543929))), ia 5 27]) (.seq
 (.region [im 28 5, im 29 5, o1 30 (.bin .shr 29 (.c (.int .u64 29))), o1 31 (.bin .xor 28 30), o1 32 (.bin .shr 31 (.c (.int .u64 1))), o1 33 (.conv (.toInt .i64) 32), ia 4 33])
 .ret)))))
def F_gen_At : AFn := ⟨ "mergelens/mergelensgen.At", t_gen_At.erase, [.tmp 4], 2⟩
def W_gen_At (P : Program) (x : ((List Int) × Int)) (K : Int → Unit → Prop) : Prop :=
 JoinW (D := Int) (fun J1 => (((decide (((List.length x.1 : Nat) : Int) > (0 : Int))) = true → (((List.length x.1 : Nat) : Int) ≠ 0) ∧
 (0 ≤ (Int.tmod x.2 ((List.length x.1 : Nat) : Int)) ∧ (Int.tmod x.2 ((List.length x.1 : Nat) : Int)) < ((List.length x.1 : Nat) : Int)) ∧
 ((Int.toNat (Int.tmod x.2 ((List.length x.1 : Nat) : Int))) < List.length x.1) ∧
 J1 (IntKind.u64.wrap ((BitVec.toNat (BitVec.ofInt IntKind.u64.bits (IntKind.u64.wrap ((IntKind.u64.wrap (IntKind.i64.wrap (x.2 + (1 : Int)))) * (11400714819323198485 : Int))) ^^^ BitVec.ofInt IntKind.u64.bits (IntKind.u64.wrap (List.getD x.1 (Int.toNat (Int.tmod x.2 ((List.length x.1 : Nat) : Int))) (0 : Int)))) : Nat) : Int))) ∧ ((decide (((List.length x.1 : Nat) : Int) > (0 : Int))) = false → J1 (IntKind.u64.wrap ((IntKind.u64.wrap (IntKind.i64.wrap (x.2 + (1 : Int)))) * (11400714819323198485 : Int)))))) (fun (d2 : Int) => (0 ≤ (31 : Int)) ∧
 (0 ≤ (29 : Int)) ∧
 (0 ≤ (1 : Int)) ∧
 K (IntKind.i64.wrap (Int.fdiv (IntKind.u64.wrap ((BitVec.toNat (BitVec.ofInt IntKind.u64.bits (IntKind.u64.wrap ((IntKind.u64.wrap ((BitVec.toNat (BitVec.ofInt IntKind.u64.bits d2 ^^^ BitVec.ofInt IntKind.u64.bits (Int.fdiv d2 (2 ^ (min (Int.toNat (31 : Int)) IntKind.u64.bits)))) : Nat) : Int)) * (13787848793156543929 : Int))) ^^^ BitVec.ofInt IntKind.u64.bits (Int.fdiv (IntKind.u64.wrap ((IntKind.u64.wrap ((BitVec.toNat (BitVec.ofInt IntKind.u64.bits d2 ^^^ BitVec.ofInt IntKind.u64.bits (Int.fdiv d2 (2 ^ (min (Int.toNat (31 : Int)) IntKind.u64.bits)))) : Nat) : Int)) * (13787848793156543929 : Int))) (2 ^ (min (Int.toNat (29 : Int)) IntKind.u64.bits)))) : Nat) : Int)) (2 ^ (min (Int.toNat (1 : Int)) IntKind.u64.bits)))) ())
theorem fn_gen_At {P : Program} (h : Has P F_gen_At) {x : DP S_gen_At.ps} {K : DP S_gen_At.rs → DP (ptrs S_gen_At.ps) → Prop} (hw : W_gen_At P x K) : Fn P "mergelens/mergelensgen.At" S_gen_At x K :=
  fn_of (c := t_gen_At) h rfl rfl (by kernel_rfl) (Eq.mpr (show liftT P F_gen_At S_gen_At t_gen_At x K = W_gen_At P x K by kernel_rfl) hw)

def t_regex_weight : TCode :=
 (.seq (.region [o1 2 (.box 0), ia 4 (kI 0)]) (.seq (.region [ia 5 (kI 0)]) (.seq (.seq (.region [fa 8 7 2, ld 9 8, o1 10 (.lenK 9), o1 11 (.mv (kI 0))]) (.frame (rg [5, 7] 11 12)
 [] false (.join [.si 5] (.block 0 (.loop [.si 5, .si 11] (.seq (.region [o1 12 (.bin .lss 11 10)]) (.seq (.cond 12 .skip (.exit 0)) (.seq (.frame (rg [5, 7] 13 9) [] false (.join
 [.si 5] (.block 1 (.seq (.region [o1 13 (.ixA 1 9 11), ld 14 13, ia 7 14]) (.region [im 15 5, im 16 1, im 17 7, o1 18 (.ixA 1 16 17), ld 19 18, o1 20 (.bin .add 15 19), o1 21 (.mm
 false 20 (kI 4001)), ia 5 21]))))) (.region [o1 22 (.bin .add 11 (kI 1)), im 11 22]))))))))) (.seq (.seq (.region [fa 23 0 2, ld 24 23]) (.frame (rg [4] 25 39) [] false (.join [.si
 4] (.block 2 (.seq (.region [o1 26 (.bin .eql 24 (kI 4)), ia 25 26]) (.cond 25 (.seq (.region [im 27 5, ia 4 27]) .ret) (.seq (.region [o1 29 (.bin .eql 24 (kI 5)), ia 28 29])
 (.cond 28 (.seq (.region [im 30 5, fa 31 7 2, ld 32 31, o1 33 (.lenK 32), o1 34 (.bin .add 30 33), o1 35 (.bin .sub 34 (kI 1)), o1 36 (.mm false 35 (kI 4001)), ia 4 36]) .ret)
 (.seq (.region [o1 38 (.bin .eql 24 (kI 6)), ia 37 38]) (.cond 37 (.seq (.seq (.region [fa 39 6 2, ld 40 39, o1 41 (.bin .lss 40 (kI 0))]) (.cond 41 (.seq (.region [fa 42 5 2, ld
 43 42, im 44 5, o1 45 (.bin .mul 43 44), im 46 5, o1 47 (.bin .add 45 46), o1 48 (.bin .add 47 (kI 1)), o1 49 (.mm false 48 (kI 4001)), ia 4 49]) .ret) .skip)) (.seq (.region [fa
 50 5 2, ld 51 50, im 52 5, o1 53 (.bin .mul 51 52), fa 54 6 2, ld 55 54, fa 56 5 2, ld 57 56, o1 58 (.bin .sub 55 57), im 59 5, o1 60 (.bin .add 59 (kI 1)), o1 61 (.bin .mul 58
 60), o1 62 (.bin .add 53 61), o1 63 (.mm false 62 (kI 4001)), ia 4 63]) .ret)) .skip)))))))))) (.seq (.region [ia 4 (kI 1)]) .ret)))))
def F_regex_weight : AFn := ⟨ "mergelens/regex.weight", t_regex_weight.erase, [.tmp 4], 2⟩
def W_regex_weight (P : Program) (x : (Node × (List Int))) (K : Int → Unit → Prop) : Prop :=
 JoinW (D := Int) (fun J1 => LoopW (D := (Int × Int)) ((0 : Int), (0 : Int)) (fun (d3 : (Int × Int)) J4 => (((decide (d3.2 < ((List.length x.1.2.2.2.2 : Nat) : Int))) = true → JoinW (D := Int) (fun J5 => (0 ≤ d3.2 ∧ d3.2 < ((List.length x.1.2.2.2.2 : Nat) : Int)) ∧
 ((Int.toNat d3.2) < List.length x.1.2.2.2.2) ∧
 (0 ≤ (List.getD x.1.2.2.2.2 (Int.toNat d3.2) (0 : Int)) ∧ (List.getD x.1.2.2.2.2 (Int.toNat d3.2) (0 : Int)) < ((List.length x.2 : Nat) : Int)) ∧
 ((Int.toNat (List.getD x.1.2.2.2.2 (Int.toNat d3.2) (0 : Int))) < List.length x.2) ∧
 J5 (if (4001 : Int) < (IntKind.i64.wrap (d3.1 + (List.getD x.2 (Int.toNat (List.getD x.1.2.2.2.2 (Int.toNat d3.2) (0 : Int))) (0 : Int)))) then (4001 : Int) else (IntKind.i64.wrap (d3.1 + (List.getD x.2 (Int.toNat (List.getD x.1.2.2.2.2 (Int.toNat d3.2) (0 : Int))) (0 : Int)))))) (fun (d6 : Int) => J4 (d6, (IntKind.i64.wrap (d3.2 + (1 : Int)))))) ∧ ((decide (d3.2 < ((List.length x.1.2.2.2.2 : Nat) : Int))) = false → J1 d3.1)))) (fun (d2 : Int) => JoinW (D := Int) (fun J7 => (((x.1.1 == (4 : Int)) = true → K d2 ()) ∧ ((x.1.1 == (4 : Int)) = false → (((x.1.1 == (5 : Int)) = true → K (if (4001 : Int) < (IntKind.i64.wrap ((IntKind.i64.wrap (d2 + ((List.length x.1.2.2.2.2 : Nat) : Int))) - (1 : Int))) then (4001 : Int) else (IntKind.i64.wrap ((IntKind.i64.wrap (d2 + ((List.length x.1.2.2.2.2 : Nat) : Int))) - (1 : Int)))) ()) ∧ ((x.1.1 == (5 : Int)) = false → (((x.1.1 == (6 : Int)) = true → (((decide (x.1.2.2.2.1 < (0 : Int))) = true → K (if (4001 : Int) < (IntKind.i64.wrap ((IntKind.i64.wrap ((IntKind.i64.wrap (x.1.2.2.1 * d2)) + d2)) + (1 : Int))) then (4001 : Int) else (IntKind.i64.wrap ((IntKind.i64.wrap ((IntKind.i64.wrap (x.1.2.2.1 * d2)) + d2)) + (1 : Int)))) ()) ∧ ((decide (x.1.2.2.2.1 < (0 : Int))) = false → K (if (4001 : Int) < (IntKind.i64.wrap ((IntKind.i64.wrap (x.1.2.2.1 * d2)) + (IntKind.i64.wrap ((IntKind.i64.wrap (x.1.2.2.2.1 - x.1.2.2.1)) * (IntKind.i64.wrap (d2 + (1 : Int))))))) then (4001 : Int) else (IntKind.i64.wrap ((IntKind.i64.wrap (x.1.2.2.1 * d2)) + (IntKind.i64.wrap ((IntKind.i64.wrap (x.1.2.2.2.1 - x.1.2.2.1)) * (IntKind.i64.wrap (d2 + (1 : Int)))))))) ()))) ∧ ((x.1.1 == (6 : Int)) = false → J7 (0 : Int)))))))) (fun (d8 : Int) => K (1 : Int) ()))
theorem fn_regex_weight {P : Program} (h : Has P F_regex_weight) {x : DP S_regex_weight.ps} {K : DP S_regex_weight.rs → DP (ptrs S_regex_weight.ps) → Prop} (hw : W_regex_weight P x K) : Fn P "mergelens/regex.weight" S_regex_weight x K :=
  fn_of (c := t_regex_weight) h rfl rfl (by kernel_rfl) (Eq.mpr (show liftT P F_regex_weight S_regex_weight t_regex_weight x K = W_regex_weight P x K by kernel_rfl) hw)

def t_regex_Weights : TCode :=
 (.seq (.region [o1 2 (.asg (.c (.slice none 0 0)))]) (.seq (.region [im 6 0, o1 7 (.lenK 6), oT ⟨some 8, .mkSl 1 8 [(.int .i64 0)] 7 7, none⟩ (some (bI, .leaf)), ia 3 8]) (.seq
 (.seq (.region [im 9 0, o1 10 (.lenK 9), o1 11 (.mv (kI 0))]) (.frame (rg [3, 4, 5] 11 12) [1005] false (.join [.sl 3 false (.sl bI) tO] (.block 0 (.loop [.sl 3 false (.sl bI) tO,
 .si 11] (.seq (.region [o1 12 (.bin .lss 11 10)]) (.seq (.cond 12 .skip (.exit 0)) (.seq (.frame (rg [3, 4, 5] 13 9) [1005] false (.join [.sl 3 false (.sl bI) tO] (.block 1 (.seq
 (.region [im 13 11, o1 14 (.ixA 8 9 11), o1 15 (.load true 8 14), o1 5 (.alloc [(.int .i64 0), (.int .u64 0), (.int .u64 0), (.int .u64 0), (.int .u64 0), (.int .i64 0), (.int .i64
 0), (.slice none 0 0)]), ia 4 13, o0 ⟨none, .store 8 5 15, none⟩]) (.region [im 16 3, im 17 4, o1 18 (.load true 8 5), im 19 3, oS ⟨some 20, .call "mergelens/regex.weight" [18,
 19], none⟩ S_regex_weight, o1 21 (.ixA 1 16 17), o0 ⟨none, .store 1 21 20, none⟩]))))) (.region [o1 22 (.bin .add 11 (kI 1)), im 11 22]))))))))) (.seq (.region [im 23 3, ia 2 23])
 .ret))))
def F_regex_Weights : AFn := ⟨ "mergelens/regex.Weights", t_regex_Weights.erase, [.tmp 2], 1⟩
def W_regex_Weights (P : Program) (x : (List Node)) (K : (List Int) → Unit → Prop) : Prop :=
 (0 ≤ ((List.length x : Nat) : Int) ∧ ((List.length x : Nat) : Int) ≤ ((List.length x : Nat) : Int) ∧ ((8 : Nat) : Int) * ((List.length x : Nat) : Int) ≤ 281474976710656) ∧
 JoinW (D := (List Int)) (fun J1 => LoopW (D := ((List Int) × Int)) ((List.replicate (Int.toNat ((List.length x : Nat) : Int)) (0 : Int)), (0 : Int)) (fun (d3 : ((List Int) × Int)) J4 => (((decide (d3.2 < ((List.length x : Nat) : Int))) = true → JoinW (D := (List Int)) (fun J5 => (0 ≤ d3.2 ∧ d3.2 < ((List.length x : Nat) : Int)) ∧
 ((Int.toNat d3.2) < List.length x) ∧
 Fn P "mergelens/regex.weight" S_regex_weight ((List.getD x (Int.toNat d3.2) zNode), d3.1) (fun (d7 : Int) (e8 : Unit) => (0 ≤ d3.2 ∧ d3.2 < ((List.length d3.1 : Nat) : Int)) ∧
 ((Int.toNat d3.2) < List.length d3.1) ∧
 J5 (List.set d3.1 (Int.toNat d3.2) d7))) (fun (d6 : (List Int)) => J4 (d6, (IntKind.i64.wrap (d3.2 + (1 : Int)))))) ∧ ((decide (d3.2 < ((List.length x : Nat) : Int))) = false → J1 d3.1)))) (fun (d2 : (List Int)) => K d2 ())
theorem fn_regex_Weights {P : Program} (h : Has P F_regex_Weights) {x : DP S_regex_Weights.ps} {K : DP S_regex_Weights.rs → DP (ptrs S_regex_Weights.ps) → Prop} (hw : W_regex_Weights P x K) : Fn P "mergelens/regex.Weights" S_regex_Weights x K :=
  fn_of (c := t_regex_Weights) h rfl rfl (by kernel_rfl) (Eq.mpr (show liftT P F_regex_Weights S_regex_Weights t_regex_Weights x K = W_regex_Weights P x K by kernel_rfl) hw)

def t_regex_bounded : TCode :=
 (.seq (.region [o1 1 (.box 0), o1 2 (.asg kF)]) (.seq (.region [fa 3 5 1, ld 4 3, o1 5 (.bin .geq 4 (kI 0)), im 6 5, gt 7 6 (.fAddr 5 1), gt 8 6 (.load false 1 7), gt 9 6 (.bin
 .leq 8 (kI 100)), o1 10 (.pick 6 9 kF), im 11 10, gt 12 11 (.fAddr 6 1), gt 13 11 (.load false 1 12), gt 14 11 (.bin .eql 13 (kI (-1))), gt 15 11 (.mv 14), gf 16 15 (.fAddr 6 1),
 gf 17 15 (.load false 1 16), gf 18 15 (.fAddr 5 1), gf 19 15 (.load false 1 18), gf 20 15 (.bin .geq 17 19), gf 21 15 (.mv 20), gt 22 21 (.fAddr 6 1), gt 23 21 (.load false 1 22),
 gt 24 21 (.bin .leq 23 (kI 100)), gf 25 15 (.pick 21 24 kF), gt 26 11 (.pick 15 kT 25), o1 27 (.pick 11 26 kF), ia 2 27]) .ret))
def F_regex_bounded : AFn := ⟨ "mergelens/regex.bounded", t_regex_bounded.erase, [.tmp 2], 1⟩
def W_regex_bounded (P : Program) (x : Node) (K : Bool → Unit → Prop) : Prop :=
 K (cond (cond (decide (x.2.2.1 ≥ (0 : Int))) (decide (x.2.2.1 ≤ (100 : Int))) false) (cond (x.2.2.2.1 == (-1 : Int)) true (cond (decide (x.2.2.2.1 ≥ x.2.2.1)) (decide (x.2.2.2.1 ≤ (100 : Int))) false)) false) ()
theorem fn_regex_bounded {P : Program} (h : Has P F_regex_bounded) {x : DP S_regex_bounded.ps} {K : DP S_regex_bounded.rs → DP (ptrs S_regex_bounded.ps) → Prop} (hw : W_regex_bounded P x K) : Fn P "mergelens/regex.bounded" S_regex_bounded x K :=
  fn_of (c := t_regex_bounded) h rfl rfl (by kernel_rfl) (Eq.mpr (show liftT P F_regex_bounded S_regex_bounded t_regex_bounded x K = W_regex_bounded P x K by kernel_rfl) hw)

def t_regex_fits : TCode :=
 (.seq (.region [o1 2 (.box 0), o1 4 (.asg kF)]) (.seq (.seq (.region [fa 7 7 2, ld 8 7, o1 9 (.lenK 8), o1 10 (.mv (kI 0))]) (.frame (rg [4, 6] 10 12) [] false (.join [.sl 4 false
 .bool .leaf] (.block 0 (.loop [.sl 4 false .bool .leaf, .si 10] (.seq (.region [o1 11 (.bin .lss 10 9)]) (.seq (.cond 11 .skip (.exit 0)) (.seq (.frame (rg [4, 6] 12 9) [] false
 (.join [.sl 4 false .bool .leaf] (.block 1 (.seq (.region [o1 12 (.ixA 1 8 10), ld 13 12, ia 6 13]) (.seq (.region [im 14 6, o1 15 (.bin .lss 14 (kI 0)), im 16 15, gf 17 16 (.mv
 6), gf 18 16 (.mv 1), gf 19 16 (.bin .geq 17 18), o1 20 (.pick 16 kT 19)]) (.cond 20 (.seq (.region [o1 4 (.asg kF)]) .ret) .skip)))))) (.region [o1 21 (.bin .add 10 (kI 1)), im 10
 21]))))))))) (.seq (.seq (.region [fa 22 0 2, ld 23 22]) (.frame (rg [4] 24 26) [] false (.join [.sl 4 false .bool .leaf] (.block 2 (.seq (.seq (.region [o1 25 (.bin .eql 23 (kI
 0)), ia 24 25]) (.frame [24, 26, 27, 28] [] false (.join [.sl 24 false .bool .leaf] (.cond 24 .skip (.seq (.region [o1 26 (.bin .eql 23 (kI 1)), ia 24 26]) (.frame [24, 27, 28] []
 false (.join [.sl 24 false .bool .leaf] (.cond 24 .skip (.seq (.region [o1 27 (.bin .eql 23 (kI 2)), ia 24 27]) (.frame [24, 28] [] false (.join [.sl 24 false .bool .leaf] (.cond
 24 .skip (.region [o1 28 (.bin .eql 23 (kI 3)), ia 24 28]))))))))))))) (.cond 24 (.seq (.region [fa 29 7 2, ld 30 29, o1 31 (.lenK 30), o1 32 (.bin .eql 31 (kI 0)), ia 4 32]) .ret)
 (.seq (.seq (.region [o1 34 (.bin .eql 23 (kI 4)), ia 33 34]) (.frame [33, 35] [] false (.join [.sl 33 false .bool .leaf] (.cond 33 .skip (.region [o1 35 (.bin .eql 23 (kI 5)), ia
 33 35]))))) (.cond 33 (.seq (.region [fa 36 7 2, ld 37 36, o1 38 (.lenK 37), o1 39 (.bin .geq 38 (kI 2)), ia 4 39]) .ret) (.seq (.region [o1 41 (.bin .eql 23 (kI 6)), ia 40 41])
 (.cond 40 (.seq (.region [fa 42 7 2, ld 43 42, o1 44 (.lenK 43), o1 45 (.bin .eql 44 (kI 1)), im 46 45, gt 47 46 (.load true 8 2), oS ⟨some 48, .call "mergelens/regex.bounded"
 [47], some (46, true)⟩ S_regex_bounded, o1 49 (.pick 46 48 kF), ia 4 49]) .ret) .skip)))))))))) (.seq (.region [o1 4 (.asg kF)]) .ret))))
def F_regex_fits : AFn := ⟨ "mergelens/regex.fits", t_regex_fits.erase, [.tmp 4], 2⟩
def W_regex_fits (P : Program) (x : (Node × Int)) (K : Bool → Unit → Prop) : Prop :=
 JoinW (D := Bool) (fun J1 => LoopW (D := (Bool × Int)) (false, (0 : Int)) (fun (d3 : (Bool × Int)) J4 => (((decide (d3.2 < ((List.length x.1.2.2.2.2 : Nat) : Int))) = true → JoinW (D := Bool) (fun J5 => (0 ≤ d3.2 ∧ d3.2 < ((List.length x.1.2.2.2.2 : Nat) : Int)) ∧
 ((Int.toNat d3.2) < List.length x.1.2.2.2.2) ∧
 (((cond (decide ((List.getD x.1.2.2.2.2 (Int.toNat d3.2) (0 : Int)) < (0 : Int))) true (decide ((List.getD x.1.2.2.2.2 (Int.toNat d3.2) (0 : Int)) ≥ x.2))) = true → K false ()) ∧ ((cond (decide ((List.getD x.1.2.2.2.2 (Int.toNat d3.2) (0 : Int)) < (0 : Int))) true (decide ((List.getD x.1.2.2.2.2 (Int.toNat d3.2) (0 : Int)) ≥ x.2))) = false → J5 d3.1))) (fun (d6 : Bool) => J4 (d6, (IntKind.i64.wrap (d3.2 + (1 : Int)))))) ∧ ((decide (d3.2 < ((List.length x.1.2.2.2.2 : Nat) : Int))) = false → J1 d3.1)))) (fun (d2 : Bool) => JoinW (D := Bool) (fun J7 => JoinW (D := Bool) (fun J9 => (((x.1.1 == (0 : Int)) = true → J9 (x.1.1 == (0 : Int))) ∧ ((x.1.1 == (0 : Int)) = false → JoinW (D := Bool) (fun J11 => (((x.1.1 == (1 : Int)) = true → J11 (x.1.1 == (1 : Int))) ∧ ((x.1.1 == (1 : Int)) = false → JoinW (D := Bool) (fun J13 => (((x.1.1 == (2 : Int)) = true → J13 (x.1.1 == (2 : Int))) ∧ ((x.1.1 == (2 : Int)) = false → J13 (x.1.1 == (3 : Int))))) (fun (d14 : Bool) => J11 d14)))) (fun (d12 : Bool) => J9 d12)))) (fun (d10 : Bool) => ((d10 = true → K (((List.length x.1.2.2.2.2 : Nat) : Int) == (0 : Int)) ()) ∧ (d10 = false → JoinW (D := Bool) (fun J15 => (((x.1.1 == (4 : Int)) = true → J15 (x.1.1 == (4 : Int))) ∧ ((x.1.1 == (4 : Int)) = false → J15 (x.1.1 == (5 : Int))))) (fun (d16 : Bool) => ((d16 = true → K (decide (((List.length x.1.2.2.2.2 : Nat) : Int) ≥ (2 : Int))) ()) ∧ (d16 = false → (((x.1.1 == (6 : Int)) = true → JoinW (D := Bool) (fun J17 => (((((List.length x.1.2.2.2.2 : Nat) : Int) == (1 : Int)) = true → Fn P "mergelens/regex.bounded" S_regex_bounded x.1 (fun (d18 : Bool) _ => J17 d18)) ∧ (((((List.length x.1.2.2.2.2 : Nat) : Int) == (1 : Int)) = false → J17 false) ∧ True))) (fun d19 => K (cond (((List.length x.1.2.2.2.2 : Nat) : Int) == (1 : Int)) d19 false) ())) ∧ ((x.1.1 == (6 : Int)) = false → J7 d2))))))))) (fun (d8 : Bool) => K false ()))
theorem fn_regex_fits {P : Program} (h : Has P F_regex_fits) {x : DP S_regex_fits.ps} {K : DP S_regex_fits.rs → DP (ptrs S_regex_fits.ps) → Prop} (hw : W_regex_fits P x K) : Fn P "mergelens/regex.fits" S_regex_fits x K :=
  fn_of (c := t_regex_fits) h rfl rfl (by kernel_rfl) (Eq.mpr (show liftT P F_regex_fits S_regex_fits t_regex_fits x K = W_regex_fits P x K by kernel_rfl) hw)

def t_regex_Check : TCode :=
 (.seq (.region [ia 2 (kI 0)]) (.seq (.seq (.region [im 5 0, o1 6 (.lenK 5), o1 7 (.bin .eql 6 (kI 0)), im 8 7, gf 9 8 (.mv 0), gf 10 8 (.lenK 9), gf 11 8 (.bin .gtr 10 (kI 4000)),
 o1 12 (.pick 8 kT 11)]) (.cond 12 (.seq (.region [ia 2 (kI 2)]) .ret) .skip)) (.seq (.seq (.region [im 13 0, o1 14 (.lenK 13), o1 15 (.mv (kI 0))]) (.frame (rg [2, 3, 4] 15 10)
 [1004] false (.join [.si 2] (.block 0 (.loop [.si 2, .si 15] (.seq (.region [o1 16 (.bin .lss 15 14)]) (.seq (.cond 16 .skip (.exit 0)) (.seq (.frame (rg [2, 3, 4] 17 7) [1004]
 false (.join [.si 2] (.block 1 (.seq (.region [im 17 15, o1 18 (.ixA 8 13 15), o1 19 (.load true 8 18), o1 4 (.alloc [(.int .i64 0), (.int .u64 0), (.int .u64 0), (.int .u64 0),
 (.int .u64 0), (.int .i64 0), (.int .i64 0), (.slice none 0 0)]), ia 3 17, o0 ⟨none, .store 8 4 19, none⟩]) (.seq (.region [o1 20 (.load true 8 4), im 21 3, oS ⟨some 22, .call
 "mergelens/regex.fits" [20, 21], none⟩ S_regex_fits, o1 23 (.un .not 22)]) (.cond 23 (.seq (.region [ia 2 (kI 2)]) .ret) .skip)))))) (.region [o1 24 (.bin .add 15 (kI 1)), im 15
 24]))))))))) (.seq (.region [ia 2 (kI 0)]) .ret))))
def F_regex_Check : AFn := ⟨ "mergelens/regex.Check", t_regex_Check.erase, [.tmp 2], 1⟩
def W_regex_Check (P : Program) (x : (List Node)) (K : Int → Unit → Prop) : Prop :=
 (((cond (((List.length x : Nat) : Int) == (0 : Int)) true (decide (((List.length x : Nat) : Int) > (4000 : Int)))) = true → K (2 : Int) ()) ∧ ((cond (((List.length x : Nat) : Int) == (0 : Int)) true (decide (((List.length x : Nat) : Int) > (4000 : Int)))) = false → JoinW (D := Int) (fun J1 => LoopW (D := (Int × Int)) ((0 : Int), (0 : Int)) (fun (d3 : (Int × Int)) J4 => (((decide (d3.2 < ((List.length x : Nat) : Int))) = true → JoinW (D := Int) (fun J5 => (0 ≤ d3.2 ∧ d3.2 < ((List.length x : Nat) : Int)) ∧
 ((Int.toNat d3.2) < List.length x) ∧
 Fn P "mergelens/regex.fits" S_regex_fits ((List.getD x (Int.toNat d3.2) zNode), d3.2) (fun (d7 : Bool) (e8 : Unit) => (((!d7) = true → K (2 : Int) ()) ∧ ((!d7) = false → J5 d3.1)))) (fun (d6 : Int) => J4 (d6, (IntKind.i64.wrap (d3.2 + (1 : Int)))))) ∧ ((decide (d3.2 < ((List.length x : Nat) : Int))) = false → J1 d3.1)))) (fun (d2 : Int) => K (0 : Int) ())))
theorem fn_regex_Check {P : Program} (h : Has P F_regex_Check) {x : DP S_regex_Check.ps} {K : DP S_regex_Check.rs → DP (ptrs S_regex_Check.ps) → Prop} (hw : W_regex_Check P x K) : Fn P "mergelens/regex.Check" S_regex_Check x K :=
  fn_of (c := t_regex_Check) h rfl rfl (by kernel_rfl) (Eq.mpr (show liftT P F_regex_Check S_regex_Check t_regex_Check x K = W_regex_Check P x K by kernel_rfl) hw)

def t_regex_Weight : TCode :=
 (.seq (.region [ia 2 (kI 0), ia 3 (kI 0)]) (.seq (.seq (.region [im 5 0, oS ⟨some 6, .call "mergelens/regex.Check" [5], none⟩ S_regex_Check, ia 4 6]) (.seq (.region [im 7 4, o1 8
 (.bin .neq 7 (kI 0))]) (.cond 8 (.seq (.region [im 9 4, ia 2 (kI 0), ia 3 9]) .ret) .skip))) (.seq (.region [im 10 0, oS ⟨some 11, .call "mergelens/regex.Weights" [10], none⟩
 S_regex_Weights, im 12 0, o1 13 (.lenK 12), o1 14 (.bin .sub 13 (kI 1)), o1 15 (.ixA 1 11 14), ld 16 15, ia 2 16, ia 3 (kI 0)]) .ret)))
def F_regex_Weight : AFn := ⟨ "mergelens/regex.Weight", t_regex_Weight.erase, [.tmp 2, .tmp 3], 1⟩
def W_regex_Weight (P : Program) (x : (List Node)) (K : (Int × Int) → Unit → Prop) : Prop :=
 Fn P "mergelens/regex.Check" S_regex_Check x (fun (d1 : Int) (e2 : Unit) => (((d1 != (0 : Int)) = true → K ((0 : Int), d1) ()) ∧ ((d1 != (0 : Int)) = false → Fn P "mergelens/regex.Weights" S_regex_Weights x (fun (d3 : (List Int)) (e4 : Unit) => (0 ≤ (IntKind.i64.wrap (((List.length x : Nat) : Int) - (1 : Int))) ∧ (IntKind.i64.wrap (((List.length x : Nat) : Int) - (1 : Int))) < ((List.length d3 : Nat) : Int)) ∧
 ((Int.toNat (IntKind.i64.wrap (((List.length x : Nat) : Int) - (1 : Int)))) < List.length d3) ∧
 K ((List.getD d3 (Int.toNat (IntKind.i64.wrap (((List.length x : Nat) : Int) - (1 : Int)))) (0 : Int)), (0 : Int)) ()))))
theorem fn_regex_Weight {P : Program} (h : Has P F_regex_Weight) {x : DP S_regex_Weight.ps} {K : DP S_regex_Weight.rs → DP (ptrs S_regex_Weight.ps) → Prop} (hw : W_regex_Weight P x K) : Fn P "mergelens/regex.Weight" S_regex_Weight x K :=
  fn_of (c := t_regex_Weight) h rfl rfl (by kernel_rfl) (Eq.mpr (show liftT P F_regex_Weight S_regex_Weight t_regex_Weight x K = W_regex_Weight P x K by kernel_rfl) hw)

def t_automaton_builder_add : TCode :=
 (.seq (.region [o1 3 (.box 1), ia 4 (kI 0)]) (.seq (.frame (rg [] 5 10) [0] true (.join [.bx 0 bautomaton_builder (.pair (.node .imm (.pair .leaf (.pair .leaf (.pair .leaf (.pair
 .leaf tM))))) (.pair tO tO))] (.draw [(.first (im 5 0) (.first (im 6 0) (.first (o1 7 (.nilc 6)) (.first (fa 8 2 7) (.first (o1 10 (.load true 7 3)) (.alt (ld 9 8) (.alt (oT ⟨some
 11, .buildSl 7 [(.int .i64 0), (.int .u64 0), (.int .u64 0), (.int .u64 0), (.int .u64 0), (.int .i64 0), (.int .i64 0)] 1 [(0, 10)], none⟩ (some (bState, .leaf))) (.alt (oT ⟨some
 12, .app 7 56 9 11, none⟩ (some (bState, .leaf))) (.first (o1 13 (.nilc 5)) (.first (fa 14 2 13) (.alt (o0 ⟨none, .store 1 14 12, none⟩) .done .stop))) .stop) .stop) (.alt (oT
 ⟨some 11, .buildSl 7 [(.int .i64 0), (.int .u64 0), (.int .u64 0), (.int .u64 0), (.int .u64 0), (.int .i64 0), (.int .i64 0)] 1 [(0, 10)], none⟩ (some (bState, .leaf))) (.first
 (ld 9 8) (.alt (oT ⟨some 12, .app 7 56 9 11, none⟩ (some (bState, .leaf))) (.first (o1 13 (.nilc 5)) (.first (fa 14 2 13) (.alt (o0 ⟨none, .store 1 14 12, none⟩) .done .stop)))
 .stop)) .stop)))))))]))) (.seq (.region [im 15 0, o1 16 (.nilc 15), fa 17 2 16, ld 18 17, o1 19 (.lenK 18), o1 20 (.bin .sub 19 (kI 1)), ia 4 20]) .ret)))
def F_automaton_builder_add : AFn := ⟨ "(*mergelens/automaton.builder).add", t_automaton_builder_add.erase, [.tmp 4], 2⟩
def W_automaton_builder_add (P : Program) (x : (automaton_builder × State)) (K : Int → automaton_builder → Prop) : Prop :=
 JoinW (D := automaton_builder) (fun J1 => (((((List.length x.1.2.2 + List.length ([x.2] : List State)) * 56 ≤ 140737488355328) ∧
 (J1 (x.1.1, (x.1.2.1, (x.1.2.2 ++ ([x.2] : List State))))) ∧ (True)) ∧ (True)) ∧ (True)) ∧ (((((List.length x.1.2.2 + List.length ([x.2] : List State)) * 56 ≤ 140737488355328) ∧
 (J1 (x.1.1, (x.1.2.1, (x.1.2.2 ++ ([x.2] : List State))))) ∧ (True)) ∧ (True)) ∧ (True))) (fun (d2 : automaton_builder) => K (IntKind.i64.wrap (((List.length d2.2.2 : Nat) : Int) - (1 : Int))) d2)
theorem fn_automaton_builder_add {P : Program} (h : Has P F_automaton_builder_add) {x : DP S_automaton_builder_add.ps} {K : DP S_automaton_builder_add.rs → DP (ptrs S_automaton_builder_add.ps) → Prop} (hw : W_automaton_builder_add P x K) : Fn P "(*mergelens/automaton.builder).add" S_automaton_builder_add x K :=
  fn_of (c := t_automaton_builder_add) h rfl rfl (by kernel_rfl) (Eq.mpr (show liftT P F_automaton_builder_add S_automaton_builder_add t_automaton_builder_add x K = W_automaton_builder_add P x K by kernel_rfl) hw)

def t_automaton_builder_choice : TCode :=
 (.seq (.region [ia 6 (kI 0)]) (.seq (.region [im 10 1, o1 11 (.lenK 10), o1 12 (.bin .sub 11 (kI 1)), ia 7 12]) (.seq (.region [im 13 0, im 14 1, im 15 7, o1 16 (.ixA 1 14 15), ld
 17 16, im 18 2, oS ⟨some 19, .call "(*mergelens/automaton.builder).build" [13, 17, 18], none⟩ S_automaton_builder_build, ia 8 19]) (.seq (.seq (.region [im 20 7, o1 21 (.bin .sub
 20 (kI 1)), ia 9 21]) (.frame (rg [8, 9] 22 15) [0] true (.join [.si 8, .bx 0 bautomaton_builder (.pair (.node .imm (.pair .leaf (.pair .leaf (.pair .leaf (.pair .leaf tM)))))
 (.pair tO tO))] (.block 0 (.loop [.si 8, .si 9, .bx 0 bautomaton_builder (.pair (.node .imm (.pair .leaf (.pair .leaf (.pair .leaf (.pair .leaf tM))))) (.pair tO tO))] (.seq (.seq
 (.region [im 22 9, o1 23 (.bin .geq 22 (kI 0))]) (.cond 23 .skip (.exit 0))) (.seq (.frame (rg [8] 26 11) [0] true (.join [.si 8, .bx 0 bautomaton_builder (.pair (.node .imm (.pair
 .leaf (.pair .leaf (.pair .leaf (.pair .leaf tM))))) (.pair tO tO))] (.block 1 (.region [im 26 0, im 27 0, im 28 1, im 29 9, o1 30 (.ixA 1 28 29), ld 31 30, im 32 2, oS ⟨some 33,
 .call "(*mergelens/automaton.builder).build" [27, 31, 32], none⟩ S_automaton_builder_build, im 34 8, o1 35 (.build [(.int .i64 0), (.int .u64 0), (.int .u64 0), (.int .u64 0),
 (.int .u64 0), (.int .i64 0), (.int .i64 0)] [(0, 1, (kI 1)), (5, 1, 33), (6, 1, 34)]), oS ⟨some 36, .call "(*mergelens/automaton.builder).add" [26, 35], none⟩
 S_automaton_builder_add, ia 8 36])))) (.region [im 24 9, o1 25 (.bin .sub 24 (kI 1)), ia 9 25])))))))) (.seq (.region [im 37 8, ia 6 37]) .ret)))))
def F_automaton_builder_choice : AFn := ⟨ "(*mergelens/automaton.builder).choice", t_automaton_builder_choice.erase, [.tmp 6], 3⟩
def W_automaton_builder_choice (P : Program) (x : (automaton_builder × ((List Int) × Int))) (K : Int → automaton_builder → Prop) : Prop :=
 (0 ≤ (IntKind.i64.wrap (((List.length x.2.1 : Nat) : Int) - (1 : Int))) ∧ (IntKind.i64.wrap (((List.length x.2.1 : Nat) : Int) - (1 : Int))) < ((List.length x.2.1 : Nat) : Int)) ∧
 ((Int.toNat (IntKind.i64.wrap (((List.length x.2.1 : Nat) : Int) - (1 : Int)))) < List.length x.2.1) ∧
 Fn P "(*mergelens/automaton.builder).build" S_automaton_builder_build (x.1, ((List.getD x.2.1 (Int.toNat (IntKind.i64.wrap (((List.length x.2.1 : Nat) : Int) - (1 : Int)))) (0 : Int)), x.2.2)) (fun (d1 : Int) (e2 : automaton_builder) => JoinW (D := (Int × automaton_builder)) (fun J3 => LoopW (D := (Int × (Int × automaton_builder))) (d1, ((IntKind.i64.wrap ((IntKind.i64.wrap (((List.length x.2.1 : Nat) : Int) - (1 : Int))) - (1 : Int))), e2)) (fun (d5 : (Int × (Int × automaton_builder))) J6 => (((decide (d5.2.1 ≥ (0 : Int))) = true → JoinW (D := (Int × automaton_builder)) (fun J7 => (0 ≤ d5.2.1 ∧ d5.2.1 < ((List.length x.2.1 : Nat) : Int)) ∧
 ((Int.toNat d5.2.1) < List.length x.2.1) ∧
 Fn P "(*mergelens/automaton.builder).build" S_automaton_builder_build (d5.2.2, ((List.getD x.2.1 (Int.toNat d5.2.1) (0 : Int)), x.2.2)) (fun (d9 : Int) (e10 : automaton_builder) => Fn P "(*mergelens/automaton.builder).add" S_automaton_builder_add (e10, ((1 : Int), (((0 : Int), ((0 : Int), ((0 : Int), (0 : Int)))), (d9, d5.1)))) (fun (d11 : Int) (e12 : automaton_builder) => J7 (d11, e12)))) (fun (d8 : (Int × automaton_builder)) => J6 (d8.1, ((IntKind.i64.wrap (d5.2.1 - (1 : Int))), d8.2)))) ∧ ((decide (d5.2.1 ≥ (0 : Int))) = false → J3 (d5.1, d5.2.2))))) (fun (d4 : (Int × automaton_builder)) => K d4.1 d4.2))
theorem fn_automaton_builder_choice {P : Program} (h : Has P F_automaton_builder_choice) {x : DP S_automaton_builder_choice.ps} {K : DP S_automaton_builder_choice.rs → DP (ptrs S_automaton_builder_choice.ps) → Prop} (hw : W_automaton_builder_choice P x K) : Fn P "(*mergelens/automaton.builder).choice" S_automaton_builder_choice x K :=
  fn_of (c := t_automaton_builder_choice) h rfl rfl (by kernel_rfl) (Eq.mpr (show liftT P F_automaton_builder_choice S_automaton_builder_choice t_automaton_builder_choice x K = W_automaton_builder_choice P x K by kernel_rfl) hw)

def t_automaton_builder_repeat : TCode :=
 (.seq (.region [o1 4 (.box 1), ia 6 (kI 0)]) (.seq (.region [fa 11 7 4, ld 12 11, o1 13 (.ixA 1 12 (kI 0)), ld 14 13, ia 7 14]) (.seq (.seq (.region [fa 15 6 4, ld 16 15, o1 17
 (.bin .lss 16 (kI 0))]) (.frame (rg [2, 8, 9] 18 17) [0] true (.join [.si 2, .bx 0 bautomaton_builder (.pair (.node .imm (.pair .leaf (.pair .leaf (.pair .leaf (.pair .leaf tM)))))
 (.pair tO tO))] (.cond 17 (.seq (.region [im 18 0, im 19 2, o1 20 (.build [(.int .i64 0), (.int .u64 0), (.int .u64 0), (.int .u64 0), (.int .u64 0), (.int .i64 0), (.int .i64 0)]
 [(0, 1, (kI 1)), (6, 1, 19)]), oS ⟨some 21, .call "(*mergelens/automaton.builder).add" [18, 20], none⟩ S_automaton_builder_add, ia 8 21]) (.seq (.region [im 22 0, im 23 7, im 24 8,
 oS ⟨some 25, .call "(*mergelens/automaton.builder).build" [22, 23, 24], none⟩ S_automaton_builder_build, ia 9 25]) (.seq (.region [im 26 0, o1 27 (.nilc 26), fa 28 2 27, ld 29 28,
 im 30 8, im 31 9, o1 32 (.ixA 7 29 30), fa 33 5 32, o0 ⟨none, .store 1 33 31, none⟩]) (.region [im 34 8, ia 2 34])))) .skip)))) (.seq (.region [im 35 2, ia 10 35]) (.seq (.seq
 (.region [fa 36 6 4, ld 37 36, fa 38 5 4, ld 39 38, o1 40 (.bin .sub 37 39), o1 41 (.mv (kI 0))]) (.frame (rg [2] 41 11) [0] true (.join [.si 2, .bx 0 bautomaton_builder (.pair
 (.node .imm (.pair .leaf (.pair .leaf (.pair .leaf (.pair .leaf tM))))) (.pair tO tO))] (.block 0 (.loop [.si 2, .si 41, .bx 0 bautomaton_builder (.pair (.node .imm (.pair .leaf
 (.pair .leaf (.pair .leaf (.pair .leaf tM))))) (.pair tO tO))] (.seq (.region [o1 42 (.bin .lss 41 40)]) (.seq (.cond 42 .skip (.exit 0)) (.seq (.frame (rg [2] 43 8) [0] true
 (.join [.si 2, .bx 0 bautomaton_builder (.pair (.node .imm (.pair .leaf (.pair .leaf (.pair .leaf (.pair .leaf tM))))) (.pair tO tO))] (.block 1 (.region [im 43 0, im 44 0, im 45
 7, im 46 2, oS ⟨some 47, .call "(*mergelens/automaton.builder).build" [44, 45, 46], none⟩ S_automaton_builder_build, im 48 10, o1 49 (.build [(.int .i64 0), (.int .u64 0), (.int
 .u64 0), (.int .u64 0), (.int .u64 0), (.int .i64 0), (.int .i64 0)] [(0, 1, (kI 1)), (5, 1, 47), (6, 1, 48)]), oS ⟨some 50, .call "(*mergelens/automaton.builder).add" [43, 49],
 none⟩ S_automaton_builder_add, ia 2 50])))) (.region [o1 51 (.bin .add 41 (kI 1)), im 41 51]))))))))) (.seq (.seq (.region [fa 52 5 4, ld 53 52, o1 54 (.mv (kI 0))]) (.frame (rg
 [2] 54 7) [0] true (.join [.si 2, .bx 0 bautomaton_builder (.pair (.node .imm (.pair .leaf (.pair .leaf (.pair .leaf (.pair .leaf tM))))) (.pair tO tO))] (.block 2 (.loop [.si 2,
 .si 54, .bx 0 bautomaton_builder (.pair (.node .imm (.pair .leaf (.pair .leaf (.pair .leaf (.pair .leaf tM))))) (.pair tO tO))] (.seq (.region [o1 55 (.bin .lss 54 53)]) (.seq
 (.cond 55 .skip (.exit 2)) (.seq (.frame (rg [2] 56 4) [0] true (.join [.si 2, .bx 0 bautomaton_builder (.pair (.node .imm (.pair .leaf (.pair .leaf (.pair .leaf (.pair .leaf
 tM))))) (.pair tO tO))] (.block 3 (.region [im 56 0, im 57 7, im 58 2, oS ⟨some 59, .call "(*mergelens/automaton.builder).build" [56, 57, 58], none⟩ S_automaton_builder_build, ia 2
 59])))) (.region [o1 60 (.bin .add 54 (kI 1)), im 54 60]))))))))) (.seq (.region [im 61 2, ia 6 61]) .ret)))))))
def F_automaton_builder_repeat : AFn := ⟨ "(*mergelens/automaton.builder).repeat", t_automaton_builder_repeat.erase, [.tmp 6], 3⟩
def W_automaton_builder_repeat (P : Program) (x : (automaton_builder × (Node × Int))) (K : Int → automaton_builder → Prop) : Prop :=
 (0 ≤ (0 : Int) ∧ (0 : Int) < ((List.length x.2.1.2.2.2.2 : Nat) : Int)) ∧
 ((Int.toNat (0 : Int)) < List.length x.2.1.2.2.2.2) ∧
 JoinW (D := (Int × automaton_builder)) (fun J1 => (((decide (x.2.1.2.2.2.1 < (0 : Int))) = true → Fn P "(*mergelens/automaton.builder).add" S_automaton_builder_add (x.1, ((1 : Int), (((0 : Int), ((0 : Int), ((0 : Int), (0 : Int)))), ((0 : Int), x.2.2)))) (fun (d3 : Int) (e4 : automaton_builder) => Fn P "(*mergelens/automaton.builder).build" S_automaton_builder_build (e4, ((List.getD x.2.1.2.2.2.2 (Int.toNat (0 : Int)) (0 : Int)), d3)) (fun (d5 : Int) (e6 : automaton_builder) => (0 ≤ d3 ∧ d3 < ((List.length e6.2.2 : Nat) : Int)) ∧
 ((Int.toNat d3) < List.length e6.2.2) ∧
 J1 (d3, (e6.1, (e6.2.1, (List.set e6.2.2 (Int.toNat d3) ((List.getD e6.2.2 (Int.toNat d3) zState).1, ((List.getD e6.2.2 (Int.toNat d3) zState).2.1, (d5, (List.getD e6.2.2 (Int.toNat d3) zState).2.2.2)))))))))) ∧ ((decide (x.2.1.2.2.2.1 < (0 : Int))) = false → J1 (x.2.2, x.1)))) (fun (d2 : (Int × automaton_builder)) => JoinW (D := (Int × automaton_builder)) (fun J7 => LoopW (D := (Int × (Int × automaton_builder))) (d2.1, ((0 : Int), d2.2)) (fun (d9 : (Int × (Int × automaton_builder))) J10 => (((decide (d9.2.1 < (IntKind.i64.wrap (x.2.1.2.2.2.1 - x.2.1.2.2.1)))) = true → JoinW (D := (Int × automaton_builder)) (fun J11 => Fn P "(*mergelens/automaton.builder).build" S_automaton_builder_build (d9.2.2, ((List.getD x.2.1.2.2.2.2 (Int.toNat (0 : Int)) (0 : Int)), d9.1)) (fun (d13 : Int) (e14 : automaton_builder) => Fn P "(*mergelens/automaton.builder).add" S_automaton_builder_add (e14, ((1 : Int), (((0 : Int), ((0 : Int), ((0 : Int), (0 : Int)))), (d13, d2.1)))) (fun (d15 : Int) (e16 : automaton_builder) => J11 (d15, e16)))) (fun (d12 : (Int × automaton_builder)) => J10 (d12.1, ((IntKind.i64.wrap (d9.2.1 + (1 : Int))), d12.2)))) ∧ ((decide (d9.2.1 < (IntKind.i64.wrap (x.2.1.2.2.2.1 - x.2.1.2.2.1)))) = false → J7 (d9.1, d9.2.2))))) (fun (d8 : (Int × automaton_builder)) => JoinW (D := (Int × automaton_builder)) (fun J17 => LoopW (D := (Int × (Int × automaton_builder))) (d8.1, ((0 : Int), d8.2)) (fun (d19 : (Int × (Int × automaton_builder))) J20 => (((decide (d19.2.1 < x.2.1.2.2.1)) = true → JoinW (D := (Int × automaton_builder)) (fun J21 => Fn P "(*mergelens/automaton.builder).build" S_automaton_builder_build (d19.2.2, ((List.getD x.2.1.2.2.2.2 (Int.toNat (0 : Int)) (0 : Int)), d19.1)) (fun (d23 : Int) (e24 : automaton_builder) => J21 (d23, e24))) (fun (d22 : (Int × automaton_builder)) => J20 (d22.1, ((IntKind.i64.wrap (d19.2.1 + (1 : Int))), d22.2)))) ∧ ((decide (d19.2.1 < x.2.1.2.2.1)) = false → J17 (d19.1, d19.2.2))))) (fun (d18 : (Int × automaton_builder)) => K d18.1 d18.2)))
theorem fn_automaton_builder_repeat {P : Program} (h : Has P F_automaton_builder_repeat) {x : DP S_automaton_builder_repeat.ps} {K : DP S_automaton_builder_repeat.rs → DP (ptrs S_automaton_builder_repeat.ps) → Prop} (hw : W_automaton_builder_repeat P x K) : Fn P "(*mergelens/automaton.builder).repeat" S_automaton_builder_repeat x K :=
  fn_of (c := t_automaton_builder_repeat) h rfl rfl (by kernel_rfl) (Eq.mpr (show liftT P F_automaton_builder_repeat S_automaton_builder_repeat t_automaton_builder_repeat x K = W_automaton_builder_repeat P x K by kernel_rfl) hw)

def t_automaton_builder_build : TCode :=
 (.seq (.region [ia 6 (kI 0)]) (.seq (.seq (.region [im 9 0, o1 10 (.nilc 9), fa 11 1 10, ld 12 11, im 13 1, o1 14 (.ixA 1 12 13), ld 15 14, o1 16 (.bin .eql 15 (kI 0))]) (.cond 16
 (.seq (.region [im 17 2, ia 6 17]) .ret) .skip)) (.seq (.region [im 18 0, o1 19 (.nilc 18), fa 20 0 19, ld 21 20, im 22 1, o1 23 (.ixA 8 21 22), o1 24 (.load true 8 23), o1 7
 (.alloc [(.int .i64 0), (.int .u64 0), (.int .u64 0), (.int .u64 0), (.int .u64 0), (.int .i64 0), (.int .i64 0), (.slice none 0 0)]), o0 ⟨none, .store 8 7 24, none⟩]) (.seq (.seq
 (.region [fa 25 0 7, ld 26 25]) (.frame (rg [2, 6, 8] 27 51) [0] true (.join [.si 2, .si 6, .bx 0 bautomaton_builder (.pair (.node .imm (.pair .leaf (.pair .leaf (.pair .leaf
 (.pair .leaf tM))))) (.pair tO tO))] (.block 0 (.seq (.region [o1 28 (.bin .eql 26 (kI 1)), ia 27 28]) (.cond 27 (.seq (.region [im 29 0, fa 30 1 7, o1 31 (.load true 4 30), im 32
 2, o1 33 (.build [(.int .i64 0), (.int .u64 0), (.int .u64 0), (.int .u64 0), (.int .u64 0), (.int .i64 0), (.int .i64 0)] [(0, 1, (kI 0)), (1, 4, 31), (5, 1, 32)]), oS ⟨some 34,
 .call "(*mergelens/automaton.builder).add" [29, 33], none⟩ S_automaton_builder_add, ia 6 34]) .ret) (.seq (.region [o1 36 (.bin .eql 26 (kI 2)), ia 35 36]) (.cond 35 (.seq (.region
 [im 37 0, im 38 2, o1 39 (.build [(.int .i64 0), (.int .u64 0), (.int .u64 0), (.int .u64 0), (.int .u64 0), (.int .i64 0), (.int .i64 0)] [(0, 1, (kI 2)), (5, 1, 38)]), oS ⟨some
 40, .call "(*mergelens/automaton.builder).add" [37, 39], none⟩ S_automaton_builder_add, ia 6 40]) .ret) (.seq (.region [o1 42 (.bin .eql 26 (kI 3)), ia 41 42]) (.cond 41 (.seq
 (.region [im 43 0, im 44 2, o1 45 (.build [(.int .i64 0), (.int .u64 0), (.int .u64 0), (.int .u64 0), (.int .u64 0), (.int .i64 0), (.int .i64 0)] [(0, 1, (kI 3)), (5, 1, 44)]),
 oS ⟨some 46, .call "(*mergelens/automaton.builder).add" [43, 45], none⟩ S_automaton_builder_add, ia 6 46]) .ret) (.seq (.region [o1 48 (.bin .eql 26 (kI 4)), ia 47 48]) (.frame (rg
 [2, 6, 8] 49 29) [0] true (.join [.si 2, .si 6, .bx 0 bautomaton_builder (.pair (.node .imm (.pair .leaf (.pair .leaf (.pair .leaf (.pair .leaf tM))))) (.pair tO tO))] (.cond 47
 (.seq (.region [fa 49 7 7, ld 50 49, o1 51 (.lenK 50), o1 52 (.bin .sub 51 (kI 1)), ia 8 52]) (.frame (rg [2, 8] 53 12) [0] true (.join [.si 2, .bx 0 bautomaton_builder (.pair
 (.node .imm (.pair .leaf (.pair .leaf (.pair .leaf (.pair .leaf tM))))) (.pair tO tO))] (.block 1 (.loop [.si 2, .si 8, .bx 0 bautomaton_builder (.pair (.node .imm (.pair .leaf
 (.pair .leaf (.pair .leaf (.pair .leaf tM))))) (.pair tO tO))] (.seq (.seq (.region [im 53 8, o1 54 (.bin .geq 53 (kI 0))]) (.cond 54 .skip (.exit 1))) (.seq (.frame (rg [2] 57 8)
 [0] true (.join [.si 2, .bx 0 bautomaton_builder (.pair (.node .imm (.pair .leaf (.pair .leaf (.pair .leaf (.pair .leaf tM))))) (.pair tO tO))] (.block 2 (.region [im 57 0, fa 58 7
 7, ld 59 58, im 60 8, o1 61 (.ixA 1 59 60), ld 62 61, im 63 2, oS ⟨some 64, .call "(*mergelens/automaton.builder).build" [57, 62, 63], none⟩ S_automaton_builder_build, ia 2 64]))))
 (.region [im 55 8, o1 56 (.bin .sub 55 (kI 1)), ia 8 56])))))))) (.seq (.region [o1 66 (.bin .eql 26 (kI 5)), ia 65 66]) (.cond 65 (.seq (.region [im 67 0, fa 68 7 7, ld 69 68, im
 70 2, oS ⟨some 71, .call "(*mergelens/automaton.builder).choice" [67, 69, 70], none⟩ S_automaton_builder_choice, ia 6 71]) .ret) (.seq (.region [o1 73 (.bin .eql 26 (kI 6)), ia 72
 73]) (.cond 72 (.seq (.region [im 74 0, o1 75 (.load true 8 7), im 76 2, oS ⟨some 77, .call "(*mergelens/automaton.builder).repeat" [74, 75, 76], none⟩ S_automaton_builder_repeat,
 ia 6 77]) .ret) .skip)))))))))))))))))) (.seq (.region [im 78 2, ia 6 78]) .ret)))))
def F_automaton_builder_build : AFn := ⟨ "(*mergelens/automaton.builder).build", t_automaton_builder_build.erase, [.tmp 6], 3⟩
def W_automaton_builder_build (P : Program) (x : (automaton_builder × (Int × Int))) (K : Int → automaton_builder → Prop) : Prop :=
 (0 ≤ x.2.1 ∧ x.2.1 < ((List.length x.1.2.1 : Nat) : Int)) ∧
 ((Int.toNat x.2.1) < List.length x.1.2.1) ∧
 ((((List.getD x.1.2.1 (Int.toNat x.2.1) (0 : Int)) == (0 : Int)) = true → K x.2.2 x.1) ∧ (((List.getD x.1.2.1 (Int.toNat x.2.1) (0 : Int)) == (0 : Int)) = false → (0 ≤ x.2.1 ∧ x.2.1 < ((List.length x.1.1 : Nat) : Int)) ∧
 ((Int.toNat x.2.1) < List.length x.1.1) ∧
 JoinW (D := (Int × (Int × automaton_builder))) (fun J1 => ((((List.getD x.1.1 (Int.toNat x.2.1) zNode).1 == (1 : Int)) = true → Fn P "(*mergelens/automaton.builder).add" S_automaton_builder_add (x.1, ((0 : Int), ((List.getD x.1.1 (Int.toNat x.2.1) zNode).2.1, (x.2.2, (0 : Int))))) (fun (d3 : Int) (e4 : automaton_builder) => K d3 e4)) ∧ (((List.getD x.1.1 (Int.toNat x.2.1) zNode).1 == (1 : Int)) = false → ((((List.getD x.1.1 (Int.toNat x.2.1) zNode).1 == (2 : Int)) = true → Fn P "(*mergelens/automaton.builder).add" S_automaton_builder_add (x.1, ((2 : Int), (((0 : Int), ((0 : Int), ((0 : Int), (0 : Int)))), (x.2.2, (0 : Int))))) (fun (d5 : Int) (e6 : automaton_builder) => K d5 e6)) ∧ (((List.getD x.1.1 (Int.toNat x.2.1) zNode).1 == (2 : Int)) = false → ((((List.getD x.1.1 (Int.toNat x.2.1) zNode).1 == (3 : Int)) = true → Fn P "(*mergelens/automaton.builder).add" S_automaton_builder_add (x.1, ((3 : Int), (((0 : Int), ((0 : Int), ((0 : Int), (0 : Int)))), (x.2.2, (0 : Int))))) (fun (d7 : Int) (e8 : automaton_builder) => K d7 e8)) ∧ (((List.getD x.1.1 (Int.toNat x.2.1) zNode).1 == (3 : Int)) = false → JoinW (D := (Int × (Int × automaton_builder))) (fun J9 => ((((List.getD x.1.1 (Int.toNat x.2.1) zNode).1 == (4 : Int)) = true → JoinW (D := (Int × automaton_builder)) (fun J11 => LoopW (D := (Int × (Int × automaton_builder))) (x.2.2, ((IntKind.i64.wrap (((List.length (List.getD x.1.1 (Int.toNat x.2.1) zNode).2.2.2.2 : Nat) : Int) - (1 : Int))), x.1)) (fun (d13 : (Int × (Int × automaton_builder))) J14 => (((decide (d13.2.1 ≥ (0 : Int))) = true → JoinW (D := (Int × automaton_builder)) (fun J15 => (0 ≤ d13.2.1 ∧ d13.2.1 < ((List.length (List.getD x.1.1 (Int.toNat x.2.1) zNode).2.2.2.2 : Nat) : Int)) ∧
 ((Int.toNat d13.2.1) < List.length (List.getD x.1.1 (Int.toNat x.2.1) zNode).2.2.2.2) ∧
 Fn P "(*mergelens/automaton.builder).build" S_automaton_builder_build (d13.2.2, ((List.getD (List.getD x.1.1 (Int.toNat x.2.1) zNode).2.2.2.2 (Int.toNat d13.2.1) (0 : Int)), d13.1)) (fun (d17 : Int) (e18 : automaton_builder) => J15 (d17, e18))) (fun (d16 : (Int × automaton_builder)) => J14 (d16.1, ((IntKind.i64.wrap (d13.2.1 - (1 : Int))), d16.2)))) ∧ ((decide (d13.2.1 ≥ (0 : Int))) = false → J11 (d13.1, d13.2.2))))) (fun (d12 : (Int × automaton_builder)) => J9 (d12.1, ((0 : Int), d12.2)))) ∧ (((List.getD x.1.1 (Int.toNat x.2.1) zNode).1 == (4 : Int)) = false → ((((List.getD x.1.1 (Int.toNat x.2.1) zNode).1 == (5 : Int)) = true → Fn P "(*mergelens/automaton.builder).choice" S_automaton_builder_choice (x.1, ((List.getD x.1.1 (Int.toNat x.2.1) zNode).2.2.2.2, x.2.2)) (fun (d19 : Int) (e20 : automaton_builder) => K d19 e20)) ∧ (((List.getD x.1.1 (Int.toNat x.2.1) zNode).1 == (5 : Int)) = false → ((((List.getD x.1.1 (Int.toNat x.2.1) zNode).1 == (6 : Int)) = true → Fn P "(*mergelens/automaton.builder).repeat" S_automaton_builder_repeat (x.1, ((List.getD x.1.1 (Int.toNat x.2.1) zNode), x.2.2)) (fun (d21 : Int) (e22 : automaton_builder) => K d21 e22)) ∧ (((List.getD x.1.1 (Int.toNat x.2.1) zNode).1 == (6 : Int)) = false → J9 (x.2.2, ((0 : Int), x.1))))))))) (fun (d10 : (Int × (Int × automaton_builder))) => J1 d10)))))))) (fun (d2 : (Int × (Int × automaton_builder))) => K d2.1 d2.2.2)))
theorem fn_automaton_builder_build {P : Program} (h : Has P F_automaton_builder_build) {x : DP S_automaton_builder_build.ps} {K : DP S_automaton_builder_build.rs → DP (ptrs S_automaton_builder_build.ps) → Prop} (hw : W_automaton_builder_build P x K) : Fn P "(*mergelens/automaton.builder).build" S_automaton_builder_build x K :=
  fn_of (c := t_automaton_builder_build) h rfl rfl (by kernel_rfl) (Eq.mpr (show liftT P F_automaton_builder_build S_automaton_builder_build t_automaton_builder_build x K = W_automaton_builder_build P x K by kernel_rfl) hw)

def t_automaton_Build : TCode :=
 (.seq (.region [o1 2 (.alloc [(.slice none 0 0), (.int .i64 0)]), ia 3 (kI 0)]) (.seq (.region [im 10 0, oS ⟨some 11, .call "mergelens/regex.Weight" [10], none⟩ S_regex_Weight, im
 9 11, o1 12 (.ext 9 0), o1 13 (.ext 9 1), ia 4 12, ia 5 13]) (.seq (.frame (rg [3] 14 9) [1002] false (.join [.si 3, .bx 1002 (.pair (.sl bState) bI) (.pair tO .leaf)] (.block 0
 (.seq (.region [im 15 5, o1 16 (.bin .neq 15 (kI 0)), ia 14 16]) (.cond 14 (.seq (.region [o1 17 (.build [(.slice none 0 0), (.int .i64 0)] []), im 18 5, o0 ⟨none, .store 2 2 17,
 none⟩, ia 3 18]) .ret) (.seq (.region [im 20 4, o1 21 (.bin .gtr 20 (kI 4000)), ia 19 21]) (.cond 19 (.seq (.region [o1 22 (.build [(.slice none 0 0), (.int .i64 0)] []), o0 ⟨none,
 .store 2 2 22, none⟩, ia 3 (kI 1)]) .ret) .skip))))))) (.seq (.region [im 23 0, im 24 0, oS ⟨some 25, .call "mergelens/regex.Weights" [24], none⟩ S_regex_Weights, o1 26 (.build
 [(.slice none 0 0), (.slice none 0 0), (.slice none 0 0)] [(0, 1, 23), (1, 1, 25)]), o1 27 (.box 26), ia 6 27]) (.seq (.region [im 28 6, o1 29 (.build [(.int .i64 0), (.int .u64
 0), (.int .u64 0), (.int .u64 0), (.int .u64 0), (.int .i64 0), (.int .i64 0)] [(0, 1, (kI 4))]), oS ⟨some 30, .call "(*mergelens/automaton.builder).add" [28, 29], none⟩
 S_automaton_builder_add, ia 7 30]) (.seq (.region [im 31 6, im 32 0, o1 33 (.lenK 32), o1 34 (.bin .sub 33 (kI 1)), im 35 7, oS ⟨some 36, .call
 "(*mergelens/automaton.builder).build" [31, 34, 35], none⟩ S_automaton_builder_build, ia 8 36]) (.seq (.region [im 37 6, o1 38 (.nilc 37), fa 39 2 38, ld 40 39, im 41 8, o1 42
 (.build [(.slice none 0 0), (.int .i64 0)] [(0, 1, 40), (1, 1, 41)]), o0 ⟨none, .store 2 2 42, none⟩, ia 3 (kI 0)]) .ret)))))))
def F_automaton_Build : AFn := ⟨ "mergelens/automaton.Build", t_automaton_Build.erase, [.cell 2 true 2, .tmp 3], 1⟩
def W_automaton_Build (P : Program) (x : (List Node)) (K : (((List State) × Int) × Int) → Unit → Prop) : Prop :=
 Fn P "mergelens/regex.Weight" S_regex_Weight x (fun (d1 : (Int × Int)) (e2 : Unit) => JoinW (D := (Int × ((List State) × Int))) (fun J3 => (((d1.2 != (0 : Int)) = true → K (([], (0 : Int)), d1.2) ()) ∧ ((d1.2 != (0 : Int)) = false → (((decide (d1.1 > (4000 : Int))) = true → K (([], (0 : Int)), (1 : Int)) ()) ∧ ((decide (d1.1 > (4000 : Int))) = false → J3 ((0 : Int), ([], (0 : Int)))))))) (fun (d4 : (Int × ((List State) × Int))) => Fn P "mergelens/regex.Weights" S_regex_Weights x (fun (d5 : (List Int)) (e6 : Unit) => Fn P "(*mergelens/automaton.builder).add" S_automaton_builder_add ((x, (d5, [])), ((4 : Int), (((0 : Int), ((0 : Int), ((0 : Int), (0 : Int)))), ((0 : Int), (0 : Int))))) (fun (d7 : Int) (e8 : automaton_builder) => Fn P "(*mergelens/automaton.builder).build" S_automaton_builder_build (e8, ((IntKind.i64.wrap (((List.length x : Nat) : Int) - (1 : Int))), d7)) (fun (d9 : Int) (e10 : automaton_builder) => K ((e10.2.2, d9), (0 : Int)) ())))))
theorem fn_automaton_Build {P : Program} (h : Has P F_automaton_Build) {x : DP S_automaton_Build.ps} {K : DP S_automaton_Build.rs → DP (ptrs S_automaton_Build.ps) → Prop} (hw : W_automaton_Build P x K) : Fn P "mergelens/automaton.Build" S_automaton_Build x K :=
  fn_of (c := t_automaton_Build) h rfl rfl (by kernel_rfl) (Eq.mpr (show liftT P F_automaton_Build S_automaton_Build t_automaton_Build x K = W_automaton_Build P x K by kernel_rfl) hw)

def t_gen_Count : TCode :=
 (.seq (.region [o1 2 (.asg (.c (.slice none 0 0)))]) (.seq (.region [o1 3 (.asg (.c (.slice none 0 0)))]) (.seq (.seq (.region [ia 4 (kI 0)]) (.frame (rg [] 3 11) [] false (.join
 [.sl 3 false (.sl bI) tO] (.block 0 (.loop [.sl 3 false (.sl bI) tO, .si 4] (.seq (.seq (.region [im 5 4, im 6 0, o1 7 (.bin .lss 5 6)]) (.cond 7 .skip (.exit 0))) (.seq (.frame
 (rg [3] 10 4) [] false (.join [.sl 3 false (.sl bI) tO] (.block 1 (.region [im 10 3, im 11 4, oT ⟨some 12, .buildSl 1 [(.int .i64 0)] 1 [(0, 11)], none⟩ (some (bI, .leaf)), oT
 ⟨some 13, .app 1 8 10 12, none⟩ (some (bI, .leaf)), ia 3 13])))) (.region [im 8 4, o1 9 (.bin .add 8 (kI 1)), ia 4 9])))))))) (.seq (.region [im 14 3, ia 2 14]) .ret))))
def F_gen_Count : AFn := ⟨ "mergelens/mergelensgen.Count", t_gen_Count.erase, [.tmp 2], 1⟩
def W_gen_Count (P : Program) (x : Int) (K : (List Int) → Unit → Prop) : Prop :=
 JoinW (D := (List Int)) (fun J1 => LoopW (D := ((List Int) × Int)) ([], (0 : Int)) (fun (d3 : ((List Int) × Int)) J4 => (((decide (d3.2 < x)) = true → JoinW (D := (List Int)) (fun J5 => ((List.length d3.1 + List.length ([d3.2] : List Int)) * 8 ≤ 140737488355328) ∧
 J5 (d3.1 ++ ([d3.2] : List Int))) (fun (d6 : (List Int)) => J4 (d6, (IntKind.i64.wrap (d3.2 + (1 : Int)))))) ∧ ((decide (d3.2 < x)) = false → J1 d3.1)))) (fun (d2 : (List Int)) => K d2 ())
theorem fn_gen_Count {P : Program} (h : Has P F_gen_Count) {x : DP S_gen_Count.ps} {K : DP S_gen_Count.rs → DP (ptrs S_gen_Count.ps) → Prop} (hw : W_gen_Count P x K) : Fn P "mergelens/mergelensgen.Count" S_gen_Count x K :=
  fn_of (c := t_gen_Count) h rfl rfl (by kernel_rfl) (Eq.mpr (show liftT P F_gen_Count S_gen_Count t_gen_Count x K = W_gen_Count P x K by kernel_rfl) hw)


end Go.VS
