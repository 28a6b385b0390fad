/- Functions of the program: typed code, and what it says, lifted. -/
import Derived.Test.YtobddjdmgebmgaaKTxSig
import Derived.KernelRfl
set_option linter.unusedVariables false
set_option linter.unusedSimpArgs false
set_option linter.unusedSectionVars false
namespace Go.VS

def t_gen_Mod : TCode :=
  (.seq
    (.region [o1 4 (.asg (.c (.int .i64 0)))])
  (.seq
    (.region [o1 5 (.mv (.t 0)),
      o1 6 (.conv (.toInt .u64) (.t 5)),
      o1 7 (.mv (.t 1)),
      o1 8 (.conv (.toInt .u64) (.t 7)),
      o1 9 (.bin .rem (.t 6) (.t 8)),
      o1 10 (.conv (.toInt .i64) (.t 9)),
      o1 4 (.asg (.t 10))])
  .ret))
def F_gen_Mod : AFn := ⟨ "mergelens/mergelensgen.Mod", t_gen_Mod.erase, [.tmp 4], 2⟩
def W_gen_Mod (P : Program) (x : (Int × Int)) (K : Int → Unit → Prop) : Prop :=
  ((IntKind.u64.wrap x.2) ≠ 0) ∧
  K (IntKind.i64.wrap (Int.tmod (IntKind.u64.wrap x.1) (IntKind.u64.wrap x.2))) ()
theorem fn_gen_Mod {P : Program} (h : Has P F_gen_Mod) {x : DP S_gen_Mod.ps} {K : DP S_gen_Mod.rs → DP (ptrs S_gen_Mod.ps) → Prop} (hw : W_gen_Mod P x K) : Fn P "mergelens/mergelensgen.Mod" S_gen_Mod x K :=
  fn_of (c := t_gen_Mod) h rfl rfl (by kernel_rfl) (Eq.mpr (show liftT P F_gen_Mod S_gen_Mod t_gen_Mod x K = W_gen_Mod P x K by kernel_rfl) hw)

def t_ref05_Check : TCode :=
  (.seq
    (.region [o1 1 (.box (.t 0)),
      o1 2 (.asg (.c (.int .i64 0)))])
  (.seq
    (.region [o1 6 (.fAddr 0 (.t 1)),
      o1 7 (.load false 1 (.t 6)),
      o1 8 (.lenK (.t 7)),
      o1 3 (.asg (.t 8))])
  (.seq
    (.seq
      (.region [o1 9 (.mv (.t 3)),
        o1 10 (.bin .lss (.t 9) (.c (.int .i64 1))),
        o1 11 (.mv (.t 10)),
        o0 ⟨some 12, .mv (.t 3), some (11, false)⟩,
        o0 ⟨some 13, .bin .gtr (.t 12) (.c (.int .i64 8000)), some (11, false)⟩,
        o1 14 (.pick (.t 11) (.c (.bool true)) (.t 13)),
        o1 15 (.mv (.t 14)),
        o0 ⟨some 16, .fAddr 1 (.t 1), some (15, false)⟩,
        o0 ⟨some 17, .load false 1 (.t 16), some (15, false)⟩,
        o0 ⟨some 18, .bin .lss (.t 17) (.c (.int .i64 0)), some (15, false)⟩,
        o1 19 (.pick (.t 15) (.c (.bool true)) (.t 18)),
        o1 20 (.mv (.t 19)),
        o0 ⟨some 21, .fAddr 1 (.t 1), some (20, false)⟩,
        o0 ⟨some 22, .load false 1 (.t 21), some (20, false)⟩,
        o0 ⟨some 23, .mv (.t 3), some (20, false)⟩,
        o0 ⟨some 24, .bin .geq (.t 22) (.t 23), some (20, false)⟩,
        o1 25 (.pick (.t 20) (.c (.bool true)) (.t 24))])
    (.cond (.t 25)
      (.seq
        (.region [o1 2 (.asg (.c (.int .i64 2)))])
      .ret)
      .skip))
  (.seq
    (.seq
      (.region [o1 4 (.asg (.c (.int .i64 0)))])
    (.frame [2, 4, 5, 26, 27, 28, 29, 30, 31, 32, 33, 34, 35, 36, 37, 38, 39, 40, 41, 42, 43, 44, 45, 46, 47, 48, 49, 50, 51, 52, 53, 54, 55, 56, 57, 58, 59, 60, 61, 62, 63, 64, 65, 66, 67, 68, 69, 70, 71, 72, 73, 74, 75] [1005] false (.join [.sl 2 false (.int .i64) .leaf]
    (.block 0
      (.loop [.sl 2 false (.int .i64) .leaf, .sl 4 false (.int .i64) .leaf]
        (.seq
          (.seq
            (.region [o1 26 (.mv (.t 4)),
              o1 27 (.mv (.t 3)),
              o1 28 (.bin .lss (.t 26) (.t 27))])
          (.cond (.t 28)
            .skip
            (.exit 0)))
        (.seq
          (.frame [2, 5, 31, 32, 33, 34, 35, 36, 37, 38, 39, 40, 41, 42, 43, 44, 45, 46, 47, 48, 49, 50, 51, 52, 53, 54, 55, 56, 57, 58, 59, 60, 61, 62, 63, 64, 65, 66, 67, 68, 69, 70, 71, 72, 73, 74, 75] [1005] false (.join [.sl 2 false (.int .i64) .leaf]
          (.block 1
            (.seq
              (.region [o1 31 (.fAddr 0 (.t 1)),
                o1 32 (.load false 1 (.t 31)),
                o1 33 (.mv (.t 4)),
                o1 34 (.ixA 7 (.t 32) (.t 33)),
                o1 35 (.load true 7 (.t 34)),
                o1 5 (.alloc [(.int .i64 0), (.int .u64 0), (.int .u64 0), (.int .u64 0), (.int .u64 0), (.int .i64 0), (.int .i64 0)]),
                o0 ⟨none, .store 7 (.t 5) (.t 35), none⟩])
            (.seq
              (.region [o1 36 (.fAddr 0 (.t 5)),
                o1 37 (.load false 1 (.t 36)),
                o1 38 (.bin .lss (.t 37) (.c (.int .i64 0))),
                o1 39 (.mv (.t 38)),
                o0 ⟨some 40, .fAddr 0 (.t 5), some (39, false)⟩,
                o0 ⟨some 41, .load false 1 (.t 40), some (39, false)⟩,
                o0 ⟨some 42, .bin .gtr (.t 41) (.c (.int .i64 4)), some (39, false)⟩,
                o1 43 (.pick (.t 39) (.c (.bool true)) (.t 42)),
                o1 44 (.mv (.t 43)),
                o0 ⟨some 45, .fAddr 0 (.t 5), some (44, false)⟩,
                o0 ⟨some 46, .load false 1 (.t 45), some (44, false)⟩,
                o0 ⟨some 47, .bin .neq (.t 46) (.c (.int .i64 4)), some (44, false)⟩,
                o0 ⟨some 48, .mv (.t 47), some (44, false)⟩,
                o0 ⟨some 49, .fAddr 5 (.t 5), some (48, true)⟩,
                o0 ⟨some 50, .load false 1 (.t 49), some (48, true)⟩,
                o0 ⟨some 51, .bin .lss (.t 50) (.c (.int .i64 0)), some (48, true)⟩,
                o0 ⟨some 52, .mv (.t 51), some (48, true)⟩,
                o0 ⟨some 53, .fAddr 5 (.t 5), some (52, false)⟩,
                o0 ⟨some 54, .load false 1 (.t 53), some (52, false)⟩,
                o0 ⟨some 55, .mv (.t 3), some (52, false)⟩,
                o0 ⟨some 56, .bin .geq (.t 54) (.t 55), some (52, false)⟩,
                o0 ⟨some 57, .pick (.t 52) (.c (.bool true)) (.t 56), some (48, true)⟩,
                o0 ⟨some 58, .pick (.t 48) (.t 57) (.c (.bool false)), some (44, false)⟩,
                o1 59 (.pick (.t 44) (.c (.bool true)) (.t 58)),
                o1 60 (.mv (.t 59)),
                o0 ⟨some 61, .fAddr 0 (.t 5), some (60, false)⟩,
                o0 ⟨some 62, .load false 1 (.t 61), some (60, false)⟩,
                o0 ⟨some 63, .bin .eql (.t 62) (.c (.int .i64 1)), some (60, false)⟩,
                o0 ⟨some 64, .mv (.t 63), some (60, false)⟩,
                o0 ⟨some 65, .fAddr 6 (.t 5), some (64, true)⟩,
                o0 ⟨some 66, .load false 1 (.t 65), some (64, true)⟩,
                o0 ⟨some 67, .bin .lss (.t 66) (.c (.int .i64 0)), some (64, true)⟩,
                o0 ⟨some 68, .mv (.t 67), some (64, true)⟩,
                o0 ⟨some 69, .fAddr 6 (.t 5), some (68, false)⟩,
                o0 ⟨some 70, .load false 1 (.t 69), some (68, false)⟩,
                o0 ⟨some 71, .mv (.t 3), some (68, false)⟩,
                o0 ⟨some 72, .bin .geq (.t 70) (.t 71), some (68, false)⟩,
                o0 ⟨some 73, .pick (.t 68) (.c (.bool true)) (.t 72), some (64, true)⟩,
                o0 ⟨some 74, .pick (.t 64) (.t 73) (.c (.bool false)), some (60, false)⟩,
                o1 75 (.pick (.t 60) (.c (.bool true)) (.t 74))])
            (.cond (.t 75)
              (.seq
                (.region [o1 2 (.asg (.c (.int .i64 2)))])
              .ret)
              .skip))))))
        (.region [o1 29 (.mv (.t 4)),
          o1 30 (.bin .add (.t 29) (.c (.int .i64 1))),
          o1 4 (.asg (.t 30))]))))))))
  (.seq
    (.region [o1 2 (.asg (.c (.int .i64 0)))])
  .ret)))))
def F_ref05_Check : AFn := ⟨ "mergelens/mergelensref05.Check", t_ref05_Check.erase, [.tmp 2], 1⟩
def W_ref05_Check (P : Program) (x : ((List State) × Int)) (K : Int → Unit → Prop) : Prop :=
  (((cond (cond (cond (decide (((List.length x.1 : Nat) : Int) < (1 : Int))) true (decide (((List.length x.1 : Nat) : Int) > (8000 : Int)))) true (decide (x.2 < (0 : Int)))) true (decide (x.2 ≥ ((List.length x.1 : Nat) : Int)))) = true → K (2 : Int) ()) ∧ ((cond (cond (cond (decide (((List.length x.1 : Nat) : Int) < (1 : Int))) true (decide (((List.length x.1 : Nat) : Int) > (8000 : Int)))) true (decide (x.2 < (0 : Int)))) true (decide (x.2 ≥ ((List.length x.1 : Nat) : Int)))) = false → JoinW (D := Int) (fun J1 => LoopW (D := (Int × Int)) ((0 : Int), (0 : Int)) (fun (d3 : (Int × Int)) J4 => (((decide (d3.2 < ((List.length x.1 : Nat) : Int))) = true → JoinW (D := Int) (fun J5 => (0 ≤ d3.2 ∧ d3.2 < ((List.length x.1 : Nat) : Int)) ∧
  ((Int.toNat d3.2) < List.length x.1) ∧
  (((cond (cond (cond (decide ((List.getD x.1 (Int.toNat d3.2) zState).1 < (0 : Int))) true (decide ((List.getD x.1 (Int.toNat d3.2) zState).1 > (4 : Int)))) true (cond ((List.getD x.1 (Int.toNat d3.2) zState).1 != (4 : Int)) (cond (decide ((List.getD x.1 (Int.toNat d3.2) zState).2.2.1 < (0 : Int))) true (decide ((List.getD x.1 (Int.toNat d3.2) zState).2.2.1 ≥ ((List.length x.1 : Nat) : Int)))) false)) true (cond ((List.getD x.1 (Int.toNat d3.2) zState).1 == (1 : Int)) (cond (decide ((List.getD x.1 (Int.toNat d3.2) zState).2.2.2 < (0 : Int))) true (decide ((List.getD x.1 (Int.toNat d3.2) zState).2.2.2 ≥ ((List.length x.1 : Nat) : Int)))) false)) = true → K (2 : Int) ()) ∧ ((cond (cond (cond (decide ((List.getD x.1 (Int.toNat d3.2) zState).1 < (0 : Int))) true (decide ((List.getD x.1 (Int.toNat d3.2) zState).1 > (4 : Int)))) true (cond ((List.getD x.1 (Int.toNat d3.2) zState).1 != (4 : Int)) (cond (decide ((List.getD x.1 (Int.toNat d3.2) zState).2.2.1 < (0 : Int))) true (decide ((List.getD x.1 (Int.toNat d3.2) zState).2.2.1 ≥ ((List.length x.1 : Nat) : Int)))) false)) true (cond ((List.getD x.1 (Int.toNat d3.2) zState).1 == (1 : Int)) (cond (decide ((List.getD x.1 (Int.toNat d3.2) zState).2.2.2 < (0 : Int))) true (decide ((List.getD x.1 (Int.toNat d3.2) zState).2.2.2 ≥ ((List.length x.1 : Nat) : Int)))) false)) = false → J5 d3.1))) (fun (d6 : Int) => J4 (d6, (IntKind.i64.wrap (d3.2 + (1 : Int)))))) ∧ ((decide (d3.2 < ((List.length x.1 : Nat) : Int))) = false → J1 d3.1)))) (fun (d2 : Int) => K (0 : Int) ())))
theorem fn_ref05_Check {P : Program} (h : Has P F_ref05_Check) {x : DP S_ref05_Check.ps} {K : DP S_ref05_Check.rs → DP (ptrs S_ref05_Check.ps) → Prop} (hw : W_ref05_Check P x K) : Fn P "mergelens/mergelensref05.Check" S_ref05_Check x K :=
  fn_of (c := t_ref05_Check) h rfl rfl (by kernel_rfl) (Eq.mpr (show liftT P F_ref05_Check S_ref05_Check t_ref05_Check x K = W_ref05_Check P x K by kernel_rfl) hw)

def t_ref04_reader_node : TCode :=
  (.seq
    (.region [o1 3 (.box (.t 1)),
      o1 4 (.asg (.c (.int .i64 0)))])
  (.seq
    (.frame [5, 6, 7, 8, 9, 10, 11, 12, 13, 14] [0] true (.join [.bx 0 bref04_reader (.pair .leaf (.pair .leaf (.pair .leaf (.pair (.node .own (.pair .leaf (.pair .leaf (.pair .leaf (.pair .leaf (.node .imm .leaf)))))) .leaf))))]
    (.draw [(.first (o1 5 (.mv (.t 0)))
    (.first (o1 6 (.mv (.t 0)))
    (.first (o1 7 (.nilc (.t 6)))
    (.first (o1 8 (.fAddr 3 (.t 7)))
    (.first (o1 10 (.load true 8 (.t 3)))
    (.alt (o1 9 (.load false 1 (.t 8)))
    (.alt (oT ⟨some 11, .buildSl 8 [(.int .i64 0), (.int .u64 0), (.int .u64 0), (.int .u64 0), (.int .u64 0), (.int .i64 0), (.int .i64 0), (.slice none 0 0)] 1 [(0, (.t 10))], none⟩ (some (bNode, (.pair .leaf (.pair .leaf (.pair .leaf (.pair .leaf (.node .imm .leaf))))))))
    (.alt (oT ⟨some 12, .app 8 80 (.t 9) (.t 11), none⟩ (some (bNode, (.pair .leaf (.pair .leaf (.pair .leaf (.pair .leaf (.node .imm .leaf))))))))
    (.first (o1 13 (.nilc (.t 5)))
    (.first (o1 14 (.fAddr 3 (.t 13)))
    (.alt (o0 ⟨none, .store 1 (.t 14) (.t 12), none⟩)
    .done
    .stop)))
    .stop)
    .stop)
    (.alt (oT ⟨some 11, .buildSl 8 [(.int .i64 0), (.int .u64 0), (.int .u64 0), (.int .u64 0), (.int .u64 0), (.int .i64 0), (.int .i64 0), (.slice none 0 0)] 1 [(0, (.t 10))], none⟩ (some (bNode, (.pair .leaf (.pair .leaf (.pair .leaf (.pair .leaf (.node .imm .leaf))))))))
    (.first (o1 9 (.load false 1 (.t 8)))
    (.alt (oT ⟨some 12, .app 8 80 (.t 9) (.t 11), none⟩ (some (bNode, (.pair .leaf (.pair .leaf (.pair .leaf (.pair .leaf (.node .imm .leaf))))))))
    (.first (o1 13 (.nilc (.t 5)))
    (.first (o1 14 (.fAddr 3 (.t 13)))
    (.alt (o0 ⟨none, .store 1 (.t 14) (.t 12), none⟩)
    .done
    .stop)))
    .stop))
    .stop)))))))])))
  (.seq
    (.region [o1 15 (.mv (.t 0)),
      o1 16 (.nilc (.t 15)),
      o1 17 (.fAddr 3 (.t 16)),
      o1 18 (.load false 1 (.t 17)),
      o1 19 (.lenK (.t 18)),
      o1 20 (.bin .sub (.t 19) (.c (.int .i64 1))),
      o1 4 (.asg (.t 20))])
  .ret)))
def F_ref04_reader_node : AFn := ⟨ "(*mergelens/mergelensref04.reader).node", t_ref04_reader_node.erase, [.tmp 4], 2⟩
def W_ref04_reader_node (P : Program) (x : (ref04_reader × Node)) (K : Int → ref04_reader → Prop) : Prop :=
  JoinW (D := ref04_reader) (fun J1 => (((((List.length x.1.2.2.2.1 + List.length ([(x.2.1, ((x.2.2.1.1, (x.2.2.1.2.1, (x.2.2.1.2.2.1, x.2.2.1.2.2.2))), (x.2.2.2.1, (x.2.2.2.2.1, x.2.2.2.2.2))))] : List Node)) * 80 ≤ 140737488355328) ∧
  (J1 (x.1.1, (x.1.2.1, (x.1.2.2.1, ((x.1.2.2.2.1 ++ ([(x.2.1, ((x.2.2.1.1, (x.2.2.1.2.1, (x.2.2.1.2.2.1, x.2.2.1.2.2.2))), (x.2.2.2.1, (x.2.2.2.2.1, x.2.2.2.2.2))))] : List Node)), x.1.2.2.2.2))))) ∧ (True)) ∧ (True)) ∧ (True)) ∧ (((((List.length x.1.2.2.2.1 + List.length ([(x.2.1, ((x.2.2.1.1, (x.2.2.1.2.1, (x.2.2.1.2.2.1, x.2.2.1.2.2.2))), (x.2.2.2.1, (x.2.2.2.2.1, x.2.2.2.2.2))))] : List Node)) * 80 ≤ 140737488355328) ∧
  (J1 (x.1.1, (x.1.2.1, (x.1.2.2.1, ((x.1.2.2.2.1 ++ ([(x.2.1, ((x.2.2.1.1, (x.2.2.1.2.1, (x.2.2.1.2.2.1, x.2.2.1.2.2.2))), (x.2.2.2.1, (x.2.2.2.2.1, x.2.2.2.2.2))))] : List Node)), x.1.2.2.2.2))))) ∧ (True)) ∧ (True)) ∧ (True))) (fun (d2 : ref04_reader) => K (IntKind.i64.wrap (((List.length d2.2.2.2.1 : Nat) : Int) - (1 : Int))) (d2.1, (d2.2.1, (d2.2.2.1, (d2.2.2.2.1, d2.2.2.2.2)))))
theorem fn_ref04_reader_node {P : Program} (h : Has P F_ref04_reader_node) {x : DP S_ref04_reader_node.ps} {K : DP S_ref04_reader_node.rs → DP (ptrs S_ref04_reader_node.ps) → Prop} (hw : W_ref04_reader_node P x K) : Fn P "(*mergelens/mergelensref04.reader).node" S_ref04_reader_node x K :=
  fn_of (c := t_ref04_reader_node) h rfl rfl (by kernel_rfl) (Eq.mpr (show liftT P F_ref04_reader_node S_ref04_reader_node t_ref04_reader_node x K = W_ref04_reader_node P x K by kernel_rfl) hw)

def t_ref04_reader_is : TCode :=
  (.seq
    (.region [o1 4 (.asg (.c (.bool false)))])
  (.seq
    (.frame [4, 5, 6, 7, 8, 9, 10, 11, 12, 13, 14, 15, 16, 17, 18, 19, 20, 21, 22, 23, 24, 25, 26, 27] [] false (.join [.sl 4 false .bool .leaf]
    (.draw [(.first (o1 5 (.mv (.t 0)))
    (.first (o1 6 (.nilc (.t 5)))
    (.first (o1 7 (.fAddr 1 (.t 6)))
    (.first (o1 8 (.load false 1 (.t 7)))
    (.first (o1 9 (.mv (.t 0)))
    (.first (o1 10 (.nilc (.t 9)))
    (.first (o1 11 (.fAddr 0 (.t 10)))
    (.first (o1 12 (.load false 1 (.t 11)))
    (.first (o1 13 (.lenS (.t 12)))
    (.first (o1 14 (.bin .lss (.t 8) (.t 13)))
    (.first (o1 15 (.mv (.t 14)))
    (.first (o0 ⟨some 16, .mv (.t 0), some (15, true)⟩)
    (.first (o0 ⟨some 17, .nilc (.t 16), some (15, true)⟩)
    (.first (o0 ⟨some 18, .fAddr 0 (.t 17), some (15, true)⟩)
    (.first (o0 ⟨some 19, .load false 1 (.t 18), some (15, true)⟩)
    (.first (o0 ⟨some 20, .mv (.t 0), some (15, true)⟩)
    (.first (o0 ⟨some 21, .nilc (.t 20), some (15, true)⟩)
    (.first (o0 ⟨some 22, .fAddr 1 (.t 21), some (15, true)⟩)
    (.first (o0 ⟨some 23, .load false 1 (.t 22), some (15, true)⟩)
    (.first (o0 ⟨some 24, .ixS (.t 19) (.t 23), some (15, true)⟩)
    (.first (o0 ⟨some 25, .mv (.t 1), some (15, true)⟩)
    (.first (o0 ⟨some 26, .bin .eql (.t 24) (.t 25), some (15, true)⟩)
    (.first (o1 27 (.pick (.t 15) (.t 26) (.c (.bool false))))
    (.alt (o1 4 (.asg (.t 27)))
    .done
    .stop))))))))))))))))))))))))])))
  .ret))
def F_ref04_reader_is : AFn := ⟨ "(*mergelens/mergelensref04.reader).is", t_ref04_reader_is.erase, [.tmp 4], 2⟩
def W_ref04_reader_is (P : Program) (x : (ref04_reader × Int)) (K : Bool → ref04_reader → Prop) : Prop :=
  JoinW (D := Bool) (fun J1 => (((decide (x.1.2.1 < ((List.length x.1.1 : Nat) : Int))) = true → 0 ≤ x.1.2.1 ∧ x.1.2.1 < ((List.length x.1.1 : Nat) : Int))) ∧
  (J1 (cond (decide (x.1.2.1 < ((List.length x.1.1 : Nat) : Int))) (((UInt8.toNat (List.getD x.1.1 (Int.toNat x.1.2.1) 0) : Nat) : Int) == x.2) false)) ∧ (True)) (fun (d2 : Bool) => K d2 (x.1.1, (x.1.2.1, (x.1.2.2.1, (x.1.2.2.2.1, x.1.2.2.2.2)))))
theorem fn_ref04_reader_is {P : Program} (h : Has P F_ref04_reader_is) {x : DP S_ref04_reader_is.ps} {K : DP S_ref04_reader_is.rs → DP (ptrs S_ref04_reader_is.ps) → Prop} (hw : W_ref04_reader_is P x K) : Fn P "(*mergelens/mergelensref04.reader).is" S_ref04_reader_is x K :=
  fn_of (c := t_ref04_reader_is) h rfl rfl (by kernel_rfl) (Eq.mpr (show liftT P F_ref04_reader_is S_ref04_reader_is t_ref04_reader_is x K = W_ref04_reader_is P x K by kernel_rfl) hw)

def t_ref04_Put : TCode :=
  (.seq
    (.region [o1 2 (.box (.t 0)),
      o1 4 (.alloc [(.int .u64 0), (.int .u64 0), (.int .u64 0), (.int .u64 0)])])
  (.seq
    (.region [o1 5 (.mv (.t 1)),
      o1 6 (.bin .quo (.t 5) (.c (.int .u8 64))),
      o1 7 (.mv (.t 1)),
      o1 8 (.bin .quo (.t 7) (.c (.int .u8 64))),
      o1 9 (.ixAr 4 1 (.t 2) (.t 8)),
      o1 10 (.load false 1 (.t 9)),
      o1 11 (.mv (.t 1)),
      o1 12 (.bin .rem (.t 11) (.c (.int .u8 64))),
      o1 13 (.bin .shl (.c (.int .u64 1)) (.t 12)),
      o1 14 (.bin .or (.t 10) (.t 13)),
      o1 15 (.ixAr 4 1 (.t 2) (.t 6)),
      o0 ⟨none, .store 1 (.t 15) (.t 14), none⟩])
  (.seq
    (.region [o1 16 (.load true 4 (.t 2)),
      o0 ⟨none, .store 4 (.t 4) (.t 16), none⟩])
  .ret)))
def F_ref04_Put : AFn := ⟨ "mergelens/mergelensref04.Put", t_ref04_Put.erase, [.cell 4 true 4], 2⟩
def W_ref04_Put (P : Program) (x : ((Int × (Int × (Int × Int))) × Int)) (K : (Int × (Int × (Int × Int))) → Unit → Prop) : Prop :=
  ((64 : Int) ≠ 0) ∧
  ((64 : Int) ≠ 0) ∧
  (0 ≤ (IntKind.u8.wrap (Int.tdiv x.2 (64 : Int))) ∧ (IntKind.u8.wrap (Int.tdiv x.2 (64 : Int))) < ((4 : Nat) : Int)) ∧
  ((Int.toNat (IntKind.u8.wrap (Int.tdiv x.2 (64 : Int)))) < 4) ∧
  ((64 : Int) ≠ 0) ∧
  (0 ≤ (Int.tmod x.2 (64 : Int))) ∧
  (0 ≤ (IntKind.u8.wrap (Int.tdiv x.2 (64 : Int))) ∧ (IntKind.u8.wrap (Int.tdiv x.2 (64 : Int))) < ((4 : Nat) : Int)) ∧
  ((Int.toNat (IntKind.u8.wrap (Int.tdiv x.2 (64 : Int)))) < 4) ∧
  K ((if (Int.toNat (IntKind.u8.wrap (Int.tdiv x.2 (64 : Int)))) = 0 then (IntKind.u64.wrap ((BitVec.toNat (BitVec.ofInt IntKind.u64.bits (List.getD [x.1.1, x.1.2.1, x.1.2.2.1, x.1.2.2.2] (Int.toNat (IntKind.u8.wrap (Int.tdiv x.2 (64 : Int)))) (0 : Int)) ||| BitVec.ofInt IntKind.u64.bits (IntKind.u64.wrap ((1 : Int) * 2 ^ (min (Int.toNat (Int.tmod x.2 (64 : Int))) IntKind.u64.bits)))) : Nat) : Int)) else x.1.1), ((if (Int.toNat (IntKind.u8.wrap (Int.tdiv x.2 (64 : Int)))) = 1 then (IntKind.u64.wrap ((BitVec.toNat (BitVec.ofInt IntKind.u64.bits (List.getD [x.1.1, x.1.2.1, x.1.2.2.1, x.1.2.2.2] (Int.toNat (IntKind.u8.wrap (Int.tdiv x.2 (64 : Int)))) (0 : Int)) ||| BitVec.ofInt IntKind.u64.bits (IntKind.u64.wrap ((1 : Int) * 2 ^ (min (Int.toNat (Int.tmod x.2 (64 : Int))) IntKind.u64.bits)))) : Nat) : Int)) else x.1.2.1), ((if (Int.toNat (IntKind.u8.wrap (Int.tdiv x.2 (64 : Int)))) = 2 then (IntKind.u64.wrap ((BitVec.toNat (BitVec.ofInt IntKind.u64.bits (List.getD [x.1.1, x.1.2.1, x.1.2.2.1, x.1.2.2.2] (Int.toNat (IntKind.u8.wrap (Int.tdiv x.2 (64 : Int)))) (0 : Int)) ||| BitVec.ofInt IntKind.u64.bits (IntKind.u64.wrap ((1 : Int) * 2 ^ (min (Int.toNat (Int.tmod x.2 (64 : Int))) IntKind.u64.bits)))) : Nat) : Int)) else x.1.2.2.1), (if (Int.toNat (IntKind.u8.wrap (Int.tdiv x.2 (64 : Int)))) = 3 then (IntKind.u64.wrap ((BitVec.toNat (BitVec.ofInt IntKind.u64.bits (List.getD [x.1.1, x.1.2.1, x.1.2.2.1, x.1.2.2.2] (Int.toNat (IntKind.u8.wrap (Int.tdiv x.2 (64 : Int)))) (0 : Int)) ||| BitVec.ofInt IntKind.u64.bits (IntKind.u64.wrap ((1 : Int) * 2 ^ (min (Int.toNat (Int.tmod x.2 (64 : Int))) IntKind.u64.bits)))) : Nat) : Int)) else x.1.2.2.2)))) ()
theorem fn_ref04_Put {P : Program} (h : Has P F_ref04_Put) {x : DP S_ref04_Put.ps} {K : DP S_ref04_Put.rs → DP (ptrs S_ref04_Put.ps) → Prop} (hw : W_ref04_Put P x K) : Fn P "mergelens/mergelensref04.Put" S_ref04_Put x K :=
  fn_of (c := t_ref04_Put) h rfl rfl (by kernel_rfl) (Eq.mpr (show liftT P F_ref04_Put S_ref04_Put t_ref04_Put x K = W_ref04_Put P x K by kernel_rfl) hw)

def t_ref04_reader_atom : TCode :=
  (.seq
    (.region [o1 2 (.asg (.c (.int .i64 0)))])
  (.seq
    (.frame [3, 5, 6, 7, 8, 9, 10, 11, 12, 13] [] false (.join [.sl 3 false (.int .u8) .leaf]
    (.draw [(.first (o1 5 (.mv (.t 0)))
    (.first (o1 6 (.nilc (.t 5)))
    (.first (o1 7 (.fAddr 0 (.t 6)))
    (.first (o1 8 (.load false 1 (.t 7)))
    (.first (o1 9 (.mv (.t 0)))
    (.first (o1 10 (.nilc (.t 9)))
    (.first (o1 11 (.fAddr 1 (.t 10)))
    (.first (o1 12 (.load false 1 (.t 11)))
    (.first (o1 13 (.ixS (.t 8) (.t 12)))
    (.alt (o1 3 (.asg (.t 13)))
    .done
    .stop))))))))))])))
  (.seq
    (.region [o1 14 (.mv (.t 0)),
      o1 15 (.nilc (.t 14)),
      o1 16 (.fAddr 1 (.t 15)),
      o1 17 (.load false 1 (.t 16)),
      o1 18 (.bin .add (.t 17) (.c (.int .i64 1))),
      o1 19 (.nilc (.t 14)),
      o1 20 (.fAddr 1 (.t 19)),
      o0 ⟨none, .store 1 (.t 20) (.t 18), none⟩])
  (.seq
    (.seq
      (.region [o1 21 (.mv (.t 3))])
    (.frame [2, 3, 4, 22, 23, 24, 25, 26, 27, 28, 29, 30, 31, 32, 33, 34, 35, 36, 37, 38, 39, 40, 41, 42, 43, 44, 45, 46, 47, 48, 49, 50, 51, 52, 53, 54, 55, 56, 57, 58, 59, 60, 61, 62, 63, 64, 65, 66, 67, 68, 69, 70, 71, 72, 73, 74, 75, 76, 77, 78, 79, 80, 81, 82, 83, 84, 85, 86, 87, 88, 89, 90, 91, 92, 93, 94, 95, 96, 97, 98, 99, 100, 101, 102, 103, 104, 105, 106, 107, 108, 109, 110, 111, 112, 113, 114, 115, 116, 117, 118, 119, 120, 121, 122, 123, 124, 125, 126] [0] true (.join [.sl 2 false (.int .i64) .leaf, .sl 3 false (.int .u8) .leaf, .bx 0 bref04_reader (.pair .leaf (.pair .leaf (.pair .leaf (.pair (.node .own (.pair .leaf (.pair .leaf (.pair .leaf (.pair .leaf (.node .imm .leaf)))))) .leaf))))]
    (.block 0
      (.seq
        (.region [o1 23 (.bin .eql (.t 21) (.c (.int .u8 40))),
          o1 22 (.asg (.t 23))])
      (.cond (.t 22)
        (.seq
          (.seq
            (.region [o1 24 (.mv (.t 0)),
              o1 25 (.nilc (.t 24)),
              o1 26 (.fAddr 2 (.t 25)),
              o1 27 (.load false 1 (.t 26)),
              o1 28 (.bin .geq (.t 27) (.c (.int .i64 50)))])
          (.cond (.t 28)
            (.seq
              (.region [o1 29 (.mv (.t 0)),
                oS ⟨some 30, .call "(*mergelens/mergelensref04.reader).fail" [(.t 29), (.c (.int .i64 1))], none⟩ S_ref04_reader_fail,
                o1 2 (.asg (.t 30))])
            .ret)
            .skip))
        (.seq
          (.region [o1 31 (.mv (.t 0)),
            o1 32 (.nilc (.t 31)),
            o1 33 (.fAddr 2 (.t 32)),
            o1 34 (.load false 1 (.t 33)),
            o1 35 (.bin .add (.t 34) (.c (.int .i64 1))),
            o1 36 (.nilc (.t 31)),
            o1 37 (.fAddr 2 (.t 36)),
            o0 ⟨none, .store 1 (.t 37) (.t 35), none⟩])
        (.seq
          (.region [o1 38 (.mv (.t 0)),
            oS ⟨some 39, .call "(*mergelens/mergelensref04.reader).pattern" [(.t 38)], none⟩ S_ref04_reader_pattern,
            o1 4 (.asg (.t 39))])
        (.seq
          (.seq
            (.region [o1 40 (.mv (.t 0)),
              o1 41 (.nilc (.t 40)),
              o1 42 (.fAddr 4 (.t 41)),
              o1 43 (.load false 1 (.t 42)),
              o1 44 (.bin .eql (.t 43) (.c (.int .i64 0))),
              o1 45 (.mv (.t 44)),
              ⟨⟨some 46, .mv (.t 0), some (45, true)⟩, none, ⟨[], []⟩, false, some 45, true, false⟩,
              ⟨⟨some 47, .call "(*mergelens/mergelensref04.reader).is" [(.t 46), (.c (.int .u8 41))], some (45, true)⟩, none, S_ref04_reader_is, false, none, true, true⟩,
              ⟨⟨some 48, .un .not (.t 47), some (45, true)⟩, none, ⟨[], []⟩, false, none, true, true⟩,
              o1 49 (.pick (.t 45) (.t 48) (.c (.bool false)))])
          (.cond (.t 49)
            (.seq
              (.region [o1 50 (.mv (.t 0)),
                oS ⟨some 51, .call "(*mergelens/mergelensref04.reader).fail" [(.t 50), (.c (.int .i64 40))], none⟩ S_ref04_reader_fail,
                o1 2 (.asg (.t 51))])
            .ret)
            .skip))
        (.seq
          (.region [o1 52 (.mv (.t 0)),
            o1 53 (.nilc (.t 52)),
            o1 54 (.fAddr 2 (.t 53)),
            o1 55 (.load false 1 (.t 54)),
            o1 56 (.bin .sub (.t 55) (.c (.int .i64 1))),
            o1 57 (.nilc (.t 52)),
            o1 58 (.fAddr 2 (.t 57)),
            o0 ⟨none, .store 1 (.t 58) (.t 56), none⟩])
        (.seq
          (.region [o1 59 (.mv (.t 0)),
            o1 60 (.nilc (.t 59)),
            o1 61 (.fAddr 1 (.t 60)),
            o1 62 (.load false 1 (.t 61)),
            o1 63 (.bin .add (.t 62) (.c (.int .i64 1))),
            o1 64 (.nilc (.t 59)),
            o1 65 (.fAddr 1 (.t 64)),
            o0 ⟨none, .store 1 (.t 65) (.t 63), none⟩])
        (.seq
          (.region [o1 66 (.mv (.t 4)),
            o1 2 (.asg (.t 66))])
        .ret)))))))
        (.seq
          (.region [o1 68 (.bin .eql (.t 21) (.c (.int .u8 91))),
            o1 67 (.asg (.t 68))])
        (.cond (.t 67)
          (.seq
            (.region [o1 69 (.mv (.t 0)),
              oS ⟨some 70, .call "(*mergelens/mergelensref04.reader).class" [(.t 69)], none⟩ S_ref04_reader_class,
              o1 2 (.asg (.t 70))])
          .ret)
          (.seq
            (.region [o1 72 (.bin .eql (.t 21) (.c (.int .u8 46))),
              o1 71 (.asg (.t 72))])
          (.cond (.t 71)
            (.seq
              (.region [o1 73 (.mv (.t 0)),
                o1 74 (.build [(.int .u64 0), (.int .u64 0), (.int .u64 0), (.int .u64 0)] []),
                oS ⟨some 75, .call "mergelens/mergelensref04.complement" [(.t 74)], none⟩ S_ref04_complement,
                o1 76 (.build [(.int .i64 0), (.int .u64 0), (.int .u64 0), (.int .u64 0), (.int .u64 0), (.int .i64 0), (.int .i64 0), (.slice none 0 0)] [(0, 1, (.c (.int .i64 1))), (1, 4, (.t 75))]),
                oS ⟨some 77, .call "(*mergelens/mergelensref04.reader).node" [(.t 73), (.t 76)], none⟩ S_ref04_reader_node,
                o1 2 (.asg (.t 77))])
            .ret)
            (.seq
              (.region [o1 79 (.bin .eql (.t 21) (.c (.int .u8 94))),
                o1 78 (.asg (.t 79))])
            (.cond (.t 78)
              (.seq
                (.region [o1 80 (.mv (.t 0)),
                  o1 81 (.build [(.int .i64 0), (.int .u64 0), (.int .u64 0), (.int .u64 0), (.int .u64 0), (.int .i64 0), (.int .i64 0), (.slice none 0 0)] [(0, 1, (.c (.int .i64 2)))]),
                  oS ⟨some 82, .call "(*mergelens/mergelensref04.reader).node" [(.t 80), (.t 81)], none⟩ S_ref04_reader_node,
                  o1 2 (.asg (.t 82))])
              .ret)
              (.seq
                (.region [o1 84 (.bin .eql (.t 21) (.c (.int .u8 36))),
                  o1 83 (.asg (.t 84))])
              (.cond (.t 83)
                (.seq
                  (.region [o1 85 (.mv (.t 0)),
                    o1 86 (.build [(.int .i64 0), (.int .u64 0), (.int .u64 0), (.int .u64 0), (.int .u64 0), (.int .i64 0), (.int .i64 0), (.slice none 0 0)] [(0, 1, (.c (.int .i64 3)))]),
                    oS ⟨some 87, .call "(*mergelens/mergelensref04.reader).node" [(.t 85), (.t 86)], none⟩ S_ref04_reader_node,
                    o1 2 (.asg (.t 87))])
                .ret)
                (.seq
                  (.seq
                    (.region [o1 89 (.bin .eql (.t 21) (.c (.int .u8 41))),
                      o1 88 (.asg (.t 89))])
                  (.frame [88, 90, 91, 92, 93, 94] [] false (.join [.sl 88 false .bool .leaf]
                  (.cond (.t 88)
                    .skip
                    (.seq
                      (.region [o1 90 (.bin .eql (.t 21) (.c (.int .u8 124))),
                        o1 88 (.asg (.t 90))])
                    (.frame [88, 91, 92, 93, 94] [] false (.join [.sl 88 false .bool .leaf]
                    (.cond (.t 88)
                      .skip
                      (.seq
                        (.region [o1 91 (.bin .eql (.t 21) (.c (.int .u8 42))),
                          o1 88 (.asg (.t 91))])
                      (.frame [88, 92, 93, 94] [] false (.join [.sl 88 false .bool .leaf]
                      (.cond (.t 88)
                        .skip
                        (.seq
                          (.region [o1 92 (.bin .eql (.t 21) (.c (.int .u8 43))),
                            o1 88 (.asg (.t 92))])
                        (.frame [88, 93, 94] [] false (.join [.sl 88 false .bool .leaf]
                        (.cond (.t 88)
                          .skip
                          (.seq
                            (.region [o1 93 (.bin .eql (.t 21) (.c (.int .u8 63))),
                              o1 88 (.asg (.t 93))])
                          (.frame [88, 94] [] false (.join [.sl 88 false .bool .leaf]
                          (.cond (.t 88)
                            .skip
                            (.region [o1 94 (.bin .eql (.t 21) (.c (.int .u8 123))),
                              o1 88 (.asg (.t 94))])))))))))))))))))))))
                (.cond (.t 88)
                  (.seq
                    (.region [o1 95 (.mv (.t 0)),
                      oS ⟨some 96, .call "(*mergelens/mergelensref04.reader).fail" [(.t 95), (.c (.int .i64 40))], none⟩ S_ref04_reader_fail,
                      o1 2 (.asg (.t 96))])
                  .ret)
                  (.seq
                    (.region [o1 98 (.bin .eql (.t 21) (.c (.int .u8 92))),
                      o1 97 (.asg (.t 98))])
                  (.frame [2, 3, 99, 100, 101, 102, 103, 104, 105, 106, 107, 108, 109, 110, 111, 112, 113, 114, 115, 116, 117, 118, 119, 120, 121, 122, 123, 124, 125, 126] [0] true (.join [.sl 2 false (.int .i64) .leaf, .sl 3 false (.int .u8) .leaf, .bx 0 bref04_reader (.pair .leaf (.pair .leaf (.pair .leaf (.pair (.node .own (.pair .leaf (.pair .leaf (.pair .leaf (.pair .leaf (.node .imm .leaf)))))) .leaf))))]
                  (.cond (.t 97)
                    (.seq
                      (.seq
                        (.draw [(.first (o1 99 (.mv (.t 0)))
                        (.first (o1 100 (.nilc (.t 99)))
                        (.first (o1 101 (.fAddr 1 (.t 100)))
                        (.first (o1 102 (.load false 1 (.t 101)))
                        (.first (o1 103 (.mv (.t 0)))
                        (.first (o1 104 (.nilc (.t 103)))
                        (.first (o1 105 (.fAddr 0 (.t 104)))
                        (.first (o1 106 (.load false 1 (.t 105)))
                        (.first (o1 107 (.lenS (.t 106)))
                        (.first (o1 108 (.bin .geq (.t 102) (.t 107)))
                        .done))))))))))])
                      (.cond (.t 108)
                        (.seq
                          (.region [o1 109 (.mv (.t 0)),
                            oS ⟨some 110, .call "(*mergelens/mergelensref04.reader).fail" [(.t 109), (.c (.int .i64 40))], none⟩ S_ref04_reader_fail,
                            o1 2 (.asg (.t 110))])
                        .ret)
                        .skip))
                    (.seq
                      (.frame [3, 111, 112, 113, 114, 115, 116, 117, 118, 119] [] false (.join [.sl 3 false (.int .u8) .leaf]
                      (.draw [(.first (o1 111 (.mv (.t 0)))
                      (.first (o1 112 (.nilc (.t 111)))
                      (.first (o1 113 (.fAddr 0 (.t 112)))
                      (.first (o1 114 (.load false 1 (.t 113)))
                      (.first (o1 115 (.mv (.t 0)))
                      (.first (o1 116 (.nilc (.t 115)))
                      (.first (o1 117 (.fAddr 1 (.t 116)))
                      (.first (o1 118 (.load false 1 (.t 117)))
                      (.first (o1 119 (.ixS (.t 114) (.t 118)))
                      (.alt (o1 3 (.asg (.t 119)))
                      .done
                      .stop))))))))))])))
                    (.region [o1 120 (.mv (.t 0)),
                      o1 121 (.nilc (.t 120)),
                      o1 122 (.fAddr 1 (.t 121)),
                      o1 123 (.load false 1 (.t 122)),
                      o1 124 (.bin .add (.t 123) (.c (.int .i64 1))),
                      o1 125 (.nilc (.t 120)),
                      o1 126 (.fAddr 1 (.t 125)),
                      o0 ⟨none, .store 1 (.t 126) (.t 124), none⟩])))
                    .skip))))))))))))))))))))
  (.seq
    (.region [o1 127 (.mv (.t 0)),
      o1 128 (.build [(.int .u64 0), (.int .u64 0), (.int .u64 0), (.int .u64 0)] []),
      o1 129 (.mv (.t 3)),
      oS ⟨some 130, .call "mergelens/mergelensref04.Put" [(.t 128), (.t 129)], none⟩ S_ref04_Put,
      o1 131 (.build [(.int .i64 0), (.int .u64 0), (.int .u64 0), (.int .u64 0), (.int .u64 0), (.int .i64 0), (.int .i64 0), (.slice none 0 0)] [(0, 1, (.c (.int .i64 1))), (1, 4, (.t 130))]),
      oS ⟨some 132, .call "(*mergelens/mergelensref04.reader).node" [(.t 127), (.t 131)], none⟩ S_ref04_reader_node,
      o1 2 (.asg (.t 132))])
  .ret)))))
def F_ref04_reader_atom : AFn := ⟨ "(*mergelens/mergelensref04.reader).atom", t_ref04_reader_atom.erase, [.tmp 2], 1⟩
def W_ref04_reader_atom (P : Program) (x : ref04_reader) (K : Int → ref04_reader → Prop) : Prop :=
  JoinW (D := Int) (fun J1 => (0 ≤ x.2.1 ∧ x.2.1 < ((List.length x.1 : Nat) : Int)) ∧
  (J1 ((UInt8.toNat (List.getD x.1 (Int.toNat x.2.1) 0) : Nat) : Int)) ∧ (True)) (fun (d2 : Int) => JoinW (D := (Int × (Int × ref04_reader))) (fun J3 => (((d2 == (40 : Int)) = true → (((decide (x.2.2.1 ≥ (50 : Int))) = true → Fn P "(*mergelens/mergelensref04.reader).fail" S_ref04_reader_fail ((x.1, ((IntKind.i64.wrap (x.2.1 + (1 : Int))), (x.2.2.1, (x.2.2.2.1, x.2.2.2.2)))), (1 : Int)) (fun (d5 : Int) (e6 : ref04_reader) => K d5 (e6.1, (e6.2.1, (e6.2.2.1, (e6.2.2.2.1, e6.2.2.2.2)))))) ∧ ((decide (x.2.2.1 ≥ (50 : Int))) = false → Fn P "(*mergelens/mergelensref04.reader).pattern" S_ref04_reader_pattern (x.1, ((IntKind.i64.wrap (x.2.1 + (1 : Int))), ((IntKind.i64.wrap (x.2.2.1 + (1 : Int))), (x.2.2.2.1, x.2.2.2.2)))) (fun (d7 : Int) (e8 : ref04_reader) => (((e8.2.2.2.2 == (0 : Int)) = true → Fn P "(*mergelens/mergelensref04.reader).is" S_ref04_reader_is ((e8.1, (e8.2.1, (e8.2.2.1, (e8.2.2.2.1, e8.2.2.2.2)))), (41 : Int)) (fun (d9 : Bool) (e10 : ref04_reader) => (((cond true (!d9) false) = true → Fn P "(*mergelens/mergelensref04.reader).fail" S_ref04_reader_fail ((e10.1, (e10.2.1, (e10.2.2.1, (e10.2.2.2.1, e10.2.2.2.2)))), (40 : Int)) (fun (d11 : Int) (e12 : ref04_reader) => K d11 (e12.1, (e12.2.1, (e12.2.2.1, (e12.2.2.2.1, e12.2.2.2.2)))))) ∧ ((cond true (!d9) false) = false → K d7 (e10.1, ((IntKind.i64.wrap (e10.2.1 + (1 : Int))), ((IntKind.i64.wrap (e10.2.2.1 - (1 : Int))), (e10.2.2.2.1, e10.2.2.2.2)))))))) ∧ ((e8.2.2.2.2 == (0 : Int)) = false → (((cond false false false) = true → Fn P "(*mergelens/mergelensref04.reader).fail" S_ref04_reader_fail ((e8.1, (e8.2.1, (e8.2.2.1, (e8.2.2.2.1, e8.2.2.2.2)))), (40 : Int)) (fun (d13 : Int) (e14 : ref04_reader) => K d13 (e14.1, (e14.2.1, (e14.2.2.1, (e14.2.2.2.1, e14.2.2.2.2)))))) ∧ ((cond false false false) = false → K d7 (e8.1, ((IntKind.i64.wrap (e8.2.1 + (1 : Int))), ((IntKind.i64.wrap (e8.2.2.1 - (1 : Int))), (e8.2.2.2.1, e8.2.2.2.2)))))))))))) ∧ ((d2 == (40 : Int)) = false → (((d2 == (91 : Int)) = true → Fn P "(*mergelens/mergelensref04.reader).class" S_ref04_reader_class (x.1, ((IntKind.i64.wrap (x.2.1 + (1 : Int))), (x.2.2.1, (x.2.2.2.1, x.2.2.2.2)))) (fun (d15 : Int) (e16 : ref04_reader) => K d15 (e16.1, (e16.2.1, (e16.2.2.1, (e16.2.2.2.1, e16.2.2.2.2)))))) ∧ ((d2 == (91 : Int)) = false → (((d2 == (46 : Int)) = true → Fn P "mergelens/mergelensref04.complement" S_ref04_complement ((0 : Int), ((0 : Int), ((0 : Int), (0 : Int)))) (fun (d17 : (Int × (Int × (Int × Int)))) (e18 : Unit) => Fn P "(*mergelens/mergelensref04.reader).node" S_ref04_reader_node ((x.1, ((IntKind.i64.wrap (x.2.1 + (1 : Int))), (x.2.2.1, (x.2.2.2.1, x.2.2.2.2)))), ((1 : Int), ((d17.1, (d17.2.1, (d17.2.2.1, d17.2.2.2))), ((0 : Int), ((0 : Int), []))))) (fun (d19 : Int) (e20 : ref04_reader) => K d19 (e20.1, (e20.2.1, (e20.2.2.1, (e20.2.2.2.1, e20.2.2.2.2))))))) ∧ ((d2 == (46 : Int)) = false → (((d2 == (94 : Int)) = true → Fn P "(*mergelens/mergelensref04.reader).node" S_ref04_reader_node ((x.1, ((IntKind.i64.wrap (x.2.1 + (1 : Int))), (x.2.2.1, (x.2.2.2.1, x.2.2.2.2)))), ((2 : Int), (((0 : Int), ((0 : Int), ((0 : Int), (0 : Int)))), ((0 : Int), ((0 : Int), []))))) (fun (d21 : Int) (e22 : ref04_reader) => K d21 (e22.1, (e22.2.1, (e22.2.2.1, (e22.2.2.2.1, e22.2.2.2.2)))))) ∧ ((d2 == (94 : Int)) = false → (((d2 == (36 : Int)) = true → Fn P "(*mergelens/mergelensref04.reader).node" S_ref04_reader_node ((x.1, ((IntKind.i64.wrap (x.2.1 + (1 : Int))), (x.2.2.1, (x.2.2.2.1, x.2.2.2.2)))), ((3 : Int), (((0 : Int), ((0 : Int), ((0 : Int), (0 : Int)))), ((0 : Int), ((0 : Int), []))))) (fun (d23 : Int) (e24 : ref04_reader) => K d23 (e24.1, (e24.2.1, (e24.2.2.1, (e24.2.2.2.1, e24.2.2.2.2)))))) ∧ ((d2 == (36 : Int)) = false → JoinW (D := Bool) (fun J25 => (((d2 == (41 : Int)) = true → J25 (d2 == (41 : Int))) ∧ ((d2 == (41 : Int)) = false → JoinW (D := Bool) (fun J27 => (((d2 == (124 : Int)) = true → J27 (d2 == (124 : Int))) ∧ ((d2 == (124 : Int)) = false → JoinW (D := Bool) (fun J29 => (((d2 == (42 : Int)) = true → J29 (d2 == (42 : Int))) ∧ ((d2 == (42 : Int)) = false → JoinW (D := Bool) (fun J31 => (((d2 == (43 : Int)) = true → J31 (d2 == (43 : Int))) ∧ ((d2 == (43 : Int)) = false → JoinW (D := Bool) (fun J33 => (((d2 == (63 : Int)) = true → J33 (d2 == (63 : Int))) ∧ ((d2 == (63 : Int)) = false → J33 (d2 == (123 : Int))))) (fun (d34 : Bool) => J31 d34)))) (fun (d32 : Bool) => J29 d32)))) (fun (d30 : Bool) => J27 d30)))) (fun (d28 : Bool) => J25 d28)))) (fun (d26 : Bool) => ((d26 = true → Fn P "(*mergelens/mergelensref04.reader).fail" S_ref04_reader_fail ((x.1, ((IntKind.i64.wrap (x.2.1 + (1 : Int))), (x.2.2.1, (x.2.2.2.1, x.2.2.2.2)))), (40 : Int)) (fun (d35 : Int) (e36 : ref04_reader) => K d35 (e36.1, (e36.2.1, (e36.2.2.1, (e36.2.2.2.1, e36.2.2.2.2)))))) ∧ (d26 = false → JoinW (D := (Int × (Int × ref04_reader))) (fun J37 => (((d2 == (92 : Int)) = true → (((decide ((IntKind.i64.wrap (x.2.1 + (1 : Int))) ≥ ((List.length x.1 : Nat) : Int))) = true → Fn P "(*mergelens/mergelensref04.reader).fail" S_ref04_reader_fail ((x.1, ((IntKind.i64.wrap (x.2.1 + (1 : Int))), (x.2.2.1, (x.2.2.2.1, x.2.2.2.2)))), (40 : Int)) (fun (d39 : Int) (e40 : ref04_reader) => K d39 (e40.1, (e40.2.1, (e40.2.2.1, (e40.2.2.2.1, e40.2.2.2.2)))))) ∧ ((decide ((IntKind.i64.wrap (x.2.1 + (1 : Int))) ≥ ((List.length x.1 : Nat) : Int))) = false → JoinW (D := Int) (fun J41 => (0 ≤ (IntKind.i64.wrap (x.2.1 + (1 : Int))) ∧ (IntKind.i64.wrap (x.2.1 + (1 : Int))) < ((List.length x.1 : Nat) : Int)) ∧
  (J41 ((UInt8.toNat (List.getD x.1 (Int.toNat (IntKind.i64.wrap (x.2.1 + (1 : Int)))) 0) : Nat) : Int)) ∧ (True)) (fun (d42 : Int) => J37 ((0 : Int), (d42, (x.1, ((IntKind.i64.wrap ((IntKind.i64.wrap (x.2.1 + (1 : Int))) + (1 : Int))), (x.2.2.1, (x.2.2.2.1, x.2.2.2.2)))))))))) ∧ ((d2 == (92 : Int)) = false → J37 ((0 : Int), (d2, (x.1, ((IntKind.i64.wrap (x.2.1 + (1 : Int))), (x.2.2.1, (x.2.2.2.1, x.2.2.2.2))))))))) (fun (d38 : (Int × (Int × ref04_reader))) => J3 (d38.1, (d38.2.1, (d38.2.2.1, (d38.2.2.2.1, (d38.2.2.2.2.1, (d38.2.2.2.2.2.1, d38.2.2.2.2.2.2))))))))))))))))))))) (fun (d4 : (Int × (Int × ref04_reader))) => Fn P "mergelens/mergelensref04.Put" S_ref04_Put (((0 : Int), ((0 : Int), ((0 : Int), (0 : Int)))), d4.2.1) (fun (d43 : (Int × (Int × (Int × Int)))) (e44 : Unit) => Fn P "(*mergelens/mergelensref04.reader).node" S_ref04_reader_node ((d4.2.2.1, (d4.2.2.2.1, (d4.2.2.2.2.1, (d4.2.2.2.2.2.1, d4.2.2.2.2.2.2)))), ((1 : Int), ((d43.1, (d43.2.1, (d43.2.2.1, d43.2.2.2))), ((0 : Int), ((0 : Int), []))))) (fun (d45 : Int) (e46 : ref04_reader) => K d45 (e46.1, (e46.2.1, (e46.2.2.1, (e46.2.2.2.1, e46.2.2.2.2))))))))
theorem fn_ref04_reader_atom {P : Program} (h : Has P F_ref04_reader_atom) {x : DP S_ref04_reader_atom.ps} {K : DP S_ref04_reader_atom.rs → DP (ptrs S_ref04_reader_atom.ps) → Prop} (hw : W_ref04_reader_atom P x K) : Fn P "(*mergelens/mergelensref04.reader).atom" S_ref04_reader_atom x K :=
  fn_of (c := t_ref04_reader_atom) h rfl rfl (by kernel_rfl) (Eq.mpr (show liftT P F_ref04_reader_atom S_ref04_reader_atom t_ref04_reader_atom x K = W_ref04_reader_atom P x K by kernel_rfl) hw)

def t_ref04_reader_piece : TCode :=
  (.seq
    (.region [o1 2 (.asg (.c (.int .i64 0)))])
  (.seq
    (.region [o1 7 (.mv (.t 0)),
      oS ⟨some 8, .call "(*mergelens/mergelensref04.reader).is" [(.t 7), (.c (.int .u8 94))], none⟩ S_ref04_reader_is,
      o1 9 (.mv (.t 8)),
      ⟨⟨some 10, .mv (.t 0), some (9, false)⟩, none, ⟨[], []⟩, false, some 9, true, false⟩,
      ⟨⟨some 11, .call "(*mergelens/mergelensref04.reader).is" [(.t 10), (.c (.int .u8 36))], some (9, false)⟩, none, S_ref04_reader_is, false, none, true, true⟩,
      o1 12 (.pick (.t 9) (.c (.bool true)) (.t 11)),
      o1 3 (.asg (.t 12))])
  (.seq
    (.region [o1 13 (.mv (.t 0)),
      oS ⟨some 14, .call "(*mergelens/mergelensref04.reader).atom" [(.t 13)], none⟩ S_ref04_reader_atom,
      o1 4 (.asg (.t 14))])
  (.seq
    (.seq
      (.draw [(.first (o1 15 (.mv (.t 0)))
      (.first (o1 16 (.nilc (.t 15)))
      (.first (o1 17 (.fAddr 4 (.t 16)))
      (.first (o1 18 (.load false 1 (.t 17)))
      (.first (o1 19 (.bin .neq (.t 18) (.c (.int .i64 0))))
      (.first (o1 20 (.mv (.t 19)))
      (.first (o0 ⟨some 21, .mv (.t 0), some (20, false)⟩)
      (.first (o0 ⟨some 22, .nilc (.t 21), some (20, false)⟩)
      (.first (o0 ⟨some 23, .fAddr 1 (.t 22), some (20, false)⟩)
      (.first (o0 ⟨some 24, .load false 1 (.t 23), some (20, false)⟩)
      (.first (o0 ⟨some 25, .mv (.t 0), some (20, false)⟩)
      (.first (o0 ⟨some 26, .nilc (.t 25), some (20, false)⟩)
      (.first (o0 ⟨some 27, .fAddr 0 (.t 26), some (20, false)⟩)
      (.first (o0 ⟨some 28, .load false 1 (.t 27), some (20, false)⟩)
      (.first (o0 ⟨some 29, .lenS (.t 28), some (20, false)⟩)
      (.first (o0 ⟨some 30, .bin .geq (.t 24) (.t 29), some (20, false)⟩)
      (.first (o1 31 (.pick (.t 20) (.c (.bool true)) (.t 30)))
      .done)))))))))))))))))])
    (.cond (.t 31)
      (.seq
        (.region [o1 32 (.mv (.t 4)),
          o1 2 (.asg (.t 32))])
      .ret)
      .skip))
  (.seq
    (.region [o1 5 (.asg (.c (.int .i64 0))),
      o1 6 (.asg (.c (.int .i64 (-1))))])
  (.seq
    (.seq
      (.draw [(.first (o1 33 (.mv (.t 0)))
      (.first (o1 34 (.nilc (.t 33)))
      (.first (o1 35 (.fAddr 0 (.t 34)))
      (.first (o1 36 (.load false 1 (.t 35)))
      (.first (o1 37 (.mv (.t 0)))
      (.first (o1 38 (.nilc (.t 37)))
      (.first (o1 39 (.fAddr 1 (.t 38)))
      (.first (o1 40 (.load false 1 (.t 39)))
      (.first (o1 41 (.ixS (.t 36) (.t 40)))
      .done)))))))))])
    (.frame [2, 5, 6, 42, 43, 44, 45, 46, 47, 48, 49, 50, 51, 52, 53, 54, 55] [0] true (.join [.sl 2 false (.int .i64) .leaf, .sl 5 false (.int .i64) .leaf, .sl 6 false (.int .i64) .leaf, .bx 0 bref04_reader (.pair .leaf (.pair .leaf (.pair .leaf (.pair (.node .own (.pair .leaf (.pair .leaf (.pair .leaf (.pair .leaf (.node .imm .leaf)))))) .leaf))))]
    (.block 0
      (.seq
        (.region [o1 44 (.bin .eql (.t 41) (.c (.int .u8 42))),
          o1 43 (.asg (.t 44))])
      (.frame [2, 5, 6, 42, 45, 46, 47, 48, 49, 50, 51, 52, 53, 54, 55] [0] true (.join [.sl 2 false (.int .i64) .leaf, .sl 5 false (.int .i64) .leaf, .sl 6 false (.int .i64) .leaf, .bx 0 bref04_reader (.pair .leaf (.pair .leaf (.pair .leaf (.pair (.node .own (.pair .leaf (.pair .leaf (.pair .leaf (.pair .leaf (.node .imm .leaf)))))) .leaf))))]
      (.cond (.t 43)
        .skip
        (.seq
          (.region [o1 46 (.bin .eql (.t 41) (.c (.int .u8 43))),
            o1 45 (.asg (.t 46))])
        (.frame [2, 5, 6, 42, 47, 48, 49, 50, 51, 52, 53, 54, 55] [0] true (.join [.sl 2 false (.int .i64) .leaf, .sl 5 false (.int .i64) .leaf, .sl 6 false (.int .i64) .leaf, .bx 0 bref04_reader (.pair .leaf (.pair .leaf (.pair .leaf (.pair (.node .own (.pair .leaf (.pair .leaf (.pair .leaf (.pair .leaf (.node .imm .leaf)))))) .leaf))))]
        (.cond (.t 45)
          (.region [o1 5 (.asg (.c (.int .i64 1)))])
          (.seq
            (.region [o1 48 (.bin .eql (.t 41) (.c (.int .u8 63))),
              o1 47 (.asg (.t 48))])
          (.frame [2, 5, 6, 42, 49, 50, 51, 52, 53, 54, 55] [0] true (.join [.sl 2 false (.int .i64) .leaf, .sl 5 false (.int .i64) .leaf, .sl 6 false (.int .i64) .leaf, .bx 0 bref04_reader (.pair .leaf (.pair .leaf (.pair .leaf (.pair (.node .own (.pair .leaf (.pair .leaf (.pair .leaf (.pair .leaf (.node .imm .leaf)))))) .leaf))))]
          (.cond (.t 47)
            (.region [o1 6 (.asg (.c (.int .i64 1)))])
            (.seq
              (.region [o1 50 (.bin .eql (.t 41) (.c (.int .u8 123))),
                o1 49 (.asg (.t 50))])
            (.cond (.t 49)
              (.region [o1 52 (.mv (.t 0)),
                oS ⟨some 53, .call "(*mergelens/mergelensref04.reader).bounds" [(.t 52)], none⟩ S_ref04_reader_bounds,
                o1 51 (.mv (.t 53)),
                o1 54 (.ext (.t 51) 0),
                o1 55 (.ext (.t 51) 1),
                o1 5 (.asg (.t 54)),
                o1 6 (.asg (.t 55))])
              (.seq
                (.region [o1 42 (.mv (.t 4)),
                  o1 2 (.asg (.t 42))])
              .ret)))))))))))))))))))
  (.seq
    (.seq
      (.region [o1 56 (.mv (.t 3)),
        o1 57 (.mv (.t 56)),
        o0 ⟨some 58, .mv (.t 0), some (57, false)⟩,
        o0 ⟨some 59, .nilc (.t 58), some (57, false)⟩,
        o0 ⟨some 60, .fAddr 4 (.t 59), some (57, false)⟩,
        o0 ⟨some 61, .load false 1 (.t 60), some (57, false)⟩,
        o0 ⟨some 62, .bin .neq (.t 61) (.c (.int .i64 0)), some (57, false)⟩,
        o1 63 (.pick (.t 57) (.c (.bool true)) (.t 62))])
    (.cond (.t 63)
      (.seq
        (.region [o1 64 (.mv (.t 0)),
          oS ⟨some 65, .call "(*mergelens/mergelensref04.reader).fail" [(.t 64), (.c (.int .i64 40))], none⟩ S_ref04_reader_fail,
          o1 2 (.asg (.t 65))])
      .ret)
      .skip))
  (.seq
    (.region [o1 66 (.mv (.t 0)),
      o1 67 (.nilc (.t 66)),
      o1 68 (.fAddr 1 (.t 67)),
      o1 69 (.load false 1 (.t 68)),
      o1 70 (.bin .add (.t 69) (.c (.int .i64 1))),
      o1 71 (.nilc (.t 66)),
      o1 72 (.fAddr 1 (.t 71)),
      o0 ⟨none, .store 1 (.t 72) (.t 70), none⟩])
  (.seq
    (.region [o1 73 (.mv (.t 0)),
      o1 74 (.mv (.t 5)),
      o1 75 (.mv (.t 6)),
      o1 76 (.mv (.t 4)),
      ⟨⟨some 77, .buildSl 1 [(.int .i64 0)] 1 [(0, (.t 76))], none⟩, some ((.int .i64), .leaf), ⟨[], []⟩, true, none, false, false⟩,
      o1 78 (.build [(.int .i64 0), (.int .u64 0), (.int .u64 0), (.int .u64 0), (.int .u64 0), (.int .i64 0), (.int .i64 0), (.slice none 0 0)] [(0, 1, (.c (.int .i64 6))), (5, 1, (.t 74)), (6, 1, (.t 75)), (7, 1, (.t 77))]),
      oS ⟨some 79, .call "(*mergelens/mergelensref04.reader).node" [(.t 73), (.t 78)], none⟩ S_ref04_reader_node,
      o1 2 (.asg (.t 79))])
  .ret)))))))))
def F_ref04_reader_piece : AFn := ⟨ "(*mergelens/mergelensref04.reader).piece", t_ref04_reader_piece.erase, [.tmp 2], 1⟩
def W_ref04_reader_piece (P : Program) (x : ref04_reader) (K : Int → ref04_reader → Prop) : Prop :=
  Fn P "(*mergelens/mergelensref04.reader).is" S_ref04_reader_is ((x.1, (x.2.1, (x.2.2.1, (x.2.2.2.1, x.2.2.2.2)))), (94 : Int)) (fun (d1 : Bool) (e2 : ref04_reader) => ((d1 = true → Fn P "(*mergelens/mergelensref04.reader).atom" S_ref04_reader_atom (e2.1, (e2.2.1, (e2.2.2.1, (e2.2.2.2.1, e2.2.2.2.2)))) (fun (d3 : Int) (e4 : ref04_reader) => (((cond (e4.2.2.2.2 != (0 : Int)) true (decide (e4.2.1 ≥ ((List.length e4.1 : Nat) : Int)))) = true → K d3 (e4.1, (e4.2.1, (e4.2.2.1, (e4.2.2.2.1, e4.2.2.2.2))))) ∧ ((cond (e4.2.2.2.2 != (0 : Int)) true (decide (e4.2.1 ≥ ((List.length e4.1 : Nat) : Int)))) = false → (0 ≤ e4.2.1 ∧ e4.2.1 < ((List.length e4.1 : Nat) : Int)) ∧
  JoinW (D := (Int × (Int × (Int × ref04_reader)))) (fun J5 => JoinW (D := (Int × (Int × (Int × ref04_reader)))) (fun J7 => (((((UInt8.toNat (List.getD e4.1 (Int.toNat e4.2.1) 0) : Nat) : Int) == (42 : Int)) = true → J7 ((0 : Int), ((0 : Int), ((-1 : Int), (e4.1, (e4.2.1, (e4.2.2.1, (e4.2.2.2.1, e4.2.2.2.2)))))))) ∧ ((((UInt8.toNat (List.getD e4.1 (Int.toNat e4.2.1) 0) : Nat) : Int) == (42 : Int)) = false → JoinW (D := (Int × (Int × (Int × ref04_reader)))) (fun J9 => (((((UInt8.toNat (List.getD e4.1 (Int.toNat e4.2.1) 0) : Nat) : Int) == (43 : Int)) = true → J9 ((0 : Int), ((1 : Int), ((-1 : Int), (e4.1, (e4.2.1, (e4.2.2.1, (e4.2.2.2.1, e4.2.2.2.2)))))))) ∧ ((((UInt8.toNat (List.getD e4.1 (Int.toNat e4.2.1) 0) : Nat) : Int) == (43 : Int)) = false → JoinW (D := (Int × (Int × (Int × ref04_reader)))) (fun J11 => (((((UInt8.toNat (List.getD e4.1 (Int.toNat e4.2.1) 0) : Nat) : Int) == (63 : Int)) = true → J11 ((0 : Int), ((0 : Int), ((1 : Int), (e4.1, (e4.2.1, (e4.2.2.1, (e4.2.2.2.1, e4.2.2.2.2)))))))) ∧ ((((UInt8.toNat (List.getD e4.1 (Int.toNat e4.2.1) 0) : Nat) : Int) == (63 : Int)) = false → (((((UInt8.toNat (List.getD e4.1 (Int.toNat e4.2.1) 0) : Nat) : Int) == (123 : Int)) = true → Fn P "(*mergelens/mergelensref04.reader).bounds" S_ref04_reader_bounds (e4.1, (e4.2.1, (e4.2.2.1, (e4.2.2.2.1, e4.2.2.2.2)))) (fun (d13 : (Int × Int)) (e14 : ref04_reader) => J11 ((0 : Int), (d13.1, (d13.2, (e14.1, (e14.2.1, (e14.2.2.1, (e14.2.2.2.1, e14.2.2.2.2))))))))) ∧ ((((UInt8.toNat (List.getD e4.1 (Int.toNat e4.2.1) 0) : Nat) : Int) == (123 : Int)) = false → K d3 (e4.1, (e4.2.1, (e4.2.2.1, (e4.2.2.2.1, e4.2.2.2.2))))))))) (fun (d12 : (Int × (Int × (Int × ref04_reader)))) => J9 (d12.1, (d12.2.1, (d12.2.2.1, (d12.2.2.2.1, (d12.2.2.2.2.1, (d12.2.2.2.2.2.1, (d12.2.2.2.2.2.2.1, d12.2.2.2.2.2.2.2))))))))))) (fun (d10 : (Int × (Int × (Int × ref04_reader)))) => J7 (d10.1, (d10.2.1, (d10.2.2.1, (d10.2.2.2.1, (d10.2.2.2.2.1, (d10.2.2.2.2.2.1, (d10.2.2.2.2.2.2.1, d10.2.2.2.2.2.2.2))))))))))) (fun (d8 : (Int × (Int × (Int × ref04_reader)))) => J5 (d8.1, (d8.2.1, (d8.2.2.1, (d8.2.2.2.1, (d8.2.2.2.2.1, (d8.2.2.2.2.2.1, (d8.2.2.2.2.2.2.1, d8.2.2.2.2.2.2.2))))))))) (fun (d6 : (Int × (Int × (Int × ref04_reader)))) => (((cond (cond true true false) true (d6.2.2.2.2.2.2.2 != (0 : Int))) = true → Fn P "(*mergelens/mergelensref04.reader).fail" S_ref04_reader_fail ((d6.2.2.2.1, (d6.2.2.2.2.1, (d6.2.2.2.2.2.1, (d6.2.2.2.2.2.2.1, d6.2.2.2.2.2.2.2)))), (40 : Int)) (fun (d15 : Int) (e16 : ref04_reader) => K d15 (e16.1, (e16.2.1, (e16.2.2.1, (e16.2.2.2.1, e16.2.2.2.2)))))) ∧ ((cond (cond true true false) true (d6.2.2.2.2.2.2.2 != (0 : Int))) = false → Fn P "(*mergelens/mergelensref04.reader).node" S_ref04_reader_node ((d6.2.2.2.1, ((IntKind.i64.wrap (d6.2.2.2.2.1 + (1 : Int))), (d6.2.2.2.2.2.1, (d6.2.2.2.2.2.2.1, d6.2.2.2.2.2.2.2)))), ((6 : Int), (((0 : Int), ((0 : Int), ((0 : Int), (0 : Int)))), (d6.2.1, (d6.2.2.1, ([d3] : List Int)))))) (fun (d17 : Int) (e18 : ref04_reader) => K d17 (e18.1, (e18.2.1, (e18.2.2.1, (e18.2.2.2.1, e18.2.2.2.2)))))))))))) ∧ (d1 = false → Fn P "(*mergelens/mergelensref04.reader).is" S_ref04_reader_is ((e2.1, (e2.2.1, (e2.2.2.1, (e2.2.2.2.1, e2.2.2.2.2)))), (36 : Int)) (fun (d19 : Bool) (e20 : ref04_reader) => Fn P "(*mergelens/mergelensref04.reader).atom" S_ref04_reader_atom (e20.1, (e20.2.1, (e20.2.2.1, (e20.2.2.2.1, e20.2.2.2.2)))) (fun (d21 : Int) (e22 : ref04_reader) => (((cond (e22.2.2.2.2 != (0 : Int)) true (decide (e22.2.1 ≥ ((List.length e22.1 : Nat) : Int)))) = true → K d21 (e22.1, (e22.2.1, (e22.2.2.1, (e22.2.2.2.1, e22.2.2.2.2))))) ∧ ((cond (e22.2.2.2.2 != (0 : Int)) true (decide (e22.2.1 ≥ ((List.length e22.1 : Nat) : Int)))) = false → (0 ≤ e22.2.1 ∧ e22.2.1 < ((List.length e22.1 : Nat) : Int)) ∧
  JoinW (D := (Int × (Int × (Int × ref04_reader)))) (fun J23 => JoinW (D := (Int × (Int × (Int × ref04_reader)))) (fun J25 => (((((UInt8.toNat (List.getD e22.1 (Int.toNat e22.2.1) 0) : Nat) : Int) == (42 : Int)) = true → J25 ((0 : Int), ((0 : Int), ((-1 : Int), (e22.1, (e22.2.1, (e22.2.2.1, (e22.2.2.2.1, e22.2.2.2.2)))))))) ∧ ((((UInt8.toNat (List.getD e22.1 (Int.toNat e22.2.1) 0) : Nat) : Int) == (42 : Int)) = false → JoinW (D := (Int × (Int × (Int × ref04_reader)))) (fun J27 => (((((UInt8.toNat (List.getD e22.1 (Int.toNat e22.2.1) 0) : Nat) : Int) == (43 : Int)) = true → J27 ((0 : Int), ((1 : Int), ((-1 : Int), (e22.1, (e22.2.1, (e22.2.2.1, (e22.2.2.2.1, e22.2.2.2.2)))))))) ∧ ((((UInt8.toNat (List.getD e22.1 (Int.toNat e22.2.1) 0) : Nat) : Int) == (43 : Int)) = false → JoinW (D := (Int × (Int × (Int × ref04_reader)))) (fun J29 => (((((UInt8.toNat (List.getD e22.1 (Int.toNat e22.2.1) 0) : Nat) : Int) == (63 : Int)) = true → J29 ((0 : Int), ((0 : Int), ((1 : Int), (e22.1, (e22.2.1, (e22.2.2.1, (e22.2.2.2.1, e22.2.2.2.2)))))))) ∧ ((((UInt8.toNat (List.getD e22.1 (Int.toNat e22.2.1) 0) : Nat) : Int) == (63 : Int)) = false → (((((UInt8.toNat (List.getD e22.1 (Int.toNat e22.2.1) 0) : Nat) : Int) == (123 : Int)) = true → Fn P "(*mergelens/mergelensref04.reader).bounds" S_ref04_reader_bounds (e22.1, (e22.2.1, (e22.2.2.1, (e22.2.2.2.1, e22.2.2.2.2)))) (fun (d31 : (Int × Int)) (e32 : ref04_reader) => J29 ((0 : Int), (d31.1, (d31.2, (e32.1, (e32.2.1, (e32.2.2.1, (e32.2.2.2.1, e32.2.2.2.2))))))))) ∧ ((((UInt8.toNat (List.getD e22.1 (Int.toNat e22.2.1) 0) : Nat) : Int) == (123 : Int)) = false → K d21 (e22.1, (e22.2.1, (e22.2.2.1, (e22.2.2.2.1, e22.2.2.2.2))))))))) (fun (d30 : (Int × (Int × (Int × ref04_reader)))) => J27 (d30.1, (d30.2.1, (d30.2.2.1, (d30.2.2.2.1, (d30.2.2.2.2.1, (d30.2.2.2.2.2.1, (d30.2.2.2.2.2.2.1, d30.2.2.2.2.2.2.2))))))))))) (fun (d28 : (Int × (Int × (Int × ref04_reader)))) => J25 (d28.1, (d28.2.1, (d28.2.2.1, (d28.2.2.2.1, (d28.2.2.2.2.1, (d28.2.2.2.2.2.1, (d28.2.2.2.2.2.2.1, d28.2.2.2.2.2.2.2))))))))))) (fun (d26 : (Int × (Int × (Int × ref04_reader)))) => J23 (d26.1, (d26.2.1, (d26.2.2.1, (d26.2.2.2.1, (d26.2.2.2.2.1, (d26.2.2.2.2.2.1, (d26.2.2.2.2.2.2.1, d26.2.2.2.2.2.2.2))))))))) (fun (d24 : (Int × (Int × (Int × ref04_reader)))) => (((cond (cond false true d19) true (d24.2.2.2.2.2.2.2 != (0 : Int))) = true → Fn P "(*mergelens/mergelensref04.reader).fail" S_ref04_reader_fail ((d24.2.2.2.1, (d24.2.2.2.2.1, (d24.2.2.2.2.2.1, (d24.2.2.2.2.2.2.1, d24.2.2.2.2.2.2.2)))), (40 : Int)) (fun (d33 : Int) (e34 : ref04_reader) => K d33 (e34.1, (e34.2.1, (e34.2.2.1, (e34.2.2.2.1, e34.2.2.2.2)))))) ∧ ((cond (cond false true d19) true (d24.2.2.2.2.2.2.2 != (0 : Int))) = false → Fn P "(*mergelens/mergelensref04.reader).node" S_ref04_reader_node ((d24.2.2.2.1, ((IntKind.i64.wrap (d24.2.2.2.2.1 + (1 : Int))), (d24.2.2.2.2.2.1, (d24.2.2.2.2.2.2.1, d24.2.2.2.2.2.2.2)))), ((6 : Int), (((0 : Int), ((0 : Int), ((0 : Int), (0 : Int)))), (d24.2.1, (d24.2.2.1, ([d21] : List Int)))))) (fun (d35 : Int) (e36 : ref04_reader) => K d35 (e36.1, (e36.2.1, (e36.2.2.1, (e36.2.2.2.1, e36.2.2.2.2)))))))))))))))
theorem fn_ref04_reader_piece {P : Program} (h : Has P F_ref04_reader_piece) {x : DP S_ref04_reader_piece.ps} {K : DP S_ref04_reader_piece.rs → DP (ptrs S_ref04_reader_piece.ps) → Prop} (hw : W_ref04_reader_piece P x K) : Fn P "(*mergelens/mergelensref04.reader).piece" S_ref04_reader_piece x K :=
  fn_of (c := t_ref04_reader_piece) h rfl rfl (by kernel_rfl) (Eq.mpr (show liftT P F_ref04_reader_piece S_ref04_reader_piece t_ref04_reader_piece x K = W_ref04_reader_piece P x K by kernel_rfl) hw)


def t_ref04_reader_alternative : TCode :=
  (.seq
    (.region [o1 2 (.asg (.c (.int .i64 0)))])
  (.seq
    (.region [o1 3 (.asg (.c (.slice none 0 0)))])
  (.seq
    (.frame [3, 4, 5, 6, 7, 8, 9, 10, 11, 12, 13, 14, 15, 16, 17, 18, 19, 20, 21, 22, 23, 24, 25, 26, 27, 28, 29, 30, 31, 32, 33, 34, 35, 36, 37, 38, 39, 40, 41, 42, 43, 44, 45, 46, 47, 48, 49, 50, 51, 52, 53, 54, 55, 56, 57] [0] true (.join [.sl 3 false (.sl (.int .i64)) (.node .own .leaf), .bx 0 bref04_reader (.pair .leaf (.pair .leaf (.pair .leaf (.pair (.node .own (.pair .leaf (.pair .leaf (.pair .leaf (.pair .leaf (.node .imm .leaf)))))) .leaf))))]
    (.block 0
      (.loop [.sl 3 false (.sl (.int .i64)) (.node .own .leaf), .bx 0 bref04_reader (.pair .leaf (.pair .leaf (.pair .leaf (.pair (.node .own (.pair .leaf (.pair .leaf (.pair .leaf (.pair .leaf (.node .imm .leaf)))))) .leaf))))]
        (.seq
          (.seq
            (.draw [(.first (o1 4 (.mv (.t 0)))
            (.first (o1 5 (.nilc (.t 4)))
            (.first (o1 6 (.fAddr 4 (.t 5)))
            (.first (o1 7 (.load false 1 (.t 6)))
            (.first (o1 8 (.bin .eql (.t 7) (.c (.int .i64 0))))
            (.first (o1 9 (.mv (.t 8)))
            (.first (o0 ⟨some 10, .mv (.t 0), some (9, true)⟩)
            (.first (o0 ⟨some 11, .nilc (.t 10), some (9, true)⟩)
            (.first (o0 ⟨some 12, .fAddr 1 (.t 11), some (9, true)⟩)
            (.first (o0 ⟨some 13, .load false 1 (.t 12), some (9, true)⟩)
            (.first (o0 ⟨some 14, .mv (.t 0), some (9, true)⟩)
            (.first (o0 ⟨some 15, .nilc (.t 14), some (9, true)⟩)
            (.first (o0 ⟨some 16, .fAddr 0 (.t 15), some (9, true)⟩)
            (.first (o0 ⟨some 17, .load false 1 (.t 16), some (9, true)⟩)
            (.first (o0 ⟨some 18, .lenS (.t 17), some (9, true)⟩)
            (.first (o0 ⟨some 19, .bin .lss (.t 13) (.t 18), some (9, true)⟩)
            (.first (o1 20 (.pick (.t 9) (.t 19) (.c (.bool false))))
            (.first (o1 21 (.mv (.t 20)))
            (.first (o0 ⟨some 22, .mv (.t 0), some (21, true)⟩)
            (.first (o0 ⟨some 23, .nilc (.t 22), some (21, true)⟩)
            (.first (o0 ⟨some 24, .fAddr 0 (.t 23), some (21, true)⟩)
            (.first (o0 ⟨some 25, .load false 1 (.t 24), some (21, true)⟩)
            (.first (o0 ⟨some 26, .mv (.t 0), some (21, true)⟩)
            (.first (o0 ⟨some 27, .nilc (.t 26), some (21, true)⟩)
            (.first (o0 ⟨some 28, .fAddr 1 (.t 27), some (21, true)⟩)
            (.first (o0 ⟨some 29, .load false 1 (.t 28), some (21, true)⟩)
            (.first (o0 ⟨some 30, .ixS (.t 25) (.t 29), some (21, true)⟩)
            (.first (o0 ⟨some 31, .bin .neq (.t 30) (.c (.int .u8 124)), some (21, true)⟩)
            (.first (o1 32 (.pick (.t 21) (.t 31) (.c (.bool false))))
            (.first (o1 33 (.mv (.t 32)))
            (.first (o0 ⟨some 34, .mv (.t 0), some (33, true)⟩)
            (.first (o0 ⟨some 35, .nilc (.t 34), some (33, true)⟩)
            (.first (o0 ⟨some 36, .fAddr 0 (.t 35), some (33, true)⟩)
            (.first (o0 ⟨some 37, .load false 1 (.t 36), some (33, true)⟩)
            (.first (o0 ⟨some 38, .mv (.t 0), some (33, true)⟩)
            (.first (o0 ⟨some 39, .nilc (.t 38), some (33, true)⟩)
            (.first (o0 ⟨some 40, .fAddr 1 (.t 39), some (33, true)⟩)
            (.first (o0 ⟨some 41, .load false 1 (.t 40), some (33, true)⟩)
            (.first (o0 ⟨some 42, .ixS (.t 37) (.t 41), some (33, true)⟩)
            (.first (o0 ⟨some 43, .bin .eql (.t 42) (.c (.int .u8 41)), some (33, true)⟩)
            (.first (o0 ⟨some 44, .mv (.t 43), some (33, true)⟩)
            (.first (o0 ⟨some 45, .mv (.t 0), some (44, true)⟩)
            (.first (o0 ⟨some 46, .nilc (.t 45), some (44, true)⟩)
            (.first (o0 ⟨some 47, .fAddr 2 (.t 46), some (44, true)⟩)
            (.first (o0 ⟨some 48, .load false 1 (.t 47), some (44, true)⟩)
            (.first (o0 ⟨some 49, .bin .gtr (.t 48) (.c (.int .i64 0)), some (44, true)⟩)
            (.first (o0 ⟨some 50, .pick (.t 44) (.t 49) (.c (.bool false)), some (33, true)⟩)
            (.first (o0 ⟨some 51, .un .not (.t 50), some (33, true)⟩)
            (.first (o1 52 (.pick (.t 33) (.t 51) (.c (.bool false))))
            .done)))))))))))))))))))))))))))))))))))))))))))))))))])
          (.cond (.t 52)
            .skip
            (.exit 0)))
        (.frame [3, 53, 54, 55, 56, 57] [0] true (.join [.sl 3 false (.sl (.int .i64)) (.node .own .leaf), .bx 0 bref04_reader (.pair .leaf (.pair .leaf (.pair .leaf (.pair (.node .own (.pair .leaf (.pair .leaf (.pair .leaf (.pair .leaf (.node .imm .leaf)))))) .leaf))))]
        (.block 1
          (.region [o1 53 (.mv (.t 3)),
            o1 54 (.mv (.t 0)),
            oS ⟨some 55, .call "(*mergelens/mergelensref04.reader).piece" [(.t 54)], none⟩ S_ref04_reader_piece,
            oT ⟨some 56, .buildSl 1 [(.int .i64 0)] 1 [(0, (.t 55))], none⟩ (some ((.int .i64), .leaf)),
            oT ⟨some 57, .app 1 8 (.t 53) (.t 56), none⟩ (some ((.int .i64), .leaf)),
            o1 3 (.asg (.t 57))])))))))))
  (.seq
    (.frame [2, 58, 59, 60, 61, 62, 63, 64, 65, 66, 67, 68, 69, 70, 71, 72, 73, 74, 75, 76, 77] [0] true (.join [.sl 2 false (.int .i64) .leaf, .bx 0 bref04_reader (.pair .leaf (.pair .leaf (.pair .leaf (.pair (.node .own (.pair .leaf (.pair .leaf (.pair .leaf (.pair .leaf (.node .imm .leaf)))))) .leaf))))]
    (.block 2
      (.seq
        (.region [o1 59 (.mv (.t 0)),
          o1 60 (.nilc (.t 59)),
          o1 61 (.fAddr 4 (.t 60)),
          o1 62 (.load false 1 (.t 61)),
          o1 63 (.bin .neq (.t 62) (.c (.int .i64 0))),
          o1 58 (.asg (.t 63))])
      (.cond (.t 58)
        (.seq
          (.region [o1 2 (.asg (.c (.int .i64 0)))])
        .ret)
        (.seq
          (.region [o1 65 (.mv (.t 3)),
            o1 66 (.lenK (.t 65)),
            o1 67 (.bin .eql (.t 66) (.c (.int .i64 0))),
            o1 64 (.asg (.t 67))])
        (.cond (.t 64)
          (.seq
            (.region [o1 68 (.mv (.t 0)),
              o1 69 (.build [(.int .i64 0), (.int .u64 0), (.int .u64 0), (.int .u64 0), (.int .u64 0), (.int .i64 0), (.int .i64 0), (.slice none 0 0)] [(0, 1, (.c (.int .i64 0)))]),
              oS ⟨some 70, .call "(*mergelens/mergelensref04.reader).node" [(.t 68), (.t 69)], none⟩ S_ref04_reader_node,
              o1 2 (.asg (.t 70))])
          .ret)
          (.seq
            (.region [o1 72 (.mv (.t 3)),
              o1 73 (.lenK (.t 72)),
              o1 74 (.bin .eql (.t 73) (.c (.int .i64 1))),
              o1 71 (.asg (.t 74))])
          (.cond (.t 71)
            (.seq
              (.region [o1 75 (.mv (.t 3)),
                o1 76 (.ixA 1 (.t 75) (.c (.int .i64 0))),
                o1 77 (.load false 1 (.t 76)),
                o1 2 (.asg (.t 77))])
            .ret)
            .skip)))))))))
  (.seq
    (.frz [3]
    (.region [o1 78 (.mv (.t 0)),
      o1 79 (.mv (.t 3)),
      o1 80 (.build [(.int .i64 0), (.int .u64 0), (.int .u64 0), (.int .u64 0), (.int .u64 0), (.int .i64 0), (.int .i64 0), (.slice none 0 0)] [(0, 1, (.c (.int .i64 4))), (7, 1, (.t 79))]),
      oS ⟨some 81, .call "(*mergelens/mergelensref04.reader).node" [(.t 78), (.t 80)], none⟩ S_ref04_reader_node,
      o1 2 (.asg (.t 81))]))
  .ret)))))
def F_ref04_reader_alternative : AFn := ⟨ "(*mergelens/mergelensref04.reader).alternative", t_ref04_reader_alternative.erase, [.tmp 2], 1⟩
def W_ref04_reader_alternative (P : Program) (x : ref04_reader) (K : Int → ref04_reader → Prop) : Prop :=
  JoinW (D := ((List Int) × ref04_reader)) (fun J1 => LoopW (D := ((List Int) × ref04_reader)) ([], (x.1, (x.2.1, (x.2.2.1, (x.2.2.2.1, x.2.2.2.2))))) (fun (d3 : ((List Int) × ref04_reader)) J4 => (((cond (d3.2.2.2.2.2 == (0 : Int)) (decide (d3.2.2.1 < ((List.length d3.2.1 : Nat) : Int))) false) = true → 0 ≤ d3.2.2.1 ∧ d3.2.2.1 < ((List.length d3.2.1 : Nat) : Int))) ∧
  (((cond (cond (d3.2.2.2.2.2 == (0 : Int)) (decide (d3.2.2.1 < ((List.length d3.2.1 : Nat) : Int))) false) (((UInt8.toNat (List.getD d3.2.1 (Int.toNat d3.2.2.1) 0) : Nat) : Int) != (124 : Int)) false) = true → 0 ≤ d3.2.2.1 ∧ d3.2.2.1 < ((List.length d3.2.1 : Nat) : Int))) ∧
  (((cond (cond (cond (d3.2.2.2.2.2 == (0 : Int)) (decide (d3.2.2.1 < ((List.length d3.2.1 : Nat) : Int))) false) (((UInt8.toNat (List.getD d3.2.1 (Int.toNat d3.2.2.1) 0) : Nat) : Int) != (124 : Int)) false) (!(cond (((UInt8.toNat (List.getD d3.2.1 (Int.toNat d3.2.2.1) 0) : Nat) : Int) == (41 : Int)) (decide (d3.2.2.2.1 > (0 : Int))) false)) false) = true → JoinW (D := ((List Int) × ref04_reader)) (fun J5 => Fn P "(*mergelens/mergelensref04.reader).piece" S_ref04_reader_piece (d3.2.1, (d3.2.2.1, (d3.2.2.2.1, (d3.2.2.2.2.1, d3.2.2.2.2.2)))) (fun (d7 : Int) (e8 : ref04_reader) => ((List.length d3.1 + List.length ([d7] : List Int)) * 8 ≤ 140737488355328) ∧
  J5 ((d3.1 ++ ([d7] : List Int)), (e8.1, (e8.2.1, (e8.2.2.1, (e8.2.2.2.1, e8.2.2.2.2))))))) (fun (d6 : ((List Int) × ref04_reader)) => J4 (d6.1, (d6.2.1, (d6.2.2.1, (d6.2.2.2.1, (d6.2.2.2.2.1, d6.2.2.2.2.2))))))) ∧ ((cond (cond (cond (d3.2.2.2.2.2 == (0 : Int)) (decide (d3.2.2.1 < ((List.length d3.2.1 : Nat) : Int))) false) (((UInt8.toNat (List.getD d3.2.1 (Int.toNat d3.2.2.1) 0) : Nat) : Int) != (124 : Int)) false) (!(cond (((UInt8.toNat (List.getD d3.2.1 (Int.toNat d3.2.2.1) 0) : Nat) : Int) == (41 : Int)) (decide (d3.2.2.2.1 > (0 : Int))) false)) false) = false → J1 (d3.1, (d3.2.1, (d3.2.2.1, (d3.2.2.2.1, (d3.2.2.2.2.1, d3.2.2.2.2.2))))))))) (fun (d2 : ((List Int) × ref04_reader)) => JoinW (D := (Int × ref04_reader)) (fun J9 => (((d2.2.2.2.2.2 != (0 : Int)) = true → K (0 : Int) (d2.2.1, (d2.2.2.1, (d2.2.2.2.1, (d2.2.2.2.2.1, d2.2.2.2.2.2))))) ∧ ((d2.2.2.2.2.2 != (0 : Int)) = false → (((((List.length d2.1 : Nat) : Int) == (0 : Int)) = true → Fn P "(*mergelens/mergelensref04.reader).node" S_ref04_reader_node ((d2.2.1, (d2.2.2.1, (d2.2.2.2.1, (d2.2.2.2.2.1, d2.2.2.2.2.2)))), ((0 : Int), (((0 : Int), ((0 : Int), ((0 : Int), (0 : Int)))), ((0 : Int), ((0 : Int), []))))) (fun (d11 : Int) (e12 : ref04_reader) => K d11 (e12.1, (e12.2.1, (e12.2.2.1, (e12.2.2.2.1, e12.2.2.2.2)))))) ∧ ((((List.length d2.1 : Nat) : Int) == (0 : Int)) = false → (((((List.length d2.1 : Nat) : Int) == (1 : Int)) = true → (0 ≤ (0 : Int) ∧ (0 : Int) < ((List.length d2.1 : Nat) : Int)) ∧
  ((Int.toNat (0 : Int)) < List.length d2.1) ∧
  K (List.getD d2.1 (Int.toNat (0 : Int)) (0 : Int)) (d2.2.1, (d2.2.2.1, (d2.2.2.2.1, (d2.2.2.2.2.1, d2.2.2.2.2.2))))) ∧ ((((List.length d2.1 : Nat) : Int) == (1 : Int)) = false → J9 ((0 : Int), (d2.2.1, (d2.2.2.1, (d2.2.2.2.1, (d2.2.2.2.2.1, d2.2.2.2.2.2)))))))))))) (fun (d10 : (Int × ref04_reader)) => Fn P "(*mergelens/mergelensref04.reader).node" S_ref04_reader_node ((d10.2.1, (d10.2.2.1, (d10.2.2.2.1, (d10.2.2.2.2.1, d10.2.2.2.2.2)))), ((4 : Int), (((0 : Int), ((0 : Int), ((0 : Int), (0 : Int)))), ((0 : Int), ((0 : Int), d2.1))))) (fun (d13 : Int) (e14 : ref04_reader) => K d13 (e14.1, (e14.2.1, (e14.2.2.1, (e14.2.2.2.1, e14.2.2.2.2)))))))
theorem fn_ref04_reader_alternative {P : Program} (h : Has P F_ref04_reader_alternative) {x : DP S_ref04_reader_alternative.ps} {K : DP S_ref04_reader_alternative.rs → DP (ptrs S_ref04_reader_alternative.ps) → Prop} (hw : W_ref04_reader_alternative P x K) : Fn P "(*mergelens/mergelensref04.reader).alternative" S_ref04_reader_alternative x K :=
  fn_of (c := t_ref04_reader_alternative) h rfl rfl (by kernel_rfl) (Eq.mpr (show liftT P F_ref04_reader_alternative S_ref04_reader_alternative t_ref04_reader_alternative x K = W_ref04_reader_alternative P x K by kernel_rfl) hw)

def t_ref04_reader_pattern : TCode :=
  (.seq
    (.region [o1 2 (.asg (.c (.int .i64 0)))])
  (.seq
    (.region [o1 4 (.mv (.t 0)),
      oS ⟨some 5, .call "(*mergelens/mergelensref04.reader).alternative" [(.t 4)], none⟩ S_ref04_reader_alternative,
      oT ⟨some 6, .buildSl 1 [(.int .i64 0)] 1 [(0, (.t 5))], none⟩ (some ((.int .i64), .leaf)),
      o1 3 (.asg (.t 6))])
  (.seq
    (.frame [3, 7, 8, 9, 10, 11, 12, 13, 14, 15, 16, 17, 18, 19, 20, 21, 22, 23, 24, 25, 26, 27] [0] true (.join [.sl 3 false (.sl (.int .i64)) (.node .own .leaf), .bx 0 bref04_reader (.pair .leaf (.pair .leaf (.pair .leaf (.pair (.node .own (.pair .leaf (.pair .leaf (.pair .leaf (.pair .leaf (.node .imm .leaf)))))) .leaf))))]
    (.block 0
      (.loop [.sl 3 false (.sl (.int .i64)) (.node .own .leaf), .bx 0 bref04_reader (.pair .leaf (.pair .leaf (.pair .leaf (.pair (.node .own (.pair .leaf (.pair .leaf (.pair .leaf (.pair .leaf (.node .imm .leaf)))))) .leaf))))]
        (.seq
          (.seq
            (.region [o1 7 (.mv (.t 0)),
              o1 8 (.nilc (.t 7)),
              o1 9 (.fAddr 4 (.t 8)),
              o1 10 (.load false 1 (.t 9)),
              o1 11 (.bin .eql (.t 10) (.c (.int .i64 0))),
              o1 12 (.mv (.t 11)),
              ⟨⟨some 13, .mv (.t 0), some (12, true)⟩, none, ⟨[], []⟩, false, some 12, true, false⟩,
              ⟨⟨some 14, .call "(*mergelens/mergelensref04.reader).is" [(.t 13), (.c (.int .u8 124))], some (12, true)⟩, none, S_ref04_reader_is, false, none, true, true⟩,
              o1 15 (.pick (.t 12) (.t 14) (.c (.bool false)))])
          (.cond (.t 15)
            .skip
            (.exit 0)))
        (.frame [3, 16, 17, 18, 19, 20, 21, 22, 23, 24, 25, 26, 27] [0] true (.join [.sl 3 false (.sl (.int .i64)) (.node .own .leaf), .bx 0 bref04_reader (.pair .leaf (.pair .leaf (.pair .leaf (.pair (.node .own (.pair .leaf (.pair .leaf (.pair .leaf (.pair .leaf (.node .imm .leaf)))))) .leaf))))]
        (.block 1
          (.seq
            (.region [o1 16 (.mv (.t 0)),
              o1 17 (.nilc (.t 16)),
              o1 18 (.fAddr 1 (.t 17)),
              o1 19 (.load false 1 (.t 18)),
              o1 20 (.bin .add (.t 19) (.c (.int .i64 1))),
              o1 21 (.nilc (.t 16)),
              o1 22 (.fAddr 1 (.t 21)),
              o0 ⟨none, .store 1 (.t 22) (.t 20), none⟩])
          (.region [o1 23 (.mv (.t 3)),
            o1 24 (.mv (.t 0)),
            oS ⟨some 25, .call "(*mergelens/mergelensref04.reader).alternative" [(.t 24)], none⟩ S_ref04_reader_alternative,
            oT ⟨some 26, .buildSl 1 [(.int .i64 0)] 1 [(0, (.t 25))], none⟩ (some ((.int .i64), .leaf)),
            oT ⟨some 27, .app 1 8 (.t 23) (.t 26), none⟩ (some ((.int .i64), .leaf)),
            o1 3 (.asg (.t 27))]))))))))))
  (.seq
    (.seq
      (.region [o1 28 (.mv (.t 0)),
        o1 29 (.nilc (.t 28)),
        o1 30 (.fAddr 4 (.t 29)),
        o1 31 (.load false 1 (.t 30)),
        o1 32 (.bin .neq (.t 31) (.c (.int .i64 0))),
        o1 33 (.mv (.t 32)),
        o0 ⟨some 34, .mv (.t 3), some (33, false)⟩,
        o0 ⟨some 35, .lenK (.t 34), some (33, false)⟩,
        o0 ⟨some 36, .bin .eql (.t 35) (.c (.int .i64 1)), some (33, false)⟩,
        o1 37 (.pick (.t 33) (.c (.bool true)) (.t 36))])
    (.cond (.t 37)
      (.seq
        (.region [o1 38 (.mv (.t 3)),
          o1 39 (.ixA 1 (.t 38) (.c (.int .i64 0))),
          o1 40 (.load false 1 (.t 39)),
          o1 2 (.asg (.t 40))])
      .ret)
      .skip))
  (.seq
    (.frz [3]
    (.region [o1 41 (.mv (.t 0)),
      o1 42 (.mv (.t 3)),
      o1 43 (.build [(.int .i64 0), (.int .u64 0), (.int .u64 0), (.int .u64 0), (.int .u64 0), (.int .i64 0), (.int .i64 0), (.slice none 0 0)] [(0, 1, (.c (.int .i64 5))), (7, 1, (.t 42))]),
      oS ⟨some 44, .call "(*mergelens/mergelensref04.reader).node" [(.t 41), (.t 43)], none⟩ S_ref04_reader_node,
      o1 2 (.asg (.t 44))]))
  .ret)))))
def F_ref04_reader_pattern : AFn := ⟨ "(*mergelens/mergelensref04.reader).pattern", t_ref04_reader_pattern.erase, [.tmp 2], 1⟩
def W_ref04_reader_pattern (P : Program) (x : ref04_reader) (K : Int → ref04_reader → Prop) : Prop :=
  Fn P "(*mergelens/mergelensref04.reader).alternative" S_ref04_reader_alternative (x.1, (x.2.1, (x.2.2.1, (x.2.2.2.1, x.2.2.2.2)))) (fun (d1 : Int) (e2 : ref04_reader) => JoinW (D := ((List Int) × ref04_reader)) (fun J3 => LoopW (D := ((List Int) × ref04_reader)) (([d1] : List Int), (e2.1, (e2.2.1, (e2.2.2.1, (e2.2.2.2.1, e2.2.2.2.2))))) (fun (d5 : ((List Int) × ref04_reader)) J6 => (((d5.2.2.2.2.2 == (0 : Int)) = true → Fn P "(*mergelens/mergelensref04.reader).is" S_ref04_reader_is ((d5.2.1, (d5.2.2.1, (d5.2.2.2.1, (d5.2.2.2.2.1, d5.2.2.2.2.2)))), (124 : Int)) (fun (d7 : Bool) (e8 : ref04_reader) => (((cond true d7 false) = true → JoinW (D := ((List Int) × ref04_reader)) (fun J9 => Fn P "(*mergelens/mergelensref04.reader).alternative" S_ref04_reader_alternative (e8.1, ((IntKind.i64.wrap (e8.2.1 + (1 : Int))), (e8.2.2.1, (e8.2.2.2.1, e8.2.2.2.2)))) (fun (d11 : Int) (e12 : ref04_reader) => ((List.length d5.1 + List.length ([d11] : List Int)) * 8 ≤ 140737488355328) ∧
  J9 ((d5.1 ++ ([d11] : List Int)), (e12.1, (e12.2.1, (e12.2.2.1, (e12.2.2.2.1, e12.2.2.2.2))))))) (fun (d10 : ((List Int) × ref04_reader)) => J6 (d10.1, (d10.2.1, (d10.2.2.1, (d10.2.2.2.1, (d10.2.2.2.2.1, d10.2.2.2.2.2))))))) ∧ ((cond true d7 false) = false → J3 (d5.1, (e8.1, (e8.2.1, (e8.2.2.1, (e8.2.2.2.1, e8.2.2.2.2))))))))) ∧ ((d5.2.2.2.2.2 == (0 : Int)) = false → (((cond false false false) = true → JoinW (D := ((List Int) × ref04_reader)) (fun J13 => Fn P "(*mergelens/mergelensref04.reader).alternative" S_ref04_reader_alternative (d5.2.1, ((IntKind.i64.wrap (d5.2.2.1 + (1 : Int))), (d5.2.2.2.1, (d5.2.2.2.2.1, d5.2.2.2.2.2)))) (fun (d15 : Int) (e16 : ref04_reader) => ((List.length d5.1 + List.length ([d15] : List Int)) * 8 ≤ 140737488355328) ∧
  J13 ((d5.1 ++ ([d15] : List Int)), (e16.1, (e16.2.1, (e16.2.2.1, (e16.2.2.2.1, e16.2.2.2.2))))))) (fun (d14 : ((List Int) × ref04_reader)) => J6 (d14.1, (d14.2.1, (d14.2.2.1, (d14.2.2.2.1, (d14.2.2.2.2.1, d14.2.2.2.2.2))))))) ∧ ((cond false false false) = false → J3 (d5.1, (d5.2.1, (d5.2.2.1, (d5.2.2.2.1, (d5.2.2.2.2.1, d5.2.2.2.2.2))))))))))) (fun (d4 : ((List Int) × ref04_reader)) => (((cond (d4.2.2.2.2.2 != (0 : Int)) true (((List.length d4.1 : Nat) : Int) == (1 : Int))) = true → (0 ≤ (0 : Int) ∧ (0 : Int) < ((List.length d4.1 : Nat) : Int)) ∧
  ((Int.toNat (0 : Int)) < List.length d4.1) ∧
  K (List.getD d4.1 (Int.toNat (0 : Int)) (0 : Int)) (d4.2.1, (d4.2.2.1, (d4.2.2.2.1, (d4.2.2.2.2.1, d4.2.2.2.2.2))))) ∧ ((cond (d4.2.2.2.2.2 != (0 : Int)) true (((List.length d4.1 : Nat) : Int) == (1 : Int))) = false → Fn P "(*mergelens/mergelensref04.reader).node" S_ref04_reader_node ((d4.2.1, (d4.2.2.1, (d4.2.2.2.1, (d4.2.2.2.2.1, d4.2.2.2.2.2)))), ((5 : Int), (((0 : Int), ((0 : Int), ((0 : Int), (0 : Int)))), ((0 : Int), ((0 : Int), d4.1))))) (fun (d17 : Int) (e18 : ref04_reader) => K d17 (e18.1, (e18.2.1, (e18.2.2.1, (e18.2.2.2.1, e18.2.2.2.2)))))))))
theorem fn_ref04_reader_pattern {P : Program} (h : Has P F_ref04_reader_pattern) {x : DP S_ref04_reader_pattern.ps} {K : DP S_ref04_reader_pattern.rs → DP (ptrs S_ref04_reader_pattern.ps) → Prop} (hw : W_ref04_reader_pattern P x K) : Fn P "(*mergelens/mergelensref04.reader).pattern" S_ref04_reader_pattern x K :=
  fn_of (c := t_ref04_reader_pattern) h rfl rfl (by kernel_rfl) (Eq.mpr (show liftT P F_ref04_reader_pattern S_ref04_reader_pattern t_ref04_reader_pattern x K = W_ref04_reader_pattern P x K by kernel_rfl) hw)

def t_ref04_Parse : TCode :=
  (.seq
    (.region [o1 2 (.asg (.c (.slice none 0 0))),
      o1 3 (.asg (.c (.int .i64 0)))])
  (.seq
    (.seq
      (.region [o1 5 (.mv (.t 0)),
        o1 6 (.lenS (.t 5)),
        o1 7 (.bin .gtr (.t 6) (.c (.int .i64 256)))])
    (.cond (.t 7)
      (.seq
        (.region [o1 2 (.asg (.c (.slice none 0 0))),
          o1 3 (.asg (.c (.int .i64 1)))])
      .ret)
      .skip))
  (.seq
    (.region [o1 8 (.mv (.t 0)),
      o1 9 (.build [(.string ⟨#[]⟩), (.int .i64 0), (.int .i64 0), (.slice none 0 0), (.int .i64 0)] [(0, 1, (.t 8))]),
      o1 10 (.box (.t 9)),
      o1 4 (.asg (.t 10))])
  (.seq
    (.region [o1 11 (.mv (.t 4)),
      oS ⟨some 12, .call "(*mergelens/mergelensref04.reader).pattern" [(.t 11)], none⟩ S_ref04_reader_pattern])
  (.seq
    (.seq
      (.region [o1 13 (.mv (.t 4)),
        o1 14 (.nilc (.t 13)),
        o1 15 (.fAddr 4 (.t 14)),
        o1 16 (.load false 1 (.t 15)),
        o1 17 (.bin .eql (.t 16) (.c (.int .i64 0))),
        o1 18 (.mv (.t 17)),
        o0 ⟨some 19, .mv (.t 4), some (18, true)⟩,
        o0 ⟨some 20, .nilc (.t 19), some (18, true)⟩,
        o0 ⟨some 21, .fAddr 1 (.t 20), some (18, true)⟩,
        o0 ⟨some 22, .load false 1 (.t 21), some (18, true)⟩,
        o0 ⟨some 23, .mv (.t 0), some (18, true)⟩,
        o0 ⟨some 24, .lenS (.t 23), some (18, true)⟩,
        o0 ⟨some 25, .bin .lss (.t 22) (.t 24), some (18, true)⟩,
        o1 26 (.pick (.t 18) (.t 25) (.c (.bool false)))])
    (.frame [27, 28] [1010] true (.join [.bx 1010 bref04_reader (.pair .leaf (.pair .leaf (.pair .leaf (.pair (.node .own (.pair .leaf (.pair .leaf (.pair .leaf (.pair .leaf (.node .imm .leaf)))))) .leaf))))]
    (.cond (.t 26)
      (.region [o1 27 (.mv (.t 4)),
        oS ⟨some 28, .call "(*mergelens/mergelensref04.reader).fail" [(.t 27), (.c (.int .i64 40))], none⟩ S_ref04_reader_fail])
      .skip))))
  (.seq
    (.seq
      (.region [o1 29 (.mv (.t 4)),
        o1 30 (.nilc (.t 29)),
        o1 31 (.fAddr 4 (.t 30)),
        o1 32 (.load false 1 (.t 31)),
        o1 33 (.bin .neq (.t 32) (.c (.int .i64 0)))])
    (.cond (.t 33)
      (.seq
        (.frame [2, 3, 34, 35, 36, 37] [] false (.join [.sl 2 false (.sl bNode) (.node .own (.pair .leaf (.pair .leaf (.pair .leaf (.pair .leaf (.node .imm .leaf)))))), .sl 3 false (.int .i64) .leaf]
        (.draw [(.first (o1 34 (.mv (.t 4)))
        (.first (o1 35 (.nilc (.t 34)))
        (.first (o1 36 (.fAddr 4 (.t 35)))
        (.alt (o1 37 (.load false 1 (.t 36)))
        (.alt (o1 2 (.asg (.c (.slice none 0 0))))
        (.alt (o1 3 (.asg (.t 37)))
        .done
        .stop)
        .stop)
        (.alt (o1 2 (.asg (.c (.slice none 0 0))))
        (.first (o1 37 (.load false 1 (.t 36)))
        (.alt (o1 3 (.asg (.t 37)))
        .done
        .stop))
        .stop)))))])))
      .ret)
      .skip))
  (.seq
    (.region [o1 38 (.mv (.t 4)),
      o1 39 (.nilc (.t 38)),
      o1 40 (.fAddr 3 (.t 39)),
      o1 41 (.load false 1 (.t 40)),
      o1 2 (.asg (.t 41)),
      o1 3 (.asg (.c (.int .i64 0)))])
  .ret)))))))
def F_ref04_Parse : AFn := ⟨ "mergelens/mergelensref04.Parse", t_ref04_Parse.erase, [.tmp 2, .tmp 3], 1⟩
def W_ref04_Parse (P : Program) (x : (List UInt8)) (K : ((List Node) × Int) → Unit → Prop) : Prop :=
  (((decide (((List.length x : Nat) : Int) > (256 : Int))) = true → K ([], (1 : Int)) ()) ∧ ((decide (((List.length x : Nat) : Int) > (256 : Int))) = false → Fn P "(*mergelens/mergelensref04.reader).pattern" S_ref04_reader_pattern (x, ((0 : Int), ((0 : Int), ([], (0 : Int))))) (fun (d1 : Int) (e2 : ref04_reader) => JoinW (D := ref04_reader) (fun J3 => (((cond (e2.2.2.2.2 == (0 : Int)) (decide (e2.2.1 < ((List.length x : Nat) : Int))) false) = true → Fn P "(*mergelens/mergelensref04.reader).fail" S_ref04_reader_fail ((e2.1, (e2.2.1, (e2.2.2.1, (e2.2.2.2.1, e2.2.2.2.2)))), (40 : Int)) (fun (d5 : Int) (e6 : ref04_reader) => J3 (e6.1, (e6.2.1, (e6.2.2.1, (e6.2.2.2.1, e6.2.2.2.2)))))) ∧ ((cond (e2.2.2.2.2 == (0 : Int)) (decide (e2.2.1 < ((List.length x : Nat) : Int))) false) = false → J3 (e2.1, (e2.2.1, (e2.2.2.1, (e2.2.2.2.1, e2.2.2.2.2))))))) (fun (d4 : ref04_reader) => (((d4.2.2.2.2 != (0 : Int)) = true → JoinW (D := ((List Node) × Int)) (fun J7 => (((J7 ([], d4.2.2.2.2)) ∧ (True)) ∧ (True)) ∧ (((J7 ([], d4.2.2.2.2)) ∧ (True)) ∧ (True))) (fun (d8 : ((List Node) × Int)) => K (d8.1, d8.2) ())) ∧ ((d4.2.2.2.2 != (0 : Int)) = false → K (d4.2.2.2.1, (0 : Int)) ()))))))
theorem fn_ref04_Parse {P : Program} (h : Has P F_ref04_Parse) {x : DP S_ref04_Parse.ps} {K : DP S_ref04_Parse.rs → DP (ptrs S_ref04_Parse.ps) → Prop} (hw : W_ref04_Parse P x K) : Fn P "mergelens/mergelensref04.Parse" S_ref04_Parse x K :=
  fn_of (c := t_ref04_Parse) h rfl rfl (by kernel_rfl) (Eq.mpr (show liftT P F_ref04_Parse S_ref04_Parse t_ref04_Parse x K = W_ref04_Parse P x K by kernel_rfl) hw)

def t_regex_weight : TCode :=
  (.seq
    (.region [o1 2 (.box (.t 0)),
      o1 4 (.asg (.c (.int .i64 0)))])
  (.seq
    (.region [o1 5 (.asg (.c (.int .i64 0)))])
  (.seq
    (.seq
      (.region [o1 8 (.fAddr 7 (.t 2)),
        o1 9 (.load false 1 (.t 8)),
        o1 10 (.lenK (.t 9)),
        o1 11 (.mv (.c (.int .i64 0)))])
    (.frame [5, 7, 11, 12, 13, 14, 15, 16, 17, 18, 19, 20, 21, 22] [] false (.join [.sl 5 false (.int .i64) .leaf]
    (.block 0
      (.loop [.sl 5 false (.int .i64) .leaf, .sl 11 false (.int .i64) .leaf]
        (.seq
          (.region [o1 12 (.bin .lss (.t 11) (.t 10))])
        (.seq
          (.cond (.t 12)
            .skip
            (.exit 0))
        (.seq
          (.frame [5, 7, 13, 14, 15, 16, 17, 18, 19, 20, 21] [] false (.join [.sl 5 false (.int .i64) .leaf]
          (.block 1
            (.seq
              (.region [o1 13 (.ixA 1 (.t 9) (.t 11)),
                o1 14 (.load false 1 (.t 13)),
                o1 7 (.asg (.t 14))])
            (.region [o1 15 (.mv (.t 5)),
              o1 16 (.mv (.t 1)),
              o1 17 (.mv (.t 7)),
              o1 18 (.ixA 1 (.t 16) (.t 17)),
              o1 19 (.load false 1 (.t 18)),
              o1 20 (.bin .add (.t 15) (.t 19)),
              o1 21 (.mm false (.t 20) (.c (.int .i64 4001))),
              o1 5 (.asg (.t 21))])))))
        (.region [o1 22 (.bin .add (.t 11) (.c (.int .i64 1))),
          o1 11 (.mv (.t 22))])))))))))
  (.seq
    (.seq
      (.region [o1 23 (.fAddr 0 (.t 2)),
        o1 24 (.load false 1 (.t 23))])
    (.frame [4, 25, 26, 27, 28, 29, 30, 31, 32, 33, 34, 35, 36, 37, 38, 39, 40, 41, 42, 43, 44, 45, 46, 47, 48, 49, 50, 51, 52, 53, 54, 55, 56, 57, 58, 59, 60, 61, 62, 63] [] false (.join [.sl 4 false (.int .i64) .leaf]
    (.block 2
      (.seq
        (.region [o1 26 (.bin .eql (.t 24) (.c (.int .i64 4))),
          o1 25 (.asg (.t 26))])
      (.cond (.t 25)
        (.seq
          (.region [o1 27 (.mv (.t 5)),
            o1 4 (.asg (.t 27))])
        .ret)
        (.seq
          (.region [o1 29 (.bin .eql (.t 24) (.c (.int .i64 5))),
            o1 28 (.asg (.t 29))])
        (.cond (.t 28)
          (.seq
            (.region [o1 30 (.mv (.t 5)),
              o1 31 (.fAddr 7 (.t 2)),
              o1 32 (.load false 1 (.t 31)),
              o1 33 (.lenK (.t 32)),
              o1 34 (.bin .add (.t 30) (.t 33)),
              o1 35 (.bin .sub (.t 34) (.c (.int .i64 1))),
              o1 36 (.mm false (.t 35) (.c (.int .i64 4001))),
              o1 4 (.asg (.t 36))])
          .ret)
          (.seq
            (.region [o1 38 (.bin .eql (.t 24) (.c (.int .i64 6))),
              o1 37 (.asg (.t 38))])
          (.cond (.t 37)
            (.seq
              (.seq
                (.region [o1 39 (.fAddr 6 (.t 2)),
                  o1 40 (.load false 1 (.t 39)),
                  o1 41 (.bin .lss (.t 40) (.c (.int .i64 0)))])
              (.cond (.t 41)
                (.seq
                  (.region [o1 42 (.fAddr 5 (.t 2)),
                    o1 43 (.load false 1 (.t 42)),
                    o1 44 (.mv (.t 5)),
                    o1 45 (.bin .mul (.t 43) (.t 44)),
                    o1 46 (.mv (.t 5)),
                    o1 47 (.bin .add (.t 45) (.t 46)),
                    o1 48 (.bin .add (.t 47) (.c (.int .i64 1))),
                    o1 49 (.mm false (.t 48) (.c (.int .i64 4001))),
                    o1 4 (.asg (.t 49))])
                .ret)
                .skip))
            (.seq
              (.region [o1 50 (.fAddr 5 (.t 2)),
                o1 51 (.load false 1 (.t 50)),
                o1 52 (.mv (.t 5)),
                o1 53 (.bin .mul (.t 51) (.t 52)),
                o1 54 (.fAddr 6 (.t 2)),
                o1 55 (.load false 1 (.t 54)),
                o1 56 (.fAddr 5 (.t 2)),
                o1 57 (.load false 1 (.t 56)),
                o1 58 (.bin .sub (.t 55) (.t 57)),
                o1 59 (.mv (.t 5)),
                o1 60 (.bin .add (.t 59) (.c (.int .i64 1))),
                o1 61 (.bin .mul (.t 58) (.t 60)),
                o1 62 (.bin .add (.t 53) (.t 61)),
                o1 63 (.mm false (.t 62) (.c (.int .i64 4001))),
                o1 4 (.asg (.t 63))])
            .ret))
            .skip))))))))))
  (.seq
    (.region [o1 4 (.asg (.c (.int .i64 1)))])
  .ret)))))
def F_regex_weight : AFn := ⟨ "mergelens/regex.weight", t_regex_weight.erase, [.tmp 4], 2⟩
def W_regex_weight (P : Program) (x : (Node × (List Int))) (K : Int → Unit → Prop) : Prop :=
  JoinW (D := Int) (fun J1 => LoopW (D := (Int × Int)) ((0 : Int), (0 : Int)) (fun (d3 : (Int × Int)) J4 => (((decide (d3.2 < ((List.length x.1.2.2.2.2 : Nat) : Int))) = true → JoinW (D := Int) (fun J5 => (0 ≤ d3.2 ∧ d3.2 < ((List.length x.1.2.2.2.2 : Nat) : Int)) ∧
  ((Int.toNat d3.2) < List.length x.1.2.2.2.2) ∧
  (0 ≤ (List.getD x.1.2.2.2.2 (Int.toNat d3.2) (0 : Int)) ∧ (List.getD x.1.2.2.2.2 (Int.toNat d3.2) (0 : Int)) < ((List.length x.2 : Nat) : Int)) ∧
  ((Int.toNat (List.getD x.1.2.2.2.2 (Int.toNat d3.2) (0 : Int))) < List.length x.2) ∧
  J5 (if (4001 : Int) < (IntKind.i64.wrap (d3.1 + (List.getD x.2 (Int.toNat (List.getD x.1.2.2.2.2 (Int.toNat d3.2) (0 : Int))) (0 : Int)))) then (4001 : Int) else (IntKind.i64.wrap (d3.1 + (List.getD x.2 (Int.toNat (List.getD x.1.2.2.2.2 (Int.toNat d3.2) (0 : Int))) (0 : Int)))))) (fun (d6 : Int) => J4 (d6, (IntKind.i64.wrap (d3.2 + (1 : Int)))))) ∧ ((decide (d3.2 < ((List.length x.1.2.2.2.2 : Nat) : Int))) = false → J1 d3.1)))) (fun (d2 : Int) => JoinW (D := Int) (fun J7 => (((x.1.1 == (4 : Int)) = true → K d2 ()) ∧ ((x.1.1 == (4 : Int)) = false → (((x.1.1 == (5 : Int)) = true → K (if (4001 : Int) < (IntKind.i64.wrap ((IntKind.i64.wrap (d2 + ((List.length x.1.2.2.2.2 : Nat) : Int))) - (1 : Int))) then (4001 : Int) else (IntKind.i64.wrap ((IntKind.i64.wrap (d2 + ((List.length x.1.2.2.2.2 : Nat) : Int))) - (1 : Int)))) ()) ∧ ((x.1.1 == (5 : Int)) = false → (((x.1.1 == (6 : Int)) = true → (((decide (x.1.2.2.2.1 < (0 : Int))) = true → K (if (4001 : Int) < (IntKind.i64.wrap ((IntKind.i64.wrap ((IntKind.i64.wrap (x.1.2.2.1 * d2)) + d2)) + (1 : Int))) then (4001 : Int) else (IntKind.i64.wrap ((IntKind.i64.wrap ((IntKind.i64.wrap (x.1.2.2.1 * d2)) + d2)) + (1 : Int)))) ()) ∧ ((decide (x.1.2.2.2.1 < (0 : Int))) = false → K (if (4001 : Int) < (IntKind.i64.wrap ((IntKind.i64.wrap (x.1.2.2.1 * d2)) + (IntKind.i64.wrap ((IntKind.i64.wrap (x.1.2.2.2.1 - x.1.2.2.1)) * (IntKind.i64.wrap (d2 + (1 : Int))))))) then (4001 : Int) else (IntKind.i64.wrap ((IntKind.i64.wrap (x.1.2.2.1 * d2)) + (IntKind.i64.wrap ((IntKind.i64.wrap (x.1.2.2.2.1 - x.1.2.2.1)) * (IntKind.i64.wrap (d2 + (1 : Int)))))))) ()))) ∧ ((x.1.1 == (6 : Int)) = false → J7 (0 : Int)))))))) (fun (d8 : Int) => K (1 : Int) ()))
theorem fn_regex_weight {P : Program} (h : Has P F_regex_weight) {x : DP S_regex_weight.ps} {K : DP S_regex_weight.rs → DP (ptrs S_regex_weight.ps) → Prop} (hw : W_regex_weight P x K) : Fn P "mergelens/regex.weight" S_regex_weight x K :=
  fn_of (c := t_regex_weight) h rfl rfl (by kernel_rfl) (Eq.mpr (show liftT P F_regex_weight S_regex_weight t_regex_weight x K = W_regex_weight P x K by kernel_rfl) hw)

def t_regex_Weights : TCode :=
  (.seq
    (.region [o1 2 (.asg (.c (.slice none 0 0)))])
  (.seq
    (.region [o1 6 (.mv (.t 0)),
      o1 7 (.lenK (.t 6)),
      oT ⟨some 8, .mkSl 1 8 [(.int .i64 0)] (.t 7) (.t 7), none⟩ (some ((.int .i64), .leaf)),
      o1 3 (.asg (.t 8))])
  (.seq
    (.seq
      (.region [o1 9 (.mv (.t 0)),
        o1 10 (.lenK (.t 9)),
        o1 11 (.mv (.c (.int .i64 0)))])
    (.frame [3, 4, 5, 11, 12, 13, 14, 15, 16, 17, 18, 19, 20, 21, 22] [1005] false (.join [.sl 3 false (.sl (.int .i64)) (.node .own .leaf)]
    (.block 0
      (.loop [.sl 3 false (.sl (.int .i64)) (.node .own .leaf), .sl 11 false (.int .i64) .leaf]
        (.seq
          (.region [o1 12 (.bin .lss (.t 11) (.t 10))])
        (.seq
          (.cond (.t 12)
            .skip
            (.exit 0))
        (.seq
          (.frame [3, 4, 5, 13, 14, 15, 16, 17, 18, 19, 20, 21] [1005] false (.join [.sl 3 false (.sl (.int .i64)) (.node .own .leaf)]
          (.block 1
            (.seq
              (.region [o1 13 (.mv (.t 11)),
                o1 14 (.ixA 8 (.t 9) (.t 11)),
                o1 15 (.load true 8 (.t 14)),
                o1 5 (.alloc [(.int .i64 0), (.int .u64 0), (.int .u64 0), (.int .u64 0), (.int .u64 0), (.int .i64 0), (.int .i64 0), (.slice none 0 0)]),
                o1 4 (.asg (.t 13)),
                o0 ⟨none, .store 8 (.t 5) (.t 15), none⟩])
            (.region [o1 16 (.mv (.t 3)),
              o1 17 (.mv (.t 4)),
              o1 18 (.load true 8 (.t 5)),
              o1 19 (.mv (.t 3)),
              oS ⟨some 20, .call "mergelens/regex.weight" [(.t 18), (.t 19)], none⟩ S_regex_weight,
              o1 21 (.ixA 1 (.t 16) (.t 17)),
              o0 ⟨none, .store 1 (.t 21) (.t 20), none⟩])))))
        (.region [o1 22 (.bin .add (.t 11) (.c (.int .i64 1))),
          o1 11 (.mv (.t 22))])))))))))
  (.seq
    (.region [o1 23 (.mv (.t 3)),
      o1 2 (.asg (.t 23))])
  .ret))))
def F_regex_Weights : AFn := ⟨ "mergelens/regex.Weights", t_regex_Weights.erase, [.tmp 2], 1⟩
def W_regex_Weights (P : Program) (x : (List Node)) (K : (List Int) → Unit → Prop) : Prop :=
  (0 ≤ ((List.length x : Nat) : Int) ∧ ((List.length x : Nat) : Int) ≤ ((List.length x : Nat) : Int) ∧ ((8 : Nat) : Int) * ((List.length x : Nat) : Int) ≤ 281474976710656) ∧
  JoinW (D := (List Int)) (fun J1 => LoopW (D := ((List Int) × Int)) ((List.replicate (Int.toNat ((List.length x : Nat) : Int)) (0 : Int)), (0 : Int)) (fun (d3 : ((List Int) × Int)) J4 => (((decide (d3.2 < ((List.length x : Nat) : Int))) = true → JoinW (D := (List Int)) (fun J5 => (0 ≤ d3.2 ∧ d3.2 < ((List.length x : Nat) : Int)) ∧
  ((Int.toNat d3.2) < List.length x) ∧
  Fn P "mergelens/regex.weight" S_regex_weight (((List.getD x (Int.toNat d3.2) zNode).1, (((List.getD x (Int.toNat d3.2) zNode).2.1.1, ((List.getD x (Int.toNat d3.2) zNode).2.1.2.1, ((List.getD x (Int.toNat d3.2) zNode).2.1.2.2.1, (List.getD x (Int.toNat d3.2) zNode).2.1.2.2.2))), ((List.getD x (Int.toNat d3.2) zNode).2.2.1, ((List.getD x (Int.toNat d3.2) zNode).2.2.2.1, (List.getD x (Int.toNat d3.2) zNode).2.2.2.2)))), d3.1) (fun (d7 : Int) (e8 : Unit) => (0 ≤ d3.2 ∧ d3.2 < ((List.length d3.1 : Nat) : Int)) ∧
  ((Int.toNat d3.2) < List.length d3.1) ∧
  J5 (List.set d3.1 (Int.toNat d3.2) d7))) (fun (d6 : (List Int)) => J4 (d6, (IntKind.i64.wrap (d3.2 + (1 : Int)))))) ∧ ((decide (d3.2 < ((List.length x : Nat) : Int))) = false → J1 d3.1)))) (fun (d2 : (List Int)) => K d2 ())
theorem fn_regex_Weights {P : Program} (h : Has P F_regex_Weights) {x : DP S_regex_Weights.ps} {K : DP S_regex_Weights.rs → DP (ptrs S_regex_Weights.ps) → Prop} (hw : W_regex_Weights P x K) : Fn P "mergelens/regex.Weights" S_regex_Weights x K :=
  fn_of (c := t_regex_Weights) h rfl rfl (by kernel_rfl) (Eq.mpr (show liftT P F_regex_Weights S_regex_Weights t_regex_Weights x K = W_regex_Weights P x K by kernel_rfl) hw)

def t_regex_bounded : TCode :=
  (.seq
    (.region [o1 1 (.box (.t 0)),
      o1 2 (.asg (.c (.bool false)))])
  (.seq
    (.region [o1 3 (.fAddr 5 (.t 1)),
      o1 4 (.load false 1 (.t 3)),
      o1 5 (.bin .geq (.t 4) (.c (.int .i64 0))),
      o1 6 (.mv (.t 5)),
      o0 ⟨some 7, .fAddr 5 (.t 1), some (6, true)⟩,
      o0 ⟨some 8, .load false 1 (.t 7), some (6, true)⟩,
      o0 ⟨some 9, .bin .leq (.t 8) (.c (.int .i64 100)), some (6, true)⟩,
      o1 10 (.pick (.t 6) (.t 9) (.c (.bool false))),
      o1 11 (.mv (.t 10)),
      o0 ⟨some 12, .fAddr 6 (.t 1), some (11, true)⟩,
      o0 ⟨some 13, .load false 1 (.t 12), some (11, true)⟩,
      o0 ⟨some 14, .bin .eql (.t 13) (.c (.int .i64 (-1))), some (11, true)⟩,
      o0 ⟨some 15, .mv (.t 14), some (11, true)⟩,
      o0 ⟨some 16, .fAddr 6 (.t 1), some (15, false)⟩,
      o0 ⟨some 17, .load false 1 (.t 16), some (15, false)⟩,
      o0 ⟨some 18, .fAddr 5 (.t 1), some (15, false)⟩,
      o0 ⟨some 19, .load false 1 (.t 18), some (15, false)⟩,
      o0 ⟨some 20, .bin .geq (.t 17) (.t 19), some (15, false)⟩,
      o0 ⟨some 21, .mv (.t 20), some (15, false)⟩,
      o0 ⟨some 22, .fAddr 6 (.t 1), some (21, true)⟩,
      o0 ⟨some 23, .load false 1 (.t 22), some (21, true)⟩,
      o0 ⟨some 24, .bin .leq (.t 23) (.c (.int .i64 100)), some (21, true)⟩,
      o0 ⟨some 25, .pick (.t 21) (.t 24) (.c (.bool false)), some (15, false)⟩,
      o0 ⟨some 26, .pick (.t 15) (.c (.bool true)) (.t 25), some (11, true)⟩,
      o1 27 (.pick (.t 11) (.t 26) (.c (.bool false))),
      o1 2 (.asg (.t 27))])
  .ret))
def F_regex_bounded : AFn := ⟨ "mergelens/regex.bounded", t_regex_bounded.erase, [.tmp 2], 1⟩
def W_regex_bounded (P : Program) (x : Node) (K : Bool → Unit → Prop) : Prop :=
  K (cond (cond (decide (x.2.2.1 ≥ (0 : Int))) (decide (x.2.2.1 ≤ (100 : Int))) false) (cond (x.2.2.2.1 == (-1 : Int)) true (cond (decide (x.2.2.2.1 ≥ x.2.2.1)) (decide (x.2.2.2.1 ≤ (100 : Int))) false)) false) ()
theorem fn_regex_bounded {P : Program} (h : Has P F_regex_bounded) {x : DP S_regex_bounded.ps} {K : DP S_regex_bounded.rs → DP (ptrs S_regex_bounded.ps) → Prop} (hw : W_regex_bounded P x K) : Fn P "mergelens/regex.bounded" S_regex_bounded x K :=
  fn_of (c := t_regex_bounded) h rfl rfl (by kernel_rfl) (Eq.mpr (show liftT P F_regex_bounded S_regex_bounded t_regex_bounded x K = W_regex_bounded P x K by kernel_rfl) hw)

def t_regex_fits : TCode :=
  (.seq
    (.region [o1 2 (.box (.t 0)),
      o1 4 (.asg (.c (.bool false)))])
  (.seq
    (.seq
      (.region [o1 7 (.fAddr 7 (.t 2)),
        o1 8 (.load false 1 (.t 7)),
        o1 9 (.lenK (.t 8)),
        o1 10 (.mv (.c (.int .i64 0)))])
    (.frame [4, 6, 10, 11, 12, 13, 14, 15, 16, 17, 18, 19, 20, 21] [] false (.join [.sl 4 false .bool .leaf]
    (.block 0
      (.loop [.sl 4 false .bool .leaf, .sl 10 false (.int .i64) .leaf]
        (.seq
          (.region [o1 11 (.bin .lss (.t 10) (.t 9))])
        (.seq
          (.cond (.t 11)
            .skip
            (.exit 0))
        (.seq
          (.frame [4, 6, 12, 13, 14, 15, 16, 17, 18, 19, 20] [] false (.join [.sl 4 false .bool .leaf]
          (.block 1
            (.seq
              (.region [o1 12 (.ixA 1 (.t 8) (.t 10)),
                o1 13 (.load false 1 (.t 12)),
                o1 6 (.asg (.t 13))])
            (.seq
              (.region [o1 14 (.mv (.t 6)),
                o1 15 (.bin .lss (.t 14) (.c (.int .i64 0))),
                o1 16 (.mv (.t 15)),
                o0 ⟨some 17, .mv (.t 6), some (16, false)⟩,
                o0 ⟨some 18, .mv (.t 1), some (16, false)⟩,
                o0 ⟨some 19, .bin .geq (.t 17) (.t 18), some (16, false)⟩,
                o1 20 (.pick (.t 16) (.c (.bool true)) (.t 19))])
            (.cond (.t 20)
              (.seq
                (.region [o1 4 (.asg (.c (.bool false)))])
              .ret)
              .skip))))))
        (.region [o1 21 (.bin .add (.t 10) (.c (.int .i64 1))),
          o1 10 (.mv (.t 21))])))))))))
  (.seq
    (.seq
      (.region [o1 22 (.fAddr 0 (.t 2)),
        o1 23 (.load false 1 (.t 22))])
    (.frame [4, 24, 25, 26, 27, 28, 29, 30, 31, 32, 33, 34, 35, 36, 37, 38, 39, 40, 41, 42, 43, 44, 45, 46, 47, 48, 49] [] false (.join [.sl 4 false .bool .leaf]
    (.block 2
      (.seq
        (.seq
          (.region [o1 25 (.bin .eql (.t 23) (.c (.int .i64 0))),
            o1 24 (.asg (.t 25))])
        (.frame [24, 26, 27, 28] [] false (.join [.sl 24 false .bool .leaf]
        (.cond (.t 24)
          .skip
          (.seq
            (.region [o1 26 (.bin .eql (.t 23) (.c (.int .i64 1))),
              o1 24 (.asg (.t 26))])
          (.frame [24, 27, 28] [] false (.join [.sl 24 false .bool .leaf]
          (.cond (.t 24)
            .skip
            (.seq
              (.region [o1 27 (.bin .eql (.t 23) (.c (.int .i64 2))),
                o1 24 (.asg (.t 27))])
            (.frame [24, 28] [] false (.join [.sl 24 false .bool .leaf]
            (.cond (.t 24)
              .skip
              (.region [o1 28 (.bin .eql (.t 23) (.c (.int .i64 3))),
                o1 24 (.asg (.t 28))])))))))))))))
      (.cond (.t 24)
        (.seq
          (.region [o1 29 (.fAddr 7 (.t 2)),
            o1 30 (.load false 1 (.t 29)),
            o1 31 (.lenK (.t 30)),
            o1 32 (.bin .eql (.t 31) (.c (.int .i64 0))),
            o1 4 (.asg (.t 32))])
        .ret)
        (.seq
          (.seq
            (.region [o1 34 (.bin .eql (.t 23) (.c (.int .i64 4))),
              o1 33 (.asg (.t 34))])
          (.frame [33, 35] [] false (.join [.sl 33 false .bool .leaf]
          (.cond (.t 33)
            .skip
            (.region [o1 35 (.bin .eql (.t 23) (.c (.int .i64 5))),
              o1 33 (.asg (.t 35))])))))
        (.cond (.t 33)
          (.seq
            (.region [o1 36 (.fAddr 7 (.t 2)),
              o1 37 (.load false 1 (.t 36)),
              o1 38 (.lenK (.t 37)),
              o1 39 (.bin .geq (.t 38) (.c (.int .i64 2))),
              o1 4 (.asg (.t 39))])
          .ret)
          (.seq
            (.region [o1 41 (.bin .eql (.t 23) (.c (.int .i64 6))),
              o1 40 (.asg (.t 41))])
          (.cond (.t 40)
            (.seq
              (.region [o1 42 (.fAddr 7 (.t 2)),
                o1 43 (.load false 1 (.t 42)),
                o1 44 (.lenK (.t 43)),
                o1 45 (.bin .eql (.t 44) (.c (.int .i64 1))),
                o1 46 (.mv (.t 45)),
                o0 ⟨some 47, .load true 8 (.t 2), some (46, true)⟩,
                oS ⟨some 48, .call "mergelens/regex.bounded" [(.t 47)], some (46, true)⟩ S_regex_bounded,
                o1 49 (.pick (.t 46) (.t 48) (.c (.bool false))),
                o1 4 (.asg (.t 49))])
            .ret)
            .skip))))))))))
  (.seq
    (.region [o1 4 (.asg (.c (.bool false)))])
  .ret))))
def F_regex_fits : AFn := ⟨ "mergelens/regex.fits", t_regex_fits.erase, [.tmp 4], 2⟩
def W_regex_fits (P : Program) (x : (Node × Int)) (K : Bool → Unit → Prop) : Prop :=
  JoinW (D := Bool) (fun J1 => LoopW (D := (Bool × Int)) (false, (0 : Int)) (fun (d3 : (Bool × Int)) J4 => (((decide (d3.2 < ((List.length x.1.2.2.2.2 : Nat) : Int))) = true → JoinW (D := Bool) (fun J5 => (0 ≤ d3.2 ∧ d3.2 < ((List.length x.1.2.2.2.2 : Nat) : Int)) ∧
  ((Int.toNat d3.2) < List.length x.1.2.2.2.2) ∧
  (((cond (decide ((List.getD x.1.2.2.2.2 (Int.toNat d3.2) (0 : Int)) < (0 : Int))) true (decide ((List.getD x.1.2.2.2.2 (Int.toNat d3.2) (0 : Int)) ≥ x.2))) = true → K false ()) ∧ ((cond (decide ((List.getD x.1.2.2.2.2 (Int.toNat d3.2) (0 : Int)) < (0 : Int))) true (decide ((List.getD x.1.2.2.2.2 (Int.toNat d3.2) (0 : Int)) ≥ x.2))) = false → J5 d3.1))) (fun (d6 : Bool) => J4 (d6, (IntKind.i64.wrap (d3.2 + (1 : Int)))))) ∧ ((decide (d3.2 < ((List.length x.1.2.2.2.2 : Nat) : Int))) = false → J1 d3.1)))) (fun (d2 : Bool) => JoinW (D := Bool) (fun J7 => JoinW (D := Bool) (fun J9 => (((x.1.1 == (0 : Int)) = true → J9 (x.1.1 == (0 : Int))) ∧ ((x.1.1 == (0 : Int)) = false → JoinW (D := Bool) (fun J11 => (((x.1.1 == (1 : Int)) = true → J11 (x.1.1 == (1 : Int))) ∧ ((x.1.1 == (1 : Int)) = false → JoinW (D := Bool) (fun J13 => (((x.1.1 == (2 : Int)) = true → J13 (x.1.1 == (2 : Int))) ∧ ((x.1.1 == (2 : Int)) = false → J13 (x.1.1 == (3 : Int))))) (fun (d14 : Bool) => J11 d14)))) (fun (d12 : Bool) => J9 d12)))) (fun (d10 : Bool) => ((d10 = true → K (((List.length x.1.2.2.2.2 : Nat) : Int) == (0 : Int)) ()) ∧ (d10 = false → JoinW (D := Bool) (fun J15 => (((x.1.1 == (4 : Int)) = true → J15 (x.1.1 == (4 : Int))) ∧ ((x.1.1 == (4 : Int)) = false → J15 (x.1.1 == (5 : Int))))) (fun (d16 : Bool) => ((d16 = true → K (decide (((List.length x.1.2.2.2.2 : Nat) : Int) ≥ (2 : Int))) ()) ∧ (d16 = false → (((x.1.1 == (6 : Int)) = true → JoinW (D := Bool) (fun J17 => (((((List.length x.1.2.2.2.2 : Nat) : Int) == (1 : Int)) = true → Fn P "mergelens/regex.bounded" S_regex_bounded (x.1.1, ((x.1.2.1.1, (x.1.2.1.2.1, (x.1.2.1.2.2.1, x.1.2.1.2.2.2))), (x.1.2.2.1, (x.1.2.2.2.1, x.1.2.2.2.2)))) (fun (d18 : Bool) _ => J17 d18)) ∧ (((((List.length x.1.2.2.2.2 : Nat) : Int) == (1 : Int)) = false → J17 false) ∧ True))) (fun d19 => K (cond (((List.length x.1.2.2.2.2 : Nat) : Int) == (1 : Int)) d19 false) ())) ∧ ((x.1.1 == (6 : Int)) = false → J7 d2))))))))) (fun (d8 : Bool) => K false ()))
theorem fn_regex_fits {P : Program} (h : Has P F_regex_fits) {x : DP S_regex_fits.ps} {K : DP S_regex_fits.rs → DP (ptrs S_regex_fits.ps) → Prop} (hw : W_regex_fits P x K) : Fn P "mergelens/regex.fits" S_regex_fits x K :=
  fn_of (c := t_regex_fits) h rfl rfl (by kernel_rfl) (Eq.mpr (show liftT P F_regex_fits S_regex_fits t_regex_fits x K = W_regex_fits P x K by kernel_rfl) hw)

def t_regex_Check : TCode :=
  (.seq
    (.region [o1 2 (.asg (.c (.int .i64 0)))])
  (.seq
    (.seq
      (.region [o1 5 (.mv (.t 0)),
        o1 6 (.lenK (.t 5)),
        o1 7 (.bin .eql (.t 6) (.c (.int .i64 0))),
        o1 8 (.mv (.t 7)),
        o0 ⟨some 9, .mv (.t 0), some (8, false)⟩,
        o0 ⟨some 10, .lenK (.t 9), some (8, false)⟩,
        o0 ⟨some 11, .bin .gtr (.t 10) (.c (.int .i64 4000)), some (8, false)⟩,
        o1 12 (.pick (.t 8) (.c (.bool true)) (.t 11))])
    (.cond (.t 12)
      (.seq
        (.region [o1 2 (.asg (.c (.int .i64 2)))])
      .ret)
      .skip))
  (.seq
    (.seq
      (.region [o1 13 (.mv (.t 0)),
        o1 14 (.lenK (.t 13)),
        o1 15 (.mv (.c (.int .i64 0)))])
    (.frame [2, 3, 4, 15, 16, 17, 18, 19, 20, 21, 22, 23, 24] [1004] false (.join [.sl 2 false (.int .i64) .leaf]
    (.block 0
      (.loop [.sl 2 false (.int .i64) .leaf, .sl 15 false (.int .i64) .leaf]
        (.seq
          (.region [o1 16 (.bin .lss (.t 15) (.t 14))])
        (.seq
          (.cond (.t 16)
            .skip
            (.exit 0))
        (.seq
          (.frame [2, 3, 4, 17, 18, 19, 20, 21, 22, 23] [1004] false (.join [.sl 2 false (.int .i64) .leaf]
          (.block 1
            (.seq
              (.region [o1 17 (.mv (.t 15)),
                o1 18 (.ixA 8 (.t 13) (.t 15)),
                o1 19 (.load true 8 (.t 18)),
                o1 4 (.alloc [(.int .i64 0), (.int .u64 0), (.int .u64 0), (.int .u64 0), (.int .u64 0), (.int .i64 0), (.int .i64 0), (.slice none 0 0)]),
                o1 3 (.asg (.t 17)),
                o0 ⟨none, .store 8 (.t 4) (.t 19), none⟩])
            (.seq
              (.region [o1 20 (.load true 8 (.t 4)),
                o1 21 (.mv (.t 3)),
                oS ⟨some 22, .call "mergelens/regex.fits" [(.t 20), (.t 21)], none⟩ S_regex_fits,
                o1 23 (.un .not (.t 22))])
            (.cond (.t 23)
              (.seq
                (.region [o1 2 (.asg (.c (.int .i64 2)))])
              .ret)
              .skip))))))
        (.region [o1 24 (.bin .add (.t 15) (.c (.int .i64 1))),
          o1 15 (.mv (.t 24))])))))))))
  (.seq
    (.region [o1 2 (.asg (.c (.int .i64 0)))])
  .ret))))
def F_regex_Check : AFn := ⟨ "mergelens/regex.Check", t_regex_Check.erase, [.tmp 2], 1⟩
def W_regex_Check (P : Program) (x : (List Node)) (K : Int → Unit → Prop) : Prop :=
  (((cond (((List.length x : Nat) : Int) == (0 : Int)) true (decide (((List.length x : Nat) : Int) > (4000 : Int)))) = true → K (2 : Int) ()) ∧ ((cond (((List.length x : Nat) : Int) == (0 : Int)) true (decide (((List.length x : Nat) : Int) > (4000 : Int)))) = false → JoinW (D := Int) (fun J1 => LoopW (D := (Int × Int)) ((0 : Int), (0 : Int)) (fun (d3 : (Int × Int)) J4 => (((decide (d3.2 < ((List.length x : Nat) : Int))) = true → JoinW (D := Int) (fun J5 => (0 ≤ d3.2 ∧ d3.2 < ((List.length x : Nat) : Int)) ∧
  ((Int.toNat d3.2) < List.length x) ∧
  Fn P "mergelens/regex.fits" S_regex_fits (((List.getD x (Int.toNat d3.2) zNode).1, (((List.getD x (Int.toNat d3.2) zNode).2.1.1, ((List.getD x (Int.toNat d3.2) zNode).2.1.2.1, ((List.getD x (Int.toNat d3.2) zNode).2.1.2.2.1, (List.getD x (Int.toNat d3.2) zNode).2.1.2.2.2))), ((List.getD x (Int.toNat d3.2) zNode).2.2.1, ((List.getD x (Int.toNat d3.2) zNode).2.2.2.1, (List.getD x (Int.toNat d3.2) zNode).2.2.2.2)))), d3.2) (fun (d7 : Bool) (e8 : Unit) => (((!d7) = true → K (2 : Int) ()) ∧ ((!d7) = false → J5 d3.1)))) (fun (d6 : Int) => J4 (d6, (IntKind.i64.wrap (d3.2 + (1 : Int)))))) ∧ ((decide (d3.2 < ((List.length x : Nat) : Int))) = false → J1 d3.1)))) (fun (d2 : Int) => K (0 : Int) ())))
theorem fn_regex_Check {P : Program} (h : Has P F_regex_Check) {x : DP S_regex_Check.ps} {K : DP S_regex_Check.rs → DP (ptrs S_regex_Check.ps) → Prop} (hw : W_regex_Check P x K) : Fn P "mergelens/regex.Check" S_regex_Check x K :=
  fn_of (c := t_regex_Check) h rfl rfl (by kernel_rfl) (Eq.mpr (show liftT P F_regex_Check S_regex_Check t_regex_Check x K = W_regex_Check P x K by kernel_rfl) hw)

def t_regex_Weight : TCode :=
  (.seq
    (.region [o1 2 (.asg (.c (.int .i64 0))),
      o1 3 (.asg (.c (.int .i64 0)))])
  (.seq
    (.seq
      (.region [o1 5 (.mv (.t 0)),
        oS ⟨some 6, .call "mergelens/regex.Check" [(.t 5)], none⟩ S_regex_Check,
        o1 4 (.asg (.t 6))])
    (.seq
      (.region [o1 7 (.mv (.t 4)),
        o1 8 (.bin .neq (.t 7) (.c (.int .i64 0)))])
    (.cond (.t 8)
      (.seq
        (.region [o1 9 (.mv (.t 4)),
          o1 2 (.asg (.c (.int .i64 0))),
          o1 3 (.asg (.t 9))])
      .ret)
      .skip)))
  (.seq
    (.region [o1 10 (.mv (.t 0)),
      oS ⟨some 11, .call "mergelens/regex.Weights" [(.t 10)], none⟩ S_regex_Weights,
      o1 12 (.mv (.t 0)),
      o1 13 (.lenK (.t 12)),
      o1 14 (.bin .sub (.t 13) (.c (.int .i64 1))),
      o1 15 (.ixA 1 (.t 11) (.t 14)),
      o1 16 (.load false 1 (.t 15)),
      o1 2 (.asg (.t 16)),
      o1 3 (.asg (.c (.int .i64 0)))])
  .ret)))
def F_regex_Weight : AFn := ⟨ "mergelens/regex.Weight", t_regex_Weight.erase, [.tmp 2, .tmp 3], 1⟩
def W_regex_Weight (P : Program) (x : (List Node)) (K : (Int × Int) → Unit → Prop) : Prop :=
  Fn P "mergelens/regex.Check" S_regex_Check x (fun (d1 : Int) (e2 : Unit) => (((d1 != (0 : Int)) = true → K ((0 : Int), d1) ()) ∧ ((d1 != (0 : Int)) = false → Fn P "mergelens/regex.Weights" S_regex_Weights x (fun (d3 : (List Int)) (e4 : Unit) => (0 ≤ (IntKind.i64.wrap (((List.length x : Nat) : Int) - (1 : Int))) ∧ (IntKind.i64.wrap (((List.length x : Nat) : Int) - (1 : Int))) < ((List.length d3 : Nat) : Int)) ∧
  ((Int.toNat (IntKind.i64.wrap (((List.length x : Nat) : Int) - (1 : Int)))) < List.length d3) ∧
  K ((List.getD d3 (Int.toNat (IntKind.i64.wrap (((List.length x : Nat) : Int) - (1 : Int)))) (0 : Int)), (0 : Int)) ()))))
theorem fn_regex_Weight {P : Program} (h : Has P F_regex_Weight) {x : DP S_regex_Weight.ps} {K : DP S_regex_Weight.rs → DP (ptrs S_regex_Weight.ps) → Prop} (hw : W_regex_Weight P x K) : Fn P "mergelens/regex.Weight" S_regex_Weight x K :=
  fn_of (c := t_regex_Weight) h rfl rfl (by kernel_rfl) (Eq.mpr (show liftT P F_regex_Weight S_regex_Weight t_regex_Weight x K = W_regex_Weight P x K by kernel_rfl) hw)

def t_automaton_builder_add : TCode :=
  (.seq
    (.region [o1 3 (.box (.t 1)),
      o1 4 (.asg (.c (.int .i64 0)))])
  (.seq
    (.frame [5, 6, 7, 8, 9, 10, 11, 12, 13, 14] [0] true (.join [.bx 0 bautomaton_builder (.pair (.node .imm (.pair .leaf (.pair .leaf (.pair .leaf (.pair .leaf (.node .imm .leaf)))))) (.pair (.node .own .leaf) (.node .own .leaf)))]
    (.draw [(.first (o1 5 (.mv (.t 0)))
    (.first (o1 6 (.mv (.t 0)))
    (.first (o1 7 (.nilc (.t 6)))
    (.first (o1 8 (.fAddr 2 (.t 7)))
    (.first (o1 10 (.load true 7 (.t 3)))
    (.alt (o1 9 (.load false 1 (.t 8)))
    (.alt (oT ⟨some 11, .buildSl 7 [(.int .i64 0), (.int .u64 0), (.int .u64 0), (.int .u64 0), (.int .u64 0), (.int .i64 0), (.int .i64 0)] 1 [(0, (.t 10))], none⟩ (some (bState, .leaf)))
    (.alt (oT ⟨some 12, .app 7 56 (.t 9) (.t 11), none⟩ (some (bState, .leaf)))
    (.first (o1 13 (.nilc (.t 5)))
    (.first (o1 14 (.fAddr 2 (.t 13)))
    (.alt (o0 ⟨none, .store 1 (.t 14) (.t 12), none⟩)
    .done
    .stop)))
    .stop)
    .stop)
    (.alt (oT ⟨some 11, .buildSl 7 [(.int .i64 0), (.int .u64 0), (.int .u64 0), (.int .u64 0), (.int .u64 0), (.int .i64 0), (.int .i64 0)] 1 [(0, (.t 10))], none⟩ (some (bState, .leaf)))
    (.first (o1 9 (.load false 1 (.t 8)))
    (.alt (oT ⟨some 12, .app 7 56 (.t 9) (.t 11), none⟩ (some (bState, .leaf)))
    (.first (o1 13 (.nilc (.t 5)))
    (.first (o1 14 (.fAddr 2 (.t 13)))
    (.alt (o0 ⟨none, .store 1 (.t 14) (.t 12), none⟩)
    .done
    .stop)))
    .stop))
    .stop)))))))])))
  (.seq
    (.region [o1 15 (.mv (.t 0)),
      o1 16 (.nilc (.t 15)),
      o1 17 (.fAddr 2 (.t 16)),
      o1 18 (.load false 1 (.t 17)),
      o1 19 (.lenK (.t 18)),
      o1 20 (.bin .sub (.t 19) (.c (.int .i64 1))),
      o1 4 (.asg (.t 20))])
  .ret)))
def F_automaton_builder_add : AFn := ⟨ "(*mergelens/automaton.builder).add", t_automaton_builder_add.erase, [.tmp 4], 2⟩
def W_automaton_builder_add (P : Program) (x : (automaton_builder × State)) (K : Int → automaton_builder → Prop) : Prop :=
  JoinW (D := automaton_builder) (fun J1 => (((((List.length x.1.2.2 + List.length ([(x.2.1, ((x.2.2.1.1, (x.2.2.1.2.1, (x.2.2.1.2.2.1, x.2.2.1.2.2.2))), (x.2.2.2.1, x.2.2.2.2)))] : List State)) * 56 ≤ 140737488355328) ∧
  (J1 (x.1.1, (x.1.2.1, (x.1.2.2 ++ ([(x.2.1, ((x.2.2.1.1, (x.2.2.1.2.1, (x.2.2.1.2.2.1, x.2.2.1.2.2.2))), (x.2.2.2.1, x.2.2.2.2)))] : List State))))) ∧ (True)) ∧ (True)) ∧ (True)) ∧ (((((List.length x.1.2.2 + List.length ([(x.2.1, ((x.2.2.1.1, (x.2.2.1.2.1, (x.2.2.1.2.2.1, x.2.2.1.2.2.2))), (x.2.2.2.1, x.2.2.2.2)))] : List State)) * 56 ≤ 140737488355328) ∧
  (J1 (x.1.1, (x.1.2.1, (x.1.2.2 ++ ([(x.2.1, ((x.2.2.1.1, (x.2.2.1.2.1, (x.2.2.1.2.2.1, x.2.2.1.2.2.2))), (x.2.2.2.1, x.2.2.2.2)))] : List State))))) ∧ (True)) ∧ (True)) ∧ (True))) (fun (d2 : automaton_builder) => K (IntKind.i64.wrap (((List.length d2.2.2 : Nat) : Int) - (1 : Int))) (d2.1, (d2.2.1, d2.2.2)))
theorem fn_automaton_builder_add {P : Program} (h : Has P F_automaton_builder_add) {x : DP S_automaton_builder_add.ps} {K : DP S_automaton_builder_add.rs → DP (ptrs S_automaton_builder_add.ps) → Prop} (hw : W_automaton_builder_add P x K) : Fn P "(*mergelens/automaton.builder).add" S_automaton_builder_add x K :=
  fn_of (c := t_automaton_builder_add) h rfl rfl (by kernel_rfl) (Eq.mpr (show liftT P F_automaton_builder_add S_automaton_builder_add t_automaton_builder_add x K = W_automaton_builder_add P x K by kernel_rfl) hw)

def t_automaton_builder_choice : TCode :=
  (.seq
    (.region [o1 6 (.asg (.c (.int .i64 0)))])
  (.seq
    (.region [o1 10 (.mv (.t 1)),
      o1 11 (.lenK (.t 10)),
      o1 12 (.bin .sub (.t 11) (.c (.int .i64 1))),
      o1 7 (.asg (.t 12))])
  (.seq
    (.region [o1 13 (.mv (.t 0)),
      o1 14 (.mv (.t 1)),
      o1 15 (.mv (.t 7)),
      o1 16 (.ixA 1 (.t 14) (.t 15)),
      o1 17 (.load false 1 (.t 16)),
      o1 18 (.mv (.t 2)),
      oS ⟨some 19, .call "(*mergelens/automaton.builder).build" [(.t 13), (.t 17), (.t 18)], none⟩ S_automaton_builder_build,
      o1 8 (.asg (.t 19))])
  (.seq
    (.seq
      (.region [o1 20 (.mv (.t 7)),
        o1 21 (.bin .sub (.t 20) (.c (.int .i64 1))),
        o1 9 (.asg (.t 21))])
    (.frame [8, 9, 22, 23, 24, 25, 26, 27, 28, 29, 30, 31, 32, 33, 34, 35, 36] [0] true (.join [.sl 8 false (.int .i64) .leaf, .bx 0 bautomaton_builder (.pair (.node .imm (.pair .leaf (.pair .leaf (.pair .leaf (.pair .leaf (.node .imm .leaf)))))) (.pair (.node .own .leaf) (.node .own .leaf)))]
    (.block 0
      (.loop [.sl 8 false (.int .i64) .leaf, .sl 9 false (.int .i64) .leaf, .bx 0 bautomaton_builder (.pair (.node .imm (.pair .leaf (.pair .leaf (.pair .leaf (.pair .leaf (.node .imm .leaf)))))) (.pair (.node .own .leaf) (.node .own .leaf)))]
        (.seq
          (.seq
            (.region [o1 22 (.mv (.t 9)),
              o1 23 (.bin .geq (.t 22) (.c (.int .i64 0)))])
          (.cond (.t 23)
            .skip
            (.exit 0)))
        (.seq
          (.frame [8, 26, 27, 28, 29, 30, 31, 32, 33, 34, 35, 36] [0] true (.join [.sl 8 false (.int .i64) .leaf, .bx 0 bautomaton_builder (.pair (.node .imm (.pair .leaf (.pair .leaf (.pair .leaf (.pair .leaf (.node .imm .leaf)))))) (.pair (.node .own .leaf) (.node .own .leaf)))]
          (.block 1
            (.region [o1 26 (.mv (.t 0)),
              o1 27 (.mv (.t 0)),
              o1 28 (.mv (.t 1)),
              o1 29 (.mv (.t 9)),
              o1 30 (.ixA 1 (.t 28) (.t 29)),
              o1 31 (.load false 1 (.t 30)),
              o1 32 (.mv (.t 2)),
              oS ⟨some 33, .call "(*mergelens/automaton.builder).build" [(.t 27), (.t 31), (.t 32)], none⟩ S_automaton_builder_build,
              o1 34 (.mv (.t 8)),
              o1 35 (.build [(.int .i64 0), (.int .u64 0), (.int .u64 0), (.int .u64 0), (.int .u64 0), (.int .i64 0), (.int .i64 0)] [(0, 1, (.c (.int .i64 1))), (5, 1, (.t 33)), (6, 1, (.t 34))]),
              oS ⟨some 36, .call "(*mergelens/automaton.builder).add" [(.t 26), (.t 35)], none⟩ S_automaton_builder_add,
              o1 8 (.asg (.t 36))]))))
        (.region [o1 24 (.mv (.t 9)),
          o1 25 (.bin .sub (.t 24) (.c (.int .i64 1))),
          o1 9 (.asg (.t 25))]))))))))
  (.seq
    (.region [o1 37 (.mv (.t 8)),
      o1 6 (.asg (.t 37))])
  .ret)))))
def F_automaton_builder_choice : AFn := ⟨ "(*mergelens/automaton.builder).choice", t_automaton_builder_choice.erase, [.tmp 6], 3⟩
def W_automaton_builder_choice (P : Program) (x : (automaton_builder × ((List Int) × Int))) (K : Int → automaton_builder → Prop) : Prop :=
  (0 ≤ (IntKind.i64.wrap (((List.length x.2.1 : Nat) : Int) - (1 : Int))) ∧ (IntKind.i64.wrap (((List.length x.2.1 : Nat) : Int) - (1 : Int))) < ((List.length x.2.1 : Nat) : Int)) ∧
  ((Int.toNat (IntKind.i64.wrap (((List.length x.2.1 : Nat) : Int) - (1 : Int)))) < List.length x.2.1) ∧
  Fn P "(*mergelens/automaton.builder).build" S_automaton_builder_build ((x.1.1, (x.1.2.1, x.1.2.2)), ((List.getD x.2.1 (Int.toNat (IntKind.i64.wrap (((List.length x.2.1 : Nat) : Int) - (1 : Int)))) (0 : Int)), x.2.2)) (fun (d1 : Int) (e2 : automaton_builder) => JoinW (D := (Int × automaton_builder)) (fun J3 => LoopW (D := (Int × (Int × automaton_builder))) (d1, ((IntKind.i64.wrap ((IntKind.i64.wrap (((List.length x.2.1 : Nat) : Int) - (1 : Int))) - (1 : Int))), (e2.1, (e2.2.1, e2.2.2)))) (fun (d5 : (Int × (Int × automaton_builder))) J6 => (((decide (d5.2.1 ≥ (0 : Int))) = true → JoinW (D := (Int × automaton_builder)) (fun J7 => (0 ≤ d5.2.1 ∧ d5.2.1 < ((List.length x.2.1 : Nat) : Int)) ∧
  ((Int.toNat d5.2.1) < List.length x.2.1) ∧
  Fn P "(*mergelens/automaton.builder).build" S_automaton_builder_build ((d5.2.2.1, (d5.2.2.2.1, d5.2.2.2.2)), ((List.getD x.2.1 (Int.toNat d5.2.1) (0 : Int)), x.2.2)) (fun (d9 : Int) (e10 : automaton_builder) => Fn P "(*mergelens/automaton.builder).add" S_automaton_builder_add ((e10.1, (e10.2.1, e10.2.2)), ((1 : Int), (((0 : Int), ((0 : Int), ((0 : Int), (0 : Int)))), (d9, d5.1)))) (fun (d11 : Int) (e12 : automaton_builder) => J7 (d11, (e12.1, (e12.2.1, e12.2.2)))))) (fun (d8 : (Int × automaton_builder)) => J6 (d8.1, ((IntKind.i64.wrap (d5.2.1 - (1 : Int))), (d8.2.1, (d8.2.2.1, d8.2.2.2)))))) ∧ ((decide (d5.2.1 ≥ (0 : Int))) = false → J3 (d5.1, (d5.2.2.1, (d5.2.2.2.1, d5.2.2.2.2))))))) (fun (d4 : (Int × automaton_builder)) => K d4.1 (d4.2.1, (d4.2.2.1, d4.2.2.2))))
theorem fn_automaton_builder_choice {P : Program} (h : Has P F_automaton_builder_choice) {x : DP S_automaton_builder_choice.ps} {K : DP S_automaton_builder_choice.rs → DP (ptrs S_automaton_builder_choice.ps) → Prop} (hw : W_automaton_builder_choice P x K) : Fn P "(*mergelens/automaton.builder).choice" S_automaton_builder_choice x K :=
  fn_of (c := t_automaton_builder_choice) h rfl rfl (by kernel_rfl) (Eq.mpr (show liftT P F_automaton_builder_choice S_automaton_builder_choice t_automaton_builder_choice x K = W_automaton_builder_choice P x K by kernel_rfl) hw)


end Go.VS
