/- Functions of the program: typed code, and what it says, lifted. -/
import Derived.Test.YtobddjdmgebmgaaKTxSig
import Derived.KernelRfl
set_option linter.unusedVariables false
set_option linter.unusedSimpArgs false
set_option linter.unusedSectionVars false
namespace Go.VS

def t_automaton_builder_repeat : TCode :=
  (.seq
    (.region [o1 4 (.box (.t 1)),
      o1 6 (.asg (.c (.int .i64 0)))])
  (.seq
    (.region [o1 11 (.fAddr 7 (.t 4)),
      o1 12 (.load false 1 (.t 11)),
      o1 13 (.ixA 1 (.t 12) (.c (.int .i64 0))),
      o1 14 (.load false 1 (.t 13)),
      o1 7 (.asg (.t 14))])
  (.seq
    (.seq
      (.region [o1 15 (.fAddr 6 (.t 4)),
        o1 16 (.load false 1 (.t 15)),
        o1 17 (.bin .lss (.t 16) (.c (.int .i64 0)))])
    (.frame [2, 8, 9, 18, 19, 20, 21, 22, 23, 24, 25, 26, 27, 28, 29, 30, 31, 32, 33, 34] [0] true (.join [.sl 2 false (.int .i64) .leaf, .bx 0 bautomaton_builder (.pair (.node .imm (.pair .leaf (.pair .leaf (.pair .leaf (.pair .leaf (.node .imm .leaf)))))) (.pair (.node .own .leaf) (.node .own .leaf)))]
    (.cond (.t 17)
      (.seq
        (.region [o1 18 (.mv (.t 0)),
          o1 19 (.mv (.t 2)),
          o1 20 (.build [(.int .i64 0), (.int .u64 0), (.int .u64 0), (.int .u64 0), (.int .u64 0), (.int .i64 0), (.int .i64 0)] [(0, 1, (.c (.int .i64 1))), (6, 1, (.t 19))]),
          oS ⟨some 21, .call "(*mergelens/automaton.builder).add" [(.t 18), (.t 20)], none⟩ S_automaton_builder_add,
          o1 8 (.asg (.t 21))])
      (.seq
        (.region [o1 22 (.mv (.t 0)),
          o1 23 (.mv (.t 7)),
          o1 24 (.mv (.t 8)),
          oS ⟨some 25, .call "(*mergelens/automaton.builder).build" [(.t 22), (.t 23), (.t 24)], none⟩ S_automaton_builder_build,
          o1 9 (.asg (.t 25))])
      (.seq
        (.region [o1 26 (.mv (.t 0)),
          o1 27 (.nilc (.t 26)),
          o1 28 (.fAddr 2 (.t 27)),
          o1 29 (.load false 1 (.t 28)),
          o1 30 (.mv (.t 8)),
          o1 31 (.mv (.t 9)),
          o1 32 (.ixA 7 (.t 29) (.t 30)),
          o1 33 (.fAddr 5 (.t 32)),
          o0 ⟨none, .store 1 (.t 33) (.t 31), none⟩])
      (.region [o1 34 (.mv (.t 8)),
        o1 2 (.asg (.t 34))]))))
      .skip))))
  (.seq
    (.region [o1 35 (.mv (.t 2)),
      o1 10 (.asg (.t 35))])
  (.seq
    (.seq
      (.region [o1 36 (.fAddr 6 (.t 4)),
        o1 37 (.load false 1 (.t 36)),
        o1 38 (.fAddr 5 (.t 4)),
        o1 39 (.load false 1 (.t 38)),
        o1 40 (.bin .sub (.t 37) (.t 39)),
        o1 41 (.mv (.c (.int .i64 0)))])
    (.frame [2, 41, 42, 43, 44, 45, 46, 47, 48, 49, 50, 51] [0] true (.join [.sl 2 false (.int .i64) .leaf, .bx 0 bautomaton_builder (.pair (.node .imm (.pair .leaf (.pair .leaf (.pair .leaf (.pair .leaf (.node .imm .leaf)))))) (.pair (.node .own .leaf) (.node .own .leaf)))]
    (.block 0
      (.loop [.sl 2 false (.int .i64) .leaf, .sl 41 false (.int .i64) .leaf, .bx 0 bautomaton_builder (.pair (.node .imm (.pair .leaf (.pair .leaf (.pair .leaf (.pair .leaf (.node .imm .leaf)))))) (.pair (.node .own .leaf) (.node .own .leaf)))]
        (.seq
          (.region [o1 42 (.bin .lss (.t 41) (.t 40))])
        (.seq
          (.cond (.t 42)
            .skip
            (.exit 0))
        (.seq
          (.frame [2, 43, 44, 45, 46, 47, 48, 49, 50] [0] true (.join [.sl 2 false (.int .i64) .leaf, .bx 0 bautomaton_builder (.pair (.node .imm (.pair .leaf (.pair .leaf (.pair .leaf (.pair .leaf (.node .imm .leaf)))))) (.pair (.node .own .leaf) (.node .own .leaf)))]
          (.block 1
            (.region [o1 43 (.mv (.t 0)),
              o1 44 (.mv (.t 0)),
              o1 45 (.mv (.t 7)),
              o1 46 (.mv (.t 2)),
              oS ⟨some 47, .call "(*mergelens/automaton.builder).build" [(.t 44), (.t 45), (.t 46)], none⟩ S_automaton_builder_build,
              o1 48 (.mv (.t 10)),
              o1 49 (.build [(.int .i64 0), (.int .u64 0), (.int .u64 0), (.int .u64 0), (.int .u64 0), (.int .i64 0), (.int .i64 0)] [(0, 1, (.c (.int .i64 1))), (5, 1, (.t 47)), (6, 1, (.t 48))]),
              oS ⟨some 50, .call "(*mergelens/automaton.builder).add" [(.t 43), (.t 49)], none⟩ S_automaton_builder_add,
              o1 2 (.asg (.t 50))]))))
        (.region [o1 51 (.bin .add (.t 41) (.c (.int .i64 1))),
          o1 41 (.mv (.t 51))])))))))))
  (.seq
    (.seq
      (.region [o1 52 (.fAddr 5 (.t 4)),
        o1 53 (.load false 1 (.t 52)),
        o1 54 (.mv (.c (.int .i64 0)))])
    (.frame [2, 54, 55, 56, 57, 58, 59, 60] [0] true (.join [.sl 2 false (.int .i64) .leaf, .bx 0 bautomaton_builder (.pair (.node .imm (.pair .leaf (.pair .leaf (.pair .leaf (.pair .leaf (.node .imm .leaf)))))) (.pair (.node .own .leaf) (.node .own .leaf)))]
    (.block 2
      (.loop [.sl 2 false (.int .i64) .leaf, .sl 54 false (.int .i64) .leaf, .bx 0 bautomaton_builder (.pair (.node .imm (.pair .leaf (.pair .leaf (.pair .leaf (.pair .leaf (.node .imm .leaf)))))) (.pair (.node .own .leaf) (.node .own .leaf)))]
        (.seq
          (.region [o1 55 (.bin .lss (.t 54) (.t 53))])
        (.seq
          (.cond (.t 55)
            .skip
            (.exit 2))
        (.seq
          (.frame [2, 56, 57, 58, 59] [0] true (.join [.sl 2 false (.int .i64) .leaf, .bx 0 bautomaton_builder (.pair (.node .imm (.pair .leaf (.pair .leaf (.pair .leaf (.pair .leaf (.node .imm .leaf)))))) (.pair (.node .own .leaf) (.node .own .leaf)))]
          (.block 3
            (.region [o1 56 (.mv (.t 0)),
              o1 57 (.mv (.t 7)),
              o1 58 (.mv (.t 2)),
              oS ⟨some 59, .call "(*mergelens/automaton.builder).build" [(.t 56), (.t 57), (.t 58)], none⟩ S_automaton_builder_build,
              o1 2 (.asg (.t 59))]))))
        (.region [o1 60 (.bin .add (.t 54) (.c (.int .i64 1))),
          o1 54 (.mv (.t 60))])))))))))
  (.seq
    (.region [o1 61 (.mv (.t 2)),
      o1 6 (.asg (.t 61))])
  .ret)))))))
def F_automaton_builder_repeat : AFn := ⟨ "(*mergelens/automaton.builder).repeat", t_automaton_builder_repeat.erase, [.tmp 6], 3⟩
def W_automaton_builder_repeat (P : Program) (x : (automaton_builder × (Node × Int))) (K : Int → automaton_builder → Prop) : Prop :=
  (0 ≤ (0 : Int) ∧ (0 : Int) < ((List.length x.2.1.2.2.2.2 : Nat) : Int)) ∧
  ((Int.toNat (0 : Int)) < List.length x.2.1.2.2.2.2) ∧
  JoinW (D := (Int × automaton_builder)) (fun J1 => (((decide (x.2.1.2.2.2.1 < (0 : Int))) = true → Fn P "(*mergelens/automaton.builder).add" S_automaton_builder_add ((x.1.1, (x.1.2.1, x.1.2.2)), ((1 : Int), (((0 : Int), ((0 : Int), ((0 : Int), (0 : Int)))), ((0 : Int), x.2.2)))) (fun (d3 : Int) (e4 : automaton_builder) => Fn P "(*mergelens/automaton.builder).build" S_automaton_builder_build ((e4.1, (e4.2.1, e4.2.2)), ((List.getD x.2.1.2.2.2.2 (Int.toNat (0 : Int)) (0 : Int)), d3)) (fun (d5 : Int) (e6 : automaton_builder) => (0 ≤ d3 ∧ d3 < ((List.length e6.2.2 : Nat) : Int)) ∧
  ((Int.toNat d3) < List.length e6.2.2) ∧
  J1 (d3, (e6.1, (e6.2.1, (List.set e6.2.2 (Int.toNat d3) ((List.getD e6.2.2 (Int.toNat d3) zState).1, (((List.getD e6.2.2 (Int.toNat d3) zState).2.1.1, ((List.getD e6.2.2 (Int.toNat d3) zState).2.1.2.1, ((List.getD e6.2.2 (Int.toNat d3) zState).2.1.2.2.1, (List.getD e6.2.2 (Int.toNat d3) zState).2.1.2.2.2))), (d5, (List.getD e6.2.2 (Int.toNat d3) zState).2.2.2)))))))))) ∧ ((decide (x.2.1.2.2.2.1 < (0 : Int))) = false → J1 (x.2.2, (x.1.1, (x.1.2.1, x.1.2.2)))))) (fun (d2 : (Int × automaton_builder)) => JoinW (D := (Int × automaton_builder)) (fun J7 => LoopW (D := (Int × (Int × automaton_builder))) (d2.1, ((0 : Int), (d2.2.1, (d2.2.2.1, d2.2.2.2)))) (fun (d9 : (Int × (Int × automaton_builder))) J10 => (((decide (d9.2.1 < (IntKind.i64.wrap (x.2.1.2.2.2.1 - x.2.1.2.2.1)))) = true → JoinW (D := (Int × automaton_builder)) (fun J11 => Fn P "(*mergelens/automaton.builder).build" S_automaton_builder_build ((d9.2.2.1, (d9.2.2.2.1, d9.2.2.2.2)), ((List.getD x.2.1.2.2.2.2 (Int.toNat (0 : Int)) (0 : Int)), d9.1)) (fun (d13 : Int) (e14 : automaton_builder) => Fn P "(*mergelens/automaton.builder).add" S_automaton_builder_add ((e14.1, (e14.2.1, e14.2.2)), ((1 : Int), (((0 : Int), ((0 : Int), ((0 : Int), (0 : Int)))), (d13, d2.1)))) (fun (d15 : Int) (e16 : automaton_builder) => J11 (d15, (e16.1, (e16.2.1, e16.2.2)))))) (fun (d12 : (Int × automaton_builder)) => J10 (d12.1, ((IntKind.i64.wrap (d9.2.1 + (1 : Int))), (d12.2.1, (d12.2.2.1, d12.2.2.2)))))) ∧ ((decide (d9.2.1 < (IntKind.i64.wrap (x.2.1.2.2.2.1 - x.2.1.2.2.1)))) = false → J7 (d9.1, (d9.2.2.1, (d9.2.2.2.1, d9.2.2.2.2))))))) (fun (d8 : (Int × automaton_builder)) => JoinW (D := (Int × automaton_builder)) (fun J17 => LoopW (D := (Int × (Int × automaton_builder))) (d8.1, ((0 : Int), (d8.2.1, (d8.2.2.1, d8.2.2.2)))) (fun (d19 : (Int × (Int × automaton_builder))) J20 => (((decide (d19.2.1 < x.2.1.2.2.1)) = true → JoinW (D := (Int × automaton_builder)) (fun J21 => Fn P "(*mergelens/automaton.builder).build" S_automaton_builder_build ((d19.2.2.1, (d19.2.2.2.1, d19.2.2.2.2)), ((List.getD x.2.1.2.2.2.2 (Int.toNat (0 : Int)) (0 : Int)), d19.1)) (fun (d23 : Int) (e24 : automaton_builder) => J21 (d23, (e24.1, (e24.2.1, e24.2.2))))) (fun (d22 : (Int × automaton_builder)) => J20 (d22.1, ((IntKind.i64.wrap (d19.2.1 + (1 : Int))), (d22.2.1, (d22.2.2.1, d22.2.2.2)))))) ∧ ((decide (d19.2.1 < x.2.1.2.2.1)) = false → J17 (d19.1, (d19.2.2.1, (d19.2.2.2.1, d19.2.2.2.2))))))) (fun (d18 : (Int × automaton_builder)) => K d18.1 (d18.2.1, (d18.2.2.1, d18.2.2.2)))))
theorem fn_automaton_builder_repeat {P : Program} (h : Has P F_automaton_builder_repeat) {x : DP S_automaton_builder_repeat.ps} {K : DP S_automaton_builder_repeat.rs → DP (ptrs S_automaton_builder_repeat.ps) → Prop} (hw : W_automaton_builder_repeat P x K) : Fn P "(*mergelens/automaton.builder).repeat" S_automaton_builder_repeat x K :=
  fn_of (c := t_automaton_builder_repeat) h rfl rfl (by kernel_rfl) (Eq.mpr (show liftT P F_automaton_builder_repeat S_automaton_builder_repeat t_automaton_builder_repeat x K = W_automaton_builder_repeat P x K by kernel_rfl) hw)

def t_automaton_builder_build : TCode :=
  (.seq
    (.region [o1 6 (.asg (.c (.int .i64 0)))])
  (.seq
    (.seq
      (.region [o1 9 (.mv (.t 0)),
        o1 10 (.nilc (.t 9)),
        o1 11 (.fAddr 1 (.t 10)),
        o1 12 (.load false 1 (.t 11)),
        o1 13 (.mv (.t 1)),
        o1 14 (.ixA 1 (.t 12) (.t 13)),
        o1 15 (.load false 1 (.t 14)),
        o1 16 (.bin .eql (.t 15) (.c (.int .i64 0)))])
    (.cond (.t 16)
      (.seq
        (.region [o1 17 (.mv (.t 2)),
          o1 6 (.asg (.t 17))])
      .ret)
      .skip))
  (.seq
    (.region [o1 18 (.mv (.t 0)),
      o1 19 (.nilc (.t 18)),
      o1 20 (.fAddr 0 (.t 19)),
      o1 21 (.load false 1 (.t 20)),
      o1 22 (.mv (.t 1)),
      o1 23 (.ixA 8 (.t 21) (.t 22)),
      o1 24 (.load true 8 (.t 23)),
      o1 7 (.alloc [(.int .i64 0), (.int .u64 0), (.int .u64 0), (.int .u64 0), (.int .u64 0), (.int .i64 0), (.int .i64 0), (.slice none 0 0)]),
      o0 ⟨none, .store 8 (.t 7) (.t 24), none⟩])
  (.seq
    (.seq
      (.region [o1 25 (.fAddr 0 (.t 7)),
        o1 26 (.load false 1 (.t 25))])
    (.frame [2, 6, 8, 27, 28, 29, 30, 31, 32, 33, 34, 35, 36, 37, 38, 39, 40, 41, 42, 43, 44, 45, 46, 47, 48, 49, 50, 51, 52, 53, 54, 55, 56, 57, 58, 59, 60, 61, 62, 63, 64, 65, 66, 67, 68, 69, 70, 71, 72, 73, 74, 75, 76, 77] [0] true (.join [.sl 2 false (.int .i64) .leaf, .sl 6 false (.int .i64) .leaf, .bx 0 bautomaton_builder (.pair (.node .imm (.pair .leaf (.pair .leaf (.pair .leaf (.pair .leaf (.node .imm .leaf)))))) (.pair (.node .own .leaf) (.node .own .leaf)))]
    (.block 0
      (.seq
        (.region [o1 28 (.bin .eql (.t 26) (.c (.int .i64 1))),
          o1 27 (.asg (.t 28))])
      (.cond (.t 27)
        (.seq
          (.region [o1 29 (.mv (.t 0)),
            o1 30 (.fAddr 1 (.t 7)),
            o1 31 (.load true 4 (.t 30)),
            o1 32 (.mv (.t 2)),
            o1 33 (.build [(.int .i64 0), (.int .u64 0), (.int .u64 0), (.int .u64 0), (.int .u64 0), (.int .i64 0), (.int .i64 0)] [(0, 1, (.c (.int .i64 0))), (1, 4, (.t 31)), (5, 1, (.t 32))]),
            oS ⟨some 34, .call "(*mergelens/automaton.builder).add" [(.t 29), (.t 33)], none⟩ S_automaton_builder_add,
            o1 6 (.asg (.t 34))])
        .ret)
        (.seq
          (.region [o1 36 (.bin .eql (.t 26) (.c (.int .i64 2))),
            o1 35 (.asg (.t 36))])
        (.cond (.t 35)
          (.seq
            (.region [o1 37 (.mv (.t 0)),
              o1 38 (.mv (.t 2)),
              o1 39 (.build [(.int .i64 0), (.int .u64 0), (.int .u64 0), (.int .u64 0), (.int .u64 0), (.int .i64 0), (.int .i64 0)] [(0, 1, (.c (.int .i64 2))), (5, 1, (.t 38))]),
              oS ⟨some 40, .call "(*mergelens/automaton.builder).add" [(.t 37), (.t 39)], none⟩ S_automaton_builder_add,
              o1 6 (.asg (.t 40))])
          .ret)
          (.seq
            (.region [o1 42 (.bin .eql (.t 26) (.c (.int .i64 3))),
              o1 41 (.asg (.t 42))])
          (.cond (.t 41)
            (.seq
              (.region [o1 43 (.mv (.t 0)),
                o1 44 (.mv (.t 2)),
                o1 45 (.build [(.int .i64 0), (.int .u64 0), (.int .u64 0), (.int .u64 0), (.int .u64 0), (.int .i64 0), (.int .i64 0)] [(0, 1, (.c (.int .i64 3))), (5, 1, (.t 44))]),
                oS ⟨some 46, .call "(*mergelens/automaton.builder).add" [(.t 43), (.t 45)], none⟩ S_automaton_builder_add,
                o1 6 (.asg (.t 46))])
            .ret)
            (.seq
              (.region [o1 48 (.bin .eql (.t 26) (.c (.int .i64 4))),
                o1 47 (.asg (.t 48))])
            (.frame [2, 6, 8, 49, 50, 51, 52, 53, 54, 55, 56, 57, 58, 59, 60, 61, 62, 63, 64, 65, 66, 67, 68, 69, 70, 71, 72, 73, 74, 75, 76, 77] [0] true (.join [.sl 2 false (.int .i64) .leaf, .sl 6 false (.int .i64) .leaf, .bx 0 bautomaton_builder (.pair (.node .imm (.pair .leaf (.pair .leaf (.pair .leaf (.pair .leaf (.node .imm .leaf)))))) (.pair (.node .own .leaf) (.node .own .leaf)))]
            (.cond (.t 47)
              (.seq
                (.region [o1 49 (.fAddr 7 (.t 7)),
                  o1 50 (.load false 1 (.t 49)),
                  o1 51 (.lenK (.t 50)),
                  o1 52 (.bin .sub (.t 51) (.c (.int .i64 1))),
                  o1 8 (.asg (.t 52))])
              (.frame [2, 8, 53, 54, 55, 56, 57, 58, 59, 60, 61, 62, 63, 64] [0] true (.join [.sl 2 false (.int .i64) .leaf, .bx 0 bautomaton_builder (.pair (.node .imm (.pair .leaf (.pair .leaf (.pair .leaf (.pair .leaf (.node .imm .leaf)))))) (.pair (.node .own .leaf) (.node .own .leaf)))]
              (.block 1
                (.loop [.sl 2 false (.int .i64) .leaf, .sl 8 false (.int .i64) .leaf, .bx 0 bautomaton_builder (.pair (.node .imm (.pair .leaf (.pair .leaf (.pair .leaf (.pair .leaf (.node .imm .leaf)))))) (.pair (.node .own .leaf) (.node .own .leaf)))]
                  (.seq
                    (.seq
                      (.region [o1 53 (.mv (.t 8)),
                        o1 54 (.bin .geq (.t 53) (.c (.int .i64 0)))])
                    (.cond (.t 54)
                      .skip
                      (.exit 1)))
                  (.seq
                    (.frame [2, 57, 58, 59, 60, 61, 62, 63, 64] [0] true (.join [.sl 2 false (.int .i64) .leaf, .bx 0 bautomaton_builder (.pair (.node .imm (.pair .leaf (.pair .leaf (.pair .leaf (.pair .leaf (.node .imm .leaf)))))) (.pair (.node .own .leaf) (.node .own .leaf)))]
                    (.block 2
                      (.region [o1 57 (.mv (.t 0)),
                        o1 58 (.fAddr 7 (.t 7)),
                        o1 59 (.load false 1 (.t 58)),
                        o1 60 (.mv (.t 8)),
                        o1 61 (.ixA 1 (.t 59) (.t 60)),
                        o1 62 (.load false 1 (.t 61)),
                        o1 63 (.mv (.t 2)),
                        oS ⟨some 64, .call "(*mergelens/automaton.builder).build" [(.t 57), (.t 62), (.t 63)], none⟩ S_automaton_builder_build,
                        o1 2 (.asg (.t 64))]))))
                  (.region [o1 55 (.mv (.t 8)),
                    o1 56 (.bin .sub (.t 55) (.c (.int .i64 1))),
                    o1 8 (.asg (.t 56))]))))))))
              (.seq
                (.region [o1 66 (.bin .eql (.t 26) (.c (.int .i64 5))),
                  o1 65 (.asg (.t 66))])
              (.cond (.t 65)
                (.seq
                  (.region [o1 67 (.mv (.t 0)),
                    o1 68 (.fAddr 7 (.t 7)),
                    o1 69 (.load false 1 (.t 68)),
                    o1 70 (.mv (.t 2)),
                    oS ⟨some 71, .call "(*mergelens/automaton.builder).choice" [(.t 67), (.t 69), (.t 70)], none⟩ S_automaton_builder_choice,
                    o1 6 (.asg (.t 71))])
                .ret)
                (.seq
                  (.region [o1 73 (.bin .eql (.t 26) (.c (.int .i64 6))),
                    o1 72 (.asg (.t 73))])
                (.cond (.t 72)
                  (.seq
                    (.region [o1 74 (.mv (.t 0)),
                      o1 75 (.load true 8 (.t 7)),
                      o1 76 (.mv (.t 2)),
                      oS ⟨some 77, .call "(*mergelens/automaton.builder).repeat" [(.t 74), (.t 75), (.t 76)], none⟩ S_automaton_builder_repeat,
                      o1 6 (.asg (.t 77))])
                  .ret)
                  .skip))))))))))))))))))
  (.seq
    (.region [o1 78 (.mv (.t 2)),
      o1 6 (.asg (.t 78))])
  .ret)))))
def F_automaton_builder_build : AFn := ⟨ "(*mergelens/automaton.builder).build", t_automaton_builder_build.erase, [.tmp 6], 3⟩
def W_automaton_builder_build (P : Program) (x : (automaton_builder × (Int × Int))) (K : Int → automaton_builder → Prop) : Prop :=
  (0 ≤ x.2.1 ∧ x.2.1 < ((List.length x.1.2.1 : Nat) : Int)) ∧
  ((Int.toNat x.2.1) < List.length x.1.2.1) ∧
  ((((List.getD x.1.2.1 (Int.toNat x.2.1) (0 : Int)) == (0 : Int)) = true → K x.2.2 (x.1.1, (x.1.2.1, x.1.2.2))) ∧ (((List.getD x.1.2.1 (Int.toNat x.2.1) (0 : Int)) == (0 : Int)) = false → (0 ≤ x.2.1 ∧ x.2.1 < ((List.length x.1.1 : Nat) : Int)) ∧
  ((Int.toNat x.2.1) < List.length x.1.1) ∧
  JoinW (D := (Int × (Int × automaton_builder))) (fun J1 => ((((List.getD x.1.1 (Int.toNat x.2.1) zNode).1 == (1 : Int)) = true → Fn P "(*mergelens/automaton.builder).add" S_automaton_builder_add ((x.1.1, (x.1.2.1, x.1.2.2)), ((0 : Int), (((List.getD x.1.1 (Int.toNat x.2.1) zNode).2.1.1, ((List.getD x.1.1 (Int.toNat x.2.1) zNode).2.1.2.1, ((List.getD x.1.1 (Int.toNat x.2.1) zNode).2.1.2.2.1, (List.getD x.1.1 (Int.toNat x.2.1) zNode).2.1.2.2.2))), (x.2.2, (0 : Int))))) (fun (d3 : Int) (e4 : automaton_builder) => K d3 (e4.1, (e4.2.1, e4.2.2)))) ∧ (((List.getD x.1.1 (Int.toNat x.2.1) zNode).1 == (1 : Int)) = false → ((((List.getD x.1.1 (Int.toNat x.2.1) zNode).1 == (2 : Int)) = true → Fn P "(*mergelens/automaton.builder).add" S_automaton_builder_add ((x.1.1, (x.1.2.1, x.1.2.2)), ((2 : Int), (((0 : Int), ((0 : Int), ((0 : Int), (0 : Int)))), (x.2.2, (0 : Int))))) (fun (d5 : Int) (e6 : automaton_builder) => K d5 (e6.1, (e6.2.1, e6.2.2)))) ∧ (((List.getD x.1.1 (Int.toNat x.2.1) zNode).1 == (2 : Int)) = false → ((((List.getD x.1.1 (Int.toNat x.2.1) zNode).1 == (3 : Int)) = true → Fn P "(*mergelens/automaton.builder).add" S_automaton_builder_add ((x.1.1, (x.1.2.1, x.1.2.2)), ((3 : Int), (((0 : Int), ((0 : Int), ((0 : Int), (0 : Int)))), (x.2.2, (0 : Int))))) (fun (d7 : Int) (e8 : automaton_builder) => K d7 (e8.1, (e8.2.1, e8.2.2)))) ∧ (((List.getD x.1.1 (Int.toNat x.2.1) zNode).1 == (3 : Int)) = false → JoinW (D := (Int × (Int × automaton_builder))) (fun J9 => ((((List.getD x.1.1 (Int.toNat x.2.1) zNode).1 == (4 : Int)) = true → JoinW (D := (Int × automaton_builder)) (fun J11 => LoopW (D := (Int × (Int × automaton_builder))) (x.2.2, ((IntKind.i64.wrap (((List.length (List.getD x.1.1 (Int.toNat x.2.1) zNode).2.2.2.2 : Nat) : Int) - (1 : Int))), (x.1.1, (x.1.2.1, x.1.2.2)))) (fun (d13 : (Int × (Int × automaton_builder))) J14 => (((decide (d13.2.1 ≥ (0 : Int))) = true → JoinW (D := (Int × automaton_builder)) (fun J15 => (0 ≤ d13.2.1 ∧ d13.2.1 < ((List.length (List.getD x.1.1 (Int.toNat x.2.1) zNode).2.2.2.2 : Nat) : Int)) ∧
  ((Int.toNat d13.2.1) < List.length (List.getD x.1.1 (Int.toNat x.2.1) zNode).2.2.2.2) ∧
  Fn P "(*mergelens/automaton.builder).build" S_automaton_builder_build ((d13.2.2.1, (d13.2.2.2.1, d13.2.2.2.2)), ((List.getD (List.getD x.1.1 (Int.toNat x.2.1) zNode).2.2.2.2 (Int.toNat d13.2.1) (0 : Int)), d13.1)) (fun (d17 : Int) (e18 : automaton_builder) => J15 (d17, (e18.1, (e18.2.1, e18.2.2))))) (fun (d16 : (Int × automaton_builder)) => J14 (d16.1, ((IntKind.i64.wrap (d13.2.1 - (1 : Int))), (d16.2.1, (d16.2.2.1, d16.2.2.2)))))) ∧ ((decide (d13.2.1 ≥ (0 : Int))) = false → J11 (d13.1, (d13.2.2.1, (d13.2.2.2.1, d13.2.2.2.2))))))) (fun (d12 : (Int × automaton_builder)) => J9 (d12.1, ((0 : Int), (d12.2.1, (d12.2.2.1, d12.2.2.2)))))) ∧ (((List.getD x.1.1 (Int.toNat x.2.1) zNode).1 == (4 : Int)) = false → ((((List.getD x.1.1 (Int.toNat x.2.1) zNode).1 == (5 : Int)) = true → Fn P "(*mergelens/automaton.builder).choice" S_automaton_builder_choice ((x.1.1, (x.1.2.1, x.1.2.2)), ((List.getD x.1.1 (Int.toNat x.2.1) zNode).2.2.2.2, x.2.2)) (fun (d19 : Int) (e20 : automaton_builder) => K d19 (e20.1, (e20.2.1, e20.2.2)))) ∧ (((List.getD x.1.1 (Int.toNat x.2.1) zNode).1 == (5 : Int)) = false → ((((List.getD x.1.1 (Int.toNat x.2.1) zNode).1 == (6 : Int)) = true → Fn P "(*mergelens/automaton.builder).repeat" S_automaton_builder_repeat ((x.1.1, (x.1.2.1, x.1.2.2)), (((List.getD x.1.1 (Int.toNat x.2.1) zNode).1, (((List.getD x.1.1 (Int.toNat x.2.1) zNode).2.1.1, ((List.getD x.1.1 (Int.toNat x.2.1) zNode).2.1.2.1, ((List.getD x.1.1 (Int.toNat x.2.1) zNode).2.1.2.2.1, (List.getD x.1.1 (Int.toNat x.2.1) zNode).2.1.2.2.2))), ((List.getD x.1.1 (Int.toNat x.2.1) zNode).2.2.1, ((List.getD x.1.1 (Int.toNat x.2.1) zNode).2.2.2.1, (List.getD x.1.1 (Int.toNat x.2.1) zNode).2.2.2.2)))), x.2.2)) (fun (d21 : Int) (e22 : automaton_builder) => K d21 (e22.1, (e22.2.1, e22.2.2)))) ∧ (((List.getD x.1.1 (Int.toNat x.2.1) zNode).1 == (6 : Int)) = false → J9 (x.2.2, ((0 : Int), (x.1.1, (x.1.2.1, x.1.2.2))))))))))) (fun (d10 : (Int × (Int × automaton_builder))) => J1 (d10.1, (d10.2.1, (d10.2.2.1, (d10.2.2.2.1, d10.2.2.2.2)))))))))))) (fun (d2 : (Int × (Int × automaton_builder))) => K d2.1 (d2.2.2.1, (d2.2.2.2.1, d2.2.2.2.2)))))
theorem fn_automaton_builder_build {P : Program} (h : Has P F_automaton_builder_build) {x : DP S_automaton_builder_build.ps} {K : DP S_automaton_builder_build.rs → DP (ptrs S_automaton_builder_build.ps) → Prop} (hw : W_automaton_builder_build P x K) : Fn P "(*mergelens/automaton.builder).build" S_automaton_builder_build x K :=
  fn_of (c := t_automaton_builder_build) h rfl rfl (by kernel_rfl) (Eq.mpr (show liftT P F_automaton_builder_build S_automaton_builder_build t_automaton_builder_build x K = W_automaton_builder_build P x K by kernel_rfl) hw)

def t_automaton_Build : TCode :=
  (.seq
    (.region [o1 2 (.alloc [(.slice none 0 0), (.int .i64 0)]),
      o1 3 (.asg (.c (.int .i64 0)))])
  (.seq
    (.region [o1 10 (.mv (.t 0)),
      oS ⟨some 11, .call "mergelens/regex.Weight" [(.t 10)], none⟩ S_regex_Weight,
      o1 9 (.mv (.t 11)),
      o1 12 (.ext (.t 9) 0),
      o1 13 (.ext (.t 9) 1),
      o1 4 (.asg (.t 12)),
      o1 5 (.asg (.t 13))])
  (.seq
    (.frame [3, 14, 15, 16, 17, 18, 19, 20, 21, 22] [1002] false (.join [.sl 3 false (.int .i64) .leaf, .bx 1002 (.pair (.sl bState) (.int .i64)) (.pair (.node .own .leaf) .leaf)]
    (.block 0
      (.seq
        (.region [o1 15 (.mv (.t 5)),
          o1 16 (.bin .neq (.t 15) (.c (.int .i64 0))),
          o1 14 (.asg (.t 16))])
      (.cond (.t 14)
        (.seq
          (.region [o1 17 (.build [(.slice none 0 0), (.int .i64 0)] []),
            o1 18 (.mv (.t 5)),
            o0 ⟨none, .store 2 (.t 2) (.t 17), none⟩,
            o1 3 (.asg (.t 18))])
        .ret)
        (.seq
          (.region [o1 20 (.mv (.t 4)),
            o1 21 (.bin .gtr (.t 20) (.c (.int .i64 4000))),
            o1 19 (.asg (.t 21))])
        (.cond (.t 19)
          (.seq
            (.region [o1 22 (.build [(.slice none 0 0), (.int .i64 0)] []),
              o0 ⟨none, .store 2 (.t 2) (.t 22), none⟩,
              o1 3 (.asg (.c (.int .i64 1)))])
          .ret)
          .skip)))))))
  (.seq
    (.region [o1 23 (.mv (.t 0)),
      o1 24 (.mv (.t 0)),
      oS ⟨some 25, .call "mergelens/regex.Weights" [(.t 24)], none⟩ S_regex_Weights,
      o1 26 (.build [(.slice none 0 0), (.slice none 0 0), (.slice none 0 0)] [(0, 1, (.t 23)), (1, 1, (.t 25))]),
      o1 27 (.box (.t 26)),
      o1 6 (.asg (.t 27))])
  (.seq
    (.region [o1 28 (.mv (.t 6)),
      o1 29 (.build [(.int .i64 0), (.int .u64 0), (.int .u64 0), (.int .u64 0), (.int .u64 0), (.int .i64 0), (.int .i64 0)] [(0, 1, (.c (.int .i64 4)))]),
      oS ⟨some 30, .call "(*mergelens/automaton.builder).add" [(.t 28), (.t 29)], none⟩ S_automaton_builder_add,
      o1 7 (.asg (.t 30))])
  (.seq
    (.region [o1 31 (.mv (.t 6)),
      o1 32 (.mv (.t 0)),
      o1 33 (.lenK (.t 32)),
      o1 34 (.bin .sub (.t 33) (.c (.int .i64 1))),
      o1 35 (.mv (.t 7)),
      oS ⟨some 36, .call "(*mergelens/automaton.builder).build" [(.t 31), (.t 34), (.t 35)], none⟩ S_automaton_builder_build,
      o1 8 (.asg (.t 36))])
  (.seq
    (.region [o1 37 (.mv (.t 6)),
      o1 38 (.nilc (.t 37)),
      o1 39 (.fAddr 2 (.t 38)),
      o1 40 (.load false 1 (.t 39)),
      o1 41 (.mv (.t 8)),
      o1 42 (.build [(.slice none 0 0), (.int .i64 0)] [(0, 1, (.t 40)), (1, 1, (.t 41))]),
      o0 ⟨none, .store 2 (.t 2) (.t 42), none⟩,
      o1 3 (.asg (.c (.int .i64 0)))])
  .ret)))))))
def F_automaton_Build : AFn := ⟨ "mergelens/automaton.Build", t_automaton_Build.erase, [.cell 2 true 2, .tmp 3], 1⟩
def W_automaton_Build (P : Program) (x : (List Node)) (K : (((List State) × Int) × Int) → Unit → Prop) : Prop :=
  Fn P "mergelens/regex.Weight" S_regex_Weight x (fun (d1 : (Int × Int)) (e2 : Unit) => JoinW (D := (Int × ((List State) × Int))) (fun J3 => (((d1.2 != (0 : Int)) = true → K (([], (0 : Int)), d1.2) ()) ∧ ((d1.2 != (0 : Int)) = false → (((decide (d1.1 > (4000 : Int))) = true → K (([], (0 : Int)), (1 : Int)) ()) ∧ ((decide (d1.1 > (4000 : Int))) = false → J3 ((0 : Int), ([], (0 : Int)))))))) (fun (d4 : (Int × ((List State) × Int))) => Fn P "mergelens/regex.Weights" S_regex_Weights x (fun (d5 : (List Int)) (e6 : Unit) => Fn P "(*mergelens/automaton.builder).add" S_automaton_builder_add ((x, (d5, [])), ((4 : Int), (((0 : Int), ((0 : Int), ((0 : Int), (0 : Int)))), ((0 : Int), (0 : Int))))) (fun (d7 : Int) (e8 : automaton_builder) => Fn P "(*mergelens/automaton.builder).build" S_automaton_builder_build ((e8.1, (e8.2.1, e8.2.2)), ((IntKind.i64.wrap (((List.length x : Nat) : Int) - (1 : Int))), d7)) (fun (d9 : Int) (e10 : automaton_builder) => K ((e10.2.2, d9), (0 : Int)) ())))))
theorem fn_automaton_Build {P : Program} (h : Has P F_automaton_Build) {x : DP S_automaton_Build.ps} {K : DP S_automaton_Build.rs → DP (ptrs S_automaton_Build.ps) → Prop} (hw : W_automaton_Build P x K) : Fn P "mergelens/automaton.Build" S_automaton_Build x K :=
  fn_of (c := t_automaton_Build) h rfl rfl (by kernel_rfl) (Eq.mpr (show liftT P F_automaton_Build S_automaton_Build t_automaton_Build x K = W_automaton_Build P x K by kernel_rfl) hw)

def t_automaton_Check_1 : TCode :=
  (.seq
    (.region [o1 3 (.asg (.c (.bool false)))])
  (.seq
    (.region [o1 4 (.mv (.t 0)),
      o1 5 (.bin .geq (.t 4) (.c (.int .i64 0))),
      o1 6 (.mv (.t 5)),
      o0 ⟨some 7, .mv (.t 0), some (6, true)⟩,
      o0 ⟨some 8, .load false 1 (.t 1), some (6, true)⟩,
      o0 ⟨some 9, .bin .lss (.t 7) (.t 8), some (6, true)⟩,
      o1 10 (.pick (.t 6) (.t 9) (.c (.bool false))),
      o1 3 (.asg (.t 10))])
  .ret))
def F_automaton_Check_1 : AFn := ⟨ "mergelens/automaton.Check\x241", t_automaton_Check_1.erase, [.tmp 3], 2⟩
def W_automaton_Check_1 (P : Program) (x : (Int × Int)) (K : Bool → Int → Prop) : Prop :=
  K (cond (decide (x.1 ≥ (0 : Int))) (decide (x.1 < x.2)) false) x.2
theorem fn_automaton_Check_1 {P : Program} (h : Has P F_automaton_Check_1) {x : DP S_automaton_Check_1.ps} {K : DP S_automaton_Check_1.rs → DP (ptrs S_automaton_Check_1.ps) → Prop} (hw : W_automaton_Check_1 P x K) : Fn P "mergelens/automaton.Check\x241" S_automaton_Check_1 x K :=
  fn_of (c := t_automaton_Check_1) h rfl rfl (by kernel_rfl) (Eq.mpr (show liftT P F_automaton_Check_1 S_automaton_Check_1 t_automaton_Check_1 x K = W_automaton_Check_1 P x K by kernel_rfl) hw)

def t_automaton_Check : TCode :=
  (.seq
    (.region [o1 1 (.box (.t 0)),
      o1 2 (.asg (.c (.int .i64 0)))])
  (.seq
    (.region [o1 8 (.fAddr 0 (.t 1)),
      o1 9 (.load false 1 (.t 8)),
      o1 10 (.lenK (.t 9)),
      o1 3 (.alloc [(.int .i64 0)]),
      o0 ⟨none, .store 1 (.t 3) (.t 10), none⟩])
  (.seq
    (.region [o1 11 (.mkf "mergelens/automaton.Check\x241" [(.t 3)]),
      o1 4 (.asg (.t 11))])
  (.seq
    (.seq
      (.region [o1 12 (.load false 1 (.t 3)),
        o1 13 (.bin .lss (.t 12) (.c (.int .i64 1))),
        o1 14 (.mv (.t 13)),
        o0 ⟨some 15, .load false 1 (.t 3), some (14, false)⟩,
        o0 ⟨some 16, .bin .gtr (.t 15) (.c (.int .i64 8000)), some (14, false)⟩,
        o1 17 (.pick (.t 14) (.c (.bool true)) (.t 16)),
        o1 18 (.mv (.t 17)),
        ⟨⟨some 19, .mv (.t 4), some (18, false)⟩, none, ⟨[], []⟩, false, some 18, true, false⟩,
        ⟨⟨some 20, .fAddr 1 (.t 1), some (18, false)⟩, none, ⟨[], []⟩, false, none, true, false⟩,
        ⟨⟨some 21, .load false 1 (.t 20), some (18, false)⟩, none, ⟨[], []⟩, false, none, true, false⟩,
        ⟨⟨some 22, .callv (.t 19) [(.t 21)], some (18, false)⟩, none, S_automaton_Check_1, false, none, true, true⟩,
        ⟨⟨some 23, .un .not (.t 22), some (18, false)⟩, none, ⟨[], []⟩, false, none, true, true⟩,
        o1 24 (.pick (.t 18) (.c (.bool true)) (.t 23))])
    (.cond (.t 24)
      (.seq
        (.region [o1 2 (.asg (.c (.int .i64 2)))])
      .ret)
      .skip))
  (.seq
    (.seq
      (.region [o1 25 (.fAddr 0 (.t 1)),
        o1 26 (.load false 1 (.t 25)),
        o1 27 (.lenK (.t 26)),
        o1 28 (.mv (.c (.int .i64 0)))])
    (.frame [2, 6, 7, 28, 29, 30, 31, 32, 33, 34, 35, 36, 37, 38, 39, 40, 41, 42, 43, 44, 45, 46, 47, 48, 49, 50, 51, 52, 53, 54, 55] [1003, 1006] true (.join [.sl 2 false (.int .i64) .leaf]
    (.block 0
      (.loop [.sl 2 false (.int .i64) .leaf, .sl 28 false (.int .i64) .leaf, .bx 1003 (.int .i64) .leaf]
        (.seq
          (.region [o1 29 (.bin .lss (.t 28) (.t 27))])
        (.seq
          (.cond (.t 29)
            .skip
            (.exit 0))
        (.seq
          (.frame [2, 6, 7, 30, 31, 32, 33, 34, 35, 36, 37, 38, 39, 40, 41, 42, 43, 44, 45, 46, 47, 48, 49, 50, 51, 52, 53, 54] [1003, 1006] true (.join [.sl 2 false (.int .i64) .leaf, .bx 1003 (.int .i64) .leaf]
          (.block 1
            (.seq
              (.region [o1 30 (.ixA 7 (.t 26) (.t 28)),
                o1 31 (.load true 7 (.t 30)),
                o1 6 (.alloc [(.int .i64 0), (.int .u64 0), (.int .u64 0), (.int .u64 0), (.int .u64 0), (.int .i64 0), (.int .i64 0)]),
                o0 ⟨none, .store 7 (.t 6) (.t 31), none⟩])
            (.seq
              (.region [o1 32 (.mv (.t 4)),
                o1 33 (.fAddr 5 (.t 6)),
                o1 34 (.load false 1 (.t 33)),
                oS ⟨some 35, .callv (.t 32) [(.t 34)], none⟩ S_automaton_Check_1,
                o1 7 (.asg (.t 35))])
            (.seq
              (.seq
                (.region [o1 36 (.fAddr 0 (.t 6)),
                  o1 37 (.load false 1 (.t 36))])
              (.frame [7, 38, 39, 40, 41, 42, 43, 44, 45, 46, 47, 48, 49, 50, 51, 52] [1003] true (.join [.sl 7 false .bool .leaf, .bx 1003 (.int .i64) .leaf]
              (.block 2
                (.seq
                  (.seq
                    (.region [o1 39 (.bin .eql (.t 37) (.c (.int .i64 0))),
                      o1 38 (.asg (.t 39))])
                  (.frame [38, 40, 41] [] false (.join [.sl 38 false .bool .leaf]
                  (.cond (.t 38)
                    .skip
                    (.seq
                      (.region [o1 40 (.bin .eql (.t 37) (.c (.int .i64 2))),
                        o1 38 (.asg (.t 40))])
                    (.frame [38, 41] [] false (.join [.sl 38 false .bool .leaf]
                    (.cond (.t 38)
                      .skip
                      (.region [o1 41 (.bin .eql (.t 37) (.c (.int .i64 3))),
                        o1 38 (.asg (.t 41))])))))))))
                (.frame [7, 42, 43, 44, 45, 46, 47, 48, 49, 50, 51, 52] [1003] true (.join [.sl 7 false .bool .leaf, .bx 1003 (.int .i64) .leaf]
                (.cond (.t 38)
                  .skip
                  (.seq
                    (.region [o1 43 (.bin .eql (.t 37) (.c (.int .i64 1))),
                      o1 42 (.asg (.t 43))])
                  (.frame [7, 44, 45, 46, 47, 48, 49, 50, 51, 52] [1003] true (.join [.sl 7 false .bool .leaf, .bx 1003 (.int .i64) .leaf]
                  (.cond (.t 42)
                    (.region [o1 44 (.mv (.t 7)),
                      o1 45 (.mv (.t 44)),
                      ⟨⟨some 46, .mv (.t 4), some (45, true)⟩, none, ⟨[], []⟩, false, some 45, true, false⟩,
                      ⟨⟨some 47, .fAddr 6 (.t 6), some (45, true)⟩, none, ⟨[], []⟩, false, none, true, false⟩,
                      ⟨⟨some 48, .load false 1 (.t 47), some (45, true)⟩, none, ⟨[], []⟩, false, none, true, false⟩,
                      ⟨⟨some 49, .callv (.t 46) [(.t 48)], some (45, true)⟩, none, S_automaton_Check_1, false, none, true, true⟩,
                      o1 50 (.pick (.t 45) (.t 49) (.c (.bool false))),
                      o1 7 (.asg (.t 50))])
                    (.seq
                      (.region [o1 52 (.bin .eql (.t 37) (.c (.int .i64 4))),
                        o1 51 (.asg (.t 52))])
                    (.frame [7] [] false (.join [.sl 7 false .bool .leaf]
                    (.cond (.t 51)
                      (.region [o1 7 (.asg (.c (.bool true)))])
                      (.region [o1 7 (.asg (.c (.bool false)))])))))))))))))))))
            (.seq
              (.region [o1 53 (.mv (.t 7)),
                o1 54 (.un .not (.t 53))])
            (.cond (.t 54)
              (.seq
                (.region [o1 2 (.asg (.c (.int .i64 2)))])
              .ret)
              .skip))))))))
        (.region [o1 55 (.bin .add (.t 28) (.c (.int .i64 1))),
          o1 28 (.mv (.t 55))])))))))))
  (.seq
    (.region [o1 2 (.asg (.c (.int .i64 0)))])
  .ret))))))
def F_automaton_Check : AFn := ⟨ "mergelens/automaton.Check", t_automaton_Check.erase, [.tmp 2], 1⟩
def W_automaton_Check (P : Program) (x : ((List State) × Int)) (K : Int → Unit → Prop) : Prop :=
  (((cond (decide (((List.length x.1 : Nat) : Int) < (1 : Int))) true (decide (((List.length x.1 : Nat) : Int) > (8000 : Int)))) = true → (((cond true true false) = true → K (2 : Int) ()) ∧ ((cond true true false) = false → JoinW (D := Int) (fun J1 => LoopW (D := (Int × (Int × Int))) ((0 : Int), ((0 : Int), ((List.length x.1 : Nat) : Int))) (fun (d3 : (Int × (Int × Int))) J4 => (((decide (d3.2.1 < ((List.length x.1 : Nat) : Int))) = true → JoinW (D := (Int × Int)) (fun J5 => (0 ≤ d3.2.1 ∧ d3.2.1 < ((List.length x.1 : Nat) : Int)) ∧
  ((Int.toNat d3.2.1) < List.length x.1) ∧
  Fn P "mergelens/automaton.Check\x241" S_automaton_Check_1 ((List.getD x.1 (Int.toNat d3.2.1) zState).2.2.1, d3.2.2) (fun (d7 : Bool) (e8 : Int) => JoinW (D := (Bool × Int)) (fun J9 => JoinW (D := Bool) (fun J11 => ((((List.getD x.1 (Int.toNat d3.2.1) zState).1 == (0 : Int)) = true → J11 ((List.getD x.1 (Int.toNat d3.2.1) zState).1 == (0 : Int))) ∧ (((List.getD x.1 (Int.toNat d3.2.1) zState).1 == (0 : Int)) = false → JoinW (D := Bool) (fun J13 => ((((List.getD x.1 (Int.toNat d3.2.1) zState).1 == (2 : Int)) = true → J13 ((List.getD x.1 (Int.toNat d3.2.1) zState).1 == (2 : Int))) ∧ (((List.getD x.1 (Int.toNat d3.2.1) zState).1 == (2 : Int)) = false → J13 ((List.getD x.1 (Int.toNat d3.2.1) zState).1 == (3 : Int))))) (fun (d14 : Bool) => J11 d14)))) (fun (d12 : Bool) => JoinW (D := (Bool × Int)) (fun J15 => ((d12 = true → J15 (d7, e8)) ∧ (d12 = false → JoinW (D := (Bool × Int)) (fun J17 => ((((List.getD x.1 (Int.toNat d3.2.1) zState).1 == (1 : Int)) = true → ((d7 = true → Fn P "mergelens/automaton.Check\x241" S_automaton_Check_1 ((List.getD x.1 (Int.toNat d3.2.1) zState).2.2.2, e8) (fun (d19 : Bool) (e20 : Int) => J17 ((cond true d19 false), e20))) ∧ (d7 = false → J17 ((cond false false false), e8)))) ∧ (((List.getD x.1 (Int.toNat d3.2.1) zState).1 == (1 : Int)) = false → JoinW (D := Bool) (fun J21 => ((((List.getD x.1 (Int.toNat d3.2.1) zState).1 == (4 : Int)) = true → J21 true) ∧ (((List.getD x.1 (Int.toNat d3.2.1) zState).1 == (4 : Int)) = false → J21 false))) (fun (d22 : Bool) => J17 (d22, e8))))) (fun (d18 : (Bool × Int)) => J15 (d18.1, d18.2))))) (fun (d16 : (Bool × Int)) => J9 (d16.1, d16.2)))) (fun (d10 : (Bool × Int)) => (((!d10.1) = true → K (2 : Int) ()) ∧ ((!d10.1) = false → J5 (d3.1, d10.2)))))) (fun (d6 : (Int × Int)) => J4 (d6.1, ((IntKind.i64.wrap (d3.2.1 + (1 : Int))), d6.2)))) ∧ ((decide (d3.2.1 < ((List.length x.1 : Nat) : Int))) = false → J1 d3.1)))) (fun (d2 : Int) => K (0 : Int) ())))) ∧ ((cond (decide (((List.length x.1 : Nat) : Int) < (1 : Int))) true (decide (((List.length x.1 : Nat) : Int) > (8000 : Int)))) = false → Fn P "mergelens/automaton.Check\x241" S_automaton_Check_1 (x.2, ((List.length x.1 : Nat) : Int)) (fun (d23 : Bool) (e24 : Int) => (((cond false true (!d23)) = true → K (2 : Int) ()) ∧ ((cond false true (!d23)) = false → JoinW (D := Int) (fun J25 => LoopW (D := (Int × (Int × Int))) ((0 : Int), ((0 : Int), e24)) (fun (d27 : (Int × (Int × Int))) J28 => (((decide (d27.2.1 < ((List.length x.1 : Nat) : Int))) = true → JoinW (D := (Int × Int)) (fun J29 => (0 ≤ d27.2.1 ∧ d27.2.1 < ((List.length x.1 : Nat) : Int)) ∧
  ((Int.toNat d27.2.1) < List.length x.1) ∧
  Fn P "mergelens/automaton.Check\x241" S_automaton_Check_1 ((List.getD x.1 (Int.toNat d27.2.1) zState).2.2.1, d27.2.2) (fun (d31 : Bool) (e32 : Int) => JoinW (D := (Bool × Int)) (fun J33 => JoinW (D := Bool) (fun J35 => ((((List.getD x.1 (Int.toNat d27.2.1) zState).1 == (0 : Int)) = true → J35 ((List.getD x.1 (Int.toNat d27.2.1) zState).1 == (0 : Int))) ∧ (((List.getD x.1 (Int.toNat d27.2.1) zState).1 == (0 : Int)) = false → JoinW (D := Bool) (fun J37 => ((((List.getD x.1 (Int.toNat d27.2.1) zState).1 == (2 : Int)) = true → J37 ((List.getD x.1 (Int.toNat d27.2.1) zState).1 == (2 : Int))) ∧ (((List.getD x.1 (Int.toNat d27.2.1) zState).1 == (2 : Int)) = false → J37 ((List.getD x.1 (Int.toNat d27.2.1) zState).1 == (3 : Int))))) (fun (d38 : Bool) => J35 d38)))) (fun (d36 : Bool) => JoinW (D := (Bool × Int)) (fun J39 => ((d36 = true → J39 (d31, e32)) ∧ (d36 = false → JoinW (D := (Bool × Int)) (fun J41 => ((((List.getD x.1 (Int.toNat d27.2.1) zState).1 == (1 : Int)) = true → ((d31 = true → Fn P "mergelens/automaton.Check\x241" S_automaton_Check_1 ((List.getD x.1 (Int.toNat d27.2.1) zState).2.2.2, e32) (fun (d43 : Bool) (e44 : Int) => J41 ((cond true d43 false), e44))) ∧ (d31 = false → J41 ((cond false false false), e32)))) ∧ (((List.getD x.1 (Int.toNat d27.2.1) zState).1 == (1 : Int)) = false → JoinW (D := Bool) (fun J45 => ((((List.getD x.1 (Int.toNat d27.2.1) zState).1 == (4 : Int)) = true → J45 true) ∧ (((List.getD x.1 (Int.toNat d27.2.1) zState).1 == (4 : Int)) = false → J45 false))) (fun (d46 : Bool) => J41 (d46, e32))))) (fun (d42 : (Bool × Int)) => J39 (d42.1, d42.2))))) (fun (d40 : (Bool × Int)) => J33 (d40.1, d40.2)))) (fun (d34 : (Bool × Int)) => (((!d34.1) = true → K (2 : Int) ()) ∧ ((!d34.1) = false → J29 (d27.1, d34.2)))))) (fun (d30 : (Int × Int)) => J28 (d30.1, ((IntKind.i64.wrap (d27.2.1 + (1 : Int))), d30.2)))) ∧ ((decide (d27.2.1 < ((List.length x.1 : Nat) : Int))) = false → J25 d27.1)))) (fun (d26 : Int) => K (0 : Int) ()))))))
theorem fn_automaton_Check {P : Program} (h : Has P F_automaton_Check) {x : DP S_automaton_Check.ps} {K : DP S_automaton_Check.rs → DP (ptrs S_automaton_Check.ps) → Prop} (hw : W_automaton_Check P x K) : Fn P "mergelens/automaton.Check" S_automaton_Check x K :=
  fn_of (c := t_automaton_Check) h rfl rfl (by kernel_rfl) (Eq.mpr (show liftT P F_automaton_Check S_automaton_Check t_automaton_Check x K = W_automaton_Check P x K by kernel_rfl) hw)

def t_ref05_Close : TCode :=
  (.seq
    (.region [o1 4 (.box (.t 0)),
      o1 8 (.asg (.c (.slice none 0 0)))])
  (.seq
    (.region [oT ⟨some 13, .buildSl 1 [(.bool false)] 0 [], none⟩ (some (.bool, .leaf)),
      o1 14 (.mv (.t 1)),
      oT ⟨some 15, .app 1 1 (.t 13) (.t 14), none⟩ (some (.bool, .leaf)),
      o1 9 (.asg (.t 15))])
  (.seq
    (.region [o1 10 (.asg (.c (.bool true)))])
  (.seq
    (.frame [9, 10, 11, 12, 16, 17, 18, 19, 20, 21, 22, 23, 24, 25, 26, 27, 28, 29, 30, 31, 32, 33, 34, 35, 36, 37, 38, 39, 40, 41, 42, 43, 44, 45, 46, 47, 48, 49, 50, 51, 52, 53, 54, 55, 56, 57, 58, 59, 60, 61, 62, 63, 64, 65, 66, 67, 68, 69, 70, 71, 72, 73, 74, 75, 76, 77, 78, 79, 80, 81, 82, 83, 84, 85] [1012] false (.join [.sl 9 false (.sl .bool) (.node .own .leaf)]
    (.block 0
      (.loop [.sl 9 false (.sl .bool) (.node .own .leaf), .sl 10 false .bool .leaf]
        (.seq
          (.seq
            (.region [o1 16 (.mv (.t 10))])
          (.cond (.t 16)
            .skip
            (.exit 0)))
        (.frame [9, 10, 11, 12, 17, 18, 19, 20, 21, 22, 23, 24, 25, 26, 27, 28, 29, 30, 31, 32, 33, 34, 35, 36, 37, 38, 39, 40, 41, 42, 43, 44, 45, 46, 47, 48, 49, 50, 51, 52, 53, 54, 55, 56, 57, 58, 59, 60, 61, 62, 63, 64, 65, 66, 67, 68, 69, 70, 71, 72, 73, 74, 75, 76, 77, 78, 79, 80, 81, 82, 83, 84, 85] [1012] false (.join [.sl 9 false (.sl .bool) (.node .own .leaf), .sl 10 false .bool .leaf]
        (.block 1
          (.seq
            (.region [o1 10 (.asg (.c (.bool false)))])
          (.seq
            (.region [o1 11 (.asg (.c (.int .i64 0)))])
          (.frame [9, 10, 11, 12, 17, 18, 19, 20, 21, 22, 23, 24, 25, 26, 27, 28, 29, 30, 31, 32, 33, 34, 35, 36, 37, 38, 39, 40, 41, 42, 43, 44, 45, 46, 47, 48, 49, 50, 51, 52, 53, 54, 55, 56, 57, 58, 59, 60, 61, 62, 63, 64, 65, 66, 67, 68, 69, 70, 71, 72, 73, 74, 75, 76, 77, 78, 79, 80, 81, 82, 83, 84, 85] [1012] false (.join [.sl 9 false (.sl .bool) (.node .own .leaf), .sl 10 false .bool .leaf]
          (.block 2
            (.loop [.sl 9 false (.sl .bool) (.node .own .leaf), .sl 10 false .bool .leaf, .sl 11 false (.int .i64) .leaf]
              (.seq
                (.seq
                  (.region [o1 17 (.mv (.t 11)),
                    o1 18 (.mv (.t 9)),
                    o1 19 (.lenK (.t 18)),
                    o1 20 (.bin .lss (.t 17) (.t 19))])
                (.cond (.t 20)
                  .skip
                  (.exit 2)))
              (.seq
                (.frame [9, 10, 12, 23, 24, 25, 26, 27, 28, 29, 30, 31, 32, 33, 34, 35, 36, 37, 38, 39, 40, 41, 42, 43, 44, 45, 46, 47, 48, 49, 50, 51, 52, 53, 54, 55, 56, 57, 58, 59, 60, 61, 62, 63, 64, 65, 66, 67, 68, 69, 70, 71, 72, 73, 74, 75, 76, 77, 78, 79, 80, 81, 82, 83, 84, 85] [1012] false (.join [.sl 9 false (.sl .bool) (.node .own .leaf), .sl 10 false .bool .leaf]
                (.block 3
                  (.seq
                    (.region [o1 23 (.fAddr 0 (.t 4)),
                      o1 24 (.load false 1 (.t 23)),
                      o1 25 (.mv (.t 11)),
                      o1 26 (.ixA 7 (.t 24) (.t 25)),
                      o1 27 (.load true 7 (.t 26)),
                      o1 12 (.alloc [(.int .i64 0), (.int .u64 0), (.int .u64 0), (.int .u64 0), (.int .u64 0), (.int .i64 0), (.int .i64 0)]),
                      o0 ⟨none, .store 7 (.t 12) (.t 27), none⟩])
                  (.seq
                    (.seq
                      (.region [o1 28 (.mv (.t 9)),
                        o1 29 (.mv (.t 11)),
                        o1 30 (.ixA 1 (.t 28) (.t 29)),
                        o1 31 (.load false 1 (.t 30)),
                        o1 32 (.mv (.t 31)),
                        o0 ⟨some 33, .fAddr 0 (.t 12), some (32, true)⟩,
                        o0 ⟨some 34, .load false 1 (.t 33), some (32, true)⟩,
                        o0 ⟨some 35, .bin .eql (.t 34) (.c (.int .i64 1)), some (32, true)⟩,
                        o0 ⟨some 36, .mv (.t 35), some (32, true)⟩,
                        o0 ⟨some 37, .fAddr 0 (.t 12), some (36, false)⟩,
                        o0 ⟨some 38, .load false 1 (.t 37), some (36, false)⟩,
                        o0 ⟨some 39, .bin .eql (.t 38) (.c (.int .i64 2)), some (36, false)⟩,
                        o0 ⟨some 40, .mv (.t 39), some (36, false)⟩,
                        o0 ⟨some 41, .mv (.t 2), some (40, true)⟩,
                        o0 ⟨some 42, .pick (.t 40) (.t 41) (.c (.bool false)), some (36, false)⟩,
                        o0 ⟨some 43, .pick (.t 36) (.c (.bool true)) (.t 42), some (32, true)⟩,
                        o0 ⟨some 44, .mv (.t 43), some (32, true)⟩,
                        o0 ⟨some 45, .fAddr 0 (.t 12), some (44, false)⟩,
                        o0 ⟨some 46, .load false 1 (.t 45), some (44, false)⟩,
                        o0 ⟨some 47, .bin .eql (.t 46) (.c (.int .i64 3)), some (44, false)⟩,
                        o0 ⟨some 48, .mv (.t 47), some (44, false)⟩,
                        o0 ⟨some 49, .mv (.t 3), some (48, true)⟩,
                        o0 ⟨some 50, .pick (.t 48) (.t 49) (.c (.bool false)), some (44, false)⟩,
                        o0 ⟨some 51, .pick (.t 44) (.c (.bool true)) (.t 50), some (32, true)⟩,
                        o1 52 (.pick (.t 32) (.t 51) (.c (.bool false))),
                        o1 53 (.mv (.t 52)),
                        o0 ⟨some 54, .mv (.t 9), some (53, true)⟩,
                        o0 ⟨some 55, .fAddr 5 (.t 12), some (53, true)⟩,
                        o0 ⟨some 56, .load false 1 (.t 55), some (53, true)⟩,
                        o0 ⟨some 57, .ixA 1 (.t 54) (.t 56), some (53, true)⟩,
                        o0 ⟨some 58, .load false 1 (.t 57), some (53, true)⟩,
                        o0 ⟨some 59, .un .not (.t 58), some (53, true)⟩,
                        o1 60 (.pick (.t 53) (.t 59) (.c (.bool false)))])
                    (.frame [9, 10, 61, 62, 63, 64] [] false (.join [.sl 9 false (.sl .bool) (.node .own .leaf), .sl 10 false .bool .leaf]
                    (.cond (.t 60)
                      (.seq
                        (.region [o1 61 (.mv (.t 9)),
                          o1 62 (.fAddr 5 (.t 12)),
                          o1 63 (.load false 1 (.t 62)),
                          o1 64 (.ixA 1 (.t 61) (.t 63)),
                          o0 ⟨none, .store 1 (.t 64) (.c (.bool true)), none⟩])
                      (.region [o1 10 (.asg (.c (.bool true)))]))
                      .skip))))
                  (.seq
                    (.region [o1 65 (.mv (.t 9)),
                      o1 66 (.mv (.t 11)),
                      o1 67 (.ixA 1 (.t 65) (.t 66)),
                      o1 68 (.load false 1 (.t 67)),
                      o1 69 (.mv (.t 68)),
                      o0 ⟨some 70, .fAddr 0 (.t 12), some (69, true)⟩,
                      o0 ⟨some 71, .load false 1 (.t 70), some (69, true)⟩,
                      o0 ⟨some 72, .bin .eql (.t 71) (.c (.int .i64 1)), some (69, true)⟩,
                      o1 73 (.pick (.t 69) (.t 72) (.c (.bool false))),
                      o1 74 (.mv (.t 73)),
                      o0 ⟨some 75, .mv (.t 9), some (74, true)⟩,
                      o0 ⟨some 76, .fAddr 6 (.t 12), some (74, true)⟩,
                      o0 ⟨some 77, .load false 1 (.t 76), some (74, true)⟩,
                      o0 ⟨some 78, .ixA 1 (.t 75) (.t 77), some (74, true)⟩,
                      o0 ⟨some 79, .load false 1 (.t 78), some (74, true)⟩,
                      o0 ⟨some 80, .un .not (.t 79), some (74, true)⟩,
                      o1 81 (.pick (.t 74) (.t 80) (.c (.bool false)))])
                  (.frame [9, 10, 82, 83, 84, 85] [] false (.join [.sl 9 false (.sl .bool) (.node .own .leaf), .sl 10 false .bool .leaf]
                  (.cond (.t 81)
                    (.seq
                      (.region [o1 82 (.mv (.t 9)),
                        o1 83 (.fAddr 6 (.t 12)),
                        o1 84 (.load false 1 (.t 83)),
                        o1 85 (.ixA 1 (.t 82) (.t 84)),
                        o0 ⟨none, .store 1 (.t 85) (.c (.bool true)), none⟩])
                    (.region [o1 10 (.asg (.c (.bool true)))]))
                    .skip)))))))))
              (.region [o1 21 (.mv (.t 11)),
                o1 22 (.bin .add (.t 21) (.c (.int .i64 1))),
                o1 11 (.asg (.t 22))])))))))))))))))))
  (.seq
    (.region [o1 86 (.mv (.t 9)),
      o1 8 (.asg (.t 86))])
  .ret)))))
def F_ref05_Close : AFn := ⟨ "mergelens/mergelensref05.Close", t_ref05_Close.erase, [.tmp 8], 4⟩
def W_ref05_Close (P : Program) (x : (((List State) × Int) × ((List Bool) × (Bool × Bool)))) (K : (List Bool) → Unit → Prop) : Prop :=
  ((List.length ([] : List Bool) + List.length x.2.1) * 1 ≤ 140737488355328) ∧
  JoinW (D := (List Bool)) (fun J1 => LoopW (D := ((List Bool) × Bool)) ((([] : List Bool) ++ x.2.1), true) (fun (d3 : ((List Bool) × Bool)) J4 => ((d3.2 = true → JoinW (D := ((List Bool) × Bool)) (fun J5 => JoinW (D := ((List Bool) × Bool)) (fun J7 => LoopW (D := ((List Bool) × (Bool × Int))) (d3.1, (false, (0 : Int))) (fun (d9 : ((List Bool) × (Bool × Int))) J10 => (((decide (d9.2.2 < ((List.length d9.1 : Nat) : Int))) = true → JoinW (D := ((List Bool) × Bool)) (fun J11 => (0 ≤ d9.2.2 ∧ d9.2.2 < ((List.length x.1.1 : Nat) : Int)) ∧
  ((Int.toNat d9.2.2) < List.length x.1.1) ∧
  (0 ≤ d9.2.2 ∧ d9.2.2 < ((List.length d9.1 : Nat) : Int)) ∧
  ((Int.toNat d9.2.2) < List.length d9.1) ∧
  (((cond (List.getD d9.1 (Int.toNat d9.2.2) false) (cond (cond ((List.getD x.1.1 (Int.toNat d9.2.2) zState).1 == (1 : Int)) true (cond ((List.getD x.1.1 (Int.toNat d9.2.2) zState).1 == (2 : Int)) x.2.2.1 false)) true (cond ((List.getD x.1.1 (Int.toNat d9.2.2) zState).1 == (3 : Int)) x.2.2.2 false)) false) = true → 0 ≤ (List.getD x.1.1 (Int.toNat d9.2.2) zState).2.2.1 ∧ (List.getD x.1.1 (Int.toNat d9.2.2) zState).2.2.1 < ((List.length d9.1 : Nat) : Int))) ∧
  (((cond (List.getD d9.1 (Int.toNat d9.2.2) false) (cond (cond ((List.getD x.1.1 (Int.toNat d9.2.2) zState).1 == (1 : Int)) true (cond ((List.getD x.1.1 (Int.toNat d9.2.2) zState).1 == (2 : Int)) x.2.2.1 false)) true (cond ((List.getD x.1.1 (Int.toNat d9.2.2) zState).1 == (3 : Int)) x.2.2.2 false)) false) = true → (Int.toNat (List.getD x.1.1 (Int.toNat d9.2.2) zState).2.2.1) < List.length d9.1)) ∧
  JoinW (D := ((List Bool) × Bool)) (fun J13 => (((cond (cond (List.getD d9.1 (Int.toNat d9.2.2) false) (cond (cond ((List.getD x.1.1 (Int.toNat d9.2.2) zState).1 == (1 : Int)) true (cond ((List.getD x.1.1 (Int.toNat d9.2.2) zState).1 == (2 : Int)) x.2.2.1 false)) true (cond ((List.getD x.1.1 (Int.toNat d9.2.2) zState).1 == (3 : Int)) x.2.2.2 false)) false) (!(List.getD d9.1 (Int.toNat (List.getD x.1.1 (Int.toNat d9.2.2) zState).2.2.1) false)) false) = true → (0 ≤ (List.getD x.1.1 (Int.toNat d9.2.2) zState).2.2.1 ∧ (List.getD x.1.1 (Int.toNat d9.2.2) zState).2.2.1 < ((List.length d9.1 : Nat) : Int)) ∧
  ((Int.toNat (List.getD x.1.1 (Int.toNat d9.2.2) zState).2.2.1) < List.length d9.1) ∧
  J13 ((List.set d9.1 (Int.toNat (List.getD x.1.1 (Int.toNat d9.2.2) zState).2.2.1) true), true)) ∧ ((cond (cond (List.getD d9.1 (Int.toNat d9.2.2) false) (cond (cond ((List.getD x.1.1 (Int.toNat d9.2.2) zState).1 == (1 : Int)) true (cond ((List.getD x.1.1 (Int.toNat d9.2.2) zState).1 == (2 : Int)) x.2.2.1 false)) true (cond ((List.getD x.1.1 (Int.toNat d9.2.2) zState).1 == (3 : Int)) x.2.2.2 false)) false) (!(List.getD d9.1 (Int.toNat (List.getD x.1.1 (Int.toNat d9.2.2) zState).2.2.1) false)) false) = false → J13 (d9.1, d9.2.1)))) (fun (d14 : ((List Bool) × Bool)) => (0 ≤ d9.2.2 ∧ d9.2.2 < ((List.length d14.1 : Nat) : Int)) ∧
  ((Int.toNat d9.2.2) < List.length d14.1) ∧
  (((cond (List.getD d14.1 (Int.toNat d9.2.2) false) ((List.getD x.1.1 (Int.toNat d9.2.2) zState).1 == (1 : Int)) false) = true → 0 ≤ (List.getD x.1.1 (Int.toNat d9.2.2) zState).2.2.2 ∧ (List.getD x.1.1 (Int.toNat d9.2.2) zState).2.2.2 < ((List.length d14.1 : Nat) : Int))) ∧
  (((cond (List.getD d14.1 (Int.toNat d9.2.2) false) ((List.getD x.1.1 (Int.toNat d9.2.2) zState).1 == (1 : Int)) false) = true → (Int.toNat (List.getD x.1.1 (Int.toNat d9.2.2) zState).2.2.2) < List.length d14.1)) ∧
  JoinW (D := ((List Bool) × Bool)) (fun J15 => (((cond (cond (List.getD d14.1 (Int.toNat d9.2.2) false) ((List.getD x.1.1 (Int.toNat d9.2.2) zState).1 == (1 : Int)) false) (!(List.getD d14.1 (Int.toNat (List.getD x.1.1 (Int.toNat d9.2.2) zState).2.2.2) false)) false) = true → (0 ≤ (List.getD x.1.1 (Int.toNat d9.2.2) zState).2.2.2 ∧ (List.getD x.1.1 (Int.toNat d9.2.2) zState).2.2.2 < ((List.length d14.1 : Nat) : Int)) ∧
  ((Int.toNat (List.getD x.1.1 (Int.toNat d9.2.2) zState).2.2.2) < List.length d14.1) ∧
  J15 ((List.set d14.1 (Int.toNat (List.getD x.1.1 (Int.toNat d9.2.2) zState).2.2.2) true), true)) ∧ ((cond (cond (List.getD d14.1 (Int.toNat d9.2.2) false) ((List.getD x.1.1 (Int.toNat d9.2.2) zState).1 == (1 : Int)) false) (!(List.getD d14.1 (Int.toNat (List.getD x.1.1 (Int.toNat d9.2.2) zState).2.2.2) false)) false) = false → J15 (d14.1, d14.2)))) (fun (d16 : ((List Bool) × Bool)) => J11 (d16.1, d16.2)))) (fun (d12 : ((List Bool) × Bool)) => J10 (d12.1, (d12.2, (IntKind.i64.wrap (d9.2.2 + (1 : Int))))))) ∧ ((decide (d9.2.2 < ((List.length d9.1 : Nat) : Int))) = false → J7 (d9.1, d9.2.1))))) (fun (d8 : ((List Bool) × Bool)) => J5 (d8.1, d8.2))) (fun (d6 : ((List Bool) × Bool)) => J4 (d6.1, d6.2))) ∧ (d3.2 = false → J1 d3.1)))) (fun (d2 : (List Bool)) => K d2 ())
theorem fn_ref05_Close {P : Program} (h : Has P F_ref05_Close) {x : DP S_ref05_Close.ps} {K : DP S_ref05_Close.rs → DP (ptrs S_ref05_Close.ps) → Prop} (hw : W_ref05_Close P x K) : Fn P "mergelens/mergelensref05.Close" S_ref05_Close x K :=
  fn_of (c := t_ref05_Close) h rfl rfl (by kernel_rfl) (Eq.mpr (show liftT P F_ref05_Close S_ref05_Close t_ref05_Close x K = W_ref05_Close P x K by kernel_rfl) hw)

def t_ref04_Has : TCode :=
  (.seq
    (.region [o1 2 (.box (.t 0)),
      o1 4 (.asg (.c (.bool false)))])
  (.seq
    (.region [o1 5 (.mv (.t 1)),
      o1 6 (.bin .quo (.t 5) (.c (.int .u8 64))),
      o1 7 (.ixAr 4 1 (.t 2) (.t 6)),
      o1 8 (.load false 1 (.t 7)),
      o1 9 (.mv (.t 1)),
      o1 10 (.bin .rem (.t 9) (.c (.int .u8 64))),
      o1 11 (.bin .shr (.t 8) (.t 10)),
      o1 12 (.bin .and (.t 11) (.c (.int .u64 1))),
      o1 13 (.bin .eql (.t 12) (.c (.int .u64 1))),
      o1 4 (.asg (.t 13))])
  .ret))
def F_ref04_Has : AFn := ⟨ "mergelens/mergelensref04.Has", t_ref04_Has.erase, [.tmp 4], 2⟩
def W_ref04_Has (P : Program) (x : ((Int × (Int × (Int × Int))) × Int)) (K : Bool → Unit → Prop) : Prop :=
  ((64 : Int) ≠ 0) ∧
  (0 ≤ (IntKind.u8.wrap (Int.tdiv x.2 (64 : Int))) ∧ (IntKind.u8.wrap (Int.tdiv x.2 (64 : Int))) < ((4 : Nat) : Int)) ∧
  ((Int.toNat (IntKind.u8.wrap (Int.tdiv x.2 (64 : Int)))) < 4) ∧
  ((64 : Int) ≠ 0) ∧
  (0 ≤ (Int.tmod x.2 (64 : Int))) ∧
  K ((IntKind.u64.wrap ((BitVec.toNat (BitVec.ofInt IntKind.u64.bits (Int.fdiv (List.getD [x.1.1, x.1.2.1, x.1.2.2.1, x.1.2.2.2] (Int.toNat (IntKind.u8.wrap (Int.tdiv x.2 (64 : Int)))) (0 : Int)) (2 ^ (min (Int.toNat (Int.tmod x.2 (64 : Int))) IntKind.u64.bits))) &&& BitVec.ofInt IntKind.u64.bits (1 : Int)) : Nat) : Int)) == (1 : Int)) ()
theorem fn_ref04_Has {P : Program} (h : Has P F_ref04_Has) {x : DP S_ref04_Has.ps} {K : DP S_ref04_Has.rs → DP (ptrs S_ref04_Has.ps) → Prop} (hw : W_ref04_Has P x K) : Fn P "mergelens/mergelensref04.Has" S_ref04_Has x K :=
  fn_of (c := t_ref04_Has) h rfl rfl (by kernel_rfl) (Eq.mpr (show liftT P F_ref04_Has S_ref04_Has t_ref04_Has x K = W_ref04_Has P x K by kernel_rfl) hw)


def t_ref05_Ends : TCode :=
  (.seq
    (.region [o1 3 (.box (.t 0)),
      o1 6 (.asg (.c (.slice none 0 0)))])
  (.seq
    (.region [o1 13 (.mv (.t 1)),
      o1 14 (.lenS (.t 13)),
      o1 15 (.bin .add (.t 14) (.c (.int .i64 1))),
      oT ⟨some 16, .mkSl 1 1 [(.bool false)] (.t 15) (.t 15), none⟩ (some (.bool, .leaf)),
      o1 7 (.asg (.t 16))])
  (.seq
    (.region [o1 17 (.fAddr 0 (.t 3)),
      o1 18 (.load false 1 (.t 17)),
      o1 19 (.lenK (.t 18)),
      oT ⟨some 20, .mkSl 1 1 [(.bool false)] (.t 19) (.t 19), none⟩ (some (.bool, .leaf)),
      o1 8 (.asg (.t 20))])
  (.seq
    (.region [o1 21 (.mv (.t 8)),
      o1 22 (.fAddr 1 (.t 3)),
      o1 23 (.load false 1 (.t 22)),
      o1 24 (.ixA 1 (.t 21) (.t 23)),
      o0 ⟨none, .store 1 (.t 24) (.c (.bool true)), none⟩])
  (.seq
    (.seq
      (.region [o1 25 (.mv (.t 2)),
        o1 9 (.asg (.t 25))])
    (.frame [7, 8, 9, 10, 11, 12, 26, 27, 28, 29, 30, 31, 32, 33, 34, 35, 36, 37, 38, 39, 40, 41, 42, 43, 44, 45, 46, 47, 48, 49, 50, 51, 52, 53, 54, 55, 56, 57, 58, 59, 60, 61, 62, 63, 64, 65, 66, 67, 68, 69, 70, 71, 72, 73, 74, 75, 76, 77, 78, 79, 80, 81, 82, 83, 84, 85, 86, 87, 88, 89, 90, 91, 92, 93, 94] [1012] false (.join [.sl 7 false (.sl .bool) (.node .own .leaf)]
    (.block 0
      (.loop [.sl 7 false (.sl .bool) (.node .own .leaf), .sl 8 false (.sl .bool) (.node .own .leaf), .sl 9 false (.int .i64) .leaf]
        (.seq
          (.seq
            (.region [o1 26 (.mv (.t 9)),
              o1 27 (.mv (.t 1)),
              o1 28 (.lenS (.t 27)),
              o1 29 (.bin .leq (.t 26) (.t 28))])
          (.cond (.t 29)
            .skip
            (.exit 0)))
        (.seq
          (.frame [7, 8, 10, 11, 12, 32, 33, 34, 35, 36, 37, 38, 39, 40, 41, 42, 43, 44, 45, 46, 47, 48, 49, 50, 51, 52, 53, 54, 55, 56, 57, 58, 59, 60, 61, 62, 63, 64, 65, 66, 67, 68, 69, 70, 71, 72, 73, 74, 75, 76, 77, 78, 79, 80, 81, 82, 83, 84, 85, 86, 87, 88, 89, 90, 91, 92, 93, 94] [1012] false (.join [.sl 7 false (.sl .bool) (.node .own .leaf), .sl 8 false (.sl .bool) (.node .own .leaf)]
          (.block 1
            (.seq
              (.region [o1 32 (.load true 2 (.t 3)),
                o1 33 (.mv (.t 8)),
                o1 34 (.mv (.t 9)),
                o1 35 (.bin .eql (.t 34) (.c (.int .i64 0))),
                o1 36 (.mv (.t 9)),
                o1 37 (.mv (.t 1)),
                o1 38 (.lenS (.t 37)),
                o1 39 (.bin .eql (.t 36) (.t 38)),
                oS ⟨some 40, .call "mergelens/mergelensref05.Close" [(.t 32), (.t 33), (.t 35), (.t 39)], none⟩ S_ref05_Close,
                o1 8 (.asg (.t 40))])
            (.seq
              (.region [o1 41 (.mv (.t 8)),
                o1 42 (.lenK (.t 41)),
                oT ⟨some 43, .mkSl 1 1 [(.bool false)] (.t 42) (.t 42), none⟩ (some (.bool, .leaf)),
                o1 10 (.asg (.t 43))])
            (.seq
              (.seq
                (.region [o1 11 (.asg (.c (.int .i64 0)))])
              (.frame [7, 10, 11, 12, 44, 45, 46, 47, 48, 49, 50, 51, 52, 53, 54, 55, 56, 57, 58, 59, 60, 61, 62, 63, 64, 65, 66, 67, 68, 69, 70, 71, 72, 73, 74, 75, 76, 77, 78, 79, 80, 81, 82, 83, 84, 85, 86, 87, 88, 89, 90, 91, 92, 93] [1012] false (.join [.sl 7 false (.sl .bool) (.node .own .leaf), .sl 10 false (.sl .bool) (.node .own .leaf)]
              (.block 2
                (.loop [.sl 7 false (.sl .bool) (.node .own .leaf), .sl 10 false (.sl .bool) (.node .own .leaf), .sl 11 false (.int .i64) .leaf]
                  (.seq
                    (.seq
                      (.region [o1 44 (.mv (.t 11)),
                        o1 45 (.mv (.t 8)),
                        o1 46 (.lenK (.t 45)),
                        o1 47 (.bin .lss (.t 44) (.t 46))])
                    (.cond (.t 47)
                      .skip
                      (.exit 2)))
                  (.seq
                    (.frame [7, 10, 12, 50, 51, 52, 53, 54, 55, 56, 57, 58, 59, 60, 61, 62, 63, 64, 65, 66, 67, 68, 69, 70, 71, 72, 73, 74, 75, 76, 77, 78, 79, 80, 81, 82, 83, 84, 85, 86, 87, 88, 89, 90, 91, 92, 93] [1012] false (.join [.sl 7 false (.sl .bool) (.node .own .leaf), .sl 10 false (.sl .bool) (.node .own .leaf)]
                    (.block 3
                      (.seq
                        (.region [o1 50 (.fAddr 0 (.t 3)),
                          o1 51 (.load false 1 (.t 50)),
                          o1 52 (.mv (.t 11)),
                          o1 53 (.ixA 7 (.t 51) (.t 52)),
                          o1 54 (.load true 7 (.t 53)),
                          o1 12 (.alloc [(.int .i64 0), (.int .u64 0), (.int .u64 0), (.int .u64 0), (.int .u64 0), (.int .i64 0), (.int .i64 0)]),
                          o0 ⟨none, .store 7 (.t 12) (.t 54), none⟩])
                      (.seq
                        (.seq
                          (.region [o1 55 (.mv (.t 8)),
                            o1 56 (.mv (.t 11)),
                            o1 57 (.ixA 1 (.t 55) (.t 56)),
                            o1 58 (.load false 1 (.t 57)),
                            o1 59 (.mv (.t 58)),
                            o0 ⟨some 60, .fAddr 0 (.t 12), some (59, true)⟩,
                            o0 ⟨some 61, .load false 1 (.t 60), some (59, true)⟩,
                            o0 ⟨some 62, .bin .eql (.t 61) (.c (.int .i64 4)), some (59, true)⟩,
                            o1 63 (.pick (.t 59) (.t 62) (.c (.bool false)))])
                        (.frame [7, 64, 65, 66] [] false (.join [.sl 7 false (.sl .bool) (.node .own .leaf)]
                        (.cond (.t 63)
                          (.region [o1 64 (.mv (.t 7)),
                            o1 65 (.mv (.t 9)),
                            o1 66 (.ixA 1 (.t 64) (.t 65)),
                            o0 ⟨none, .store 1 (.t 66) (.c (.bool true)), none⟩])
                          .skip))))
                      (.seq
                        (.frame [67, 68, 69, 70, 71, 72, 73, 74, 75, 76, 77, 78, 79, 80, 81, 82, 83, 84, 85, 86, 87, 88, 89] [] false (.join [.sl 89 false .bool .leaf]
                        (.draw [(.first (o1 67 (.mv (.t 8)))
                        (.first (o1 68 (.mv (.t 11)))
                        (.first (o1 69 (.ixA 1 (.t 67) (.t 68)))
                        (.first (o1 70 (.load false 1 (.t 69)))
                        (.first (o1 71 (.mv (.t 70)))
                        (.first (o0 ⟨some 72, .fAddr 0 (.t 12), some (71, true)⟩)
                        (.first (o0 ⟨some 73, .load false 1 (.t 72), some (71, true)⟩)
                        (.first (o0 ⟨some 74, .bin .eql (.t 73) (.c (.int .i64 0)), some (71, true)⟩)
                        (.first (o1 75 (.pick (.t 71) (.t 74) (.c (.bool false))))
                        (.first (o1 76 (.mv (.t 75)))
                        (.first (o0 ⟨some 77, .mv (.t 9), some (76, true)⟩)
                        (.first (o0 ⟨some 78, .mv (.t 1), some (76, true)⟩)
                        (.first (o0 ⟨some 79, .lenS (.t 78), some (76, true)⟩)
                        (.first (o0 ⟨some 80, .bin .lss (.t 77) (.t 79), some (76, true)⟩)
                        (.first (o1 81 (.pick (.t 76) (.t 80) (.c (.bool false))))
                        (.first (o1 82 (.mv (.t 81)))
                        (.first (o0 ⟨some 83, .fAddr 1 (.t 12), some (82, true)⟩)
                        (.first (o0 ⟨some 84, .load true 4 (.t 83), some (82, true)⟩)
                        (.first (o0 ⟨some 85, .mv (.t 1), some (82, true)⟩)
                        (.first (o0 ⟨some 86, .mv (.t 9), some (82, true)⟩)
                        (.first (o0 ⟨some 87, .ixS (.t 85) (.t 86), some (82, true)⟩)
                        (.alt (oS ⟨some 88, .call "mergelens/mergelensref04.Has" [(.t 84), (.t 87)], some (82, true)⟩ S_ref04_Has)
                        (.first (o1 89 (.pick (.t 82) (.t 88) (.c (.bool false))))
                        .done)
                        .stop))))))))))))))))))))))])))
                      (.frame [10, 90, 91, 92, 93] [] false (.join [.sl 10 false (.sl .bool) (.node .own .leaf)]
                      (.cond (.t 89)
                        (.region [o1 90 (.mv (.t 10)),
                          o1 91 (.fAddr 5 (.t 12)),
                          o1 92 (.load false 1 (.t 91)),
                          o1 93 (.ixA 1 (.t 90) (.t 92)),
                          o0 ⟨none, .store 1 (.t 93) (.c (.bool true)), none⟩])
                        .skip)))))))))
                  (.region [o1 48 (.mv (.t 11)),
                    o1 49 (.bin .add (.t 48) (.c (.int .i64 1))),
                    o1 11 (.asg (.t 49))]))))))))
            (.region [o1 94 (.mv (.t 10)),
              o1 8 (.asg (.t 94))])))))))
        (.region [o1 30 (.mv (.t 9)),
          o1 31 (.bin .add (.t 30) (.c (.int .i64 1))),
          o1 9 (.asg (.t 31))]))))))))
  (.seq
    (.region [o1 95 (.mv (.t 7)),
      o1 6 (.asg (.t 95))])
  .ret))))))
def F_ref05_Ends : AFn := ⟨ "mergelens/mergelensref05.Ends", t_ref05_Ends.erase, [.tmp 6], 3⟩
def W_ref05_Ends (P : Program) (x : (((List State) × Int) × ((List UInt8) × Int))) (K : (List Bool) → Unit → Prop) : Prop :=
  (0 ≤ (IntKind.i64.wrap (((List.length x.2.1 : Nat) : Int) + (1 : Int))) ∧ (IntKind.i64.wrap (((List.length x.2.1 : Nat) : Int) + (1 : Int))) ≤ (IntKind.i64.wrap (((List.length x.2.1 : Nat) : Int) + (1 : Int))) ∧ ((1 : Nat) : Int) * (IntKind.i64.wrap (((List.length x.2.1 : Nat) : Int) + (1 : Int))) ≤ 281474976710656) ∧
  (0 ≤ ((List.length x.1.1 : Nat) : Int) ∧ ((List.length x.1.1 : Nat) : Int) ≤ ((List.length x.1.1 : Nat) : Int) ∧ ((1 : Nat) : Int) * ((List.length x.1.1 : Nat) : Int) ≤ 281474976710656) ∧
  (0 ≤ x.1.2 ∧ x.1.2 < ((List.length (List.replicate (Int.toNat ((List.length x.1.1 : Nat) : Int)) false) : Nat) : Int)) ∧
  ((Int.toNat x.1.2) < List.length (List.replicate (Int.toNat ((List.length x.1.1 : Nat) : Int)) false)) ∧
  JoinW (D := (List Bool)) (fun J1 => LoopW (D := ((List Bool) × ((List Bool) × Int))) ((List.replicate (Int.toNat (IntKind.i64.wrap (((List.length x.2.1 : Nat) : Int) + (1 : Int)))) false), ((List.set (List.replicate (Int.toNat ((List.length x.1.1 : Nat) : Int)) false) (Int.toNat x.1.2) true), x.2.2)) (fun (d3 : ((List Bool) × ((List Bool) × Int))) J4 => (((decide (d3.2.2 ≤ ((List.length x.2.1 : Nat) : Int))) = true → JoinW (D := ((List Bool) × (List Bool))) (fun J5 => Fn P "mergelens/mergelensref05.Close" S_ref05_Close ((x.1.1, x.1.2), (d3.2.1, ((d3.2.2 == (0 : Int)), (d3.2.2 == ((List.length x.2.1 : Nat) : Int))))) (fun (d7 : (List Bool)) (e8 : Unit) => (0 ≤ ((List.length d7 : Nat) : Int) ∧ ((List.length d7 : Nat) : Int) ≤ ((List.length d7 : Nat) : Int) ∧ ((1 : Nat) : Int) * ((List.length d7 : Nat) : Int) ≤ 281474976710656) ∧
  JoinW (D := ((List Bool) × (List Bool))) (fun J9 => LoopW (D := ((List Bool) × ((List Bool) × Int))) (d3.1, ((List.replicate (Int.toNat ((List.length d7 : Nat) : Int)) false), (0 : Int))) (fun (d11 : ((List Bool) × ((List Bool) × Int))) J12 => (((decide (d11.2.2 < ((List.length d7 : Nat) : Int))) = true → JoinW (D := ((List Bool) × (List Bool))) (fun J13 => (0 ≤ d11.2.2 ∧ d11.2.2 < ((List.length x.1.1 : Nat) : Int)) ∧
  ((Int.toNat d11.2.2) < List.length x.1.1) ∧
  (0 ≤ d11.2.2 ∧ d11.2.2 < ((List.length d7 : Nat) : Int)) ∧
  ((Int.toNat d11.2.2) < List.length d7) ∧
  JoinW (D := (List Bool)) (fun J15 => (((cond (List.getD d7 (Int.toNat d11.2.2) false) ((List.getD x.1.1 (Int.toNat d11.2.2) zState).1 == (4 : Int)) false) = true → (0 ≤ d3.2.2 ∧ d3.2.2 < ((List.length d11.1 : Nat) : Int)) ∧
  ((Int.toNat d3.2.2) < List.length d11.1) ∧
  J15 (List.set d11.1 (Int.toNat d3.2.2) true)) ∧ ((cond (List.getD d7 (Int.toNat d11.2.2) false) ((List.getD x.1.1 (Int.toNat d11.2.2) zState).1 == (4 : Int)) false) = false → J15 d11.1))) (fun (d16 : (List Bool)) => JoinW (D := Bool) (fun J17 => (0 ≤ d11.2.2 ∧ d11.2.2 < ((List.length d7 : Nat) : Int)) ∧
  ((Int.toNat d11.2.2) < List.length d7) ∧
  (((cond (cond (List.getD d7 (Int.toNat d11.2.2) false) ((List.getD x.1.1 (Int.toNat d11.2.2) zState).1 == (0 : Int)) false) (decide (d3.2.2 < ((List.length x.2.1 : Nat) : Int))) false) = true → 0 ≤ d3.2.2 ∧ d3.2.2 < ((List.length x.2.1 : Nat) : Int))) ∧
  (JoinW (D := Bool) (fun J19 => (((cond (cond (List.getD d7 (Int.toNat d11.2.2) false) ((List.getD x.1.1 (Int.toNat d11.2.2) zState).1 == (0 : Int)) false) (decide (d3.2.2 < ((List.length x.2.1 : Nat) : Int))) false) = true → Fn P "mergelens/mergelensref04.Has" S_ref04_Has (((List.getD x.1.1 (Int.toNat d11.2.2) zState).2.1.1, ((List.getD x.1.1 (Int.toNat d11.2.2) zState).2.1.2.1, ((List.getD x.1.1 (Int.toNat d11.2.2) zState).2.1.2.2.1, (List.getD x.1.1 (Int.toNat d11.2.2) zState).2.1.2.2.2))), ((UInt8.toNat (List.getD x.2.1 (Int.toNat d3.2.2) 0) : Nat) : Int)) (fun (d20 : Bool) _ => J19 d20)) ∧ (((cond (cond (List.getD d7 (Int.toNat d11.2.2) false) ((List.getD x.1.1 (Int.toNat d11.2.2) zState).1 == (0 : Int)) false) (decide (d3.2.2 < ((List.length x.2.1 : Nat) : Int))) false) = false → J19 false) ∧ True))) (fun d21 => J17 (cond (cond (cond (List.getD d7 (Int.toNat d11.2.2) false) ((List.getD x.1.1 (Int.toNat d11.2.2) zState).1 == (0 : Int)) false) (decide (d3.2.2 < ((List.length x.2.1 : Nat) : Int))) false) d21 false))) ∧ (True)) (fun (d18 : Bool) => JoinW (D := (List Bool)) (fun J22 => ((d18 = true → (0 ≤ (List.getD x.1.1 (Int.toNat d11.2.2) zState).2.2.1 ∧ (List.getD x.1.1 (Int.toNat d11.2.2) zState).2.2.1 < ((List.length d11.2.1 : Nat) : Int)) ∧
  ((Int.toNat (List.getD x.1.1 (Int.toNat d11.2.2) zState).2.2.1) < List.length d11.2.1) ∧
  J22 (List.set d11.2.1 (Int.toNat (List.getD x.1.1 (Int.toNat d11.2.2) zState).2.2.1) true)) ∧ (d18 = false → J22 d11.2.1))) (fun (d23 : (List Bool)) => J13 (d16, d23))))) (fun (d14 : ((List Bool) × (List Bool))) => J12 (d14.1, (d14.2, (IntKind.i64.wrap (d11.2.2 + (1 : Int))))))) ∧ ((decide (d11.2.2 < ((List.length d7 : Nat) : Int))) = false → J9 (d11.1, d11.2.1))))) (fun (d10 : ((List Bool) × (List Bool))) => J5 (d10.1, d10.2)))) (fun (d6 : ((List Bool) × (List Bool))) => J4 (d6.1, (d6.2, (IntKind.i64.wrap (d3.2.2 + (1 : Int))))))) ∧ ((decide (d3.2.2 ≤ ((List.length x.2.1 : Nat) : Int))) = false → J1 d3.1)))) (fun (d2 : (List Bool)) => K d2 ())
theorem fn_ref05_Ends {P : Program} (h : Has P F_ref05_Ends) {x : DP S_ref05_Ends.ps} {K : DP S_ref05_Ends.rs → DP (ptrs S_ref05_Ends.ps) → Prop} (hw : W_ref05_Ends P x K) : Fn P "mergelens/mergelensref05.Ends" S_ref05_Ends x K :=
  fn_of (c := t_ref05_Ends) h rfl rfl (by kernel_rfl) (Eq.mpr (show liftT P F_ref05_Ends S_ref05_Ends t_ref05_Ends x K = W_ref05_Ends P x K by kernel_rfl) hw)

def t_law05_awake : TCode :=
  (.seq
    (.region [o1 0 (.asg (.c (.bool false)))])
  (.seq
    (.region [oS ⟨some 7, .call "mergelens/mergelensref04.Parse" [(.c (.string ⟨#[97]⟩))], none⟩ S_ref04_Parse,
      o1 6 (.mv (.t 7)),
      o1 8 (.ext (.t 6) 0),
      o1 9 (.ext (.t 6) 1),
      o1 1 (.asg (.t 8)),
      o1 2 (.asg (.t 9))])
  (.seq
    (.frz [1]
    (.region [o1 11 (.mv (.t 1)),
      oS ⟨some 12, .call "mergelens/automaton.Build" [(.t 11)], none⟩ S_automaton_Build,
      o1 10 (.mv (.t 12)),
      o1 13 (.ext (.t 10) 0),
      o1 14 (.ext (.t 10) 1),
      o1 3 (.alloc [(.slice none 0 0), (.int .i64 0)]),
      o0 ⟨none, .store 2 (.t 3) (.t 13), none⟩,
      o1 4 (.asg (.t 14))]))
  (.seq
    (.seq
      (.region [o1 15 (.mv (.t 4)),
        o1 16 (.bin .neq (.t 15) (.c (.int .i64 0))),
        o1 17 (.mv (.t 16)),
        o0 ⟨some 18, .load true 2 (.t 3), some (17, false)⟩,
        oS ⟨some 19, .call "mergelens/mergelensref05.Check" [(.t 18)], some (17, false)⟩ S_ref05_Check,
        o0 ⟨some 20, .bin .neq (.t 19) (.c (.int .i64 0)), some (17, false)⟩,
        o1 21 (.pick (.t 17) (.c (.bool true)) (.t 20))])
    (.cond (.t 21)
      (.seq
        (.region [o1 0 (.asg (.c (.bool false)))])
      .ret)
      .skip))
  (.seq
    (.region [o1 22 (.load true 2 (.t 3)),
      oS ⟨some 23, .call "mergelens/mergelensref05.Ends" [(.t 22), (.c (.string ⟨#[97]⟩)), (.c (.int .i64 0))], none⟩ S_ref05_Ends,
      o1 5 (.asg (.t 23))])
  (.seq
    (.region [o1 24 (.mv (.t 5)),
      o1 25 (.ixA 1 (.t 24) (.c (.int .i64 1))),
      o1 26 (.load false 1 (.t 25)),
      o1 27 (.mv (.t 26)),
      o0 ⟨some 28, .mv (.t 5), some (27, true)⟩,
      o0 ⟨some 29, .ixA 1 (.t 28) (.c (.int .i64 0)), some (27, true)⟩,
      o0 ⟨some 30, .load false 1 (.t 29), some (27, true)⟩,
      o0 ⟨some 31, .un .not (.t 30), some (27, true)⟩,
      o1 32 (.pick (.t 27) (.t 31) (.c (.bool false))),
      o1 33 (.mv (.t 32)),
      o0 ⟨some 34, .load true 2 (.t 3), some (33, true)⟩,
      oS ⟨some 35, .call "mergelens/automaton.Check" [(.t 34)], some (33, true)⟩ S_automaton_Check,
      o0 ⟨some 36, .bin .eql (.t 35) (.c (.int .i64 0)), some (33, true)⟩,
      o1 37 (.pick (.t 33) (.t 36) (.c (.bool false))),
      o1 38 (.mv (.t 37)),
      o0 ⟨some 39, .build [(.slice none 0 0), (.int .i64 0)] [], some (38, true)⟩,
      oS ⟨some 40, .call "mergelens/automaton.Check" [(.t 39)], some (38, true)⟩ S_automaton_Check,
      o0 ⟨some 41, .bin .eql (.t 40) (.c (.int .i64 2)), some (38, true)⟩,
      o1 42 (.pick (.t 38) (.t 41) (.c (.bool false))),
      o1 0 (.asg (.t 42))])
  .ret))))))
def F_law05_awake : AFn := ⟨ "mergelens/mergelenslaw05.awake", t_law05_awake.erase, [.tmp 0], 0⟩
def W_law05_awake (P : Program) (x : Unit) (K : Bool → Unit → Prop) : Prop :=
  Fn P "mergelens/mergelensref04.Parse" S_ref04_Parse ([97] : List UInt8) (fun (d1 : ((List Node) × Int)) (e2 : Unit) => Fn P "mergelens/automaton.Build" S_automaton_Build d1.1 (fun (d3 : (((List State) × Int) × Int)) (e4 : Unit) => JoinW (D := Int) (fun J5 => (((d3.2 != (0 : Int)) = false → Fn P "mergelens/mergelensref05.Check" S_ref05_Check (d3.1.1, d3.1.2) (fun (d6 : Int) _ => J5 d6)) ∧ (((d3.2 != (0 : Int)) = true → J5 (0 : Int)) ∧ True))) (fun d7 => (((cond (d3.2 != (0 : Int)) true (d7 != (0 : Int))) = true → K false ()) ∧ ((cond (d3.2 != (0 : Int)) true (d7 != (0 : Int))) = false → Fn P "mergelens/mergelensref05.Ends" S_ref05_Ends ((d3.1.1, d3.1.2), (([97] : List UInt8), (0 : Int))) (fun (d8 : (List Bool)) (e9 : Unit) => (0 ≤ (1 : Int) ∧ (1 : Int) < ((List.length d8 : Nat) : Int)) ∧
  ((Int.toNat (1 : Int)) < List.length d8) ∧
  (((List.getD d8 (Int.toNat (1 : Int)) false) = true → 0 ≤ (0 : Int) ∧ (0 : Int) < ((List.length d8 : Nat) : Int))) ∧
  (((List.getD d8 (Int.toNat (1 : Int)) false) = true → (Int.toNat (0 : Int)) < List.length d8)) ∧
  JoinW (D := Int) (fun J10 => (((cond (List.getD d8 (Int.toNat (1 : Int)) false) (!(List.getD d8 (Int.toNat (0 : Int)) false)) false) = true → Fn P "mergelens/automaton.Check" S_automaton_Check (d3.1.1, d3.1.2) (fun (d11 : Int) _ => J10 d11)) ∧ (((cond (List.getD d8 (Int.toNat (1 : Int)) false) (!(List.getD d8 (Int.toNat (0 : Int)) false)) false) = false → J10 (0 : Int)) ∧ True))) (fun d12 => JoinW (D := Int) (fun J13 => (((cond (cond (List.getD d8 (Int.toNat (1 : Int)) false) (!(List.getD d8 (Int.toNat (0 : Int)) false)) false) (d12 == (0 : Int)) false) = true → Fn P "mergelens/automaton.Check" S_automaton_Check ([], (0 : Int)) (fun (d14 : Int) _ => J13 d14)) ∧ (((cond (cond (List.getD d8 (Int.toNat (1 : Int)) false) (!(List.getD d8 (Int.toNat (0 : Int)) false)) false) (d12 == (0 : Int)) false) = false → J13 (0 : Int)) ∧ True))) (fun d15 => K (cond (cond (cond (List.getD d8 (Int.toNat (1 : Int)) false) (!(List.getD d8 (Int.toNat (0 : Int)) false)) false) (d12 == (0 : Int)) false) (d15 == (2 : Int)) false) ()))))))))
theorem fn_law05_awake {P : Program} (h : Has P F_law05_awake) {x : DP S_law05_awake.ps} {K : DP S_law05_awake.rs → DP (ptrs S_law05_awake.ps) → Prop} (hw : W_law05_awake P x K) : Fn P "mergelens/mergelenslaw05.awake" S_law05_awake x K :=
  fn_of (c := t_law05_awake) h rfl rfl (by kernel_rfl) (Eq.mpr (show liftT P F_law05_awake S_law05_awake t_law05_awake x K = W_law05_awake P x K by kernel_rfl) hw)

def t_ref04_Check : TCode :=
  (.seq
    (.region [o1 2 (.asg (.c (.int .i64 0)))])
  (.seq
    (.seq
      (.region [o1 7 (.mv (.t 0)),
        o1 8 (.lenK (.t 7)),
        o1 9 (.bin .eql (.t 8) (.c (.int .i64 0))),
        o1 10 (.mv (.t 9)),
        o0 ⟨some 11, .mv (.t 0), some (10, false)⟩,
        o0 ⟨some 12, .lenK (.t 11), some (10, false)⟩,
        o0 ⟨some 13, .bin .gtr (.t 12) (.c (.int .i64 4000)), some (10, false)⟩,
        o1 14 (.pick (.t 10) (.c (.bool true)) (.t 13))])
    (.cond (.t 14)
      (.seq
        (.region [o1 2 (.asg (.c (.int .i64 2)))])
      .ret)
      .skip))
  (.seq
    (.seq
      (.region [o1 3 (.asg (.c (.int .i64 0)))])
    (.frame [2, 3, 4, 5, 6, 15, 16, 17, 18, 19, 20, 21, 22, 23, 24, 25, 26, 27, 28, 29, 30, 31, 32, 33, 34, 35, 36, 37, 38, 39, 40, 41, 42, 43, 44, 45, 46, 47, 48, 49, 50, 51, 52, 53, 54, 55, 56, 57, 58, 59, 60, 61, 62, 63, 64, 65, 66, 67, 68, 69, 70, 71, 72, 73, 74, 75, 76, 77, 78, 79, 80, 81, 82, 83, 84, 85, 86, 87, 88, 89, 90, 91, 92, 93, 94, 95, 96, 97, 98, 99, 100, 101, 102, 103, 104] [1004] false (.join [.sl 2 false (.int .i64) .leaf]
    (.block 0
      (.loop [.sl 2 false (.int .i64) .leaf, .sl 3 false (.int .i64) .leaf]
        (.seq
          (.seq
            (.region [o1 15 (.mv (.t 3)),
              o1 16 (.mv (.t 0)),
              o1 17 (.lenK (.t 16)),
              o1 18 (.bin .lss (.t 15) (.t 17))])
          (.cond (.t 18)
            .skip
            (.exit 0)))
        (.seq
          (.frame [2, 4, 5, 6, 21, 22, 23, 24, 25, 26, 27, 28, 29, 30, 31, 32, 33, 34, 35, 36, 37, 38, 39, 40, 41, 42, 43, 44, 45, 46, 47, 48, 49, 50, 51, 52, 53, 54, 55, 56, 57, 58, 59, 60, 61, 62, 63, 64, 65, 66, 67, 68, 69, 70, 71, 72, 73, 74, 75, 76, 77, 78, 79, 80, 81, 82, 83, 84, 85, 86, 87, 88, 89, 90, 91, 92, 93, 94, 95, 96, 97, 98, 99, 100, 101, 102, 103, 104] [1004] false (.join [.sl 2 false (.int .i64) .leaf]
          (.block 1
            (.seq
              (.region [o1 21 (.mv (.t 0)),
                o1 22 (.mv (.t 3)),
                o1 23 (.ixA 8 (.t 21) (.t 22)),
                o1 24 (.load true 8 (.t 23)),
                o1 4 (.alloc [(.int .i64 0), (.int .u64 0), (.int .u64 0), (.int .u64 0), (.int .u64 0), (.int .i64 0), (.int .i64 0), (.slice none 0 0)]),
                o0 ⟨none, .store 8 (.t 4) (.t 24), none⟩])
            (.seq
              (.seq
                (.region [o1 5 (.asg (.c (.int .i64 0)))])
              (.frame [2, 5, 25, 26, 27, 28, 29, 30, 31, 32, 33, 34, 35, 36, 37, 38, 39, 40, 41, 42, 43, 44, 45, 46] [] false (.join [.sl 2 false (.int .i64) .leaf]
              (.block 2
                (.loop [.sl 2 false (.int .i64) .leaf, .sl 5 false (.int .i64) .leaf]
                  (.seq
                    (.seq
                      (.region [o1 25 (.mv (.t 5)),
                        o1 26 (.fAddr 7 (.t 4)),
                        o1 27 (.load false 1 (.t 26)),
                        o1 28 (.lenK (.t 27)),
                        o1 29 (.bin .lss (.t 25) (.t 28))])
                    (.cond (.t 29)
                      .skip
                      (.exit 2)))
                  (.seq
                    (.frame [2, 32, 33, 34, 35, 36, 37, 38, 39, 40, 41, 42, 43, 44, 45, 46] [] false (.join [.sl 2 false (.int .i64) .leaf]
                    (.block 3
                      (.seq
                        (.region [o1 32 (.fAddr 7 (.t 4)),
                          o1 33 (.load false 1 (.t 32)),
                          o1 34 (.mv (.t 5)),
                          o1 35 (.ixA 1 (.t 33) (.t 34)),
                          o1 36 (.load false 1 (.t 35)),
                          o1 37 (.bin .lss (.t 36) (.c (.int .i64 0))),
                          o1 38 (.mv (.t 37)),
                          o0 ⟨some 39, .fAddr 7 (.t 4), some (38, false)⟩,
                          o0 ⟨some 40, .load false 1 (.t 39), some (38, false)⟩,
                          o0 ⟨some 41, .mv (.t 5), some (38, false)⟩,
                          o0 ⟨some 42, .ixA 1 (.t 40) (.t 41), some (38, false)⟩,
                          o0 ⟨some 43, .load false 1 (.t 42), some (38, false)⟩,
                          o0 ⟨some 44, .mv (.t 3), some (38, false)⟩,
                          o0 ⟨some 45, .bin .geq (.t 43) (.t 44), some (38, false)⟩,
                          o1 46 (.pick (.t 38) (.c (.bool true)) (.t 45))])
                      (.cond (.t 46)
                        (.seq
                          (.region [o1 2 (.asg (.c (.int .i64 2)))])
                        .ret)
                        .skip)))))
                  (.region [o1 30 (.mv (.t 5)),
                    o1 31 (.bin .add (.t 30) (.c (.int .i64 1))),
                    o1 5 (.asg (.t 31))]))))))))
            (.seq
              (.region [o1 47 (.fAddr 7 (.t 4)),
                o1 48 (.load false 1 (.t 47)),
                o1 49 (.lenK (.t 48)),
                o1 50 (.bin .eql (.t 49) (.c (.int .i64 0))),
                o1 6 (.asg (.t 50))])
            (.seq
              (.seq
                (.region [o1 51 (.fAddr 0 (.t 4)),
                  o1 52 (.load false 1 (.t 51))])
              (.frame [6, 53, 54, 55, 56, 57, 58, 59, 60, 61, 62, 63, 64, 65, 66, 67, 68, 69, 70, 71, 72, 73, 74, 75, 76, 77, 78, 79, 80, 81, 82, 83, 84, 85, 86, 87, 88, 89, 90, 91, 92] [] false (.join [.sl 6 false .bool .leaf]
              (.block 4
                (.seq
                  (.region [o1 54 (.bin .eql (.t 52) (.c (.int .i64 6))),
                    o1 53 (.asg (.t 54))])
                (.frame [6, 55, 56, 57, 58, 59, 60, 61, 62, 63, 64, 65, 66, 67, 68, 69, 70, 71, 72, 73, 74, 75, 76, 77, 78, 79, 80, 81, 82, 83, 84, 85, 86, 87, 88, 89, 90, 91, 92] [] false (.join [.sl 6 false .bool .leaf]
                (.cond (.t 53)
                  (.region [o1 55 (.fAddr 7 (.t 4)),
                    o1 56 (.load false 1 (.t 55)),
                    o1 57 (.lenK (.t 56)),
                    o1 58 (.bin .eql (.t 57) (.c (.int .i64 1))),
                    o1 59 (.mv (.t 58)),
                    o0 ⟨some 60, .fAddr 5 (.t 4), some (59, true)⟩,
                    o0 ⟨some 61, .load false 1 (.t 60), some (59, true)⟩,
                    o0 ⟨some 62, .bin .geq (.t 61) (.c (.int .i64 0)), some (59, true)⟩,
                    o1 63 (.pick (.t 59) (.t 62) (.c (.bool false))),
                    o1 64 (.mv (.t 63)),
                    o0 ⟨some 65, .fAddr 5 (.t 4), some (64, true)⟩,
                    o0 ⟨some 66, .load false 1 (.t 65), some (64, true)⟩,
                    o0 ⟨some 67, .bin .leq (.t 66) (.c (.int .i64 100)), some (64, true)⟩,
                    o1 68 (.pick (.t 64) (.t 67) (.c (.bool false))),
                    o1 69 (.mv (.t 68)),
                    o0 ⟨some 70, .fAddr 6 (.t 4), some (69, true)⟩,
                    o0 ⟨some 71, .load false 1 (.t 70), some (69, true)⟩,
                    o0 ⟨some 72, .bin .eql (.t 71) (.c (.int .i64 (-1))), some (69, true)⟩,
                    o0 ⟨some 73, .mv (.t 72), some (69, true)⟩,
                    o0 ⟨some 74, .fAddr 6 (.t 4), some (73, false)⟩,
                    o0 ⟨some 75, .load false 1 (.t 74), some (73, false)⟩,
                    o0 ⟨some 76, .fAddr 5 (.t 4), some (73, false)⟩,
                    o0 ⟨some 77, .load false 1 (.t 76), some (73, false)⟩,
                    o0 ⟨some 78, .bin .geq (.t 75) (.t 77), some (73, false)⟩,
                    o0 ⟨some 79, .mv (.t 78), some (73, false)⟩,
                    o0 ⟨some 80, .fAddr 6 (.t 4), some (79, true)⟩,
                    o0 ⟨some 81, .load false 1 (.t 80), some (79, true)⟩,
                    o0 ⟨some 82, .bin .leq (.t 81) (.c (.int .i64 100)), some (79, true)⟩,
                    o0 ⟨some 83, .pick (.t 79) (.t 82) (.c (.bool false)), some (73, false)⟩,
                    o0 ⟨some 84, .pick (.t 73) (.c (.bool true)) (.t 83), some (69, true)⟩,
                    o1 85 (.pick (.t 69) (.t 84) (.c (.bool false))),
                    o1 6 (.asg (.t 85))])
                  (.seq
                    (.seq
                      (.region [o1 87 (.bin .eql (.t 52) (.c (.int .i64 4))),
                        o1 86 (.asg (.t 87))])
                    (.frame [86, 88] [] false (.join [.sl 86 false .bool .leaf]
                    (.cond (.t 86)
                      .skip
                      (.region [o1 88 (.bin .eql (.t 52) (.c (.int .i64 5))),
                        o1 86 (.asg (.t 88))])))))
                  (.frame [6, 89, 90, 91, 92] [] false (.join [.sl 6 false .bool .leaf]
                  (.cond (.t 86)
                    (.region [o1 89 (.fAddr 7 (.t 4)),
                      o1 90 (.load false 1 (.t 89)),
                      o1 91 (.lenK (.t 90)),
                      o1 92 (.bin .geq (.t 91) (.c (.int .i64 2))),
                      o1 6 (.asg (.t 92))])
                    .skip))))))))))))
            (.seq
              (.region [o1 93 (.mv (.t 6)),
                o1 94 (.un .not (.t 93)),
                o1 95 (.mv (.t 94)),
                o0 ⟨some 96, .fAddr 0 (.t 4), some (95, false)⟩,
                o0 ⟨some 97, .load false 1 (.t 96), some (95, false)⟩,
                o0 ⟨some 98, .bin .lss (.t 97) (.c (.int .i64 0)), some (95, false)⟩,
                o1 99 (.pick (.t 95) (.c (.bool true)) (.t 98)),
                o1 100 (.mv (.t 99)),
                o0 ⟨some 101, .fAddr 0 (.t 4), some (100, false)⟩,
                o0 ⟨some 102, .load false 1 (.t 101), some (100, false)⟩,
                o0 ⟨some 103, .bin .gtr (.t 102) (.c (.int .i64 6)), some (100, false)⟩,
                o1 104 (.pick (.t 100) (.c (.bool true)) (.t 103))])
            (.cond (.t 104)
              (.seq
                (.region [o1 2 (.asg (.c (.int .i64 2)))])
              .ret)
              .skip)))))))))
        (.region [o1 19 (.mv (.t 3)),
          o1 20 (.bin .add (.t 19) (.c (.int .i64 1))),
          o1 3 (.asg (.t 20))]))))))))
  (.seq
    (.region [o1 2 (.asg (.c (.int .i64 0)))])
  .ret))))
def F_ref04_Check : AFn := ⟨ "mergelens/mergelensref04.Check", t_ref04_Check.erase, [.tmp 2], 1⟩
def W_ref04_Check (P : Program) (x : (List Node)) (K : Int → Unit → Prop) : Prop :=
  (((cond (((List.length x : Nat) : Int) == (0 : Int)) true (decide (((List.length x : Nat) : Int) > (4000 : Int)))) = true → K (2 : Int) ()) ∧ ((cond (((List.length x : Nat) : Int) == (0 : Int)) true (decide (((List.length x : Nat) : Int) > (4000 : Int)))) = false → JoinW (D := Int) (fun J1 => LoopW (D := (Int × Int)) ((0 : Int), (0 : Int)) (fun (d3 : (Int × Int)) J4 => (((decide (d3.2 < ((List.length x : Nat) : Int))) = true → JoinW (D := Int) (fun J5 => (0 ≤ d3.2 ∧ d3.2 < ((List.length x : Nat) : Int)) ∧
  ((Int.toNat d3.2) < List.length x) ∧
  JoinW (D := Int) (fun J7 => LoopW (D := (Int × Int)) (d3.1, (0 : Int)) (fun (d9 : (Int × Int)) J10 => (((decide (d9.2 < ((List.length (List.getD x (Int.toNat d3.2) zNode).2.2.2.2 : Nat) : Int))) = true → JoinW (D := Int) (fun J11 => (0 ≤ d9.2 ∧ d9.2 < ((List.length (List.getD x (Int.toNat d3.2) zNode).2.2.2.2 : Nat) : Int)) ∧
  ((Int.toNat d9.2) < List.length (List.getD x (Int.toNat d3.2) zNode).2.2.2.2) ∧
  (((decide ((List.getD (List.getD x (Int.toNat d3.2) zNode).2.2.2.2 (Int.toNat d9.2) (0 : Int)) < (0 : Int))) = false → 0 ≤ d9.2 ∧ d9.2 < ((List.length (List.getD x (Int.toNat d3.2) zNode).2.2.2.2 : Nat) : Int))) ∧
  (((decide ((List.getD (List.getD x (Int.toNat d3.2) zNode).2.2.2.2 (Int.toNat d9.2) (0 : Int)) < (0 : Int))) = false → (Int.toNat d9.2) < List.length (List.getD x (Int.toNat d3.2) zNode).2.2.2.2)) ∧
  (((cond (decide ((List.getD (List.getD x (Int.toNat d3.2) zNode).2.2.2.2 (Int.toNat d9.2) (0 : Int)) < (0 : Int))) true (decide ((List.getD (List.getD x (Int.toNat d3.2) zNode).2.2.2.2 (Int.toNat d9.2) (0 : Int)) ≥ d3.2))) = true → K (2 : Int) ()) ∧ ((cond (decide ((List.getD (List.getD x (Int.toNat d3.2) zNode).2.2.2.2 (Int.toNat d9.2) (0 : Int)) < (0 : Int))) true (decide ((List.getD (List.getD x (Int.toNat d3.2) zNode).2.2.2.2 (Int.toNat d9.2) (0 : Int)) ≥ d3.2))) = false → J11 d9.1))) (fun (d12 : Int) => J10 (d12, (IntKind.i64.wrap (d9.2 + (1 : Int)))))) ∧ ((decide (d9.2 < ((List.length (List.getD x (Int.toNat d3.2) zNode).2.2.2.2 : Nat) : Int))) = false → J7 d9.1)))) (fun (d8 : Int) => JoinW (D := Bool) (fun J13 => JoinW (D := Bool) (fun J15 => ((((List.getD x (Int.toNat d3.2) zNode).1 == (6 : Int)) = true → J15 (cond (cond (cond (((List.length (List.getD x (Int.toNat d3.2) zNode).2.2.2.2 : Nat) : Int) == (1 : Int)) (decide ((List.getD x (Int.toNat d3.2) zNode).2.2.1 ≥ (0 : Int))) false) (decide ((List.getD x (Int.toNat d3.2) zNode).2.2.1 ≤ (100 : Int))) false) (cond ((List.getD x (Int.toNat d3.2) zNode).2.2.2.1 == (-1 : Int)) true (cond (decide ((List.getD x (Int.toNat d3.2) zNode).2.2.2.1 ≥ (List.getD x (Int.toNat d3.2) zNode).2.2.1)) (decide ((List.getD x (Int.toNat d3.2) zNode).2.2.2.1 ≤ (100 : Int))) false)) false)) ∧ (((List.getD x (Int.toNat d3.2) zNode).1 == (6 : Int)) = false → JoinW (D := Bool) (fun J17 => ((((List.getD x (Int.toNat d3.2) zNode).1 == (4 : Int)) = true → J17 ((List.getD x (Int.toNat d3.2) zNode).1 == (4 : Int))) ∧ (((List.getD x (Int.toNat d3.2) zNode).1 == (4 : Int)) = false → J17 ((List.getD x (Int.toNat d3.2) zNode).1 == (5 : Int))))) (fun (d18 : Bool) => JoinW (D := Bool) (fun J19 => ((d18 = true → J19 (decide (((List.length (List.getD x (Int.toNat d3.2) zNode).2.2.2.2 : Nat) : Int) ≥ (2 : Int)))) ∧ (d18 = false → J19 (((List.length (List.getD x (Int.toNat d3.2) zNode).2.2.2.2 : Nat) : Int) == (0 : Int))))) (fun (d20 : Bool) => J15 d20))))) (fun (d16 : Bool) => J13 d16)) (fun (d14 : Bool) => (((cond (cond (!d14) true (decide ((List.getD x (Int.toNat d3.2) zNode).1 < (0 : Int)))) true (decide ((List.getD x (Int.toNat d3.2) zNode).1 > (6 : Int)))) = true → K (2 : Int) ()) ∧ ((cond (cond (!d14) true (decide ((List.getD x (Int.toNat d3.2) zNode).1 < (0 : Int)))) true (decide ((List.getD x (Int.toNat d3.2) zNode).1 > (6 : Int)))) = false → J5 d8))))) (fun (d6 : Int) => J4 (d6, (IntKind.i64.wrap (d3.2 + (1 : Int)))))) ∧ ((decide (d3.2 < ((List.length x : Nat) : Int))) = false → J1 d3.1)))) (fun (d2 : Int) => K (0 : Int) ())))
theorem fn_ref04_Check {P : Program} (h : Has P F_ref04_Check) {x : DP S_ref04_Check.ps} {K : DP S_ref04_Check.rs → DP (ptrs S_ref04_Check.ps) → Prop} (hw : W_ref04_Check P x K) : Fn P "mergelens/mergelensref04.Check" S_ref04_Check x K :=
  fn_of (c := t_ref04_Check) h rfl rfl (by kernel_rfl) (Eq.mpr (show liftT P F_ref04_Check S_ref04_Check t_ref04_Check x K = W_ref04_Check P x K by kernel_rfl) hw)

def t_ref04_capped : TCode :=
  (.seq
    (.region [o1 2 (.asg (.c (.int .i64 0)))])
  (.seq
    (.region [o1 3 (.mv (.t 0)),
      o1 4 (.mm false (.t 3) (.c (.int .i64 4001))),
      o1 2 (.asg (.t 4))])
  .ret))
def F_ref04_capped : AFn := ⟨ "mergelens/mergelensref04.capped", t_ref04_capped.erase, [.tmp 2], 1⟩
def W_ref04_capped (P : Program) (x : Int) (K : Int → Unit → Prop) : Prop :=
  K (if (4001 : Int) < x then (4001 : Int) else x) ()
theorem fn_ref04_capped {P : Program} (h : Has P F_ref04_capped) {x : DP S_ref04_capped.ps} {K : DP S_ref04_capped.rs → DP (ptrs S_ref04_capped.ps) → Prop} (hw : W_ref04_capped P x K) : Fn P "mergelens/mergelensref04.capped" S_ref04_capped x K :=
  fn_of (c := t_ref04_capped) h rfl rfl (by kernel_rfl) (Eq.mpr (show liftT P F_ref04_capped S_ref04_capped t_ref04_capped x K = W_ref04_capped P x K by kernel_rfl) hw)

def t_ref04_Weight : TCode :=
  (.seq
    (.region [o1 2 (.asg (.c (.int .i64 0))),
      o1 3 (.asg (.c (.int .i64 0)))])
  (.seq
    (.seq
      (.region [o1 9 (.mv (.t 0)),
        oS ⟨some 10, .call "mergelens/mergelensref04.Check" [(.t 9)], none⟩ S_ref04_Check,
        o1 11 (.bin .neq (.t 10) (.c (.int .i64 0)))])
    (.cond (.t 11)
      (.seq
        (.region [o1 2 (.asg (.c (.int .i64 0))),
          o1 3 (.asg (.c (.int .i64 2)))])
      .ret)
      .skip))
  (.seq
    (.region [o1 4 (.asg (.c (.slice none 0 0)))])
  (.seq
    (.seq
      (.region [o1 5 (.asg (.c (.int .i64 0)))])
    (.frame [4, 5, 6, 7, 8, 12, 13, 14, 15, 16, 17, 18, 19, 20, 21, 22, 23, 24, 25, 26, 27, 28, 29, 30, 31, 32, 33, 34, 35, 36, 37, 38, 39, 40, 41, 42, 43, 44, 45, 46, 47, 48, 49, 50, 51, 52, 53, 54, 55, 56, 57, 58, 59, 60, 61, 62, 63, 64, 65, 66, 67, 68, 69, 70, 71, 72, 73, 74, 75, 76, 77, 78, 79, 80, 81, 82, 83, 84, 85, 86, 87, 88, 89, 90, 91, 92, 93, 94, 95, 96, 97] [] false (.join [.sl 4 false (.sl (.int .i64)) (.node .own .leaf)]
    (.block 0
      (.loop [.sl 4 false (.sl (.int .i64)) (.node .own .leaf), .sl 5 false (.int .i64) .leaf]
        (.seq
          (.seq
            (.region [o1 12 (.mv (.t 5)),
              o1 13 (.mv (.t 0)),
              o1 14 (.lenK (.t 13)),
              o1 15 (.bin .lss (.t 12) (.t 14))])
          (.cond (.t 15)
            .skip
            (.exit 0)))
        (.seq
          (.frame [4, 6, 7, 8, 18, 19, 20, 21, 22, 23, 24, 25, 26, 27, 28, 29, 30, 31, 32, 33, 34, 35, 36, 37, 38, 39, 40, 41, 42, 43, 44, 45, 46, 47, 48, 49, 50, 51, 52, 53, 54, 55, 56, 57, 58, 59, 60, 61, 62, 63, 64, 65, 66, 67, 68, 69, 70, 71, 72, 73, 74, 75, 76, 77, 78, 79, 80, 81, 82, 83, 84, 85, 86, 87, 88, 89, 90, 91, 92, 93, 94, 95, 96, 97] [] false (.join [.sl 4 false (.sl (.int .i64)) (.node .own .leaf)]
          (.block 1
            (.seq
              (.region [o1 6 (.asg (.c (.int .i64 0)))])
            (.seq
              (.seq
                (.region [o1 7 (.asg (.c (.int .i64 0)))])
              (.frame [6, 7, 18, 19, 20, 21, 22, 23, 24, 25, 26, 27, 28, 29, 30, 31, 32, 33, 34, 35, 36, 37, 38, 39, 40, 41] [] false (.join [.sl 6 false (.int .i64) .leaf]
              (.block 2
                (.loop [.sl 6 false (.int .i64) .leaf, .sl 7 false (.int .i64) .leaf]
                  (.seq
                    (.seq
                      (.region [o1 18 (.mv (.t 7)),
                        o1 19 (.mv (.t 0)),
                        o1 20 (.mv (.t 5)),
                        o1 21 (.ixA 8 (.t 19) (.t 20)),
                        o1 22 (.fAddr 7 (.t 21)),
                        o1 23 (.load false 1 (.t 22)),
                        o1 24 (.lenK (.t 23)),
                        o1 25 (.bin .lss (.t 18) (.t 24))])
                    (.cond (.t 25)
                      .skip
                      (.exit 2)))
                  (.seq
                    (.frame [6, 28, 29, 30, 31, 32, 33, 34, 35, 36, 37, 38, 39, 40, 41] [] false (.join [.sl 6 false (.int .i64) .leaf]
                    (.block 3
                      (.region [o1 28 (.mv (.t 6)),
                        o1 29 (.mv (.t 4)),
                        o1 30 (.mv (.t 0)),
                        o1 31 (.mv (.t 5)),
                        o1 32 (.ixA 8 (.t 30) (.t 31)),
                        o1 33 (.fAddr 7 (.t 32)),
                        o1 34 (.load false 1 (.t 33)),
                        o1 35 (.mv (.t 7)),
                        o1 36 (.ixA 1 (.t 34) (.t 35)),
                        o1 37 (.load false 1 (.t 36)),
                        o1 38 (.ixA 1 (.t 29) (.t 37)),
                        o1 39 (.load false 1 (.t 38)),
                        o1 40 (.bin .add (.t 28) (.t 39)),
                        oS ⟨some 41, .call "mergelens/mergelensref04.capped" [(.t 40)], none⟩ S_ref04_capped,
                        o1 6 (.asg (.t 41))]))))
                  (.region [o1 26 (.mv (.t 7)),
                    o1 27 (.bin .add (.t 26) (.c (.int .i64 1))),
                    o1 7 (.asg (.t 27))]))))))))
            (.seq
              (.seq
                (.region [o1 42 (.mv (.t 0)),
                  o1 43 (.mv (.t 5)),
                  o1 44 (.ixA 8 (.t 42) (.t 43)),
                  o1 45 (.fAddr 0 (.t 44)),
                  o1 46 (.load false 1 (.t 45))])
              (.frame [6, 8, 47, 48, 49, 50, 51, 52, 53, 54, 55, 56, 57, 58, 59, 60, 61, 62, 63, 64, 65, 66, 67, 68, 69, 70, 71, 72, 73, 74, 75, 76, 77, 78, 79, 80, 81, 82, 83, 84, 85, 86, 87, 88, 89, 90, 91, 92] [] false (.join [.sl 6 false (.int .i64) .leaf]
              (.block 4
                (.seq
                  (.region [o1 48 (.bin .eql (.t 46) (.c (.int .i64 5))),
                    o1 47 (.asg (.t 48))])
                (.frame [6, 8, 49, 50, 51, 52, 53, 54, 55, 56, 57, 58, 59, 60, 61, 62, 63, 64, 65, 66, 67, 68, 69, 70, 71, 72, 73, 74, 75, 76, 77, 78, 79, 80, 81, 82, 83, 84, 85, 86, 87, 88, 89, 90, 91, 92] [] false (.join [.sl 6 false (.int .i64) .leaf]
                (.cond (.t 47)
                  (.region [o1 49 (.mv (.t 6)),
                    o1 50 (.mv (.t 0)),
                    o1 51 (.mv (.t 5)),
                    o1 52 (.ixA 8 (.t 50) (.t 51)),
                    o1 53 (.fAddr 7 (.t 52)),
                    o1 54 (.load false 1 (.t 53)),
                    o1 55 (.lenK (.t 54)),
                    o1 56 (.bin .add (.t 49) (.t 55)),
                    o1 57 (.bin .sub (.t 56) (.c (.int .i64 1))),
                    o1 6 (.asg (.t 57))])
                  (.seq
                    (.region [o1 59 (.bin .eql (.t 46) (.c (.int .i64 6))),
                      o1 58 (.asg (.t 59))])
                  (.frame [6, 8, 60, 61, 62, 63, 64, 65, 66, 67, 68, 69, 70, 71, 72, 73, 74, 75, 76, 77, 78, 79, 80, 81, 82, 83, 84, 85, 86, 87, 88, 89, 90, 91, 92] [] false (.join [.sl 6 false (.int .i64) .leaf]
                  (.cond (.t 58)
                    (.seq
                      (.region [o1 60 (.mv (.t 6)),
                        o1 61 (.bin .add (.t 60) (.c (.int .i64 1))),
                        o1 8 (.asg (.t 61))])
                    (.seq
                      (.seq
                        (.region [o1 62 (.mv (.t 0)),
                          o1 63 (.mv (.t 5)),
                          o1 64 (.ixA 8 (.t 62) (.t 63)),
                          o1 65 (.fAddr 6 (.t 64)),
                          o1 66 (.load false 1 (.t 65)),
                          o1 67 (.bin .geq (.t 66) (.c (.int .i64 0)))])
                      (.frame [8, 68, 69, 70, 71, 72, 73, 74, 75, 76, 77, 78, 79, 80, 81] [] false (.join [.sl 8 false (.int .i64) .leaf]
                      (.cond (.t 67)
                        (.frame [8, 68, 69, 70, 71, 72, 73, 74, 75, 76, 77, 78, 79, 80, 81] [] false (.join [.sl 8 false (.int .i64) .leaf]
                        (.draw [(.first (o1 68 (.mv (.t 0)))
                        (.first (o1 69 (.mv (.t 5)))
                        (.first (o1 70 (.ixA 8 (.t 68) (.t 69)))
                        (.first (o1 71 (.fAddr 6 (.t 70)))
                        (.first (o1 72 (.load false 1 (.t 71)))
                        (.first (o1 73 (.mv (.t 0)))
                        (.first (o1 74 (.mv (.t 5)))
                        (.first (o1 75 (.ixA 8 (.t 73) (.t 74)))
                        (.first (o1 76 (.fAddr 5 (.t 75)))
                        (.first (o1 77 (.load false 1 (.t 76)))
                        (.first (o1 78 (.bin .sub (.t 72) (.t 77)))
                        (.first (o1 79 (.mv (.t 6)))
                        (.first (o1 80 (.bin .add (.t 79) (.c (.int .i64 1))))
                        (.first (o1 81 (.bin .mul (.t 78) (.t 80)))
                        (.alt (o1 8 (.asg (.t 81)))
                        .done
                        .stop)))))))))))))))])))
                        .skip))))
                    (.region [o1 82 (.mv (.t 0)),
                      o1 83 (.mv (.t 5)),
                      o1 84 (.ixA 8 (.t 82) (.t 83)),
                      o1 85 (.fAddr 5 (.t 84)),
                      o1 86 (.load false 1 (.t 85)),
                      o1 87 (.mv (.t 6)),
                      o1 88 (.bin .mul (.t 86) (.t 87)),
                      o1 89 (.mv (.t 8)),
                      o1 90 (.bin .add (.t 88) (.t 89)),
                      o1 6 (.asg (.t 90))])))
                    (.seq
                      (.region [o1 92 (.bin .eql (.t 46) (.c (.int .i64 4))),
                        o1 91 (.asg (.t 92))])
                    (.frame [6] [] false (.join [.sl 6 false (.int .i64) .leaf]
                    (.cond (.t 91)
                      .skip
                      (.region [o1 6 (.asg (.c (.int .i64 1)))])))))))))))))))))
            (.region [o1 93 (.mv (.t 4)),
              o1 94 (.mv (.t 6)),
              oS ⟨some 95, .call "mergelens/mergelensref04.capped" [(.t 94)], none⟩ S_ref04_capped,
              oT ⟨some 96, .buildSl 1 [(.int .i64 0)] 1 [(0, (.t 95))], none⟩ (some ((.int .i64), .leaf)),
              oT ⟨some 97, .app 1 8 (.t 93) (.t 96), none⟩ (some ((.int .i64), .leaf)),
              o1 4 (.asg (.t 97))])))))))
        (.region [o1 16 (.mv (.t 5)),
          o1 17 (.bin .add (.t 16) (.c (.int .i64 1))),
          o1 5 (.asg (.t 17))]))))))))
  (.seq
    (.region [o1 98 (.mv (.t 4)),
      o1 99 (.mv (.t 4)),
      o1 100 (.lenK (.t 99)),
      o1 101 (.bin .sub (.t 100) (.c (.int .i64 1))),
      o1 102 (.ixA 1 (.t 98) (.t 101)),
      o1 103 (.load false 1 (.t 102)),
      o1 2 (.asg (.t 103)),
      o1 3 (.asg (.c (.int .i64 0)))])
  .ret)))))
def F_ref04_Weight : AFn := ⟨ "mergelens/mergelensref04.Weight", t_ref04_Weight.erase, [.tmp 2, .tmp 3], 1⟩
def W_ref04_Weight (P : Program) (x : (List Node)) (K : (Int × Int) → Unit → Prop) : Prop :=
  Fn P "mergelens/mergelensref04.Check" S_ref04_Check x (fun (d1 : Int) (e2 : Unit) => (((d1 != (0 : Int)) = true → K ((0 : Int), (2 : Int)) ()) ∧ ((d1 != (0 : Int)) = false → JoinW (D := (List Int)) (fun J3 => LoopW (D := ((List Int) × Int)) ([], (0 : Int)) (fun (d5 : ((List Int) × Int)) J6 => (((decide (d5.2 < ((List.length x : Nat) : Int))) = true → JoinW (D := (List Int)) (fun J7 => JoinW (D := Int) (fun J9 => LoopW (D := (Int × Int)) ((0 : Int), (0 : Int)) (fun (d11 : (Int × Int)) J12 => (0 ≤ d5.2 ∧ d5.2 < ((List.length x : Nat) : Int)) ∧
  ((Int.toNat d5.2) < List.length x) ∧
  (((decide (d11.2 < ((List.length (List.getD x (Int.toNat d5.2) zNode).2.2.2.2 : Nat) : Int))) = true → JoinW (D := Int) (fun J13 => (0 ≤ d5.2 ∧ d5.2 < ((List.length x : Nat) : Int)) ∧
  ((Int.toNat d5.2) < List.length x) ∧
  (0 ≤ d11.2 ∧ d11.2 < ((List.length (List.getD x (Int.toNat d5.2) zNode).2.2.2.2 : Nat) : Int)) ∧
  ((Int.toNat d11.2) < List.length (List.getD x (Int.toNat d5.2) zNode).2.2.2.2) ∧
  (0 ≤ (List.getD (List.getD x (Int.toNat d5.2) zNode).2.2.2.2 (Int.toNat d11.2) (0 : Int)) ∧ (List.getD (List.getD x (Int.toNat d5.2) zNode).2.2.2.2 (Int.toNat d11.2) (0 : Int)) < ((List.length d5.1 : Nat) : Int)) ∧
  ((Int.toNat (List.getD (List.getD x (Int.toNat d5.2) zNode).2.2.2.2 (Int.toNat d11.2) (0 : Int))) < List.length d5.1) ∧
  Fn P "mergelens/mergelensref04.capped" S_ref04_capped (IntKind.i64.wrap (d11.1 + (List.getD d5.1 (Int.toNat (List.getD (List.getD x (Int.toNat d5.2) zNode).2.2.2.2 (Int.toNat d11.2) (0 : Int))) (0 : Int)))) (fun (d15 : Int) (e16 : Unit) => J13 d15)) (fun (d14 : Int) => J12 (d14, (IntKind.i64.wrap (d11.2 + (1 : Int)))))) ∧ ((decide (d11.2 < ((List.length (List.getD x (Int.toNat d5.2) zNode).2.2.2.2 : Nat) : Int))) = false → J9 d11.1)))) (fun (d10 : Int) => (0 ≤ d5.2 ∧ d5.2 < ((List.length x : Nat) : Int)) ∧
  ((Int.toNat d5.2) < List.length x) ∧
  JoinW (D := Int) (fun J17 => JoinW (D := Int) (fun J19 => ((((List.getD x (Int.toNat d5.2) zNode).1 == (5 : Int)) = true → (0 ≤ d5.2 ∧ d5.2 < ((List.length x : Nat) : Int)) ∧
  ((Int.toNat d5.2) < List.length x) ∧
  J19 (IntKind.i64.wrap ((IntKind.i64.wrap (d10 + ((List.length (List.getD x (Int.toNat d5.2) zNode).2.2.2.2 : Nat) : Int))) - (1 : Int)))) ∧ (((List.getD x (Int.toNat d5.2) zNode).1 == (5 : Int)) = false → JoinW (D := Int) (fun J21 => ((((List.getD x (Int.toNat d5.2) zNode).1 == (6 : Int)) = true → (0 ≤ d5.2 ∧ d5.2 < ((List.length x : Nat) : Int)) ∧
  ((Int.toNat d5.2) < List.length x) ∧
  JoinW (D := Int) (fun J23 => (((decide ((List.getD x (Int.toNat d5.2) zNode).2.2.2.1 ≥ (0 : Int))) = true → JoinW (D := Int) (fun J25 => (0 ≤ d5.2 ∧ d5.2 < ((List.length x : Nat) : Int)) ∧
  ((Int.toNat d5.2) < List.length x) ∧
  (0 ≤ d5.2 ∧ d5.2 < ((List.length x : Nat) : Int)) ∧
  ((Int.toNat d5.2) < List.length x) ∧
  (J25 (IntKind.i64.wrap ((IntKind.i64.wrap ((List.getD x (Int.toNat d5.2) zNode).2.2.2.1 - (List.getD x (Int.toNat d5.2) zNode).2.2.1)) * (IntKind.i64.wrap (d10 + (1 : Int)))))) ∧ (True)) (fun (d26 : Int) => J23 d26)) ∧ ((decide ((List.getD x (Int.toNat d5.2) zNode).2.2.2.1 ≥ (0 : Int))) = false → J23 (IntKind.i64.wrap (d10 + (1 : Int)))))) (fun (d24 : Int) => (0 ≤ d5.2 ∧ d5.2 < ((List.length x : Nat) : Int)) ∧
  ((Int.toNat d5.2) < List.length x) ∧
  J21 (IntKind.i64.wrap ((IntKind.i64.wrap ((List.getD x (Int.toNat d5.2) zNode).2.2.1 * d10)) + d24)))) ∧ (((List.getD x (Int.toNat d5.2) zNode).1 == (6 : Int)) = false → JoinW (D := Int) (fun J27 => ((((List.getD x (Int.toNat d5.2) zNode).1 == (4 : Int)) = true → J27 d10) ∧ (((List.getD x (Int.toNat d5.2) zNode).1 == (4 : Int)) = false → J27 (1 : Int)))) (fun (d28 : Int) => J21 d28)))) (fun (d22 : Int) => J19 d22)))) (fun (d20 : Int) => J17 d20)) (fun (d18 : Int) => Fn P "mergelens/mergelensref04.capped" S_ref04_capped d18 (fun (d29 : Int) (e30 : Unit) => ((List.length d5.1 + List.length ([d29] : List Int)) * 8 ≤ 140737488355328) ∧
  J7 (d5.1 ++ ([d29] : List Int)))))) (fun (d8 : (List Int)) => J6 (d8, (IntKind.i64.wrap (d5.2 + (1 : Int)))))) ∧ ((decide (d5.2 < ((List.length x : Nat) : Int))) = false → J3 d5.1)))) (fun (d4 : (List Int)) => (0 ≤ (IntKind.i64.wrap (((List.length d4 : Nat) : Int) - (1 : Int))) ∧ (IntKind.i64.wrap (((List.length d4 : Nat) : Int) - (1 : Int))) < ((List.length d4 : Nat) : Int)) ∧
  ((Int.toNat (IntKind.i64.wrap (((List.length d4 : Nat) : Int) - (1 : Int)))) < List.length d4) ∧
  K ((List.getD d4 (Int.toNat (IntKind.i64.wrap (((List.length d4 : Nat) : Int) - (1 : Int)))) (0 : Int)), (0 : Int)) ()))))
theorem fn_ref04_Weight {P : Program} (h : Has P F_ref04_Weight) {x : DP S_ref04_Weight.ps} {K : DP S_ref04_Weight.rs → DP (ptrs S_ref04_Weight.ps) → Prop} (hw : W_ref04_Weight P x K) : Fn P "mergelens/mergelensref04.Weight" S_ref04_Weight x K :=
  fn_of (c := t_ref04_Weight) h rfl rfl (by kernel_rfl) (Eq.mpr (show liftT P F_ref04_Weight S_ref04_Weight t_ref04_Weight x K = W_ref04_Weight P x K by kernel_rfl) hw)


end Go.VS
