/- Functions of the program: typed code, and what it says, lifted. -/
import Derived.Test.YtobddjdmgebmgaaKTxSig
import Derived.KernelRfl
set_option linter.unusedVariables false
set_option linter.unusedSimpArgs false
set_option linter.unusedSectionVars false
namespace Go.VS

def t_law05_AutomatonRefuses : TCode :=
  (.seq
    (.region [o1 4 (.asg (.c (.bool false)))])
  (.seq
    (.seq
      (.region [o1 14 (.mv (.t 0)),
        o1 15 (.lenK (.t 14)),
        o1 16 (.bin .gtr (.t 15) (.c (.int .i64 8)))])
    (.cond (.t 16)
      (.seq
        (.region [oS ⟨some 17, .call "mergelens/mergelenslaw05.awake" [], none⟩ S_law05_awake,
          o1 4 (.asg (.t 17))])
      .ret)
      .skip))
  (.seq
    (.seq
      (.region [o1 5 (.asg (.c (.int .i64 0)))])
    (.frame [4, 5, 18, 19, 20, 21, 22, 23, 24, 25, 26, 27, 28, 29, 30, 31] [] false (.join [.sl 4 false .bool .leaf]
    (.block 0
      (.loop [.sl 4 false .bool .leaf, .sl 5 false (.int .i64) .leaf]
        (.seq
          (.seq
            (.region [o1 18 (.mv (.t 5)),
              o1 19 (.mv (.t 0)),
              o1 20 (.lenK (.t 19)),
              o1 21 (.bin .lss (.t 18) (.t 20))])
          (.cond (.t 21)
            .skip
            (.exit 0)))
        (.seq
          (.frame [4, 24, 25, 26, 27, 28, 29, 30, 31] [] false (.join [.sl 4 false .bool .leaf]
          (.block 1
            (.seq
              (.region [o1 24 (.mv (.t 0)),
                o1 25 (.mv (.t 5)),
                o1 26 (.ixA 8 (.t 24) (.t 25)),
                o1 27 (.fAddr 7 (.t 26)),
                o1 28 (.load false 1 (.t 27)),
                o1 29 (.lenK (.t 28)),
                o1 30 (.bin .gtr (.t 29) (.c (.int .i64 4)))])
            (.cond (.t 30)
              (.seq
                (.region [oS ⟨some 31, .call "mergelens/mergelenslaw05.awake" [], none⟩ S_law05_awake,
                  o1 4 (.asg (.t 31))])
              .ret)
              .skip)))))
        (.region [o1 22 (.mv (.t 5)),
          o1 23 (.bin .add (.t 22) (.c (.int .i64 1))),
          o1 5 (.asg (.t 23))]))))))))
  (.seq
    (.seq
      (.region [o1 32 (.mv (.t 0)),
        oS ⟨some 33, .call "mergelens/mergelensref04.Check" [(.t 32)], none⟩ S_ref04_Check,
        o1 34 (.bin .neq (.t 33) (.c (.int .i64 0)))])
    (.cond (.t 34)
      (.seq
        (.region [o1 36 (.mv (.t 0)),
          oS ⟨some 37, .call "mergelens/automaton.Build" [(.t 36)], none⟩ S_automaton_Build,
          o1 35 (.mv (.t 37)),
          o1 38 (.ext (.t 35) 0),
          o1 39 (.ext (.t 35) 1),
          o1 6 (.alloc [(.slice none 0 0), (.int .i64 0)]),
          o0 ⟨none, .store 2 (.t 6) (.t 38), none⟩,
          o1 7 (.asg (.t 39))])
      (.seq
        (.region [o1 40 (.mv (.t 7)),
          o1 41 (.bin .eql (.t 40) (.c (.int .i64 2))),
          o1 42 (.mv (.t 41)),
          o0 ⟨some 43, .fAddr 0 (.t 6), some (42, true)⟩,
          o0 ⟨some 44, .load false 1 (.t 43), some (42, true)⟩,
          o0 ⟨some 45, .lenK (.t 44), some (42, true)⟩,
          o0 ⟨some 46, .bin .eql (.t 45) (.c (.int .i64 0)), some (42, true)⟩,
          o1 47 (.pick (.t 42) (.t 46) (.c (.bool false))),
          o1 48 (.mv (.t 47)),
          oS ⟨some 49, .call "mergelens/mergelenslaw05.awake" [], some (48, true)⟩ S_law05_awake,
          o1 50 (.pick (.t 48) (.t 49) (.c (.bool false))),
          o1 4 (.asg (.t 50))])
      .ret))
      .skip))
  (.seq
    (.region [o1 51 (.build [(.int .i64 0), (.int .u64 0), (.int .u64 0), (.int .u64 0), (.int .u64 0), (.int .i64 0), (.int .i64 0), (.slice none 0 0)] [(0, 1, (.c (.int .i64 1)))]),
      ⟨⟨some 52, .buildSl 1 [(.int .i64 0)] 1 [(0, (.c (.int .i64 0)))], none⟩, some ((.int .i64), .leaf), ⟨[], []⟩, true, none, false, false⟩,
      o1 53 (.build [(.int .i64 0), (.int .u64 0), (.int .u64 0), (.int .u64 0), (.int .u64 0), (.int .i64 0), (.int .i64 0), (.slice none 0 0)] [(0, 1, (.c (.int .i64 6))), (5, 1, (.c (.int .i64 100))), (6, 1, (.c (.int .i64 100))), (7, 1, (.t 52))]),
      o1 54 (.mv (.t 1)),
      oS ⟨some 55, .call "mergelens/mergelensgen.Mod" [(.t 54), (.c (.int .i64 3))], none⟩ S_gen_Mod,
      o1 56 (.bin .add (.c (.int .i64 39)) (.t 55)),
      ⟨⟨some 57, .buildSl 1 [(.int .i64 0)] 1 [(0, (.c (.int .i64 1)))], none⟩, some ((.int .i64), .leaf), ⟨[], []⟩, true, none, false, false⟩,
      o1 58 (.build [(.int .i64 0), (.int .u64 0), (.int .u64 0), (.int .u64 0), (.int .u64 0), (.int .i64 0), (.int .i64 0), (.slice none 0 0)] [(0, 1, (.c (.int .i64 6))), (5, 1, (.t 56)), (7, 1, (.t 57))]),
      oT ⟨some 59, .buildSl 8 [(.int .i64 0), (.int .u64 0), (.int .u64 0), (.int .u64 0), (.int .u64 0), (.int .i64 0), (.int .i64 0), (.slice none 0 0)] 3 [(0, (.t 51)), (1, (.t 53)), (2, (.t 58))], none⟩ (some (bNode, (.pair .leaf (.pair .leaf (.pair .leaf (.pair .leaf (.node .imm .leaf))))))),
      o1 8 (.asg (.t 59))])
  (.seq
    (.region [o1 60 (.mv (.t 8)),
      o1 61 (.mv (.t 8)),
      o1 62 (.ixA 8 (.t 61) (.c (.int .i64 2))),
      o1 63 (.fAddr 5 (.t 62)),
      o1 64 (.load false 1 (.t 63)),
      o1 65 (.ixA 8 (.t 60) (.c (.int .i64 2))),
      o1 66 (.fAddr 6 (.t 65)),
      o0 ⟨none, .store 1 (.t 66) (.t 64), none⟩])
  (.seq
    (.region [o1 68 (.mv (.t 8)),
      oS ⟨some 69, .call "mergelens/mergelensref04.Weight" [(.t 68)], none⟩ S_ref04_Weight,
      o1 67 (.mv (.t 69)),
      o1 70 (.ext (.t 67) 0),
      o1 71 (.ext (.t 67) 1),
      o1 9 (.asg (.t 70)),
      o1 10 (.asg (.t 71))])
  (.seq
    (.region [o1 11 (.asg (.c (.int .i64 0)))])
  (.seq
    (.seq
      (.region [o1 72 (.mv (.t 9)),
        o1 73 (.bin .gtr (.t 72) (.c (.int .i64 4000)))])
    (.frame [11] [] false (.join [.sl 11 false (.int .i64) .leaf]
    (.cond (.t 73)
      (.region [o1 11 (.asg (.c (.int .i64 1)))])
      .skip))))
  (.seq
    (.frz [8]
    (.region [o1 75 (.mv (.t 8)),
      oS ⟨some 76, .call "mergelens/automaton.Build" [(.t 75)], none⟩ S_automaton_Build,
      o1 74 (.mv (.t 76)),
      o1 77 (.ext (.t 74) 0),
      o1 78 (.ext (.t 74) 1),
      o1 12 (.alloc [(.slice none 0 0), (.int .i64 0)]),
      o0 ⟨none, .store 2 (.t 12) (.t 77), none⟩,
      o1 13 (.asg (.t 78))]))
  (.seq
    (.region [o1 79 (.mv (.t 13)),
      o1 80 (.mv (.t 11)),
      o1 81 (.bin .eql (.t 79) (.t 80)),
      o1 82 (.mv (.t 81)),
      oS ⟨some 83, .call "mergelens/mergelenslaw05.awake" [], some (82, true)⟩ S_law05_awake,
      o1 84 (.pick (.t 82) (.t 83) (.c (.bool false))),
      o1 4 (.asg (.t 84))])
  .ret)))))))))))
def F_law05_AutomatonRefuses : AFn := ⟨ "mergelens/mergelenslaw05.AutomatonRefuses", t_law05_AutomatonRefuses.erase, [.tmp 4], 2⟩
def W_law05_AutomatonRefuses (P : Program) (x : ((List Node) × Int)) (K : Bool → Unit → Prop) : Prop :=
  (((decide (((List.length x.1 : Nat) : Int) > (8 : Int))) = true → Fn P "mergelens/mergelenslaw05.awake" S_law05_awake () (fun (d1 : Bool) (e2 : Unit) => K d1 ())) ∧ ((decide (((List.length x.1 : Nat) : Int) > (8 : Int))) = false → JoinW (D := Bool) (fun J3 => LoopW (D := (Bool × Int)) (false, (0 : Int)) (fun (d5 : (Bool × Int)) J6 => (((decide (d5.2 < ((List.length x.1 : Nat) : Int))) = true → JoinW (D := Bool) (fun J7 => (0 ≤ d5.2 ∧ d5.2 < ((List.length x.1 : Nat) : Int)) ∧
  ((Int.toNat d5.2) < List.length x.1) ∧
  (((decide (((List.length (List.getD x.1 (Int.toNat d5.2) zNode).2.2.2.2 : Nat) : Int) > (4 : Int))) = true → Fn P "mergelens/mergelenslaw05.awake" S_law05_awake () (fun (d9 : Bool) (e10 : Unit) => K d9 ())) ∧ ((decide (((List.length (List.getD x.1 (Int.toNat d5.2) zNode).2.2.2.2 : Nat) : Int) > (4 : Int))) = false → J7 d5.1))) (fun (d8 : Bool) => J6 (d8, (IntKind.i64.wrap (d5.2 + (1 : Int)))))) ∧ ((decide (d5.2 < ((List.length x.1 : Nat) : Int))) = false → J3 d5.1)))) (fun (d4 : Bool) => Fn P "mergelens/mergelensref04.Check" S_ref04_Check x.1 (fun (d11 : Int) (e12 : Unit) => (((d11 != (0 : Int)) = true → Fn P "mergelens/automaton.Build" S_automaton_Build x.1 (fun (d13 : (((List State) × Int) × Int)) (e14 : Unit) => JoinW (D := Bool) (fun J15 => (((cond (d13.2 == (2 : Int)) (((List.length d13.1.1 : Nat) : Int) == (0 : Int)) false) = true → Fn P "mergelens/mergelenslaw05.awake" S_law05_awake () (fun (d16 : Bool) _ => J15 d16)) ∧ (((cond (d13.2 == (2 : Int)) (((List.length d13.1.1 : Nat) : Int) == (0 : Int)) false) = false → J15 false) ∧ True))) (fun d17 => K (cond (cond (d13.2 == (2 : Int)) (((List.length d13.1.1 : Nat) : Int) == (0 : Int)) false) d17 false) ()))) ∧ ((d11 != (0 : Int)) = false → Fn P "mergelens/mergelensgen.Mod" S_gen_Mod (x.2, (3 : Int)) (fun (d18 : Int) (e19 : Unit) => (0 ≤ (2 : Int) ∧ (2 : Int) < ((List.length ([((1 : Int), (((0 : Int), ((0 : Int), ((0 : Int), (0 : Int)))), ((0 : Int), ((0 : Int), [])))), ((6 : Int), (((0 : Int), ((0 : Int), ((0 : Int), (0 : Int)))), ((100 : Int), ((100 : Int), ([(0 : Int)] : List Int))))), ((6 : Int), (((0 : Int), ((0 : Int), ((0 : Int), (0 : Int)))), ((IntKind.i64.wrap ((39 : Int) + d18)), ((0 : Int), ([(1 : Int)] : List Int)))))] : List Node) : Nat) : Int)) ∧
  ((Int.toNat (2 : Int)) < List.length ([((1 : Int), (((0 : Int), ((0 : Int), ((0 : Int), (0 : Int)))), ((0 : Int), ((0 : Int), [])))), ((6 : Int), (((0 : Int), ((0 : Int), ((0 : Int), (0 : Int)))), ((100 : Int), ((100 : Int), ([(0 : Int)] : List Int))))), ((6 : Int), (((0 : Int), ((0 : Int), ((0 : Int), (0 : Int)))), ((IntKind.i64.wrap ((39 : Int) + d18)), ((0 : Int), ([(1 : Int)] : List Int)))))] : List Node)) ∧
  (0 ≤ (2 : Int) ∧ (2 : Int) < ((List.length ([((1 : Int), (((0 : Int), ((0 : Int), ((0 : Int), (0 : Int)))), ((0 : Int), ((0 : Int), [])))), ((6 : Int), (((0 : Int), ((0 : Int), ((0 : Int), (0 : Int)))), ((100 : Int), ((100 : Int), ([(0 : Int)] : List Int))))), ((6 : Int), (((0 : Int), ((0 : Int), ((0 : Int), (0 : Int)))), ((IntKind.i64.wrap ((39 : Int) + d18)), ((0 : Int), ([(1 : Int)] : List Int)))))] : List Node) : Nat) : Int)) ∧
  ((Int.toNat (2 : Int)) < List.length ([((1 : Int), (((0 : Int), ((0 : Int), ((0 : Int), (0 : Int)))), ((0 : Int), ((0 : Int), [])))), ((6 : Int), (((0 : Int), ((0 : Int), ((0 : Int), (0 : Int)))), ((100 : Int), ((100 : Int), ([(0 : Int)] : List Int))))), ((6 : Int), (((0 : Int), ((0 : Int), ((0 : Int), (0 : Int)))), ((IntKind.i64.wrap ((39 : Int) + d18)), ((0 : Int), ([(1 : Int)] : List Int)))))] : List Node)) ∧
  Fn P "mergelens/mergelensref04.Weight" S_ref04_Weight (List.set ([((1 : Int), (((0 : Int), ((0 : Int), ((0 : Int), (0 : Int)))), ((0 : Int), ((0 : Int), [])))), ((6 : Int), (((0 : Int), ((0 : Int), ((0 : Int), (0 : Int)))), ((100 : Int), ((100 : Int), ([(0 : Int)] : List Int))))), ((6 : Int), (((0 : Int), ((0 : Int), ((0 : Int), (0 : Int)))), ((IntKind.i64.wrap ((39 : Int) + d18)), ((0 : Int), ([(1 : Int)] : List Int)))))] : List Node) (Int.toNat (2 : Int)) ((List.getD ([((1 : Int), (((0 : Int), ((0 : Int), ((0 : Int), (0 : Int)))), ((0 : Int), ((0 : Int), [])))), ((6 : Int), (((0 : Int), ((0 : Int), ((0 : Int), (0 : Int)))), ((100 : Int), ((100 : Int), ([(0 : Int)] : List Int))))), ((6 : Int), (((0 : Int), ((0 : Int), ((0 : Int), (0 : Int)))), ((IntKind.i64.wrap ((39 : Int) + d18)), ((0 : Int), ([(1 : Int)] : List Int)))))] : List Node) (Int.toNat (2 : Int)) zNode).1, (((List.getD ([((1 : Int), (((0 : Int), ((0 : Int), ((0 : Int), (0 : Int)))), ((0 : Int), ((0 : Int), [])))), ((6 : Int), (((0 : Int), ((0 : Int), ((0 : Int), (0 : Int)))), ((100 : Int), ((100 : Int), ([(0 : Int)] : List Int))))), ((6 : Int), (((0 : Int), ((0 : Int), ((0 : Int), (0 : Int)))), ((IntKind.i64.wrap ((39 : Int) + d18)), ((0 : Int), ([(1 : Int)] : List Int)))))] : List Node) (Int.toNat (2 : Int)) zNode).2.1.1, ((List.getD ([((1 : Int), (((0 : Int), ((0 : Int), ((0 : Int), (0 : Int)))), ((0 : Int), ((0 : Int), [])))), ((6 : Int), (((0 : Int), ((0 : Int), ((0 : Int), (0 : Int)))), ((100 : Int), ((100 : Int), ([(0 : Int)] : List Int))))), ((6 : Int), (((0 : Int), ((0 : Int), ((0 : Int), (0 : Int)))), ((IntKind.i64.wrap ((39 : Int) + d18)), ((0 : Int), ([(1 : Int)] : List Int)))))] : List Node) (Int.toNat (2 : Int)) zNode).2.1.2.1, ((List.getD ([((1 : Int), (((0 : Int), ((0 : Int), ((0 : Int), (0 : Int)))), ((0 : Int), ((0 : Int), [])))), ((6 : Int), (((0 : Int), ((0 : Int), ((0 : Int), (0 : Int)))), ((100 : Int), ((100 : Int), ([(0 : Int)] : List Int))))), ((6 : Int), (((0 : Int), ((0 : Int), ((0 : Int), (0 : Int)))), ((IntKind.i64.wrap ((39 : Int) + d18)), ((0 : Int), ([(1 : Int)] : List Int)))))] : List Node) (Int.toNat (2 : Int)) zNode).2.1.2.2.1, (List.getD ([((1 : Int), (((0 : Int), ((0 : Int), ((0 : Int), (0 : Int)))), ((0 : Int), ((0 : Int), [])))), ((6 : Int), (((0 : Int), ((0 : Int), ((0 : Int), (0 : Int)))), ((100 : Int), ((100 : Int), ([(0 : Int)] : List Int))))), ((6 : Int), (((0 : Int), ((0 : Int), ((0 : Int), (0 : Int)))), ((IntKind.i64.wrap ((39 : Int) + d18)), ((0 : Int), ([(1 : Int)] : List Int)))))] : List Node) (Int.toNat (2 : Int)) zNode).2.1.2.2.2))), ((List.getD ([((1 : Int), (((0 : Int), ((0 : Int), ((0 : Int), (0 : Int)))), ((0 : Int), ((0 : Int), [])))), ((6 : Int), (((0 : Int), ((0 : Int), ((0 : Int), (0 : Int)))), ((100 : Int), ((100 : Int), ([(0 : Int)] : List Int))))), ((6 : Int), (((0 : Int), ((0 : Int), ((0 : Int), (0 : Int)))), ((IntKind.i64.wrap ((39 : Int) + d18)), ((0 : Int), ([(1 : Int)] : List Int)))))] : List Node) (Int.toNat (2 : Int)) zNode).2.2.1, ((List.getD ([((1 : Int), (((0 : Int), ((0 : Int), ((0 : Int), (0 : Int)))), ((0 : Int), ((0 : Int), [])))), ((6 : Int), (((0 : Int), ((0 : Int), ((0 : Int), (0 : Int)))), ((100 : Int), ((100 : Int), ([(0 : Int)] : List Int))))), ((6 : Int), (((0 : Int), ((0 : Int), ((0 : Int), (0 : Int)))), ((IntKind.i64.wrap ((39 : Int) + d18)), ((0 : Int), ([(1 : Int)] : List Int)))))] : List Node) (Int.toNat (2 : Int)) zNode).2.2.1, (List.getD ([((1 : Int), (((0 : Int), ((0 : Int), ((0 : Int), (0 : Int)))), ((0 : Int), ((0 : Int), [])))), ((6 : Int), (((0 : Int), ((0 : Int), ((0 : Int), (0 : Int)))), ((100 : Int), ((100 : Int), ([(0 : Int)] : List Int))))), ((6 : Int), (((0 : Int), ((0 : Int), ((0 : Int), (0 : Int)))), ((IntKind.i64.wrap ((39 : Int) + d18)), ((0 : Int), ([(1 : Int)] : List Int)))))] : List Node) (Int.toNat (2 : Int)) zNode).2.2.2.2))))) (fun (d20 : (Int × Int)) (e21 : Unit) => JoinW (D := Int) (fun J22 => (((decide (d20.1 > (4000 : Int))) = true → J22 (1 : Int)) ∧ ((decide (d20.1 > (4000 : Int))) = false → J22 (0 : Int)))) (fun (d23 : Int) => Fn P "mergelens/automaton.Build" S_automaton_Build (List.set ([((1 : Int), (((0 : Int), ((0 : Int), ((0 : Int), (0 : Int)))), ((0 : Int), ((0 : Int), [])))), ((6 : Int), (((0 : Int), ((0 : Int), ((0 : Int), (0 : Int)))), ((100 : Int), ((100 : Int), ([(0 : Int)] : List Int))))), ((6 : Int), (((0 : Int), ((0 : Int), ((0 : Int), (0 : Int)))), ((IntKind.i64.wrap ((39 : Int) + d18)), ((0 : Int), ([(1 : Int)] : List Int)))))] : List Node) (Int.toNat (2 : Int)) ((List.getD ([((1 : Int), (((0 : Int), ((0 : Int), ((0 : Int), (0 : Int)))), ((0 : Int), ((0 : Int), [])))), ((6 : Int), (((0 : Int), ((0 : Int), ((0 : Int), (0 : Int)))), ((100 : Int), ((100 : Int), ([(0 : Int)] : List Int))))), ((6 : Int), (((0 : Int), ((0 : Int), ((0 : Int), (0 : Int)))), ((IntKind.i64.wrap ((39 : Int) + d18)), ((0 : Int), ([(1 : Int)] : List Int)))))] : List Node) (Int.toNat (2 : Int)) zNode).1, (((List.getD ([((1 : Int), (((0 : Int), ((0 : Int), ((0 : Int), (0 : Int)))), ((0 : Int), ((0 : Int), [])))), ((6 : Int), (((0 : Int), ((0 : Int), ((0 : Int), (0 : Int)))), ((100 : Int), ((100 : Int), ([(0 : Int)] : List Int))))), ((6 : Int), (((0 : Int), ((0 : Int), ((0 : Int), (0 : Int)))), ((IntKind.i64.wrap ((39 : Int) + d18)), ((0 : Int), ([(1 : Int)] : List Int)))))] : List Node) (Int.toNat (2 : Int)) zNode).2.1.1, ((List.getD ([((1 : Int), (((0 : Int), ((0 : Int), ((0 : Int), (0 : Int)))), ((0 : Int), ((0 : Int), [])))), ((6 : Int), (((0 : Int), ((0 : Int), ((0 : Int), (0 : Int)))), ((100 : Int), ((100 : Int), ([(0 : Int)] : List Int))))), ((6 : Int), (((0 : Int), ((0 : Int), ((0 : Int), (0 : Int)))), ((IntKind.i64.wrap ((39 : Int) + d18)), ((0 : Int), ([(1 : Int)] : List Int)))))] : List Node) (Int.toNat (2 : Int)) zNode).2.1.2.1, ((List.getD ([((1 : Int), (((0 : Int), ((0 : Int), ((0 : Int), (0 : Int)))), ((0 : Int), ((0 : Int), [])))), ((6 : Int), (((0 : Int), ((0 : Int), ((0 : Int), (0 : Int)))), ((100 : Int), ((100 : Int), ([(0 : Int)] : List Int))))), ((6 : Int), (((0 : Int), ((0 : Int), ((0 : Int), (0 : Int)))), ((IntKind.i64.wrap ((39 : Int) + d18)), ((0 : Int), ([(1 : Int)] : List Int)))))] : List Node) (Int.toNat (2 : Int)) zNode).2.1.2.2.1, (List.getD ([((1 : Int), (((0 : Int), ((0 : Int), ((0 : Int), (0 : Int)))), ((0 : Int), ((0 : Int), [])))), ((6 : Int), (((0 : Int), ((0 : Int), ((0 : Int), (0 : Int)))), ((100 : Int), ((100 : Int), ([(0 : Int)] : List Int))))), ((6 : Int), (((0 : Int), ((0 : Int), ((0 : Int), (0 : Int)))), ((IntKind.i64.wrap ((39 : Int) + d18)), ((0 : Int), ([(1 : Int)] : List Int)))))] : List Node) (Int.toNat (2 : Int)) zNode).2.1.2.2.2))), ((List.getD ([((1 : Int), (((0 : Int), ((0 : Int), ((0 : Int), (0 : Int)))), ((0 : Int), ((0 : Int), [])))), ((6 : Int), (((0 : Int), ((0 : Int), ((0 : Int), (0 : Int)))), ((100 : Int), ((100 : Int), ([(0 : Int)] : List Int))))), ((6 : Int), (((0 : Int), ((0 : Int), ((0 : Int), (0 : Int)))), ((IntKind.i64.wrap ((39 : Int) + d18)), ((0 : Int), ([(1 : Int)] : List Int)))))] : List Node) (Int.toNat (2 : Int)) zNode).2.2.1, ((List.getD ([((1 : Int), (((0 : Int), ((0 : Int), ((0 : Int), (0 : Int)))), ((0 : Int), ((0 : Int), [])))), ((6 : Int), (((0 : Int), ((0 : Int), ((0 : Int), (0 : Int)))), ((100 : Int), ((100 : Int), ([(0 : Int)] : List Int))))), ((6 : Int), (((0 : Int), ((0 : Int), ((0 : Int), (0 : Int)))), ((IntKind.i64.wrap ((39 : Int) + d18)), ((0 : Int), ([(1 : Int)] : List Int)))))] : List Node) (Int.toNat (2 : Int)) zNode).2.2.1, (List.getD ([((1 : Int), (((0 : Int), ((0 : Int), ((0 : Int), (0 : Int)))), ((0 : Int), ((0 : Int), [])))), ((6 : Int), (((0 : Int), ((0 : Int), ((0 : Int), (0 : Int)))), ((100 : Int), ((100 : Int), ([(0 : Int)] : List Int))))), ((6 : Int), (((0 : Int), ((0 : Int), ((0 : Int), (0 : Int)))), ((IntKind.i64.wrap ((39 : Int) + d18)), ((0 : Int), ([(1 : Int)] : List Int)))))] : List Node) (Int.toNat (2 : Int)) zNode).2.2.2.2))))) (fun (d24 : (((List State) × Int) × Int)) (e25 : Unit) => JoinW (D := Bool) (fun J26 => (((d24.2 == d23) = true → Fn P "mergelens/mergelenslaw05.awake" S_law05_awake () (fun (d27 : Bool) _ => J26 d27)) ∧ (((d24.2 == d23) = false → J26 false) ∧ True))) (fun d28 => K (cond (d24.2 == d23) d28 false) ())))))))))))
theorem fn_law05_AutomatonRefuses {P : Program} (h : Has P F_law05_AutomatonRefuses) {x : DP S_law05_AutomatonRefuses.ps} {K : DP S_law05_AutomatonRefuses.rs → DP (ptrs S_law05_AutomatonRefuses.ps) → Prop} (hw : W_law05_AutomatonRefuses P x K) : Fn P "mergelens/mergelenslaw05.AutomatonRefuses" S_law05_AutomatonRefuses x K :=
  fn_of (c := t_law05_AutomatonRefuses) h rfl rfl (by kernel_rfl) (Eq.mpr (show liftT P F_law05_AutomatonRefuses S_law05_AutomatonRefuses t_law05_AutomatonRefuses x K = W_law05_AutomatonRefuses P x K by kernel_rfl) hw)

def t_gen_At : TCode :=
  (.seq
    (.region [o1 4 (.asg (.c (.int .i64 0)))])
  (.seq
    (.region [o1 6 (.mv (.t 1)),
      o1 7 (.bin .add (.t 6) (.c (.int .i64 1))),
      o1 8 (.conv (.toInt .u64) (.t 7)),
      o1 9 (.bin .mul (.t 8) (.c (.int .u64 11400714819323198485))),
      o1 5 (.asg (.t 9))])
  (.seq
    (.seq
      (.region [o1 10 (.mv (.t 0)),
        o1 11 (.lenK (.t 10)),
        o1 12 (.bin .gtr (.t 11) (.c (.int .i64 0)))])
    (.frame [5, 13, 14, 15, 16, 17, 18, 19, 20, 21, 22] [] false (.join [.sl 5 false (.int .u64) .leaf]
    (.cond (.t 12)
      (.region [o1 13 (.mv (.t 5)),
        o1 14 (.mv (.t 0)),
        o1 15 (.mv (.t 1)),
        o1 16 (.mv (.t 0)),
        o1 17 (.lenK (.t 16)),
        o1 18 (.bin .rem (.t 15) (.t 17)),
        o1 19 (.ixA 1 (.t 14) (.t 18)),
        o1 20 (.load false 1 (.t 19)),
        o1 21 (.conv (.toInt .u64) (.t 20)),
        o1 22 (.bin .xor (.t 13) (.t 21)),
        o1 5 (.asg (.t 22))])
      .skip))))
  (.seq
    (.region [o1 23 (.mv (.t 5)),
      o1 24 (.mv (.t 5)),
      o1 25 (.bin .shr (.t 24) (.c (.int .u64 31))),
      o1 26 (.bin .xor (.t 23) (.t 25)),
      o1 27 (.bin .mul (.t 26) (.c (.int .u64 13787848793156543929))),
      o1 5 (.asg (.t 27))])
  (.seq
    (.region [o1 28 (.mv (.t 5)),
      o1 29 (.mv (.t 5)),
      o1 30 (.bin .shr (.t 29) (.c (.int .u64 29))),
      o1 31 (.bin .xor (.t 28) (.t 30)),
      o1 32 (.bin .shr (.t 31) (.c (.int .u64 1))),
      o1 33 (.conv (.toInt .i64) (.t 32)),
      o1 4 (.asg (.t 33))])
  .ret)))))
def F_gen_At : AFn := ⟨ "mergelens/mergelensgen.At", t_gen_At.erase, [.tmp 4], 2⟩
def W_gen_At (P : Program) (x : ((List Int) × Int)) (K : Int → Unit → Prop) : Prop :=
  JoinW (D := Int) (fun J1 => (((decide (((List.length x.1 : Nat) : Int) > (0 : Int))) = true → (((List.length x.1 : Nat) : Int) ≠ 0) ∧
  (0 ≤ (Int.tmod x.2 ((List.length x.1 : Nat) : Int)) ∧ (Int.tmod x.2 ((List.length x.1 : Nat) : Int)) < ((List.length x.1 : Nat) : Int)) ∧
  ((Int.toNat (Int.tmod x.2 ((List.length x.1 : Nat) : Int))) < List.length x.1) ∧
  J1 (IntKind.u64.wrap ((BitVec.toNat (BitVec.ofInt IntKind.u64.bits (IntKind.u64.wrap ((IntKind.u64.wrap (IntKind.i64.wrap (x.2 + (1 : Int)))) * (11400714819323198485 : Int))) ^^^ BitVec.ofInt IntKind.u64.bits (IntKind.u64.wrap (List.getD x.1 (Int.toNat (Int.tmod x.2 ((List.length x.1 : Nat) : Int))) (0 : Int)))) : Nat) : Int))) ∧ ((decide (((List.length x.1 : Nat) : Int) > (0 : Int))) = false → J1 (IntKind.u64.wrap ((IntKind.u64.wrap (IntKind.i64.wrap (x.2 + (1 : Int)))) * (11400714819323198485 : Int)))))) (fun (d2 : Int) => (0 ≤ (31 : Int)) ∧
  (0 ≤ (29 : Int)) ∧
  (0 ≤ (1 : Int)) ∧
  K (IntKind.i64.wrap (Int.fdiv (IntKind.u64.wrap ((BitVec.toNat (BitVec.ofInt IntKind.u64.bits (IntKind.u64.wrap ((IntKind.u64.wrap ((BitVec.toNat (BitVec.ofInt IntKind.u64.bits d2 ^^^ BitVec.ofInt IntKind.u64.bits (Int.fdiv d2 (2 ^ (min (Int.toNat (31 : Int)) IntKind.u64.bits)))) : Nat) : Int)) * (13787848793156543929 : Int))) ^^^ BitVec.ofInt IntKind.u64.bits (Int.fdiv (IntKind.u64.wrap ((IntKind.u64.wrap ((BitVec.toNat (BitVec.ofInt IntKind.u64.bits d2 ^^^ BitVec.ofInt IntKind.u64.bits (Int.fdiv d2 (2 ^ (min (Int.toNat (31 : Int)) IntKind.u64.bits)))) : Nat) : Int)) * (13787848793156543929 : Int))) (2 ^ (min (Int.toNat (29 : Int)) IntKind.u64.bits)))) : Nat) : Int)) (2 ^ (min (Int.toNat (1 : Int)) IntKind.u64.bits)))) ())
theorem fn_gen_At {P : Program} (h : Has P F_gen_At) {x : DP S_gen_At.ps} {K : DP S_gen_At.rs → DP (ptrs S_gen_At.ps) → Prop} (hw : W_gen_At P x K) : Fn P "mergelens/mergelensgen.At" S_gen_At x K :=
  fn_of (c := t_gen_At) h rfl rfl (by kernel_rfl) (Eq.mpr (show liftT P F_gen_At S_gen_At t_gen_At x K = W_gen_At P x K by kernel_rfl) hw)


end Go.VS
