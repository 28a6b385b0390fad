/- Functions of the program: typed code, and what it says, lifted. -/
import Derived.Test.YtobddjdmgebmgaaKTxSig
import Derived.KernelRfl
set_option linter.unusedVariables false
set_option linter.unusedSimpArgs false
set_option linter.unusedSectionVars false
namespace Go.VS

def t_ref05_Closure : TCode :=
  (.seq
    (.region [o1 4 (.box (.t 0)),
      o1 8 (.asg (.c (.slice none 0 0))),
      o1 9 (.asg (.c (.int .i64 0)))])
  (.seq
    (.seq
      (.region [o1 14 (.load true 2 (.t 4)),
        oS ⟨some 15, .call "mergelens/mergelensref05.Check" [(.t 14)], none⟩ S_ref05_Check,
        o1 16 (.bin .neq (.t 15) (.c (.int .i64 0)))])
    (.cond (.t 16)
      (.seq
        (.region [o1 8 (.asg (.c (.slice none 0 0))),
          o1 9 (.asg (.c (.int .i64 2)))])
      .ret)
      .skip))
  (.seq
    (.region [o1 17 (.fAddr 0 (.t 4)),
      o1 18 (.load false 1 (.t 17)),
      o1 19 (.lenK (.t 18)),
      oT ⟨some 20, .mkSl 1 1 [(.bool false)] (.t 19) (.t 19), none⟩ (some (.bool, .leaf)),
      o1 10 (.asg (.t 20))])
  (.seq
    (.seq
      (.region [o1 11 (.asg (.c (.int .i64 0)))])
    (.frame [8, 9, 10, 11, 21, 22, 23, 24, 25, 26, 27, 28, 29, 30, 31, 32, 33, 34, 35, 36, 37, 38, 39, 40, 41, 42, 43, 44, 45, 46] [] false (.join [.sl 8 false (.sl (.int .i64)) (.node .own .leaf), .sl 9 false (.int .i64) .leaf, .sl 10 false (.sl .bool) (.node .own .leaf)]
    (.block 0
      (.loop [.sl 8 false (.sl (.int .i64)) (.node .own .leaf), .sl 9 false (.int .i64) .leaf, .sl 10 false (.sl .bool) (.node .own .leaf), .sl 11 false (.int .i64) .leaf]
        (.seq
          (.seq
            (.region [o1 21 (.mv (.t 11)),
              o1 22 (.mv (.t 1)),
              o1 23 (.lenK (.t 22)),
              o1 24 (.bin .lss (.t 21) (.t 23))])
          (.cond (.t 24)
            .skip
            (.exit 0)))
        (.seq
          (.frame [8, 9, 10, 27, 28, 29, 30, 31, 32, 33, 34, 35, 36, 37, 38, 39, 40, 41, 42, 43, 44, 45, 46] [] false (.join [.sl 8 false (.sl (.int .i64)) (.node .own .leaf), .sl 9 false (.int .i64) .leaf, .sl 10 false (.sl .bool) (.node .own .leaf)]
          (.block 1
            (.seq
              (.seq
                (.region [o1 27 (.mv (.t 1)),
                  o1 28 (.mv (.t 11)),
                  o1 29 (.ixA 1 (.t 27) (.t 28)),
                  o1 30 (.load false 1 (.t 29)),
                  o1 31 (.bin .lss (.t 30) (.c (.int .i64 0))),
                  o1 32 (.mv (.t 31)),
                  o0 ⟨some 33, .mv (.t 1), some (32, false)⟩,
                  o0 ⟨some 34, .mv (.t 11), some (32, false)⟩,
                  o0 ⟨some 35, .ixA 1 (.t 33) (.t 34), some (32, false)⟩,
                  o0 ⟨some 36, .load false 1 (.t 35), some (32, false)⟩,
                  o0 ⟨some 37, .mv (.t 10), some (32, false)⟩,
                  o0 ⟨some 38, .lenK (.t 37), some (32, false)⟩,
                  o0 ⟨some 39, .bin .geq (.t 36) (.t 38), some (32, false)⟩,
                  o1 40 (.pick (.t 32) (.c (.bool true)) (.t 39))])
              (.cond (.t 40)
                (.seq
                  (.region [o1 8 (.asg (.c (.slice none 0 0))),
                    o1 9 (.asg (.c (.int .i64 3)))])
                .ret)
                .skip))
            (.region [o1 41 (.mv (.t 10)),
              o1 42 (.mv (.t 1)),
              o1 43 (.mv (.t 11)),
              o1 44 (.ixA 1 (.t 42) (.t 43)),
              o1 45 (.load false 1 (.t 44)),
              o1 46 (.ixA 1 (.t 41) (.t 45)),
              o0 ⟨none, .store 1 (.t 46) (.c (.bool true)), none⟩])))))
        (.region [o1 25 (.mv (.t 11)),
          o1 26 (.bin .add (.t 25) (.c (.int .i64 1))),
          o1 11 (.asg (.t 26))]))))))))
  (.seq
    (.region [o1 47 (.load true 2 (.t 4)),
      o1 48 (.mv (.t 10)),
      o1 49 (.mv (.t 2)),
      o1 50 (.mv (.t 3)),
      oS ⟨some 51, .call "mergelens/mergelensref05.Close" [(.t 47), (.t 48), (.t 49), (.t 50)], none⟩ S_ref05_Close,
      o1 10 (.asg (.t 51))])
  (.seq
    (.region [o1 12 (.asg (.c (.slice none 0 0)))])
  (.seq
    (.seq
      (.region [o1 13 (.asg (.c (.int .i64 0)))])
    (.frame [12, 13, 52, 53, 54, 55, 56, 57, 58, 59, 60, 61, 62, 63, 64, 65] [] false (.join [.sl 12 false (.sl (.int .i64)) (.node .own .leaf)]
    (.block 2
      (.loop [.sl 12 false (.sl (.int .i64)) (.node .own .leaf), .sl 13 false (.int .i64) .leaf]
        (.seq
          (.seq
            (.region [o1 52 (.mv (.t 13)),
              o1 53 (.mv (.t 10)),
              o1 54 (.lenK (.t 53)),
              o1 55 (.bin .lss (.t 52) (.t 54))])
          (.cond (.t 55)
            .skip
            (.exit 2)))
        (.seq
          (.frame [12, 58, 59, 60, 61, 62, 63, 64, 65] [] false (.join [.sl 12 false (.sl (.int .i64)) (.node .own .leaf)]
          (.block 3
            (.seq
              (.region [o1 58 (.mv (.t 10)),
                o1 59 (.mv (.t 13)),
                o1 60 (.ixA 1 (.t 58) (.t 59)),
                o1 61 (.load false 1 (.t 60))])
            (.frame [12, 62, 63, 64, 65] [] false (.join [.sl 12 false (.sl (.int .i64)) (.node .own .leaf)]
            (.cond (.t 61)
              (.region [o1 62 (.mv (.t 12)),
                o1 63 (.mv (.t 13)),
                oT ⟨some 64, .buildSl 1 [(.int .i64 0)] 1 [(0, (.t 63))], none⟩ (some ((.int .i64), .leaf)),
                oT ⟨some 65, .app 1 8 (.t 62) (.t 64), none⟩ (some ((.int .i64), .leaf)),
                o1 12 (.asg (.t 65))])
              .skip)))))))
        (.region [o1 56 (.mv (.t 13)),
          o1 57 (.bin .add (.t 56) (.c (.int .i64 1))),
          o1 13 (.asg (.t 57))]))))))))
  (.seq
    (.region [o1 66 (.mv (.t 12)),
      o1 8 (.asg (.t 66)),
      o1 9 (.asg (.c (.int .i64 0)))])
  .ret))))))))
def F_ref05_Closure : AFn := ⟨ "mergelens/mergelensref05.Closure", t_ref05_Closure.erase, [.tmp 8, .tmp 9], 4⟩
def W_ref05_Closure (P : Program) (x : (((List State) × Int) × ((List Int) × (Bool × Bool)))) (K : ((List Int) × Int) → Unit → Prop) : Prop :=
  Fn P "mergelens/mergelensref05.Check" S_ref05_Check (x.1.1, x.1.2) (fun (d1 : Int) (e2 : Unit) => (((d1 != (0 : Int)) = true → K ([], (2 : Int)) ()) ∧ ((d1 != (0 : Int)) = false → (0 ≤ ((List.length x.1.1 : Nat) : Int) ∧ ((List.length x.1.1 : Nat) : Int) ≤ ((List.length x.1.1 : Nat) : Int) ∧ ((1 : Nat) : Int) * ((List.length x.1.1 : Nat) : Int) ≤ 281474976710656) ∧
  JoinW (D := ((List Int) × (Int × (List Bool)))) (fun J3 => LoopW (D := ((List Int) × (Int × ((List Bool) × Int)))) ([], ((0 : Int), ((List.replicate (Int.toNat ((List.length x.1.1 : Nat) : Int)) false), (0 : Int)))) (fun (d5 : ((List Int) × (Int × ((List Bool) × Int)))) J6 => (((decide (d5.2.2.2 < ((List.length x.2.1 : Nat) : Int))) = true → JoinW (D := ((List Int) × (Int × (List Bool)))) (fun J7 => (0 ≤ d5.2.2.2 ∧ d5.2.2.2 < ((List.length x.2.1 : Nat) : Int)) ∧
  ((Int.toNat d5.2.2.2) < List.length x.2.1) ∧
  (((decide ((List.getD x.2.1 (Int.toNat d5.2.2.2) (0 : Int)) < (0 : Int))) = false → 0 ≤ d5.2.2.2 ∧ d5.2.2.2 < ((List.length x.2.1 : Nat) : Int))) ∧
  (((decide ((List.getD x.2.1 (Int.toNat d5.2.2.2) (0 : Int)) < (0 : Int))) = false → (Int.toNat d5.2.2.2) < List.length x.2.1)) ∧
  (((cond (decide ((List.getD x.2.1 (Int.toNat d5.2.2.2) (0 : Int)) < (0 : Int))) true (decide ((List.getD x.2.1 (Int.toNat d5.2.2.2) (0 : Int)) ≥ ((List.length d5.2.2.1 : Nat) : Int)))) = true → K ([], (3 : Int)) ()) ∧ ((cond (decide ((List.getD x.2.1 (Int.toNat d5.2.2.2) (0 : Int)) < (0 : Int))) true (decide ((List.getD x.2.1 (Int.toNat d5.2.2.2) (0 : Int)) ≥ ((List.length d5.2.2.1 : Nat) : Int)))) = false → (0 ≤ d5.2.2.2 ∧ d5.2.2.2 < ((List.length x.2.1 : Nat) : Int)) ∧
  ((Int.toNat d5.2.2.2) < List.length x.2.1) ∧
  (0 ≤ (List.getD x.2.1 (Int.toNat d5.2.2.2) (0 : Int)) ∧ (List.getD x.2.1 (Int.toNat d5.2.2.2) (0 : Int)) < ((List.length d5.2.2.1 : Nat) : Int)) ∧
  ((Int.toNat (List.getD x.2.1 (Int.toNat d5.2.2.2) (0 : Int))) < List.length d5.2.2.1) ∧
  J7 (d5.1, (d5.2.1, (List.set d5.2.2.1 (Int.toNat (List.getD x.2.1 (Int.toNat d5.2.2.2) (0 : Int))) true)))))) (fun (d8 : ((List Int) × (Int × (List Bool)))) => J6 (d8.1, (d8.2.1, (d8.2.2, (IntKind.i64.wrap (d5.2.2.2 + (1 : Int)))))))) ∧ ((decide (d5.2.2.2 < ((List.length x.2.1 : Nat) : Int))) = false → J3 (d5.1, (d5.2.1, d5.2.2.1)))))) (fun (d4 : ((List Int) × (Int × (List Bool)))) => Fn P "mergelens/mergelensref05.Close" S_ref05_Close ((x.1.1, x.1.2), (d4.2.2, (x.2.2.1, x.2.2.2))) (fun (d9 : (List Bool)) (e10 : Unit) => JoinW (D := (List Int)) (fun J11 => LoopW (D := ((List Int) × Int)) ([], (0 : Int)) (fun (d13 : ((List Int) × Int)) J14 => (((decide (d13.2 < ((List.length d9 : Nat) : Int))) = true → JoinW (D := (List Int)) (fun J15 => (0 ≤ d13.2 ∧ d13.2 < ((List.length d9 : Nat) : Int)) ∧
  ((Int.toNat d13.2) < List.length d9) ∧
  JoinW (D := (List Int)) (fun J17 => (((List.getD d9 (Int.toNat d13.2) false) = true → ((List.length d13.1 + List.length ([d13.2] : List Int)) * 8 ≤ 140737488355328) ∧
  J17 (d13.1 ++ ([d13.2] : List Int))) ∧ ((List.getD d9 (Int.toNat d13.2) false) = false → J17 d13.1))) (fun (d18 : (List Int)) => J15 d18)) (fun (d16 : (List Int)) => J14 (d16, (IntKind.i64.wrap (d13.2 + (1 : Int)))))) ∧ ((decide (d13.2 < ((List.length d9 : Nat) : Int))) = false → J11 d13.1)))) (fun (d12 : (List Int)) => K (d12, (0 : Int)) ()))))))
theorem fn_ref05_Closure {P : Program} (h : Has P F_ref05_Closure) {x : DP S_ref05_Closure.ps} {K : DP S_ref05_Closure.rs → DP (ptrs S_ref05_Closure.ps) → Prop} (hw : W_ref05_Closure P x K) : Fn P "mergelens/mergelensref05.Closure" S_ref05_Closure x K :=
  fn_of (c := t_ref05_Closure) h rfl rfl (by kernel_rfl) (Eq.mpr (show liftT P F_ref05_Closure S_ref05_Closure t_ref05_Closure x K = W_ref05_Closure P x K by kernel_rfl) hw)

def t_gen_Ints : TCode :=
  (.seq
    (.region [o1 4 (.asg (.c (.bool false)))])
  (.seq
    (.seq
      (.region [o1 6 (.mv (.t 0)),
        o1 7 (.lenK (.t 6)),
        o1 8 (.mv (.t 1)),
        o1 9 (.lenK (.t 8)),
        o1 10 (.bin .neq (.t 7) (.t 9))])
    (.cond (.t 10)
      (.seq
        (.region [o1 4 (.asg (.c (.bool false)))])
      .ret)
      .skip))
  (.seq
    (.seq
      (.region [o1 5 (.asg (.c (.int .i64 0)))])
    (.frame [4, 5, 11, 12, 13, 14, 15, 16, 17, 18, 19, 20, 21, 22, 23, 24, 25] [] false (.join [.sl 4 false .bool .leaf]
    (.block 0
      (.loop [.sl 4 false .bool .leaf, .sl 5 false (.int .i64) .leaf]
        (.seq
          (.seq
            (.region [o1 11 (.mv (.t 5)),
              o1 12 (.mv (.t 0)),
              o1 13 (.lenK (.t 12)),
              o1 14 (.bin .lss (.t 11) (.t 13))])
          (.cond (.t 14)
            .skip
            (.exit 0)))
        (.seq
          (.frame [4, 17, 18, 19, 20, 21, 22, 23, 24, 25] [] false (.join [.sl 4 false .bool .leaf]
          (.block 1
            (.seq
              (.draw [(.first (o1 17 (.mv (.t 0)))
              (.first (o1 18 (.mv (.t 5)))
              (.first (o1 19 (.ixA 1 (.t 17) (.t 18)))
              (.first (o1 20 (.load false 1 (.t 19)))
              (.first (o1 21 (.mv (.t 1)))
              (.first (o1 22 (.mv (.t 5)))
              (.first (o1 23 (.ixA 1 (.t 21) (.t 22)))
              (.first (o1 24 (.load false 1 (.t 23)))
              (.first (o1 25 (.bin .neq (.t 20) (.t 24)))
              .done)))))))))])
            (.cond (.t 25)
              (.seq
                (.region [o1 4 (.asg (.c (.bool false)))])
              .ret)
              .skip)))))
        (.region [o1 15 (.mv (.t 5)),
          o1 16 (.bin .add (.t 15) (.c (.int .i64 1))),
          o1 5 (.asg (.t 16))]))))))))
  (.seq
    (.region [o1 4 (.asg (.c (.bool true)))])
  .ret))))
def F_gen_Ints : AFn := ⟨ "mergelens/mergelensgen.Ints", t_gen_Ints.erase, [.tmp 4], 2⟩
def W_gen_Ints (P : Program) (x : ((List Int) × (List Int))) (K : Bool → Unit → Prop) : Prop :=
  (((((List.length x.1 : Nat) : Int) != ((List.length x.2 : Nat) : Int)) = true → K false ()) ∧ ((((List.length x.1 : Nat) : Int) != ((List.length x.2 : Nat) : Int)) = false → JoinW (D := Bool) (fun J1 => LoopW (D := (Bool × Int)) (false, (0 : Int)) (fun (d3 : (Bool × Int)) J4 => (((decide (d3.2 < ((List.length x.1 : Nat) : Int))) = true → JoinW (D := Bool) (fun J5 => (0 ≤ d3.2 ∧ d3.2 < ((List.length x.1 : Nat) : Int)) ∧
  ((Int.toNat d3.2) < List.length x.1) ∧
  (0 ≤ d3.2 ∧ d3.2 < ((List.length x.2 : Nat) : Int)) ∧
  ((Int.toNat d3.2) < List.length x.2) ∧
  ((((List.getD x.1 (Int.toNat d3.2) (0 : Int)) != (List.getD x.2 (Int.toNat d3.2) (0 : Int))) = true → K false ()) ∧ (((List.getD x.1 (Int.toNat d3.2) (0 : Int)) != (List.getD x.2 (Int.toNat d3.2) (0 : Int))) = false → J5 d3.1))) (fun (d6 : Bool) => J4 (d6, (IntKind.i64.wrap (d3.2 + (1 : Int)))))) ∧ ((decide (d3.2 < ((List.length x.1 : Nat) : Int))) = false → J1 d3.1)))) (fun (d2 : Bool) => K true ())))
theorem fn_gen_Ints {P : Program} (h : Has P F_gen_Ints) {x : DP S_gen_Ints.ps} {K : DP S_gen_Ints.rs → DP (ptrs S_gen_Ints.ps) → Prop} (hw : W_gen_Ints P x K) : Fn P "mergelens/mergelensgen.Ints" S_gen_Ints x K :=
  fn_of (c := t_gen_Ints) h rfl rfl (by kernel_rfl) (Eq.mpr (show liftT P F_gen_Ints S_gen_Ints t_gen_Ints x K = W_gen_Ints P x K by kernel_rfl) hw)

def t_law05_same : TCode :=
  (.seq
    (.region [o1 2 (.box (.t 0)),
      o1 3 (.box (.t 1)),
      o1 4 (.asg (.c (.bool false)))])
  (.seq
    (.seq
      (.region [o1 6 (.fAddr 1 (.t 2)),
        o1 7 (.load false 1 (.t 6)),
        o1 8 (.fAddr 1 (.t 3)),
        o1 9 (.load false 1 (.t 8)),
        o1 10 (.bin .neq (.t 7) (.t 9)),
        o1 11 (.mv (.t 10)),
        o0 ⟨some 12, .fAddr 0 (.t 2), some (11, false)⟩,
        o0 ⟨some 13, .load false 1 (.t 12), some (11, false)⟩,
        o0 ⟨some 14, .lenK (.t 13), some (11, false)⟩,
        o0 ⟨some 15, .fAddr 0 (.t 3), some (11, false)⟩,
        o0 ⟨some 16, .load false 1 (.t 15), some (11, false)⟩,
        o0 ⟨some 17, .lenK (.t 16), some (11, false)⟩,
        o0 ⟨some 18, .bin .neq (.t 14) (.t 17), some (11, false)⟩,
        o1 19 (.pick (.t 11) (.c (.bool true)) (.t 18))])
    (.cond (.t 19)
      (.seq
        (.region [o1 4 (.asg (.c (.bool false)))])
      .ret)
      .skip))
  (.seq
    (.seq
      (.region [o1 5 (.asg (.c (.int .i64 0)))])
    (.frame [4, 5, 20, 21, 22, 23, 24, 25, 26, 27, 28, 29, 30, 31, 32, 33, 34, 35, 36, 37] [] false (.join [.sl 4 false .bool .leaf]
    (.block 0
      (.loop [.sl 4 false .bool .leaf, .sl 5 false (.int .i64) .leaf]
        (.seq
          (.seq
            (.region [o1 20 (.mv (.t 5)),
              o1 21 (.fAddr 0 (.t 2)),
              o1 22 (.load false 1 (.t 21)),
              o1 23 (.lenK (.t 22)),
              o1 24 (.bin .lss (.t 20) (.t 23))])
          (.cond (.t 24)
            .skip
            (.exit 0)))
        (.seq
          (.frame [4, 27, 28, 29, 30, 31, 32, 33, 34, 35, 36, 37] [] false (.join [.sl 4 false .bool .leaf]
          (.block 1
            (.seq
              (.draw [(.first (o1 27 (.fAddr 0 (.t 2)))
              (.first (o1 28 (.load false 1 (.t 27)))
              (.first (o1 29 (.mv (.t 5)))
              (.first (o1 30 (.ixA 7 (.t 28) (.t 29)))
              (.first (o1 31 (.load true 7 (.t 30)))
              (.first (o1 32 (.fAddr 0 (.t 3)))
              (.first (o1 33 (.load false 1 (.t 32)))
              (.first (o1 34 (.mv (.t 5)))
              (.first (o1 35 (.ixA 7 (.t 33) (.t 34)))
              (.first (o1 36 (.load true 7 (.t 35)))
              (.first (o1 37 (.eqA true [.int, .int, .int, .int, .int, .int, .int] (.t 31) (.t 36)))
              .done)))))))))))])
            (.cond (.t 37)
              (.seq
                (.region [o1 4 (.asg (.c (.bool false)))])
              .ret)
              .skip)))))
        (.region [o1 25 (.mv (.t 5)),
          o1 26 (.bin .add (.t 25) (.c (.int .i64 1))),
          o1 5 (.asg (.t 26))]))))))))
  (.seq
    (.region [o1 4 (.asg (.c (.bool true)))])
  .ret))))
def F_law05_same : AFn := ⟨ "mergelens/mergelenslaw05.same", t_law05_same.erase, [.tmp 4], 2⟩
def W_law05_same (P : Program) (x : (((List State) × Int) × ((List State) × Int))) (K : Bool → Unit → Prop) : Prop :=
  (((cond (x.1.2 != x.2.2) true (((List.length x.1.1 : Nat) : Int) != ((List.length x.2.1 : Nat) : Int))) = true → K false ()) ∧ ((cond (x.1.2 != x.2.2) true (((List.length x.1.1 : Nat) : Int) != ((List.length x.2.1 : Nat) : Int))) = false → JoinW (D := Bool) (fun J1 => LoopW (D := (Bool × Int)) (false, (0 : Int)) (fun (d3 : (Bool × Int)) J4 => (((decide (d3.2 < ((List.length x.1.1 : Nat) : Int))) = true → JoinW (D := Bool) (fun J5 => (0 ≤ d3.2 ∧ d3.2 < ((List.length x.1.1 : Nat) : Int)) ∧
  ((Int.toNat d3.2) < List.length x.1.1) ∧
  (0 ≤ d3.2 ∧ d3.2 < ((List.length x.2.1 : Nat) : Int)) ∧
  ((Int.toNat d3.2) < List.length x.2.1) ∧
  (((!(((List.getD x.1.1 (Int.toNat d3.2) zState).1 == (List.getD x.2.1 (Int.toNat d3.2) zState).1) && (((List.getD x.1.1 (Int.toNat d3.2) zState).2.1.1 == (List.getD x.2.1 (Int.toNat d3.2) zState).2.1.1) && (((List.getD x.1.1 (Int.toNat d3.2) zState).2.1.2.1 == (List.getD x.2.1 (Int.toNat d3.2) zState).2.1.2.1) && (((List.getD x.1.1 (Int.toNat d3.2) zState).2.1.2.2.1 == (List.getD x.2.1 (Int.toNat d3.2) zState).2.1.2.2.1) && (((List.getD x.1.1 (Int.toNat d3.2) zState).2.1.2.2.2 == (List.getD x.2.1 (Int.toNat d3.2) zState).2.1.2.2.2) && (((List.getD x.1.1 (Int.toNat d3.2) zState).2.2.1 == (List.getD x.2.1 (Int.toNat d3.2) zState).2.2.1) && (((List.getD x.1.1 (Int.toNat d3.2) zState).2.2.2 == (List.getD x.2.1 (Int.toNat d3.2) zState).2.2.2) && true)))))))) = true → K false ()) ∧ ((!(((List.getD x.1.1 (Int.toNat d3.2) zState).1 == (List.getD x.2.1 (Int.toNat d3.2) zState).1) && (((List.getD x.1.1 (Int.toNat d3.2) zState).2.1.1 == (List.getD x.2.1 (Int.toNat d3.2) zState).2.1.1) && (((List.getD x.1.1 (Int.toNat d3.2) zState).2.1.2.1 == (List.getD x.2.1 (Int.toNat d3.2) zState).2.1.2.1) && (((List.getD x.1.1 (Int.toNat d3.2) zState).2.1.2.2.1 == (List.getD x.2.1 (Int.toNat d3.2) zState).2.1.2.2.1) && (((List.getD x.1.1 (Int.toNat d3.2) zState).2.1.2.2.2 == (List.getD x.2.1 (Int.toNat d3.2) zState).2.1.2.2.2) && (((List.getD x.1.1 (Int.toNat d3.2) zState).2.2.1 == (List.getD x.2.1 (Int.toNat d3.2) zState).2.2.1) && (((List.getD x.1.1 (Int.toNat d3.2) zState).2.2.2 == (List.getD x.2.1 (Int.toNat d3.2) zState).2.2.2) && true)))))))) = false → J5 d3.1))) (fun (d6 : Bool) => J4 (d6, (IntKind.i64.wrap (d3.2 + (1 : Int)))))) ∧ ((decide (d3.2 < ((List.length x.1.1 : Nat) : Int))) = false → J1 d3.1)))) (fun (d2 : Bool) => K true ())))
theorem fn_law05_same {P : Program} (h : Has P F_law05_same) {x : DP S_law05_same.ps} {K : DP S_law05_same.rs → DP (ptrs S_law05_same.ps) → Prop} (hw : W_law05_same P x K) : Fn P "mergelens/mergelenslaw05.same" S_law05_same x K :=
  fn_of (c := t_law05_same) h rfl rfl (by kernel_rfl) (Eq.mpr (show liftT P F_law05_same S_law05_same t_law05_same x K = W_law05_same P x K by kernel_rfl) hw)

def t_law05_AutomatonCloses : TCode :=
  (.seq
    (.region [o1 12 (.asg (.c (.bool false)))])
  (.seq
    (.seq
      (.region [o1 21 (.mv (.t 2)),
        o1 22 (.lenK (.t 21)),
        o1 23 (.bin .gtr (.t 22) (.c (.int .i64 8)))])
    (.cond (.t 23)
      (.seq
        (.region [oS ⟨some 24, .call "mergelens/mergelenslaw05.awake" [], none⟩ S_law05_awake,
          o1 12 (.asg (.t 24))])
      .ret)
      .skip))
  (.seq
    (.region [o1 25 (.mv (.t 0)),
      o1 26 (.mv (.t 1)),
      oS ⟨some 27, .call "mergelens/mergelenslaw05.made" [(.t 25), (.t 26)], none⟩ S_law05_made,
      o1 13 (.alloc [(.slice none 0 0), (.int .i64 0)]),
      o0 ⟨none, .store 2 (.t 13) (.t 27), none⟩])
  (.seq
    (.region [oT ⟨some 28, .buildSl 1 [(.int .i64 0)] 0 [], none⟩ (some ((.int .i64), .leaf)),
      o1 29 (.mv (.t 2)),
      oT ⟨some 30, .app 1 8 (.t 28) (.t 29), none⟩ (some ((.int .i64), .leaf)),
      o1 14 (.asg (.t 30))])
  (.seq
    (.seq
      (.region [o1 15 (.asg (.c (.int .i64 0)))])
    (.frame [14, 15, 31, 32, 33, 34, 35, 36, 37, 38, 39, 40, 41, 42, 43, 44, 45, 46, 47, 48, 49, 50] [] false (.join [.sl 14 false (.sl (.int .i64)) (.node .own .leaf)]
    (.block 0
      (.loop [.sl 14 false (.sl (.int .i64)) (.node .own .leaf), .sl 15 false (.int .i64) .leaf]
        (.seq
          (.seq
            (.region [o1 31 (.mv (.t 15)),
              o1 32 (.mv (.t 14)),
              o1 33 (.lenK (.t 32)),
              o1 34 (.bin .lss (.t 31) (.t 33)),
              o1 35 (.mv (.t 34)),
              o0 ⟨some 36, .mv (.t 3), some (35, true)⟩,
              o1 37 (.pick (.t 35) (.t 36) (.c (.bool false)))])
          (.cond (.t 37)
            .skip
            (.exit 0)))
        (.seq
          (.frame [14, 40, 41, 42, 43, 44, 45, 46, 47, 48, 49, 50] [] false (.join [.sl 14 false (.sl (.int .i64)) (.node .own .leaf)]
          (.block 1
            (.frame [14, 40, 41, 42, 43, 44, 45, 46, 47, 48, 49, 50] [] false (.join [.sl 14 false (.sl (.int .i64)) (.node .own .leaf)]
            (.draw [(.first (o1 40 (.mv (.t 14)))
            (.first (o1 41 (.mv (.t 15)))
            (.first (o1 42 (.mv (.t 14)))
            (.first (o1 43 (.mv (.t 15)))
            (.first (o1 44 (.ixA 1 (.t 42) (.t 43)))
            (.first (o1 45 (.load false 1 (.t 44)))
            (.first (o1 46 (.fAddr 0 (.t 13)))
            (.first (o1 47 (.load false 1 (.t 46)))
            (.first (o1 48 (.lenK (.t 47)))
            (.alt (oS ⟨some 49, .call "mergelens/mergelensgen.Mod" [(.t 45), (.t 48)], none⟩ S_gen_Mod)
            (.first (o1 50 (.ixA 1 (.t 40) (.t 41)))
            (.alt (o0 ⟨none, .store 1 (.t 50) (.t 49), none⟩)
            .done
            .stop))
            .stop))))))))))]))))))
        (.region [o1 38 (.mv (.t 15)),
          o1 39 (.bin .add (.t 38) (.c (.int .i64 1))),
          o1 15 (.asg (.t 39))]))))))))
  (.seq
    (.region [oT ⟨some 51, .buildSl 1 [(.int .i64 0)] 0 [], none⟩ (some ((.int .i64), .leaf)),
      o1 52 (.mv (.t 14)),
      oT ⟨some 53, .app 1 8 (.t 51) (.t 52), none⟩ (some ((.int .i64), .leaf)),
      o1 16 (.asg (.t 53))])
  (.seq
    (.region [o1 55 (.load true 2 (.t 13)),
      o1 56 (.mv (.t 14)),
      o1 57 (.mv (.t 4)),
      o1 58 (.mv (.t 5)),
      oS ⟨some 59, .call "mergelens/automaton.Closure" [(.t 55), (.t 56), (.t 57), (.t 58)], none⟩ S_automaton_Closure,
      o1 54 (.mv (.t 59)),
      o1 60 (.ext (.t 54) 0),
      o1 61 (.ext (.t 54) 1),
      o1 17 (.asg (.t 60)),
      o1 18 (.asg (.t 61))])
  (.seq
    (.region [o1 63 (.mv (.t 0)),
      o1 64 (.mv (.t 1)),
      oS ⟨some 65, .call "mergelens/mergelenslaw05.made" [(.t 63), (.t 64)], none⟩ S_law05_made,
      o1 66 (.mv (.t 16)),
      o1 67 (.mv (.t 4)),
      o1 68 (.mv (.t 5)),
      oS ⟨some 69, .call "mergelens/mergelensref05.Closure" [(.t 65), (.t 66), (.t 67), (.t 68)], none⟩ S_ref05_Closure,
      o1 62 (.mv (.t 69)),
      o1 70 (.ext (.t 62) 0),
      o1 71 (.ext (.t 62) 1),
      o1 19 (.asg (.t 70)),
      o1 20 (.asg (.t 71))])
  (.seq
    (.frame [12, 72, 73, 74, 75, 76, 77, 78, 79, 80, 81, 82, 83, 84, 85, 86, 87, 88, 89, 90, 91, 92, 93, 94] [] false (.join [.sl 12 false .bool .leaf]
    (.draw [(.first (o1 72 (.mv (.t 17)))
    (.first (o1 73 (.mv (.t 19)))
    (.alt (oS ⟨some 74, .call "mergelens/mergelensgen.Ints" [(.t 72), (.t 73)], none⟩ S_gen_Ints)
    (.first (o1 75 (.mv (.t 74)))
    (.first (o0 ⟨some 76, .mv (.t 18), some (75, true)⟩)
    (.first (o0 ⟨some 77, .mv (.t 20), some (75, true)⟩)
    (.first (o0 ⟨some 78, .bin .eql (.t 76) (.t 77), some (75, true)⟩)
    (.first (o1 79 (.pick (.t 75) (.t 78) (.c (.bool false))))
    (.first (o1 80 (.mv (.t 79)))
    (.first (o0 ⟨some 81, .mv (.t 14), some (80, true)⟩)
    (.first (o0 ⟨some 82, .mv (.t 16), some (80, true)⟩)
    (.alt (oS ⟨some 83, .call "mergelens/mergelensgen.Ints" [(.t 81), (.t 82)], some (80, true)⟩ S_gen_Ints)
    (.first (o1 84 (.pick (.t 80) (.t 83) (.c (.bool false))))
    (.first (o1 85 (.mv (.t 84)))
    (.first (⟨⟨some 87, .mv (.t 0), some (85, true)⟩, none, ⟨[], []⟩, false, some 85, true, false⟩)
    (.first (⟨⟨some 88, .mv (.t 1), some (85, true)⟩, none, ⟨[], []⟩, false, none, true, false⟩)
    (.alt (⟨⟨some 86, .load true 2 (.t 13), some (85, true)⟩, none, ⟨[], []⟩, false, none, true, false⟩)
    (.alt (⟨⟨some 89, .call "mergelens/mergelenslaw05.made" [(.t 87), (.t 88)], some (85, true)⟩, none, S_law05_made, false, none, true, false⟩)
    (.alt (⟨⟨some 90, .call "mergelens/mergelenslaw05.same" [(.t 86), (.t 89)], some (85, true)⟩, none, S_law05_same, false, none, true, true⟩)
    (.first (o1 91 (.pick (.t 85) (.t 90) (.c (.bool false))))
    (.first (o1 92 (.mv (.t 91)))
    (.alt (oS ⟨some 93, .call "mergelens/mergelenslaw05.awake" [], some (92, true)⟩ S_law05_awake)
    (.first (o1 94 (.pick (.t 92) (.t 93) (.c (.bool false))))
    (.alt (o1 12 (.asg (.t 94)))
    .done
    .stop))
    .stop)))
    .stop)
    .stop)
    (.alt (⟨⟨some 89, .call "mergelens/mergelenslaw05.made" [(.t 87), (.t 88)], some (85, true)⟩, none, S_law05_made, false, none, true, false⟩)
    (.first (⟨⟨some 86, .load true 2 (.t 13), some (85, true)⟩, none, ⟨[], []⟩, false, none, true, false⟩)
    (.alt (⟨⟨some 90, .call "mergelens/mergelenslaw05.same" [(.t 86), (.t 89)], some (85, true)⟩, none, S_law05_same, false, none, true, true⟩)
    (.first (o1 91 (.pick (.t 85) (.t 90) (.c (.bool false))))
    (.first (o1 92 (.mv (.t 91)))
    (.alt (oS ⟨some 93, .call "mergelens/mergelenslaw05.awake" [], some (92, true)⟩ S_law05_awake)
    (.first (o1 94 (.pick (.t 92) (.t 93) (.c (.bool false))))
    (.alt (o1 12 (.asg (.t 94)))
    .done
    .stop))
    .stop)))
    .stop))
    .stop))))))
    .stop)))))))))
    .stop)))])))
  .ret)))))))))
def F_law05_AutomatonCloses : AFn := ⟨ "mergelens/mergelenslaw05.AutomatonCloses", t_law05_AutomatonCloses.erase, [.tmp 12], 6⟩
def W_law05_AutomatonCloses (P : Program) (x : ((List Int) × (Int × ((List Int) × (Bool × (Bool × Bool)))))) (K : Bool → Unit → Prop) : Prop :=
  (((decide (((List.length x.2.2.1 : Nat) : Int) > (8 : Int))) = true → Fn P "mergelens/mergelenslaw05.awake" S_law05_awake () (fun (d1 : Bool) (e2 : Unit) => K d1 ())) ∧ ((decide (((List.length x.2.2.1 : Nat) : Int) > (8 : Int))) = false → Fn P "mergelens/mergelenslaw05.made" S_law05_made (x.1, x.2.1) (fun (d3 : ((List State) × Int)) (e4 : Unit) => ((List.length ([] : List Int) + List.length x.2.2.1) * 8 ≤ 140737488355328) ∧
  JoinW (D := (List Int)) (fun J5 => LoopW (D := ((List Int) × Int)) ((([] : List Int) ++ x.2.2.1), (0 : Int)) (fun (d7 : ((List Int) × Int)) J8 => (((cond (decide (d7.2 < ((List.length d7.1 : Nat) : Int))) x.2.2.2.1 false) = true → JoinW (D := (List Int)) (fun J9 => JoinW (D := (List Int)) (fun J11 => (0 ≤ d7.2 ∧ d7.2 < ((List.length d7.1 : Nat) : Int)) ∧
  ((Int.toNat d7.2) < List.length d7.1) ∧
  (Fn P "mergelens/mergelensgen.Mod" S_gen_Mod ((List.getD d7.1 (Int.toNat d7.2) (0 : Int)), ((List.length d3.1 : Nat) : Int)) (fun (d13 : Int) (e14 : Unit) => (0 ≤ d7.2 ∧ d7.2 < ((List.length d7.1 : Nat) : Int)) ∧
  (((Int.toNat d7.2) < List.length d7.1) ∧
  J11 (List.set d7.1 (Int.toNat d7.2) d13)) ∧ (True))) ∧ (True)) (fun (d12 : (List Int)) => J9 d12)) (fun (d10 : (List Int)) => J8 (d10, (IntKind.i64.wrap (d7.2 + (1 : Int)))))) ∧ ((cond (decide (d7.2 < ((List.length d7.1 : Nat) : Int))) x.2.2.2.1 false) = false → J5 d7.1)))) (fun (d6 : (List Int)) => ((List.length ([] : List Int) + List.length d6) * 8 ≤ 140737488355328) ∧
  Fn P "mergelens/automaton.Closure" S_automaton_Closure ((d3.1, d3.2), (d6, (x.2.2.2.2.1, x.2.2.2.2.2))) (fun (d15 : ((List Int) × Int)) (e16 : Unit) => Fn P "mergelens/mergelenslaw05.made" S_law05_made (x.1, x.2.1) (fun (d17 : ((List State) × Int)) (e18 : Unit) => Fn P "mergelens/mergelensref05.Closure" S_ref05_Closure ((d17.1, d17.2), ((([] : List Int) ++ d6), (x.2.2.2.2.1, x.2.2.2.2.2))) (fun (d19 : ((List Int) × Int)) (e20 : Unit) => JoinW (D := Bool) (fun J21 => (Fn P "mergelens/mergelensgen.Ints" S_gen_Ints (d15.1, d19.1) (fun (d23 : Bool) (e24 : Unit) => (JoinW (D := Bool) (fun J25 => (((cond d23 (d15.2 == d19.2) false) = true → Fn P "mergelens/mergelensgen.Ints" S_gen_Ints (d6, (([] : List Int) ++ d6)) (fun (d26 : Bool) _ => J25 d26)) ∧ (((cond d23 (d15.2 == d19.2) false) = false → J25 false) ∧ True))) (fun d27 => (((cond (cond d23 (d15.2 == d19.2) false) d27 false) = true → ((Fn P "mergelens/mergelenslaw05.made" S_law05_made (x.1, x.2.1) (fun (d28 : ((List State) × Int)) (e29 : Unit) => (Fn P "mergelens/mergelenslaw05.same" S_law05_same ((d3.1, d3.2), (d28.1, d28.2)) (fun (d30 : Bool) (e31 : Unit) => (JoinW (D := Bool) (fun J32 => (((cond true d30 false) = true → Fn P "mergelens/mergelenslaw05.awake" S_law05_awake () (fun (d33 : Bool) _ => J32 d33)) ∧ (((cond true d30 false) = false → J32 false) ∧ True))) (fun d34 => (J21 (cond (cond true d30 false) d34 false)) ∧ (True))) ∧ (True))) ∧ (True))) ∧ (True)) ∧ ((Fn P "mergelens/mergelenslaw05.made" S_law05_made (x.1, x.2.1) (fun (d35 : ((List State) × Int)) (e36 : Unit) => (Fn P "mergelens/mergelenslaw05.same" S_law05_same ((d3.1, d3.2), (d35.1, d35.2)) (fun (d37 : Bool) (e38 : Unit) => (JoinW (D := Bool) (fun J39 => (((cond true d37 false) = true → Fn P "mergelens/mergelenslaw05.awake" S_law05_awake () (fun (d40 : Bool) _ => J39 d40)) ∧ (((cond true d37 false) = false → J39 false) ∧ True))) (fun d41 => (J21 (cond (cond true d37 false) d41 false)) ∧ (True))) ∧ (True))) ∧ (True))) ∧ (True))) ∧ ((cond (cond d23 (d15.2 == d19.2) false) d27 false) = false → ((((JoinW (D := Bool) (fun J42 => (((cond false false false) = true → Fn P "mergelens/mergelenslaw05.awake" S_law05_awake () (fun (d43 : Bool) _ => J42 d43)) ∧ (((cond false false false) = false → J42 false) ∧ True))) (fun d44 => (J21 (cond (cond false false false) d44 false)) ∧ (True))) ∧ (True)) ∧ (True)) ∧ (True)) ∧ ((((JoinW (D := Bool) (fun J45 => (((cond false false false) = true → Fn P "mergelens/mergelenslaw05.awake" S_law05_awake () (fun (d46 : Bool) _ => J45 d46)) ∧ (((cond false false false) = false → J45 false) ∧ True))) (fun d47 => (J21 (cond (cond false false false) d47 false)) ∧ (True))) ∧ (True)) ∧ (True)) ∧ (True)))))) ∧ (True))) ∧ (True)) (fun (d22 : Bool) => K d22 ()))))))))
theorem fn_law05_AutomatonCloses {P : Program} (h : Has P F_law05_AutomatonCloses) {x : DP S_law05_AutomatonCloses.ps} {K : DP S_law05_AutomatonCloses.rs → DP (ptrs S_law05_AutomatonCloses.ps) → Prop} (hw : W_law05_AutomatonCloses P x K) : Fn P "mergelens/mergelenslaw05.AutomatonCloses" S_law05_AutomatonCloses x K :=
  fn_of (c := t_law05_AutomatonCloses) h rfl rfl (by kernel_rfl) (Eq.mpr (show liftT P F_law05_AutomatonCloses S_law05_AutomatonCloses t_law05_AutomatonCloses x K = W_law05_AutomatonCloses P x K by kernel_rfl) hw)


end Go.VS
