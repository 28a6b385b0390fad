/- Functions of the program: typed code, and what it says, lifted. -/
import Derived.Test.YtobddjdmgebmgaaKTxSig
import Derived.KernelRfl
set_option linter.unusedVariables false
set_option linter.unusedSimpArgs false
set_option linter.unusedSectionVars false
namespace Go.VS

def t_ref05_Close : TCode :=
  (.seq
    (.region [o1 4 (.box (.t 0)),
      o1 8 (.asg (.c (.slice none 0 0)))])
  (.seq
    (.region [oT ⟨some 13, .buildSl 1 [(.bool false)] 0 [], none⟩ (some (.bool, .leaf)),
      o1 14 (.mv (.t 1)),
      oT ⟨some 15, .app 1 1 (.t 13) (.t 14), none⟩ (some (.bool, .leaf)),
      o1 9 (.asg (.t 15))])
  (.seq
    (.region [o1 10 (.asg (.c (.bool true)))])
  (.seq
    (.frame [9, 10, 11, 12, 16, 17, 18, 19, 20, 21, 22, 23, 24, 25, 26, 27, 28, 29, 30, 31, 32, 33, 34, 35, 36, 37, 38, 39, 40, 41, 42, 43, 44, 45, 46, 47, 48, 49, 50, 51, 52, 53, 54, 55, 56, 57, 58, 59, 60, 61, 62, 63, 64, 65, 66, 67, 68, 69, 70, 71, 72, 73, 74, 75, 76, 77, 78, 79, 80, 81, 82, 83, 84, 85] [1012] false (.join [.sl 9 false (.sl .bool) (.node .own .leaf)]
    (.block 0
      (.loop [.sl 9 false (.sl .bool) (.node .own .leaf), .sl 10 false .bool .leaf]
        (.seq
          (.seq
            (.region [o1 16 (.mv (.t 10))])
          (.cond (.t 16)
            .skip
            (.exit 0)))
        (.frame [9, 10, 11, 12, 17, 18, 19, 20, 21, 22, 23, 24, 25, 26, 27, 28, 29, 30, 31, 32, 33, 34, 35, 36, 37, 38, 39, 40, 41, 42, 43, 44, 45, 46, 47, 48, 49, 50, 51, 52, 53, 54, 55, 56, 57, 58, 59, 60, 61, 62, 63, 64, 65, 66, 67, 68, 69, 70, 71, 72, 73, 74, 75, 76, 77, 78, 79, 80, 81, 82, 83, 84, 85] [1012] false (.join [.sl 9 false (.sl .bool) (.node .own .leaf), .sl 10 false .bool .leaf]
        (.block 1
          (.seq
            (.region [o1 10 (.asg (.c (.bool false)))])
          (.seq
            (.region [o1 11 (.asg (.c (.int .i64 0)))])
          (.frame [9, 10, 11, 12, 17, 18, 19, 20, 21, 22, 23, 24, 25, 26, 27, 28, 29, 30, 31, 32, 33, 34, 35, 36, 37, 38, 39, 40, 41, 42, 43, 44, 45, 46, 47, 48, 49, 50, 51, 52, 53, 54, 55, 56, 57, 58, 59, 60, 61, 62, 63, 64, 65, 66, 67, 68, 69, 70, 71, 72, 73, 74, 75, 76, 77, 78, 79, 80, 81, 82, 83, 84, 85] [1012] false (.join [.sl 9 false (.sl .bool) (.node .own .leaf), .sl 10 false .bool .leaf]
          (.block 2
            (.loop [.sl 9 false (.sl .bool) (.node .own .leaf), .sl 10 false .bool .leaf, .sl 11 false (.int .i64) .leaf]
              (.seq
                (.seq
                  (.region [o1 17 (.mv (.t 11)),
                    o1 18 (.mv (.t 9)),
                    o1 19 (.lenK (.t 18)),
                    o1 20 (.bin .lss (.t 17) (.t 19))])
                (.cond (.t 20)
                  .skip
                  (.exit 2)))
              (.seq
                (.frame [9, 10, 12, 23, 24, 25, 26, 27, 28, 29, 30, 31, 32, 33, 34, 35, 36, 37, 38, 39, 40, 41, 42, 43, 44, 45, 46, 47, 48, 49, 50, 51, 52, 53, 54, 55, 56, 57, 58, 59, 60, 61, 62, 63, 64, 65, 66, 67, 68, 69, 70, 71, 72, 73, 74, 75, 76, 77, 78, 79, 80, 81, 82, 83, 84, 85] [1012] false (.join [.sl 9 false (.sl .bool) (.node .own .leaf), .sl 10 false .bool .leaf]
                (.block 3
                  (.seq
                    (.region [o1 23 (.fAddr 0 (.t 4)),
                      o1 24 (.load false 1 (.t 23)),
                      o1 25 (.mv (.t 11)),
                      o1 26 (.ixA 7 (.t 24) (.t 25)),
                      o1 27 (.load true 7 (.t 26)),
                      o1 12 (.alloc [(.int .i64 0), (.int .u64 0), (.int .u64 0), (.int .u64 0), (.int .u64 0), (.int .i64 0), (.int .i64 0)]),
                      o0 ⟨none, .store 7 (.t 12) (.t 27), none⟩])
                  (.seq
                    (.seq
                      (.region [o1 28 (.mv (.t 9)),
                        o1 29 (.mv (.t 11)),
                        o1 30 (.ixA 1 (.t 28) (.t 29)),
                        o1 31 (.load false 1 (.t 30)),
                        o1 32 (.mv (.t 31)),
                        o0 ⟨some 33, .fAddr 0 (.t 12), some (32, true)⟩,
                        o0 ⟨some 34, .load false 1 (.t 33), some (32, true)⟩,
                        o0 ⟨some 35, .bin .eql (.t 34) (.c (.int .i64 1)), some (32, true)⟩,
                        o0 ⟨some 36, .mv (.t 35), some (32, true)⟩,
                        o0 ⟨some 37, .fAddr 0 (.t 12), some (36, false)⟩,
                        o0 ⟨some 38, .load false 1 (.t 37), some (36, false)⟩,
                        o0 ⟨some 39, .bin .eql (.t 38) (.c (.int .i64 2)), some (36, false)⟩,
                        o0 ⟨some 40, .mv (.t 39), some (36, false)⟩,
                        o0 ⟨some 41, .mv (.t 2), some (40, true)⟩,
                        o0 ⟨some 42, .pick (.t 40) (.t 41) (.c (.bool false)), some (36, false)⟩,
                        o0 ⟨some 43, .pick (.t 36) (.c (.bool true)) (.t 42), some (32, true)⟩,
                        o0 ⟨some 44, .mv (.t 43), some (32, true)⟩,
                        o0 ⟨some 45, .fAddr 0 (.t 12), some (44, false)⟩,
                        o0 ⟨some 46, .load false 1 (.t 45), some (44, false)⟩,
                        o0 ⟨some 47, .bin .eql (.t 46) (.c (.int .i64 3)), some (44, false)⟩,
                        o0 ⟨some 48, .mv (.t 47), some (44, false)⟩,
                        o0 ⟨some 49, .mv (.t 3), some (48, true)⟩,
                        o0 ⟨some 50, .pick (.t 48) (.t 49) (.c (.bool false)), some (44, false)⟩,
                        o0 ⟨some 51, .pick (.t 44) (.c (.bool true)) (.t 50), some (32, true)⟩,
                        o1 52 (.pick (.t 32) (.t 51) (.c (.bool false))),
                        o1 53 (.mv (.t 52)),
                        o0 ⟨some 54, .mv (.t 9), some (53, true)⟩,
                        o0 ⟨some 55, .fAddr 5 (.t 12), some (53, true)⟩,
                        o0 ⟨some 56, .load false 1 (.t 55), some (53, true)⟩,
                        o0 ⟨some 57, .ixA 1 (.t 54) (.t 56), some (53, true)⟩,
                        o0 ⟨some 58, .load false 1 (.t 57), some (53, true)⟩,
                        o0 ⟨some 59, .un .not (.t 58), some (53, true)⟩,
                        o1 60 (.pick (.t 53) (.t 59) (.c (.bool false)))])
                    (.frame [9, 10, 61, 62, 63, 64] [] false (.join [.sl 9 false (.sl .bool) (.node .own .leaf), .sl 10 false .bool .leaf]
                    (.cond (.t 60)
                      (.seq
                        (.region [o1 61 (.mv (.t 9)),
                          o1 62 (.fAddr 5 (.t 12)),
                          o1 63 (.load false 1 (.t 62)),
                          o1 64 (.ixA 1 (.t 61) (.t 63)),
                          o0 ⟨none, .store 1 (.t 64) (.c (.bool true)), none⟩])
                      (.region [o1 10 (.asg (.c (.bool true)))]))
                      .skip))))
                  (.seq
                    (.region [o1 65 (.mv (.t 9)),
                      o1 66 (.mv (.t 11)),
                      o1 67 (.ixA 1 (.t 65) (.t 66)),
                      o1 68 (.load false 1 (.t 67)),
                      o1 69 (.mv (.t 68)),
                      o0 ⟨some 70, .fAddr 0 (.t 12), some (69, true)⟩,
                      o0 ⟨some 71, .load false 1 (.t 70), some (69, true)⟩,
                      o0 ⟨some 72, .bin .eql (.t 71) (.c (.int .i64 1)), some (69, true)⟩,
                      o1 73 (.pick (.t 69) (.t 72) (.c (.bool false))),
                      o1 74 (.mv (.t 73)),
                      o0 ⟨some 75, .mv (.t 9), some (74, true)⟩,
                      o0 ⟨some 76, .fAddr 6 (.t 12), some (74, true)⟩,
                      o0 ⟨some 77, .load false 1 (.t 76), some (74, true)⟩,
                      o0 ⟨some 78, .ixA 1 (.t 75) (.t 77), some (74, true)⟩,
                      o0 ⟨some 79, .load false 1 (.t 78), some (74, true)⟩,
                      o0 ⟨some 80, .un .not (.t 79), some (74, true)⟩,
                      o1 81 (.pick (.t 74) (.t 80) (.c (.bool false)))])
                  (.frame [9, 10, 82, 83, 84, 85] [] false (.join [.sl 9 false (.sl .bool) (.node .own .leaf), .sl 10 false .bool .leaf]
                  (.cond (.t 81)
                    (.seq
                      (.region [o1 82 (.mv (.t 9)),
                        o1 83 (.fAddr 6 (.t 12)),
                        o1 84 (.load false 1 (.t 83)),
                        o1 85 (.ixA 1 (.t 82) (.t 84)),
                        o0 ⟨none, .store 1 (.t 85) (.c (.bool true)), none⟩])
                    (.region [o1 10 (.asg (.c (.bool true)))]))
                    .skip)))))))))
              (.region [o1 21 (.mv (.t 11)),
                o1 22 (.bin .add (.t 21) (.c (.int .i64 1))),
                o1 11 (.asg (.t 22))])))))))))))))))))
  (.seq
    (.region [o1 86 (.mv (.t 9)),
      o1 8 (.asg (.t 86))])
  .ret)))))
def F_ref05_Close : AFn := ⟨ "mergelens/mergelensref05.Close", t_ref05_Close.erase, [.tmp 8], 4⟩
def W_ref05_Close (P : Program) (x : (((List State) × Int) × ((List Bool) × (Bool × Bool)))) (K : (List Bool) → Unit → Prop) : Prop :=
  ((List.length ([] : List Bool) + List.length x.2.1) * 1 ≤ 140737488355328) ∧
  JoinW (D := (List Bool)) (fun J1 => LoopW (D := ((List Bool) × Bool)) ((([] : List Bool) ++ x.2.1), true) (fun (d3 : ((List Bool) × Bool)) J4 => ((d3.2 = true → JoinW (D := ((List Bool) × Bool)) (fun J5 => JoinW (D := ((List Bool) × Bool)) (fun J7 => LoopW (D := ((List Bool) × (Bool × Int))) (d3.1, (false, (0 : Int))) (fun (d9 : ((List Bool) × (Bool × Int))) J10 => (((decide (d9.2.2 < ((List.length d9.1 : Nat) : Int))) = true → JoinW (D := ((List Bool) × Bool)) (fun J11 => (0 ≤ d9.2.2 ∧ d9.2.2 < ((List.length x.1.1 : Nat) : Int)) ∧
  ((Int.toNat d9.2.2) < List.length x.1.1) ∧
  (0 ≤ d9.2.2 ∧ d9.2.2 < ((List.length d9.1 : Nat) : Int)) ∧
  ((Int.toNat d9.2.2) < List.length d9.1) ∧
  (((cond (List.getD d9.1 (Int.toNat d9.2.2) false) (cond (cond ((List.getD x.1.1 (Int.toNat d9.2.2) zState).1 == (1 : Int)) true (cond ((List.getD x.1.1 (Int.toNat d9.2.2) zState).1 == (2 : Int)) x.2.2.1 false)) true (cond ((List.getD x.1.1 (Int.toNat d9.2.2) zState).1 == (3 : Int)) x.2.2.2 false)) false) = true → 0 ≤ (List.getD x.1.1 (Int.toNat d9.2.2) zState).2.2.1 ∧ (List.getD x.1.1 (Int.toNat d9.2.2) zState).2.2.1 < ((List.length d9.1 : Nat) : Int))) ∧
  (((cond (List.getD d9.1 (Int.toNat d9.2.2) false) (cond (cond ((List.getD x.1.1 (Int.toNat d9.2.2) zState).1 == (1 : Int)) true (cond ((List.getD x.1.1 (Int.toNat d9.2.2) zState).1 == (2 : Int)) x.2.2.1 false)) true (cond ((List.getD x.1.1 (Int.toNat d9.2.2) zState).1 == (3 : Int)) x.2.2.2 false)) false) = true → (Int.toNat (List.getD x.1.1 (Int.toNat d9.2.2) zState).2.2.1) < List.length d9.1)) ∧
  JoinW (D := ((List Bool) × Bool)) (fun J13 => (((cond (cond (List.getD d9.1 (Int.toNat d9.2.2) false) (cond (cond ((List.getD x.1.1 (Int.toNat d9.2.2) zState).1 == (1 : Int)) true (cond ((List.getD x.1.1 (Int.toNat d9.2.2) zState).1 == (2 : Int)) x.2.2.1 false)) true (cond ((List.getD x.1.1 (Int.toNat d9.2.2) zState).1 == (3 : Int)) x.2.2.2 false)) false) (!(List.getD d9.1 (Int.toNat (List.getD x.1.1 (Int.toNat d9.2.2) zState).2.2.1) false)) false) = true → (0 ≤ (List.getD x.1.1 (Int.toNat d9.2.2) zState).2.2.1 ∧ (List.getD x.1.1 (Int.toNat d9.2.2) zState).2.2.1 < ((List.length d9.1 : Nat) : Int)) ∧
  ((Int.toNat (List.getD x.1.1 (Int.toNat d9.2.2) zState).2.2.1) < List.length d9.1) ∧
  J13 ((List.set d9.1 (Int.toNat (List.getD x.1.1 (Int.toNat d9.2.2) zState).2.2.1) true), true)) ∧ ((cond (cond (List.getD d9.1 (Int.toNat d9.2.2) false) (cond (cond ((List.getD x.1.1 (Int.toNat d9.2.2) zState).1 == (1 : Int)) true (cond ((List.getD x.1.1 (Int.toNat d9.2.2) zState).1 == (2 : Int)) x.2.2.1 false)) true (cond ((List.getD x.1.1 (Int.toNat d9.2.2) zState).1 == (3 : Int)) x.2.2.2 false)) false) (!(List.getD d9.1 (Int.toNat (List.getD x.1.1 (Int.toNat d9.2.2) zState).2.2.1) false)) false) = false → J13 (d9.1, d9.2.1)))) (fun (d14 : ((List Bool) × Bool)) => (0 ≤ d9.2.2 ∧ d9.2.2 < ((List.length d14.1 : Nat) : Int)) ∧
  ((Int.toNat d9.2.2) < List.length d14.1) ∧
  (((cond (List.getD d14.1 (Int.toNat d9.2.2) false) ((List.getD x.1.1 (Int.toNat d9.2.2) zState).1 == (1 : Int)) false) = true → 0 ≤ (List.getD x.1.1 (Int.toNat d9.2.2) zState).2.2.2 ∧ (List.getD x.1.1 (Int.toNat d9.2.2) zState).2.2.2 < ((List.length d14.1 : Nat) : Int))) ∧
  (((cond (List.getD d14.1 (Int.toNat d9.2.2) false) ((List.getD x.1.1 (Int.toNat d9.2.2) zState).1 == (1 : Int)) false) = true → (Int.toNat (List.getD x.1.1 (Int.toNat d9.2.2) zState).2.2.2) < List.length d14.1)) ∧
  JoinW (D := ((List Bool) × Bool)) (fun J15 => (((cond (cond (List.getD d14.1 (Int.toNat d9.2.2) false) ((List.getD x.1.1 (Int.toNat d9.2.2) zState).1 == (1 : Int)) false) (!(List.getD d14.1 (Int.toNat (List.getD x.1.1 (Int.toNat d9.2.2) zState).2.2.2) false)) false) = true → (0 ≤ (List.getD x.1.1 (Int.toNat d9.2.2) zState).2.2.2 ∧ (List.getD x.1.1 (Int.toNat d9.2.2) zState).2.2.2 < ((List.length d14.1 : Nat) : Int)) ∧
  ((Int.toNat (List.getD x.1.1 (Int.toNat d9.2.2) zState).2.2.2) < List.length d14.1) ∧
  J15 ((List.set d14.1 (Int.toNat (List.getD x.1.1 (Int.toNat d9.2.2) zState).2.2.2) true), true)) ∧ ((cond (cond (List.getD d14.1 (Int.toNat d9.2.2) false) ((List.getD x.1.1 (Int.toNat d9.2.2) zState).1 == (1 : Int)) false) (!(List.getD d14.1 (Int.toNat (List.getD x.1.1 (Int.toNat d9.2.2) zState).2.2.2) false)) false) = false → J15 (d14.1, d14.2)))) (fun (d16 : ((List Bool) × Bool)) => J11 (d16.1, d16.2)))) (fun (d12 : ((List Bool) × Bool)) => J10 (d12.1, (d12.2, (IntKind.i64.wrap (d9.2.2 + (1 : Int))))))) ∧ ((decide (d9.2.2 < ((List.length d9.1 : Nat) : Int))) = false → J7 (d9.1, d9.2.1))))) (fun (d8 : ((List Bool) × Bool)) => J5 (d8.1, d8.2))) (fun (d6 : ((List Bool) × Bool)) => J4 (d6.1, d6.2))) ∧ (d3.2 = false → J1 d3.1)))) (fun (d2 : (List Bool)) => K d2 ())
theorem fn_ref05_Close {P : Program} (h : Has P F_ref05_Close) {x : DP S_ref05_Close.ps} {K : DP S_ref05_Close.rs → DP (ptrs S_ref05_Close.ps) → Prop} (hw : W_ref05_Close P x K) : Fn P "mergelens/mergelensref05.Close" S_ref05_Close x K :=
  fn_of (c := t_ref05_Close) h rfl rfl (by kernel_rfl) (Eq.mpr (show liftT P F_ref05_Close S_ref05_Close t_ref05_Close x K = W_ref05_Close P x K by kernel_rfl) hw)

def t_ref04_Has : TCode :=
  (.seq
    (.region [o1 2 (.box (.t 0)),
      o1 4 (.asg (.c (.bool false)))])
  (.seq
    (.region [o1 5 (.mv (.t 1)),
      o1 6 (.bin .quo (.t 5) (.c (.int .u8 64))),
      o1 7 (.ixAr 4 1 (.t 2) (.t 6)),
      o1 8 (.load false 1 (.t 7)),
      o1 9 (.mv (.t 1)),
      o1 10 (.bin .rem (.t 9) (.c (.int .u8 64))),
      o1 11 (.bin .shr (.t 8) (.t 10)),
      o1 12 (.bin .and (.t 11) (.c (.int .u64 1))),
      o1 13 (.bin .eql (.t 12) (.c (.int .u64 1))),
      o1 4 (.asg (.t 13))])
  .ret))
def F_ref04_Has : AFn := ⟨ "mergelens/mergelensref04.Has", t_ref04_Has.erase, [.tmp 4], 2⟩
def W_ref04_Has (P : Program) (x : ((Int × (Int × (Int × Int))) × Int)) (K : Bool → Unit → Prop) : Prop :=
  ((64 : Int) ≠ 0) ∧
  (0 ≤ (IntKind.u8.wrap (Int.tdiv x.2 (64 : Int))) ∧ (IntKind.u8.wrap (Int.tdiv x.2 (64 : Int))) < ((4 : Nat) : Int)) ∧
  ((Int.toNat (IntKind.u8.wrap (Int.tdiv x.2 (64 : Int)))) < 4) ∧
  ((64 : Int) ≠ 0) ∧
  (0 ≤ (Int.tmod x.2 (64 : Int))) ∧
  K ((IntKind.u64.wrap ((BitVec.toNat (BitVec.ofInt IntKind.u64.bits (Int.fdiv (List.getD [x.1.1, x.1.2.1, x.1.2.2.1, x.1.2.2.2] (Int.toNat (IntKind.u8.wrap (Int.tdiv x.2 (64 : Int)))) (0 : Int)) (2 ^ (min (Int.toNat (Int.tmod x.2 (64 : Int))) IntKind.u64.bits))) &&& BitVec.ofInt IntKind.u64.bits (1 : Int)) : Nat) : Int)) == (1 : Int)) ()
theorem fn_ref04_Has {P : Program} (h : Has P F_ref04_Has) {x : DP S_ref04_Has.ps} {K : DP S_ref04_Has.rs → DP (ptrs S_ref04_Has.ps) → Prop} (hw : W_ref04_Has P x K) : Fn P "mergelens/mergelensref04.Has" S_ref04_Has x K :=
  fn_of (c := t_ref04_Has) h rfl rfl (by kernel_rfl) (Eq.mpr (show liftT P F_ref04_Has S_ref04_Has t_ref04_Has x K = W_ref04_Has P x K by kernel_rfl) hw)

def t_ref05_Ends : TCode :=
  (.seq
    (.region [o1 3 (.box (.t 0)),
      o1 6 (.asg (.c (.slice none 0 0)))])
  (.seq
    (.region [o1 13 (.mv (.t 1)),
      o1 14 (.lenS (.t 13)),
      o1 15 (.bin .add (.t 14) (.c (.int .i64 1))),
      oT ⟨some 16, .mkSl 1 1 [(.bool false)] (.t 15) (.t 15), none⟩ (some (.bool, .leaf)),
      o1 7 (.asg (.t 16))])
  (.seq
    (.region [o1 17 (.fAddr 0 (.t 3)),
      o1 18 (.load false 1 (.t 17)),
      o1 19 (.lenK (.t 18)),
      oT ⟨some 20, .mkSl 1 1 [(.bool false)] (.t 19) (.t 19), none⟩ (some (.bool, .leaf)),
      o1 8 (.asg (.t 20))])
  (.seq
    (.region [o1 21 (.mv (.t 8)),
      o1 22 (.fAddr 1 (.t 3)),
      o1 23 (.load false 1 (.t 22)),
      o1 24 (.ixA 1 (.t 21) (.t 23)),
      o0 ⟨none, .store 1 (.t 24) (.c (.bool true)), none⟩])
  (.seq
    (.seq
      (.region [o1 25 (.mv (.t 2)),
        o1 9 (.asg (.t 25))])
    (.frame [7, 8, 9, 10, 11, 12, 26, 27, 28, 29, 30, 31, 32, 33, 34, 35, 36, 37, 38, 39, 40, 41, 42, 43, 44, 45, 46, 47, 48, 49, 50, 51, 52, 53, 54, 55, 56, 57, 58, 59, 60, 61, 62, 63, 64, 65, 66, 67, 68, 69, 70, 71, 72, 73, 74, 75, 76, 77, 78, 79, 80, 81, 82, 83, 84, 85, 86, 87, 88, 89, 90, 91, 92, 93, 94] [1012] false (.join [.sl 7 false (.sl .bool) (.node .own .leaf)]
    (.block 0
      (.loop [.sl 7 false (.sl .bool) (.node .own .leaf), .sl 8 false (.sl .bool) (.node .own .leaf), .sl 9 false (.int .i64) .leaf]
        (.seq
          (.seq
            (.region [o1 26 (.mv (.t 9)),
              o1 27 (.mv (.t 1)),
              o1 28 (.lenS (.t 27)),
              o1 29 (.bin .leq (.t 26) (.t 28))])
          (.cond (.t 29)
            .skip
            (.exit 0)))
        (.seq
          (.frame [7, 8, 10, 11, 12, 32, 33, 34, 35, 36, 37, 38, 39, 40, 41, 42, 43, 44, 45, 46, 47, 48, 49, 50, 51, 52, 53, 54, 55, 56, 57, 58, 59, 60, 61, 62, 63, 64, 65, 66, 67, 68, 69, 70, 71, 72, 73, 74, 75, 76, 77, 78, 79, 80, 81, 82, 83, 84, 85, 86, 87, 88, 89, 90, 91, 92, 93, 94] [1012] false (.join [.sl 7 false (.sl .bool) (.node .own .leaf), .sl 8 false (.sl .bool) (.node .own .leaf)]
          (.block 1
            (.seq
              (.region [o1 32 (.load true 2 (.t 3)),
                o1 33 (.mv (.t 8)),
                o1 34 (.mv (.t 9)),
                o1 35 (.bin .eql (.t 34) (.c (.int .i64 0))),
                o1 36 (.mv (.t 9)),
                o1 37 (.mv (.t 1)),
                o1 38 (.lenS (.t 37)),
                o1 39 (.bin .eql (.t 36) (.t 38)),
                oS ⟨some 40, .call "mergelens/mergelensref05.Close" [(.t 32), (.t 33), (.t 35), (.t 39)], none⟩ S_ref05_Close,
                o1 8 (.asg (.t 40))])
            (.seq
              (.region [o1 41 (.mv (.t 8)),
                o1 42 (.lenK (.t 41)),
                oT ⟨some 43, .mkSl 1 1 [(.bool false)] (.t 42) (.t 42), none⟩ (some (.bool, .leaf)),
                o1 10 (.asg (.t 43))])
            (.seq
              (.seq
                (.region [o1 11 (.asg (.c (.int .i64 0)))])
              (.frame [7, 10, 11, 12, 44, 45, 46, 47, 48, 49, 50, 51, 52, 53, 54, 55, 56, 57, 58, 59, 60, 61, 62, 63, 64, 65, 66, 67, 68, 69, 70, 71, 72, 73, 74, 75, 76, 77, 78, 79, 80, 81, 82, 83, 84, 85, 86, 87, 88, 89, 90, 91, 92, 93] [1012] false (.join [.sl 7 false (.sl .bool) (.node .own .leaf), .sl 10 false (.sl .bool) (.node .own .leaf)]
              (.block 2
                (.loop [.sl 7 false (.sl .bool) (.node .own .leaf), .sl 10 false (.sl .bool) (.node .own .leaf), .sl 11 false (.int .i64) .leaf]
                  (.seq
                    (.seq
                      (.region [o1 44 (.mv (.t 11)),
                        o1 45 (.mv (.t 8)),
                        o1 46 (.lenK (.t 45)),
                        o1 47 (.bin .lss (.t 44) (.t 46))])
                    (.cond (.t 47)
                      .skip
                      (.exit 2)))
                  (.seq
                    (.frame [7, 10, 12, 50, 51, 52, 53, 54, 55, 56, 57, 58, 59, 60, 61, 62, 63, 64, 65, 66, 67, 68, 69, 70, 71, 72, 73, 74, 75, 76, 77, 78, 79, 80, 81, 82, 83, 84, 85, 86, 87, 88, 89, 90, 91, 92, 93] [1012] false (.join [.sl 7 false (.sl .bool) (.node .own .leaf), .sl 10 false (.sl .bool) (.node .own .leaf)]
                    (.block 3
                      (.seq
                        (.region [o1 50 (.fAddr 0 (.t 3)),
                          o1 51 (.load false 1 (.t 50)),
                          o1 52 (.mv (.t 11)),
                          o1 53 (.ixA 7 (.t 51) (.t 52)),
                          o1 54 (.load true 7 (.t 53)),
                          o1 12 (.alloc [(.int .i64 0), (.int .u64 0), (.int .u64 0), (.int .u64 0), (.int .u64 0), (.int .i64 0), (.int .i64 0)]),
                          o0 ⟨none, .store 7 (.t 12) (.t 54), none⟩])
                      (.seq
                        (.seq
                          (.region [o1 55 (.mv (.t 8)),
                            o1 56 (.mv (.t 11)),
                            o1 57 (.ixA 1 (.t 55) (.t 56)),
                            o1 58 (.load false 1 (.t 57)),
                            o1 59 (.mv (.t 58)),
                            o0 ⟨some 60, .fAddr 0 (.t 12), some (59, true)⟩,
                            o0 ⟨some 61, .load false 1 (.t 60), some (59, true)⟩,
                            o0 ⟨some 62, .bin .eql (.t 61) (.c (.int .i64 4)), some (59, true)⟩,
                            o1 63 (.pick (.t 59) (.t 62) (.c (.bool false)))])
                        (.frame [7, 64, 65, 66] [] false (.join [.sl 7 false (.sl .bool) (.node .own .leaf)]
                        (.cond (.t 63)
                          (.region [o1 64 (.mv (.t 7)),
                            o1 65 (.mv (.t 9)),
                            o1 66 (.ixA 1 (.t 64) (.t 65)),
                            o0 ⟨none, .store 1 (.t 66) (.c (.bool true)), none⟩])
                          .skip))))
                      (.seq
                        (.frame [67, 68, 69, 70, 71, 72, 73, 74, 75, 76, 77, 78, 79, 80, 81, 82, 83, 84, 85, 86, 87, 88, 89] [] false (.join [.sl 89 false .bool .leaf]
                        (.draw [(.first (o1 67 (.mv (.t 8)))
                        (.first (o1 68 (.mv (.t 11)))
                        (.first (o1 69 (.ixA 1 (.t 67) (.t 68)))
                        (.first (o1 70 (.load false 1 (.t 69)))
                        (.first (o1 71 (.mv (.t 70)))
                        (.first (o0 ⟨some 72, .fAddr 0 (.t 12), some (71, true)⟩)
                        (.first (o0 ⟨some 73, .load false 1 (.t 72), some (71, true)⟩)
                        (.first (o0 ⟨some 74, .bin .eql (.t 73) (.c (.int .i64 0)), some (71, true)⟩)
                        (.first (o1 75 (.pick (.t 71) (.t 74) (.c (.bool false))))
                        (.first (o1 76 (.mv (.t 75)))
                        (.first (o0 ⟨some 77, .mv (.t 9), some (76, true)⟩)
                        (.first (o0 ⟨some 78, .mv (.t 1), some (76, true)⟩)
                        (.first (o0 ⟨some 79, .lenS (.t 78), some (76, true)⟩)
                        (.first (o0 ⟨some 80, .bin .lss (.t 77) (.t 79), some (76, true)⟩)
                        (.first (o1 81 (.pick (.t 76) (.t 80) (.c (.bool false))))
                        (.first (o1 82 (.mv (.t 81)))
                        (.first (o0 ⟨some 83, .fAddr 1 (.t 12), some (82, true)⟩)
                        (.first (o0 ⟨some 84, .load true 4 (.t 83), some (82, true)⟩)
                        (.first (o0 ⟨some 85, .mv (.t 1), some (82, true)⟩)
                        (.first (o0 ⟨some 86, .mv (.t 9), some (82, true)⟩)
                        (.first (o0 ⟨some 87, .ixS (.t 85) (.t 86), some (82, true)⟩)
                        (.alt (oS ⟨some 88, .call "mergelens/mergelensref04.Has" [(.t 84), (.t 87)], some (82, true)⟩ S_ref04_Has)
                        (.first (o1 89 (.pick (.t 82) (.t 88) (.c (.bool false))))
                        .done)
                        .stop))))))))))))))))))))))])))
                      (.frame [10, 90, 91, 92, 93] [] false (.join [.sl 10 false (.sl .bool) (.node .own .leaf)]
                      (.cond (.t 89)
                        (.region [o1 90 (.mv (.t 10)),
                          o1 91 (.fAddr 5 (.t 12)),
                          o1 92 (.load false 1 (.t 91)),
                          o1 93 (.ixA 1 (.t 90) (.t 92)),
                          o0 ⟨none, .store 1 (.t 93) (.c (.bool true)), none⟩])
                        .skip)))))))))
                  (.region [o1 48 (.mv (.t 11)),
                    o1 49 (.bin .add (.t 48) (.c (.int .i64 1))),
                    o1 11 (.asg (.t 49))]))))))))
            (.region [o1 94 (.mv (.t 10)),
              o1 8 (.asg (.t 94))])))))))
        (.region [o1 30 (.mv (.t 9)),
          o1 31 (.bin .add (.t 30) (.c (.int .i64 1))),
          o1 9 (.asg (.t 31))]))))))))
  (.seq
    (.region [o1 95 (.mv (.t 7)),
      o1 6 (.asg (.t 95))])
  .ret))))))
def F_ref05_Ends : AFn := ⟨ "mergelens/mergelensref05.Ends", t_ref05_Ends.erase, [.tmp 6], 3⟩
def W_ref05_Ends (P : Program) (x : (((List State) × Int) × ((List UInt8) × Int))) (K : (List Bool) → Unit → Prop) : Prop :=
  (0 ≤ (IntKind.i64.wrap (((List.length x.2.1 : Nat) : Int) + (1 : Int))) ∧ (IntKind.i64.wrap (((List.length x.2.1 : Nat) : Int) + (1 : Int))) ≤ (IntKind.i64.wrap (((List.length x.2.1 : Nat) : Int) + (1 : Int))) ∧ ((1 : Nat) : Int) * (IntKind.i64.wrap (((List.length x.2.1 : Nat) : Int) + (1 : Int))) ≤ 281474976710656) ∧
  (0 ≤ ((List.length x.1.1 : Nat) : Int) ∧ ((List.length x.1.1 : Nat) : Int) ≤ ((List.length x.1.1 : Nat) : Int) ∧ ((1 : Nat) : Int) * ((List.length x.1.1 : Nat) : Int) ≤ 281474976710656) ∧
  (0 ≤ x.1.2 ∧ x.1.2 < ((List.length (List.replicate (Int.toNat ((List.length x.1.1 : Nat) : Int)) false) : Nat) : Int)) ∧
  ((Int.toNat x.1.2) < List.length (List.replicate (Int.toNat ((List.length x.1.1 : Nat) : Int)) false)) ∧
  JoinW (D := (List Bool)) (fun J1 => LoopW (D := ((List Bool) × ((List Bool) × Int))) ((List.replicate (Int.toNat (IntKind.i64.wrap (((List.length x.2.1 : Nat) : Int) + (1 : Int)))) false), ((List.set (List.replicate (Int.toNat ((List.length x.1.1 : Nat) : Int)) false) (Int.toNat x.1.2) true), x.2.2)) (fun (d3 : ((List Bool) × ((List Bool) × Int))) J4 => (((decide (d3.2.2 ≤ ((List.length x.2.1 : Nat) : Int))) = true → JoinW (D := ((List Bool) × (List Bool))) (fun J5 => Fn P "mergelens/mergelensref05.Close" S_ref05_Close ((x.1.1, x.1.2), (d3.2.1, ((d3.2.2 == (0 : Int)), (d3.2.2 == ((List.length x.2.1 : Nat) : Int))))) (fun (d7 : (List Bool)) (e8 : Unit) => (0 ≤ ((List.length d7 : Nat) : Int) ∧ ((List.length d7 : Nat) : Int) ≤ ((List.length d7 : Nat) : Int) ∧ ((1 : Nat) : Int) * ((List.length d7 : Nat) : Int) ≤ 281474976710656) ∧
  JoinW (D := ((List Bool) × (List Bool))) (fun J9 => LoopW (D := ((List Bool) × ((List Bool) × Int))) (d3.1, ((List.replicate (Int.toNat ((List.length d7 : Nat) : Int)) false), (0 : Int))) (fun (d11 : ((List Bool) × ((List Bool) × Int))) J12 => (((decide (d11.2.2 < ((List.length d7 : Nat) : Int))) = true → JoinW (D := ((List Bool) × (List Bool))) (fun J13 => (0 ≤ d11.2.2 ∧ d11.2.2 < ((List.length x.1.1 : Nat) : Int)) ∧
  ((Int.toNat d11.2.2) < List.length x.1.1) ∧
  (0 ≤ d11.2.2 ∧ d11.2.2 < ((List.length d7 : Nat) : Int)) ∧
  ((Int.toNat d11.2.2) < List.length d7) ∧
  JoinW (D := (List Bool)) (fun J15 => (((cond (List.getD d7 (Int.toNat d11.2.2) false) ((List.getD x.1.1 (Int.toNat d11.2.2) zState).1 == (4 : Int)) false) = true → (0 ≤ d3.2.2 ∧ d3.2.2 < ((List.length d11.1 : Nat) : Int)) ∧
  ((Int.toNat d3.2.2) < List.length d11.1) ∧
  J15 (List.set d11.1 (Int.toNat d3.2.2) true)) ∧ ((cond (List.getD d7 (Int.toNat d11.2.2) false) ((List.getD x.1.1 (Int.toNat d11.2.2) zState).1 == (4 : Int)) false) = false → J15 d11.1))) (fun (d16 : (List Bool)) => JoinW (D := Bool) (fun J17 => (0 ≤ d11.2.2 ∧ d11.2.2 < ((List.length d7 : Nat) : Int)) ∧
  ((Int.toNat d11.2.2) < List.length d7) ∧
  (((cond (cond (List.getD d7 (Int.toNat d11.2.2) false) ((List.getD x.1.1 (Int.toNat d11.2.2) zState).1 == (0 : Int)) false) (decide (d3.2.2 < ((List.length x.2.1 : Nat) : Int))) false) = true → 0 ≤ d3.2.2 ∧ d3.2.2 < ((List.length x.2.1 : Nat) : Int))) ∧
  (JoinW (D := Bool) (fun J19 => (((cond (cond (List.getD d7 (Int.toNat d11.2.2) false) ((List.getD x.1.1 (Int.toNat d11.2.2) zState).1 == (0 : Int)) false) (decide (d3.2.2 < ((List.length x.2.1 : Nat) : Int))) false) = true → Fn P "mergelens/mergelensref04.Has" S_ref04_Has (((List.getD x.1.1 (Int.toNat d11.2.2) zState).2.1.1, ((List.getD x.1.1 (Int.toNat d11.2.2) zState).2.1.2.1, ((List.getD x.1.1 (Int.toNat d11.2.2) zState).2.1.2.2.1, (List.getD x.1.1 (Int.toNat d11.2.2) zState).2.1.2.2.2))), ((UInt8.toNat (List.getD x.2.1 (Int.toNat d3.2.2) 0) : Nat) : Int)) (fun (d20 : Bool) _ => J19 d20)) ∧ (((cond (cond (List.getD d7 (Int.toNat d11.2.2) false) ((List.getD x.1.1 (Int.toNat d11.2.2) zState).1 == (0 : Int)) false) (decide (d3.2.2 < ((List.length x.2.1 : Nat) : Int))) false) = false → J19 false) ∧ True))) (fun d21 => J17 (cond (cond (cond (List.getD d7 (Int.toNat d11.2.2) false) ((List.getD x.1.1 (Int.toNat d11.2.2) zState).1 == (0 : Int)) false) (decide (d3.2.2 < ((List.length x.2.1 : Nat) : Int))) false) d21 false))) ∧ (True)) (fun (d18 : Bool) => JoinW (D := (List Bool)) (fun J22 => ((d18 = true → (0 ≤ (List.getD x.1.1 (Int.toNat d11.2.2) zState).2.2.1 ∧ (List.getD x.1.1 (Int.toNat d11.2.2) zState).2.2.1 < ((List.length d11.2.1 : Nat) : Int)) ∧
  ((Int.toNat (List.getD x.1.1 (Int.toNat d11.2.2) zState).2.2.1) < List.length d11.2.1) ∧
  J22 (List.set d11.2.1 (Int.toNat (List.getD x.1.1 (Int.toNat d11.2.2) zState).2.2.1) true)) ∧ (d18 = false → J22 d11.2.1))) (fun (d23 : (List Bool)) => J13 (d16, d23))))) (fun (d14 : ((List Bool) × (List Bool))) => J12 (d14.1, (d14.2, (IntKind.i64.wrap (d11.2.2 + (1 : Int))))))) ∧ ((decide (d11.2.2 < ((List.length d7 : Nat) : Int))) = false → J9 (d11.1, d11.2.1))))) (fun (d10 : ((List Bool) × (List Bool))) => J5 (d10.1, d10.2)))) (fun (d6 : ((List Bool) × (List Bool))) => J4 (d6.1, (d6.2, (IntKind.i64.wrap (d3.2.2 + (1 : Int))))))) ∧ ((decide (d3.2.2 ≤ ((List.length x.2.1 : Nat) : Int))) = false → J1 d3.1)))) (fun (d2 : (List Bool)) => K d2 ())
theorem fn_ref05_Ends {P : Program} (h : Has P F_ref05_Ends) {x : DP S_ref05_Ends.ps} {K : DP S_ref05_Ends.rs → DP (ptrs S_ref05_Ends.ps) → Prop} (hw : W_ref05_Ends P x K) : Fn P "mergelens/mergelensref05.Ends" S_ref05_Ends x K :=
  fn_of (c := t_ref05_Ends) h rfl rfl (by kernel_rfl) (Eq.mpr (show liftT P F_ref05_Ends S_ref05_Ends t_ref05_Ends x K = W_ref05_Ends P x K by kernel_rfl) hw)

def t_ref06_Find : TCode :=
  (.seq
    (.region [o1 3 (.box (.t 0)),
      o1 6 (.alloc [(.int .i64 0), (.int .i64 0)]),
      o1 7 (.asg (.c (.bool false))),
      o1 8 (.asg (.c (.int .i64 0)))])
  (.seq
    (.seq
      (.region [o1 12 (.load true 2 (.t 3)),
        oS ⟨some 13, .call "mergelens/mergelensref05.Check" [(.t 12)], none⟩ S_ref05_Check,
        o1 14 (.bin .neq (.t 13) (.c (.int .i64 0)))])
    (.cond (.t 14)
      (.seq
        (.region [o1 15 (.build [(.int .i64 0), (.int .i64 0)] []),
          o0 ⟨none, .store 2 (.t 6) (.t 15), none⟩,
          o1 7 (.asg (.c (.bool false))),
          o1 8 (.asg (.c (.int .i64 2)))])
      .ret)
      .skip))
  (.seq
    (.seq
      (.region [o1 16 (.mv (.t 2)),
        o1 17 (.bin .lss (.t 16) (.c (.int .i64 0))),
        o1 18 (.mv (.t 17)),
        o0 ⟨some 19, .mv (.t 2), some (18, false)⟩,
        o0 ⟨some 20, .mv (.t 1), some (18, false)⟩,
        o0 ⟨some 21, .lenS (.t 20), some (18, false)⟩,
        o0 ⟨some 22, .bin .gtr (.t 19) (.t 21), some (18, false)⟩,
        o1 23 (.pick (.t 18) (.c (.bool true)) (.t 22))])
    (.cond (.t 23)
      (.seq
        (.region [o1 24 (.build [(.int .i64 0), (.int .i64 0)] []),
          o0 ⟨none, .store 2 (.t 6) (.t 24), none⟩,
          o1 7 (.asg (.c (.bool false))),
          o1 8 (.asg (.c (.int .i64 3)))])
      .ret)
      .skip))
  (.seq
    (.seq
      (.region [o1 25 (.mv (.t 2)),
        o1 9 (.asg (.t 25))])
    (.frame [7, 8, 9, 10, 11, 26, 27, 28, 29, 30, 31, 32, 33, 34, 35, 36, 37, 38, 39, 40, 41, 42, 43, 44, 45, 46, 47, 48, 49] [1006] false (.join [.sl 7 false .bool .leaf, .sl 8 false (.int .i64) .leaf, .bx 1006 (.pair (.int .i64) (.int .i64)) .leaf]
    (.block 0
      (.loop [.sl 7 false .bool .leaf, .sl 8 false (.int .i64) .leaf, .sl 9 false (.int .i64) .leaf, .bx 1006 (.pair (.int .i64) (.int .i64)) .leaf]
        (.seq
          (.seq
            (.region [o1 26 (.mv (.t 9)),
              o1 27 (.mv (.t 1)),
              o1 28 (.lenS (.t 27)),
              o1 29 (.bin .leq (.t 26) (.t 28))])
          (.cond (.t 29)
            .skip
            (.exit 0)))
        (.seq
          (.frame [7, 8, 10, 11, 32, 33, 34, 35, 36, 37, 38, 39, 40, 41, 42, 43, 44, 45, 46, 47, 48, 49] [1006] false (.join [.sl 7 false .bool .leaf, .sl 8 false (.int .i64) .leaf, .bx 1006 (.pair (.int .i64) (.int .i64)) .leaf]
          (.block 1
            (.seq
              (.region [o1 32 (.load true 2 (.t 3)),
                o1 33 (.mv (.t 1)),
                o1 34 (.mv (.t 9)),
                oS ⟨some 35, .call "mergelens/mergelensref05.Ends" [(.t 32), (.t 33), (.t 34)], none⟩ S_ref05_Ends,
                o1 10 (.asg (.t 35))])
            (.seq
              (.region [o1 36 (.mv (.t 1)),
                o1 37 (.lenS (.t 36)),
                o1 11 (.asg (.t 37))])
            (.frame [7, 8, 11, 38, 39, 40, 41, 42, 43, 44, 45, 46, 47, 48, 49] [1006] false (.join [.sl 7 false .bool .leaf, .sl 8 false (.int .i64) .leaf, .bx 1006 (.pair (.int .i64) (.int .i64)) .leaf]
            (.block 2
              (.loop [.sl 7 false .bool .leaf, .sl 8 false (.int .i64) .leaf, .sl 11 false (.int .i64) .leaf, .bx 1006 (.pair (.int .i64) (.int .i64)) .leaf]
                (.seq
                  (.seq
                    (.region [o1 38 (.mv (.t 11)),
                      o1 39 (.mv (.t 9)),
                      o1 40 (.bin .geq (.t 38) (.t 39))])
                  (.cond (.t 40)
                    .skip
                    (.exit 2)))
                (.seq
                  (.frame [7, 8, 43, 44, 45, 46, 47, 48, 49] [1006] false (.join [.sl 7 false .bool .leaf, .sl 8 false (.int .i64) .leaf, .bx 1006 (.pair (.int .i64) (.int .i64)) .leaf]
                  (.block 3
                    (.seq
                      (.region [o1 43 (.mv (.t 10)),
                        o1 44 (.mv (.t 11)),
                        o1 45 (.ixA 1 (.t 43) (.t 44)),
                        o1 46 (.load false 1 (.t 45))])
                    (.cond (.t 46)
                      (.seq
                        (.region [o1 47 (.mv (.t 9)),
                          o1 48 (.mv (.t 11)),
                          o1 49 (.build [(.int .i64 0), (.int .i64 0)] [(0, 1, (.t 47)), (1, 1, (.t 48))]),
                          o0 ⟨none, .store 2 (.t 6) (.t 49), none⟩,
                          o1 7 (.asg (.c (.bool true))),
                          o1 8 (.asg (.c (.int .i64 0)))])
                      .ret)
                      .skip)))))
                (.region [o1 41 (.mv (.t 11)),
                  o1 42 (.bin .sub (.t 41) (.c (.int .i64 1))),
                  o1 11 (.asg (.t 42))]))))))))))))
        (.region [o1 30 (.mv (.t 9)),
          o1 31 (.bin .add (.t 30) (.c (.int .i64 1))),
          o1 9 (.asg (.t 31))]))))))))
  (.seq
    (.region [o1 50 (.build [(.int .i64 0), (.int .i64 0)] []),
      o0 ⟨none, .store 2 (.t 6) (.t 50), none⟩,
      o1 7 (.asg (.c (.bool false))),
      o1 8 (.asg (.c (.int .i64 0)))])
  .ret)))))
def F_ref06_Find : AFn := ⟨ "mergelens/mergelensref06.Find", t_ref06_Find.erase, [.cell 6 true 2, .tmp 7, .tmp 8], 3⟩
def W_ref06_Find (P : Program) (x : (((List State) × Int) × ((List UInt8) × Int))) (K : ((Int × Int) × (Bool × Int)) → Unit → Prop) : Prop :=
  Fn P "mergelens/mergelensref05.Check" S_ref05_Check (x.1.1, x.1.2) (fun (d1 : Int) (e2 : Unit) => (((d1 != (0 : Int)) = true → K (((0 : Int), (0 : Int)), (false, (2 : Int))) ()) ∧ ((d1 != (0 : Int)) = false → (((cond (decide (x.2.2 < (0 : Int))) true (decide (x.2.2 > ((List.length x.2.1 : Nat) : Int)))) = true → K (((0 : Int), (0 : Int)), (false, (3 : Int))) ()) ∧ ((cond (decide (x.2.2 < (0 : Int))) true (decide (x.2.2 > ((List.length x.2.1 : Nat) : Int)))) = false → JoinW (D := (Bool × (Int × (Int × Int)))) (fun J3 => LoopW (D := (Bool × (Int × (Int × (Int × Int))))) (false, ((0 : Int), (x.2.2, ((0 : Int), (0 : Int))))) (fun (d5 : (Bool × (Int × (Int × (Int × Int))))) J6 => (((decide (d5.2.2.1 ≤ ((List.length x.2.1 : Nat) : Int))) = true → JoinW (D := (Bool × (Int × (Int × Int)))) (fun J7 => Fn P "mergelens/mergelensref05.Ends" S_ref05_Ends ((x.1.1, x.1.2), (x.2.1, d5.2.2.1)) (fun (d9 : (List Bool)) (e10 : Unit) => JoinW (D := (Bool × (Int × (Int × Int)))) (fun J11 => LoopW (D := (Bool × (Int × (Int × (Int × Int))))) (d5.1, (d5.2.1, (((List.length x.2.1 : Nat) : Int), (d5.2.2.2.1, d5.2.2.2.2)))) (fun (d13 : (Bool × (Int × (Int × (Int × Int))))) J14 => (((decide (d13.2.2.1 ≥ d5.2.2.1)) = true → JoinW (D := (Bool × (Int × (Int × Int)))) (fun J15 => (0 ≤ d13.2.2.1 ∧ d13.2.2.1 < ((List.length d9 : Nat) : Int)) ∧
  ((Int.toNat d13.2.2.1) < List.length d9) ∧
  (((List.getD d9 (Int.toNat d13.2.2.1) false) = true → K ((d5.2.2.1, d13.2.2.1), (true, (0 : Int))) ()) ∧ ((List.getD d9 (Int.toNat d13.2.2.1) false) = false → J15 (d13.1, (d13.2.1, (d13.2.2.2.1, d13.2.2.2.2)))))) (fun (d16 : (Bool × (Int × (Int × Int)))) => J14 (d16.1, (d16.2.1, ((IntKind.i64.wrap (d13.2.2.1 - (1 : Int))), (d16.2.2.1, d16.2.2.2)))))) ∧ ((decide (d13.2.2.1 ≥ d5.2.2.1)) = false → J11 (d13.1, (d13.2.1, (d13.2.2.2.1, d13.2.2.2.2))))))) (fun (d12 : (Bool × (Int × (Int × Int)))) => J7 (d12.1, (d12.2.1, (d12.2.2.1, d12.2.2.2)))))) (fun (d8 : (Bool × (Int × (Int × Int)))) => J6 (d8.1, (d8.2.1, ((IntKind.i64.wrap (d5.2.2.1 + (1 : Int))), (d8.2.2.1, d8.2.2.2)))))) ∧ ((decide (d5.2.2.1 ≤ ((List.length x.2.1 : Nat) : Int))) = false → J3 (d5.1, (d5.2.1, (d5.2.2.2.1, d5.2.2.2.2))))))) (fun (d4 : (Bool × (Int × (Int × Int)))) => K (((0 : Int), (0 : Int)), (false, (0 : Int))) ()))))))
theorem fn_ref06_Find {P : Program} (h : Has P F_ref06_Find) {x : DP S_ref06_Find.ps} {K : DP S_ref06_Find.rs → DP (ptrs S_ref06_Find.ps) → Prop} (hw : W_ref06_Find P x K) : Fn P "mergelens/mergelensref06.Find" S_ref06_Find x K :=
  fn_of (c := t_ref06_Find) h rfl rfl (by kernel_rfl) (Eq.mpr (show liftT P F_ref06_Find S_ref06_Find t_ref06_Find x K = W_ref06_Find P x K by kernel_rfl) hw)

def t_ref06_All : TCode :=
  (.seq
    (.region [o1 2 (.box (.t 0)),
      o1 4 (.asg (.c (.slice none 0 0))),
      o1 5 (.asg (.c (.int .i64 0)))])
  (.seq
    (.seq
      (.region [o1 11 (.load true 2 (.t 2)),
        oS ⟨some 12, .call "mergelens/mergelensref05.Check" [(.t 11)], none⟩ S_ref05_Check,
        o1 13 (.bin .neq (.t 12) (.c (.int .i64 0)))])
    (.cond (.t 13)
      (.seq
        (.region [o1 4 (.asg (.c (.slice none 0 0))),
          o1 5 (.asg (.c (.int .i64 2)))])
      .ret)
      .skip))
  (.seq
    (.region [o1 6 (.asg (.c (.slice none 0 0)))])
  (.seq
    (.region [o1 7 (.asg (.c (.int .i64 0)))])
  (.seq
    (.frame [6, 7, 8, 9, 10, 14, 15, 16, 17, 18, 19, 20, 21, 22, 23, 24, 25, 26, 27, 28, 29, 30, 31, 32, 33, 34, 35, 36, 37, 38, 39, 40] [1008] false (.join [.sl 6 false (.sl (.pair (.int .i64) (.int .i64))) (.node .own .leaf)]
    (.block 0
      (.loop [.sl 6 false (.sl (.pair (.int .i64) (.int .i64))) (.node .own .leaf), .sl 7 false (.int .i64) .leaf]
        (.seq
          (.seq
            (.region [o1 14 (.mv (.t 7)),
              o1 15 (.mv (.t 1)),
              o1 16 (.lenS (.t 15)),
              o1 17 (.bin .leq (.t 14) (.t 16))])
          (.cond (.t 17)
            .skip
            (.exit 0)))
        (.frame [6, 7, 8, 9, 10, 18, 19, 20, 21, 22, 23, 24, 25, 26, 27, 28, 29, 30, 31, 32, 33, 34, 35, 36, 37, 38, 39, 40] [1008] false (.join [.sl 6 false (.sl (.pair (.int .i64) (.int .i64))) (.node .own .leaf), .sl 7 false (.int .i64) .leaf]
        (.block 1
          (.seq
            (.region [o1 19 (.load true 2 (.t 2)),
              o1 20 (.mv (.t 1)),
              o1 21 (.mv (.t 7)),
              oS ⟨some 22, .call "mergelens/mergelensref06.Find" [(.t 19), (.t 20), (.t 21)], none⟩ S_ref06_Find,
              o1 18 (.mv (.t 22)),
              o1 23 (.ext (.t 18) 0),
              o1 24 (.ext (.t 18) 1),
              o1 25 (.ext (.t 18) 2),
              o1 8 (.alloc [(.int .i64 0), (.int .i64 0)]),
              o0 ⟨none, .store 2 (.t 8) (.t 23), none⟩,
              o1 9 (.asg (.t 24)),
              o1 10 (.asg (.t 25))])
          (.seq
            (.seq
              (.region [o1 26 (.mv (.t 9)),
                o1 27 (.un .not (.t 26))])
            (.cond (.t 27)
              (.exit 0)
              .skip))
          (.seq
            (.region [o1 28 (.mv (.t 6)),
              o1 29 (.load true 2 (.t 8)),
              oT ⟨some 30, .buildSl 2 [(.int .i64 0), (.int .i64 0)] 1 [(0, (.t 29))], none⟩ (some ((.pair (.int .i64) (.int .i64)), .leaf)),
              oT ⟨some 31, .app 2 16 (.t 28) (.t 30), none⟩ (some ((.pair (.int .i64) (.int .i64)), .leaf)),
              o1 6 (.asg (.t 31))])
          (.seq
            (.region [o1 32 (.fAddr 1 (.t 8)),
              o1 33 (.load false 1 (.t 32)),
              o1 7 (.asg (.t 33))])
          (.seq
            (.region [o1 34 (.fAddr 1 (.t 8)),
              o1 35 (.load false 1 (.t 34)),
              o1 36 (.fAddr 0 (.t 8)),
              o1 37 (.load false 1 (.t 36)),
              o1 38 (.bin .eql (.t 35) (.t 37))])
          (.frame [7, 39, 40] [] false (.join [.sl 7 false (.int .i64) .leaf]
          (.cond (.t 38)
            (.region [o1 39 (.mv (.t 7)),
              o1 40 (.bin .add (.t 39) (.c (.int .i64 1))),
              o1 7 (.asg (.t 40))])
            .skip))))))))))))))))
  (.seq
    (.region [o1 41 (.mv (.t 6)),
      o1 4 (.asg (.t 41)),
      o1 5 (.asg (.c (.int .i64 0)))])
  .ret))))))
def F_ref06_All : AFn := ⟨ "mergelens/mergelensref06.All", t_ref06_All.erase, [.tmp 4, .tmp 5], 2⟩
def W_ref06_All (P : Program) (x : (((List State) × Int) × (List UInt8))) (K : ((List (Int × Int)) × Int) → Unit → Prop) : Prop :=
  Fn P "mergelens/mergelensref05.Check" S_ref05_Check (x.1.1, x.1.2) (fun (d1 : Int) (e2 : Unit) => (((d1 != (0 : Int)) = true → K ([], (2 : Int)) ()) ∧ ((d1 != (0 : Int)) = false → JoinW (D := (List (Int × Int))) (fun J3 => LoopW (D := ((List (Int × Int)) × Int)) ([], (0 : Int)) (fun (d5 : ((List (Int × Int)) × Int)) J6 => (((decide (d5.2 ≤ ((List.length x.2 : Nat) : Int))) = true → JoinW (D := ((List (Int × Int)) × Int)) (fun J7 => Fn P "mergelens/mergelensref06.Find" S_ref06_Find ((x.1.1, x.1.2), (x.2, d5.2)) (fun (d9 : ((Int × Int) × (Bool × Int))) (e10 : Unit) => (((!d9.2.1) = true → J3 d5.1) ∧ ((!d9.2.1) = false → ((List.length d5.1 + List.length ([(d9.1.1, d9.1.2)] : List (Int × Int))) * 16 ≤ 140737488355328) ∧
  JoinW (D := Int) (fun J11 => (((d9.1.2 == d9.1.1) = true → J11 (IntKind.i64.wrap (d9.1.2 + (1 : Int)))) ∧ ((d9.1.2 == d9.1.1) = false → J11 d9.1.2))) (fun (d12 : Int) => J7 ((d5.1 ++ ([(d9.1.1, d9.1.2)] : List (Int × Int))), d12)))))) (fun (d8 : ((List (Int × Int)) × Int)) => J6 (d8.1, d8.2))) ∧ ((decide (d5.2 ≤ ((List.length x.2 : Nat) : Int))) = false → J3 d5.1)))) (fun (d4 : (List (Int × Int))) => K (d4, (0 : Int)) ()))))
theorem fn_ref06_All {P : Program} (h : Has P F_ref06_All) {x : DP S_ref06_All.ps} {K : DP S_ref06_All.rs → DP (ptrs S_ref06_All.ps) → Prop} (hw : W_ref06_All P x K) : Fn P "mergelens/mergelensref06.All" S_ref06_All x K :=
  fn_of (c := t_ref06_All) h rfl rfl (by kernel_rfl) (Eq.mpr (show liftT P F_ref06_All S_ref06_All t_ref06_All x K = W_ref06_All P x K by kernel_rfl) hw)

def t_gen_Spans : TCode :=
  (.seq
    (.region [o1 4 (.asg (.c (.bool false)))])
  (.seq
    (.seq
      (.region [o1 6 (.mv (.t 0)),
        o1 7 (.lenK (.t 6)),
        o1 8 (.mv (.t 1)),
        o1 9 (.lenK (.t 8)),
        o1 10 (.bin .neq (.t 7) (.t 9))])
    (.cond (.t 10)
      (.seq
        (.region [o1 4 (.asg (.c (.bool false)))])
      .ret)
      .skip))
  (.seq
    (.seq
      (.region [o1 5 (.asg (.c (.int .i64 0)))])
    (.frame [4, 5, 11, 12, 13, 14, 15, 16, 17, 18, 19, 20, 21, 22, 23, 24, 25] [] false (.join [.sl 4 false .bool .leaf]
    (.block 0
      (.loop [.sl 4 false .bool .leaf, .sl 5 false (.int .i64) .leaf]
        (.seq
          (.seq
            (.region [o1 11 (.mv (.t 5)),
              o1 12 (.mv (.t 0)),
              o1 13 (.lenK (.t 12)),
              o1 14 (.bin .lss (.t 11) (.t 13))])
          (.cond (.t 14)
            .skip
            (.exit 0)))
        (.seq
          (.frame [4, 17, 18, 19, 20, 21, 22, 23, 24, 25] [] false (.join [.sl 4 false .bool .leaf]
          (.block 1
            (.seq
              (.draw [(.first (o1 17 (.mv (.t 0)))
              (.first (o1 18 (.mv (.t 5)))
              (.first (o1 19 (.ixA 2 (.t 17) (.t 18)))
              (.first (o1 20 (.load true 2 (.t 19)))
              (.first (o1 21 (.mv (.t 1)))
              (.first (o1 22 (.mv (.t 5)))
              (.first (o1 23 (.ixA 2 (.t 21) (.t 22)))
              (.first (o1 24 (.load true 2 (.t 23)))
              (.first (o1 25 (.eqA true [.int, .int] (.t 20) (.t 24)))
              .done)))))))))])
            (.cond (.t 25)
              (.seq
                (.region [o1 4 (.asg (.c (.bool false)))])
              .ret)
              .skip)))))
        (.region [o1 15 (.mv (.t 5)),
          o1 16 (.bin .add (.t 15) (.c (.int .i64 1))),
          o1 5 (.asg (.t 16))]))))))))
  (.seq
    (.region [o1 4 (.asg (.c (.bool true)))])
  .ret))))
def F_gen_Spans : AFn := ⟨ "mergelens/mergelensgen.Spans", t_gen_Spans.erase, [.tmp 4], 2⟩
def W_gen_Spans (P : Program) (x : ((List (Int × Int)) × (List (Int × Int)))) (K : Bool → Unit → Prop) : Prop :=
  (((((List.length x.1 : Nat) : Int) != ((List.length x.2 : Nat) : Int)) = true → K false ()) ∧ ((((List.length x.1 : Nat) : Int) != ((List.length x.2 : Nat) : Int)) = false → JoinW (D := Bool) (fun J1 => LoopW (D := (Bool × Int)) (false, (0 : Int)) (fun (d3 : (Bool × Int)) J4 => (((decide (d3.2 < ((List.length x.1 : Nat) : Int))) = true → JoinW (D := Bool) (fun J5 => (0 ≤ d3.2 ∧ d3.2 < ((List.length x.1 : Nat) : Int)) ∧
  ((Int.toNat d3.2) < List.length x.1) ∧
  (0 ≤ d3.2 ∧ d3.2 < ((List.length x.2 : Nat) : Int)) ∧
  ((Int.toNat d3.2) < List.length x.2) ∧
  (((!(((List.getD x.1 (Int.toNat d3.2) ((0 : Int), (0 : Int))).1 == (List.getD x.2 (Int.toNat d3.2) ((0 : Int), (0 : Int))).1) && (((List.getD x.1 (Int.toNat d3.2) ((0 : Int), (0 : Int))).2 == (List.getD x.2 (Int.toNat d3.2) ((0 : Int), (0 : Int))).2) && true))) = true → K false ()) ∧ ((!(((List.getD x.1 (Int.toNat d3.2) ((0 : Int), (0 : Int))).1 == (List.getD x.2 (Int.toNat d3.2) ((0 : Int), (0 : Int))).1) && (((List.getD x.1 (Int.toNat d3.2) ((0 : Int), (0 : Int))).2 == (List.getD x.2 (Int.toNat d3.2) ((0 : Int), (0 : Int))).2) && true))) = false → J5 d3.1))) (fun (d6 : Bool) => J4 (d6, (IntKind.i64.wrap (d3.2 + (1 : Int)))))) ∧ ((decide (d3.2 < ((List.length x.1 : Nat) : Int))) = false → J1 d3.1)))) (fun (d2 : Bool) => K true ())))
theorem fn_gen_Spans {P : Program} (h : Has P F_gen_Spans) {x : DP S_gen_Spans.ps} {K : DP S_gen_Spans.rs → DP (ptrs S_gen_Spans.ps) → Prop} (hw : W_gen_Spans P x K) : Fn P "mergelens/mergelensgen.Spans" S_gen_Spans x K :=
  fn_of (c := t_gen_Spans) h rfl rfl (by kernel_rfl) (Eq.mpr (show liftT P F_gen_Spans S_gen_Spans t_gen_Spans x K = W_gen_Spans P x K by kernel_rfl) hw)

def t_search_Whole : TCode :=
  (.seq
    (.region [o1 2 (.box (.t 0)),
      o1 4 (.asg (.c (.bool false))),
      o1 5 (.asg (.c (.int .i64 0)))])
  (.seq
    (.seq
      (.region [o1 8 (.load true 2 (.t 2)),
        oS ⟨some 9, .call "mergelens/automaton.Check" [(.t 8)], none⟩ S_automaton_Check,
        o1 6 (.asg (.t 9))])
    (.seq
      (.region [o1 10 (.mv (.t 6)),
        o1 11 (.bin .neq (.t 10) (.c (.int .i64 0)))])
    (.cond (.t 11)
      (.seq
        (.region [o1 12 (.mv (.t 6)),
          o1 4 (.asg (.c (.bool false))),
          o1 5 (.asg (.t 12))])
      .ret)
      .skip)))
  (.seq
    (.region [o1 13 (.load true 2 (.t 2)),
      o1 14 (.mv (.t 1)),
      oS ⟨some 15, .call "mergelens/search.start" [(.t 13), (.t 14), (.c (.int .i64 0))], none⟩ S_search_start,
      o1 7 (.asg (.t 15))])
  (.seq
    (.region [o1 16 (.mv (.t 7)),
      o1 17 (.fAddr 1 (.t 2)),
      o1 18 (.load false 1 (.t 17)),
      o1 19 (.build [(.int .i64 0), (.int .i64 0)] [(0, 1, (.t 18)), (1, 1, (.c (.int .i64 0)))]),
      oS ⟨some 20, .call "(*mergelens/search.machine).add" [(.t 16), (.t 19)], none⟩ S_search_machine_add])
  (.seq
    (.frame [21, 22, 23, 24, 25, 26, 27, 28, 29, 30, 31, 32, 33, 34, 35, 36, 37] [1015] true (.join [.bx 1015 bsearch_machine (.pair (.pair (.node .imm .leaf) .leaf) (.pair .leaf (.pair .leaf (.pair (.node .own .leaf) (.node .own .leaf)))))]
    (.block 0
      (.loop [.bx 1015 bsearch_machine (.pair (.pair (.node .imm .leaf) .leaf) (.pair .leaf (.pair .leaf (.pair (.node .own .leaf) (.node .own .leaf)))))]
        (.seq
          (.seq
            (.region [o1 21 (.mv (.t 7)),
              o1 22 (.nilc (.t 21)),
              o1 23 (.fAddr 3 (.t 22)),
              o1 24 (.load false 1 (.t 23)),
              o1 25 (.mv (.t 1)),
              o1 26 (.lenS (.t 25)),
              o1 27 (.bin .lss (.t 24) (.t 26)),
              o1 28 (.mv (.t 27)),
              o0 ⟨some 29, .mv (.t 7), some (28, true)⟩,
              o0 ⟨some 30, .nilc (.t 29), some (28, true)⟩,
              o0 ⟨some 31, .fAddr 4 (.t 30), some (28, true)⟩,
              o0 ⟨some 32, .load false 1 (.t 31), some (28, true)⟩,
              o0 ⟨some 33, .lenK (.t 32), some (28, true)⟩,
              o0 ⟨some 34, .bin .gtr (.t 33) (.c (.int .i64 0)), some (28, true)⟩,
              o1 35 (.pick (.t 28) (.t 34) (.c (.bool false)))])
          (.cond (.t 35)
            .skip
            (.exit 0)))
        (.frame [36, 37] [1015] true (.join [.bx 1015 bsearch_machine (.pair (.pair (.node .imm .leaf) .leaf) (.pair .leaf (.pair .leaf (.pair (.node .own .leaf) (.node .own .leaf)))))]
        (.block 1
          (.region [o1 36 (.mv (.t 7)),
            oS ⟨some 37, .call "(*mergelens/search.machine).read" [(.t 36)], none⟩ S_search_machine_read])))))))))
  (.seq
    (.region [o1 38 (.mv (.t 7)),
      oS ⟨some 39, .call "(*mergelens/search.machine).accepted" [(.t 38)], none⟩ S_search_machine_accepted,
      o1 40 (.bin .geq (.t 39) (.c (.int .i64 0))),
      o1 4 (.asg (.t 40)),
      o1 5 (.asg (.c (.int .i64 0)))])
  .ret))))))
def F_search_Whole : AFn := ⟨ "mergelens/search.Whole", t_search_Whole.erase, [.tmp 4, .tmp 5], 2⟩
def W_search_Whole (P : Program) (x : (((List State) × Int) × (List UInt8))) (K : (Bool × Int) → Unit → Prop) : Prop :=
  Fn P "mergelens/automaton.Check" S_automaton_Check (x.1.1, x.1.2) (fun (d1 : Int) (e2 : Unit) => (((d1 != (0 : Int)) = true → K (false, d1) ()) ∧ ((d1 != (0 : Int)) = false → Fn P "mergelens/search.start" S_search_start ((x.1.1, x.1.2), (x.2, (0 : Int))) (fun (d3 : search_machine) (e4 : Unit) => Fn P "(*mergelens/search.machine).add" S_search_machine_add (((d3.1.1, d3.1.2), (d3.2.1, (d3.2.2.1, (d3.2.2.2.1, d3.2.2.2.2)))), (x.1.2, (0 : Int))) (fun (d5 : Unit) (e6 : search_machine) => JoinW (D := search_machine) (fun J7 => LoopW (D := search_machine) ((e6.1.1, e6.1.2), (e6.2.1, (e6.2.2.1, (e6.2.2.2.1, e6.2.2.2.2)))) (fun (d9 : search_machine) J10 => (((cond (decide (d9.2.2.1 < ((List.length x.2 : Nat) : Int))) (decide (((List.length d9.2.2.2.1 : Nat) : Int) > (0 : Int))) false) = true → JoinW (D := search_machine) (fun J11 => Fn P "(*mergelens/search.machine).read" S_search_machine_read ((d9.1.1, d9.1.2), (d9.2.1, (d9.2.2.1, (d9.2.2.2.1, d9.2.2.2.2)))) (fun (d13 : Unit) (e14 : search_machine) => J11 ((e14.1.1, e14.1.2), (e14.2.1, (e14.2.2.1, (e14.2.2.2.1, e14.2.2.2.2)))))) (fun (d12 : search_machine) => J10 ((d12.1.1, d12.1.2), (d12.2.1, (d12.2.2.1, (d12.2.2.2.1, d12.2.2.2.2)))))) ∧ ((cond (decide (d9.2.2.1 < ((List.length x.2 : Nat) : Int))) (decide (((List.length d9.2.2.2.1 : Nat) : Int) > (0 : Int))) false) = false → J7 ((d9.1.1, d9.1.2), (d9.2.1, (d9.2.2.1, (d9.2.2.2.1, d9.2.2.2.2)))))))) (fun (d8 : search_machine) => Fn P "(*mergelens/search.machine).accepted" S_search_machine_accepted ((d8.1.1, d8.1.2), (d8.2.1, (d8.2.2.1, (d8.2.2.2.1, d8.2.2.2.2)))) (fun (d15 : Int) (e16 : search_machine) => K ((decide (d15 ≥ (0 : Int))), (0 : Int)) ())))))))
theorem fn_search_Whole {P : Program} (h : Has P F_search_Whole) {x : DP S_search_Whole.ps} {K : DP S_search_Whole.rs → DP (ptrs S_search_Whole.ps) → Prop} (hw : W_search_Whole P x K) : Fn P "mergelens/search.Whole" S_search_Whole x K :=
  fn_of (c := t_search_Whole) h rfl rfl (by kernel_rfl) (Eq.mpr (show liftT P F_search_Whole S_search_Whole t_search_Whole x K = W_search_Whole P x K by kernel_rfl) hw)

def t_law06_star : TCode :=
  (.seq
    (.region [o1 0 (.alloc [(.slice none 0 0), (.int .i64 0)])])
  (.seq
    (.region [o1 1 (.alloc [(.int .u64 0), (.int .u64 0), (.int .u64 0), (.int .u64 0)])])
  (.seq
    (.region [o1 2 (.build [(.int .i64 0), (.int .u64 0), (.int .u64 0), (.int .u64 0), (.int .u64 0), (.int .i64 0), (.int .i64 0)] [(0, 1, (.c (.int .i64 1))), (5, 1, (.c (.int .i64 1))), (6, 1, (.c (.int .i64 2)))]),
      o1 3 (.load true 4 (.t 1)),
      oS ⟨some 4, .call "mergelens/mergelensref04.Put" [(.t 3), (.c (.int .u8 97))], none⟩ S_ref04_Put,
      o1 5 (.build [(.int .i64 0), (.int .u64 0), (.int .u64 0), (.int .u64 0), (.int .u64 0), (.int .i64 0), (.int .i64 0)] [(0, 1, (.c (.int .i64 0))), (1, 4, (.t 4)), (5, 1, (.c (.int .i64 0)))]),
      o1 6 (.build [(.int .i64 0), (.int .u64 0), (.int .u64 0), (.int .u64 0), (.int .u64 0), (.int .i64 0), (.int .i64 0)] [(0, 1, (.c (.int .i64 4)))]),
      oT ⟨some 7, .buildSl 7 [(.int .i64 0), (.int .u64 0), (.int .u64 0), (.int .u64 0), (.int .u64 0), (.int .i64 0), (.int .i64 0)] 3 [(0, (.t 2)), (1, (.t 5)), (2, (.t 6))], none⟩ (some (bState, .leaf)),
      o1 8 (.build [(.slice none 0 0), (.int .i64 0)] [(0, 1, (.t 7))]),
      o0 ⟨none, .store 2 (.t 0) (.t 8), none⟩])
  .ret)))
def F_law06_star : AFn := ⟨ "mergelens/mergelenslaw06.star", t_law06_star.erase, [.cell 0 true 2], 0⟩
def W_law06_star (P : Program) (x : Unit) (K : ((List State) × Int) → Unit → Prop) : Prop :=
  Fn P "mergelens/mergelensref04.Put" S_ref04_Put (((0 : Int), ((0 : Int), ((0 : Int), (0 : Int)))), (97 : Int)) (fun (d1 : (Int × (Int × (Int × Int)))) (e2 : Unit) => K (([((1 : Int), (((0 : Int), ((0 : Int), ((0 : Int), (0 : Int)))), ((1 : Int), (2 : Int)))), ((0 : Int), ((d1.1, (d1.2.1, (d1.2.2.1, d1.2.2.2))), ((0 : Int), (0 : Int)))), ((4 : Int), (((0 : Int), ((0 : Int), ((0 : Int), (0 : Int)))), ((0 : Int), (0 : Int))))] : List State), (0 : Int)) ())
theorem fn_law06_star {P : Program} (h : Has P F_law06_star) {x : DP S_law06_star.ps} {K : DP S_law06_star.rs → DP (ptrs S_law06_star.ps) → Prop} (hw : W_law06_star P x K) : Fn P "mergelens/mergelenslaw06.star" S_law06_star x K :=
  fn_of (c := t_law06_star) h rfl rfl (by kernel_rfl) (Eq.mpr (show liftT P F_law06_star S_law06_star t_law06_star x K = W_law06_star P x K by kernel_rfl) hw)

def t_law06_awake : TCode :=
  (.seq
    (.region [o1 0 (.asg (.c (.bool false)))])
  (.seq
    (.region [oS ⟨some 6, .call "mergelens/mergelenslaw06.star" [], none⟩ S_law06_star,
      oS ⟨some 7, .call "mergelens/search.All" [(.t 6), (.c (.string ⟨#[98, 97, 97]⟩))], none⟩ S_search_All,
      o1 5 (.mv (.t 7)),
      o1 8 (.ext (.t 5) 0),
      o1 9 (.ext (.t 5) 1),
      o1 1 (.asg (.t 8)),
      o1 2 (.asg (.t 9))])
  (.seq
    (.region [oS ⟨some 11, .call "mergelens/mergelenslaw06.star" [], none⟩ S_law06_star,
      oS ⟨some 12, .call "mergelens/search.Whole" [(.t 11), (.c (.string ⟨#[97, 97]⟩))], none⟩ S_search_Whole,
      o1 10 (.mv (.t 12)),
      o1 13 (.ext (.t 10) 0),
      o1 14 (.ext (.t 10) 1),
      o1 3 (.asg (.t 13)),
      o1 4 (.asg (.t 14))])
  (.seq
    (.region [o1 15 (.mv (.t 2)),
      o1 16 (.bin .eql (.t 15) (.c (.int .i64 0))),
      o1 17 (.mv (.t 16)),
      o0 ⟨some 18, .mv (.t 4), some (17, true)⟩,
      o0 ⟨some 19, .bin .eql (.t 18) (.c (.int .i64 0)), some (17, true)⟩,
      o1 20 (.pick (.t 17) (.t 19) (.c (.bool false))),
      o1 21 (.mv (.t 20)),
      o0 ⟨some 22, .mv (.t 3), some (21, true)⟩,
      o1 23 (.pick (.t 21) (.t 22) (.c (.bool false))),
      o1 24 (.mv (.t 23)),
      ⟨⟨some 25, .mv (.t 1), some (24, true)⟩, none, ⟨[], []⟩, false, some 24, true, false⟩,
      ⟨⟨some 26, .build [(.int .i64 0), (.int .i64 0)] [(0, 1, (.c (.int .i64 0))), (1, 1, (.c (.int .i64 0)))], some (24, true)⟩, none, ⟨[], []⟩, false, none, true, false⟩,
      ⟨⟨some 27, .build [(.int .i64 0), (.int .i64 0)] [(0, 1, (.c (.int .i64 1))), (1, 1, (.c (.int .i64 3)))], some (24, true)⟩, none, ⟨[], []⟩, false, none, true, false⟩,
      ⟨⟨some 28, .build [(.int .i64 0), (.int .i64 0)] [(0, 1, (.c (.int .i64 3))), (1, 1, (.c (.int .i64 3)))], some (24, true)⟩, none, ⟨[], []⟩, false, none, true, false⟩,
      ⟨⟨some 29, .buildSl 2 [(.int .i64 0), (.int .i64 0)] 3 [(0, (.t 26)), (1, (.t 27)), (2, (.t 28))], some (24, true)⟩, some ((.pair (.int .i64) (.int .i64)), .leaf), ⟨[], []⟩, false, none, true, false⟩,
      ⟨⟨some 30, .call "mergelens/mergelensgen.Spans" [(.t 25), (.t 29)], some (24, true)⟩, none, S_gen_Spans, false, none, true, true⟩,
      o1 31 (.pick (.t 24) (.t 30) (.c (.bool false))),
      o1 0 (.asg (.t 31))])
  .ret))))
def F_law06_awake : AFn := ⟨ "mergelens/mergelenslaw06.awake", t_law06_awake.erase, [.tmp 0], 0⟩
def W_law06_awake (P : Program) (x : Unit) (K : Bool → Unit → Prop) : Prop :=
  Fn P "mergelens/mergelenslaw06.star" S_law06_star () (fun (d1 : ((List State) × Int)) (e2 : Unit) => Fn P "mergelens/search.All" S_search_All ((d1.1, d1.2), ([98, 97, 97] : List UInt8)) (fun (d3 : ((List (Int × Int)) × Int)) (e4 : Unit) => Fn P "mergelens/mergelenslaw06.star" S_law06_star () (fun (d5 : ((List State) × Int)) (e6 : Unit) => Fn P "mergelens/search.Whole" S_search_Whole ((d5.1, d5.2), ([97, 97] : List UInt8)) (fun (d7 : (Bool × Int)) (e8 : Unit) => (((cond (cond (d3.2 == (0 : Int)) (d7.2 == (0 : Int)) false) d7.1 false) = true → Fn P "mergelens/mergelensgen.Spans" S_gen_Spans (d3.1, ([((0 : Int), (0 : Int)), ((1 : Int), (3 : Int)), ((3 : Int), (3 : Int))] : List (Int × Int))) (fun (d9 : Bool) (e10 : Unit) => K (cond true d9 false) ())) ∧ ((cond (cond (d3.2 == (0 : Int)) (d7.2 == (0 : Int)) false) d7.1 false) = false → K (cond false false false) ()))))))
theorem fn_law06_awake {P : Program} (h : Has P F_law06_awake) {x : DP S_law06_awake.ps} {K : DP S_law06_awake.rs → DP (ptrs S_law06_awake.ps) → Prop} (hw : W_law06_awake P x K) : Fn P "mergelens/mergelenslaw06.awake" S_law06_awake x K :=
  fn_of (c := t_law06_awake) h rfl rfl (by kernel_rfl) (Eq.mpr (show liftT P F_law06_awake S_law06_awake t_law06_awake x K = W_law06_awake P x K by kernel_rfl) hw)


def t_law06_SearchAll : TCode :=
  (.seq
    (.region [o1 4 (.asg (.c (.bool false)))])
  (.seq
    (.region [o1 11 (.mv (.t 0)),
      o1 12 (.mv (.t 1)),
      ⟨⟨some 13, .call "mergelens/mergelenslaw06.made" [(.t 11), (.t 12)], none⟩, none, S_law06_made, true, none, false, false⟩,
      o1 14 (.mv (.t 0)),
      oS ⟨some 15, .call "mergelens/mergelenslaw06.word" [(.t 14), (.c (.int .i64 50))], none⟩ S_law06_word,
      o1 5 (.alloc [(.slice none 0 0), (.int .i64 0)]),
      o0 ⟨none, .store 2 (.t 5) (.t 13), none⟩,
      o1 6 (.asg (.t 15))])
  (.seq
    (.region [o1 17 (.load true 2 (.t 5)),
      o1 18 (.mv (.t 6)),
      oS ⟨some 19, .call "mergelens/search.All" [(.t 17), (.t 18)], none⟩ S_search_All,
      o1 16 (.mv (.t 19)),
      o1 20 (.ext (.t 16) 0),
      o1 21 (.ext (.t 16) 1),
      o1 7 (.asg (.t 20)),
      o1 8 (.asg (.t 21))])
  (.seq
    (.region [o1 23 (.load true 2 (.t 5)),
      o1 24 (.mv (.t 6)),
      oS ⟨some 25, .call "mergelens/mergelensref06.All" [(.t 23), (.t 24)], none⟩ S_ref06_All,
      o1 22 (.mv (.t 25)),
      o1 26 (.ext (.t 22) 0),
      o1 27 (.ext (.t 22) 1),
      o1 9 (.asg (.t 26)),
      o1 10 (.asg (.t 27))])
  (.seq
    (.region [o1 28 (.mv (.t 8)),
      o1 29 (.mv (.t 10)),
      o1 30 (.bin .eql (.t 28) (.t 29)),
      o1 31 (.mv (.t 30)),
      o0 ⟨some 32, .mv (.t 7), some (31, true)⟩,
      o0 ⟨some 33, .mv (.t 9), some (31, true)⟩,
      oS ⟨some 34, .call "mergelens/mergelensgen.Spans" [(.t 32), (.t 33)], some (31, true)⟩ S_gen_Spans,
      o1 35 (.pick (.t 31) (.t 34) (.c (.bool false))),
      o1 36 (.mv (.t 35)),
      oS ⟨some 37, .call "mergelens/mergelenslaw06.awake" [], some (36, true)⟩ S_law06_awake,
      o1 38 (.pick (.t 36) (.t 37) (.c (.bool false))),
      o1 4 (.asg (.t 38))])
  .ret)))))
def F_law06_SearchAll : AFn := ⟨ "mergelens/mergelenslaw06.SearchAll", t_law06_SearchAll.erase, [.tmp 4], 2⟩
def W_law06_SearchAll (P : Program) (x : ((List Int) × Int)) (K : Bool → Unit → Prop) : Prop :=
  Fn P "mergelens/mergelenslaw06.made" S_law06_made (x.1, x.2) (fun (d1 : ((List State) × Int)) (e2 : Unit) => Fn P "mergelens/mergelenslaw06.word" S_law06_word (x.1, (50 : Int)) (fun (d3 : (List UInt8)) (e4 : Unit) => Fn P "mergelens/search.All" S_search_All ((d1.1, d1.2), d3) (fun (d5 : ((List (Int × Int)) × Int)) (e6 : Unit) => Fn P "mergelens/mergelensref06.All" S_ref06_All ((d1.1, d1.2), d3) (fun (d7 : ((List (Int × Int)) × Int)) (e8 : Unit) => JoinW (D := Bool) (fun J9 => (((d5.2 == d7.2) = true → Fn P "mergelens/mergelensgen.Spans" S_gen_Spans (d5.1, d7.1) (fun (d10 : Bool) _ => J9 d10)) ∧ (((d5.2 == d7.2) = false → J9 false) ∧ True))) (fun d11 => JoinW (D := Bool) (fun J12 => (((cond (d5.2 == d7.2) d11 false) = true → Fn P "mergelens/mergelenslaw06.awake" S_law06_awake () (fun (d13 : Bool) _ => J12 d13)) ∧ (((cond (d5.2 == d7.2) d11 false) = false → J12 false) ∧ True))) (fun d14 => K (cond (cond (d5.2 == d7.2) d11 false) d14 false) ()))))))
theorem fn_law06_SearchAll {P : Program} (h : Has P F_law06_SearchAll) {x : DP S_law06_SearchAll.ps} {K : DP S_law06_SearchAll.rs → DP (ptrs S_law06_SearchAll.ps) → Prop} (hw : W_law06_SearchAll P x K) : Fn P "mergelens/mergelenslaw06.SearchAll" S_law06_SearchAll x K :=
  fn_of (c := t_law06_SearchAll) h rfl rfl (by kernel_rfl) (Eq.mpr (show liftT P F_law06_SearchAll S_law06_SearchAll t_law06_SearchAll x K = W_law06_SearchAll P x K by kernel_rfl) hw)

def t_ref06_Whole : TCode :=
  (.seq
    (.region [o1 2 (.box (.t 0)),
      o1 4 (.asg (.c (.bool false))),
      o1 5 (.asg (.c (.int .i64 0)))])
  (.seq
    (.seq
      (.region [o1 6 (.load true 2 (.t 2)),
        oS ⟨some 7, .call "mergelens/mergelensref05.Check" [(.t 6)], none⟩ S_ref05_Check,
        o1 8 (.bin .neq (.t 7) (.c (.int .i64 0)))])
    (.cond (.t 8)
      (.seq
        (.region [o1 4 (.asg (.c (.bool false))),
          o1 5 (.asg (.c (.int .i64 2)))])
      .ret)
      .skip))
  (.seq
    (.region [o1 9 (.load true 2 (.t 2)),
      o1 10 (.mv (.t 1)),
      oS ⟨some 11, .call "mergelens/mergelensref05.Ends" [(.t 9), (.t 10), (.c (.int .i64 0))], none⟩ S_ref05_Ends,
      o1 12 (.mv (.t 1)),
      o1 13 (.lenS (.t 12)),
      o1 14 (.ixA 1 (.t 11) (.t 13)),
      o1 15 (.load false 1 (.t 14)),
      o1 4 (.asg (.t 15)),
      o1 5 (.asg (.c (.int .i64 0)))])
  .ret)))
def F_ref06_Whole : AFn := ⟨ "mergelens/mergelensref06.Whole", t_ref06_Whole.erase, [.tmp 4, .tmp 5], 2⟩
def W_ref06_Whole (P : Program) (x : (((List State) × Int) × (List UInt8))) (K : (Bool × Int) → Unit → Prop) : Prop :=
  Fn P "mergelens/mergelensref05.Check" S_ref05_Check (x.1.1, x.1.2) (fun (d1 : Int) (e2 : Unit) => (((d1 != (0 : Int)) = true → K (false, (2 : Int)) ()) ∧ ((d1 != (0 : Int)) = false → Fn P "mergelens/mergelensref05.Ends" S_ref05_Ends ((x.1.1, x.1.2), (x.2, (0 : Int))) (fun (d3 : (List Bool)) (e4 : Unit) => (0 ≤ ((List.length x.2 : Nat) : Int) ∧ ((List.length x.2 : Nat) : Int) < ((List.length d3 : Nat) : Int)) ∧
  ((Int.toNat ((List.length x.2 : Nat) : Int)) < List.length d3) ∧
  K ((List.getD d3 (Int.toNat ((List.length x.2 : Nat) : Int)) false), (0 : Int)) ()))))
theorem fn_ref06_Whole {P : Program} (h : Has P F_ref06_Whole) {x : DP S_ref06_Whole.ps} {K : DP S_ref06_Whole.rs → DP (ptrs S_ref06_Whole.ps) → Prop} (hw : W_ref06_Whole P x K) : Fn P "mergelens/mergelensref06.Whole" S_ref06_Whole x K :=
  fn_of (c := t_ref06_Whole) h rfl rfl (by kernel_rfl) (Eq.mpr (show liftT P F_ref06_Whole S_ref06_Whole t_ref06_Whole x K = W_ref06_Whole P x K by kernel_rfl) hw)

def t_search_Any : TCode :=
  (.seq
    (.region [o1 2 (.box (.t 0)),
      o1 4 (.asg (.c (.bool false))),
      o1 5 (.asg (.c (.int .i64 0)))])
  (.seq
    (.seq
      (.region [o1 9 (.load true 2 (.t 2)),
        oS ⟨some 10, .call "mergelens/automaton.Check" [(.t 9)], none⟩ S_automaton_Check,
        o1 6 (.asg (.t 10))])
    (.seq
      (.region [o1 11 (.mv (.t 6)),
        o1 12 (.bin .neq (.t 11) (.c (.int .i64 0)))])
    (.cond (.t 12)
      (.seq
        (.region [o1 13 (.mv (.t 6)),
          o1 4 (.asg (.c (.bool false))),
          o1 5 (.asg (.t 13))])
      .ret)
      .skip)))
  (.seq
    (.region [o1 15 (.load true 2 (.t 2)),
      o1 16 (.mv (.t 1)),
      oS ⟨some 17, .call "mergelens/search.find" [(.t 15), (.t 16), (.c (.int .i64 0))], none⟩ S_search_find,
      o1 14 (.mv (.t 17)),
      o1 18 (.ext (.t 14) 0),
      o1 19 (.ext (.t 14) 1),
      o1 7 (.alloc [(.int .i64 0), (.int .i64 0)]),
      o0 ⟨none, .store 2 (.t 7) (.t 18), none⟩,
      o1 8 (.asg (.t 19))])
  (.seq
    (.region [o1 20 (.mv (.t 8)),
      o1 4 (.asg (.t 20)),
      o1 5 (.asg (.c (.int .i64 0)))])
  .ret))))
def F_search_Any : AFn := ⟨ "mergelens/search.Any", t_search_Any.erase, [.tmp 4, .tmp 5], 2⟩
def W_search_Any (P : Program) (x : (((List State) × Int) × (List UInt8))) (K : (Bool × Int) → Unit → Prop) : Prop :=
  Fn P "mergelens/automaton.Check" S_automaton_Check (x.1.1, x.1.2) (fun (d1 : Int) (e2 : Unit) => (((d1 != (0 : Int)) = true → K (false, d1) ()) ∧ ((d1 != (0 : Int)) = false → Fn P "mergelens/search.find" S_search_find ((x.1.1, x.1.2), (x.2, (0 : Int))) (fun (d3 : ((Int × Int) × Bool)) (e4 : Unit) => K (d3.2, (0 : Int)) ()))))
theorem fn_search_Any {P : Program} (h : Has P F_search_Any) {x : DP S_search_Any.ps} {K : DP S_search_Any.rs → DP (ptrs S_search_Any.ps) → Prop} (hw : W_search_Any P x K) : Fn P "mergelens/search.Any" S_search_Any x K :=
  fn_of (c := t_search_Any) h rfl rfl (by kernel_rfl) (Eq.mpr (show liftT P F_search_Any S_search_Any t_search_Any x K = W_search_Any P x K by kernel_rfl) hw)

def t_ref06_Any : TCode :=
  (.seq
    (.region [o1 2 (.box (.t 0)),
      o1 4 (.asg (.c (.bool false))),
      o1 5 (.asg (.c (.int .i64 0)))])
  (.seq
    (.region [o1 10 (.load true 2 (.t 2)),
      o1 11 (.mv (.t 1)),
      oS ⟨some 12, .call "mergelens/mergelensref06.Find" [(.t 10), (.t 11), (.c (.int .i64 0))], none⟩ S_ref06_Find,
      o1 9 (.mv (.t 12)),
      o1 13 (.ext (.t 9) 0),
      o1 14 (.ext (.t 9) 1),
      o1 15 (.ext (.t 9) 2),
      o1 6 (.alloc [(.int .i64 0), (.int .i64 0)]),
      o0 ⟨none, .store 2 (.t 6) (.t 13), none⟩,
      o1 7 (.asg (.t 14)),
      o1 8 (.asg (.t 15))])
  (.seq
    (.region [o1 16 (.mv (.t 7)),
      o1 17 (.mv (.t 8)),
      o1 4 (.asg (.t 16)),
      o1 5 (.asg (.t 17))])
  .ret)))
def F_ref06_Any : AFn := ⟨ "mergelens/mergelensref06.Any", t_ref06_Any.erase, [.tmp 4, .tmp 5], 2⟩
def W_ref06_Any (P : Program) (x : (((List State) × Int) × (List UInt8))) (K : (Bool × Int) → Unit → Prop) : Prop :=
  Fn P "mergelens/mergelensref06.Find" S_ref06_Find ((x.1.1, x.1.2), (x.2, (0 : Int))) (fun (d1 : ((Int × Int) × (Bool × Int))) (e2 : Unit) => K (d1.2.1, d1.2.2) ())
theorem fn_ref06_Any {P : Program} (h : Has P F_ref06_Any) {x : DP S_ref06_Any.ps} {K : DP S_ref06_Any.rs → DP (ptrs S_ref06_Any.ps) → Prop} (hw : W_ref06_Any P x K) : Fn P "mergelens/mergelensref06.Any" S_ref06_Any x K :=
  fn_of (c := t_ref06_Any) h rfl rfl (by kernel_rfl) (Eq.mpr (show liftT P F_ref06_Any S_ref06_Any t_ref06_Any x K = W_ref06_Any P x K by kernel_rfl) hw)

def t_search_Find : TCode :=
  (.seq
    (.region [o1 3 (.box (.t 0)),
      o1 6 (.alloc [(.int .i64 0), (.int .i64 0)]),
      o1 7 (.asg (.c (.bool false))),
      o1 8 (.asg (.c (.int .i64 0)))])
  (.seq
    (.seq
      (.region [o1 12 (.load true 2 (.t 3)),
        oS ⟨some 13, .call "mergelens/automaton.Check" [(.t 12)], none⟩ S_automaton_Check,
        o1 9 (.asg (.t 13))])
    (.seq
      (.region [o1 14 (.mv (.t 9)),
        o1 15 (.bin .neq (.t 14) (.c (.int .i64 0)))])
    (.cond (.t 15)
      (.seq
        (.region [o1 16 (.build [(.int .i64 0), (.int .i64 0)] []),
          o1 17 (.mv (.t 9)),
          o0 ⟨none, .store 2 (.t 6) (.t 16), none⟩,
          o1 7 (.asg (.c (.bool false))),
          o1 8 (.asg (.t 17))])
      .ret)
      .skip)))
  (.seq
    (.seq
      (.region [o1 18 (.mv (.t 2)),
        o1 19 (.bin .lss (.t 18) (.c (.int .i64 0))),
        o1 20 (.mv (.t 19)),
        o0 ⟨some 21, .mv (.t 2), some (20, false)⟩,
        o0 ⟨some 22, .mv (.t 1), some (20, false)⟩,
        o0 ⟨some 23, .lenS (.t 22), some (20, false)⟩,
        o0 ⟨some 24, .bin .gtr (.t 21) (.t 23), some (20, false)⟩,
        o1 25 (.pick (.t 20) (.c (.bool true)) (.t 24))])
    (.cond (.t 25)
      (.seq
        (.region [o1 26 (.build [(.int .i64 0), (.int .i64 0)] []),
          o0 ⟨none, .store 2 (.t 6) (.t 26), none⟩,
          o1 7 (.asg (.c (.bool false))),
          o1 8 (.asg (.c (.int .i64 3)))])
      .ret)
      .skip))
  (.seq
    (.region [o1 28 (.load true 2 (.t 3)),
      o1 29 (.mv (.t 1)),
      o1 30 (.mv (.t 2)),
      oS ⟨some 31, .call "mergelens/search.find" [(.t 28), (.t 29), (.t 30)], none⟩ S_search_find,
      o1 27 (.mv (.t 31)),
      o1 32 (.ext (.t 27) 0),
      o1 33 (.ext (.t 27) 1),
      o1 10 (.alloc [(.int .i64 0), (.int .i64 0)]),
      o0 ⟨none, .store 2 (.t 10) (.t 32), none⟩,
      o1 11 (.asg (.t 33))])
  (.seq
    (.region [o1 34 (.load true 2 (.t 10)),
      o1 35 (.mv (.t 11)),
      o0 ⟨none, .store 2 (.t 6) (.t 34), none⟩,
      o1 7 (.asg (.t 35)),
      o1 8 (.asg (.c (.int .i64 0)))])
  .ret)))))
def F_search_Find : AFn := ⟨ "mergelens/search.Find", t_search_Find.erase, [.cell 6 true 2, .tmp 7, .tmp 8], 3⟩
def W_search_Find (P : Program) (x : (((List State) × Int) × ((List UInt8) × Int))) (K : ((Int × Int) × (Bool × Int)) → Unit → Prop) : Prop :=
  Fn P "mergelens/automaton.Check" S_automaton_Check (x.1.1, x.1.2) (fun (d1 : Int) (e2 : Unit) => (((d1 != (0 : Int)) = true → K (((0 : Int), (0 : Int)), (false, d1)) ()) ∧ ((d1 != (0 : Int)) = false → (((cond (decide (x.2.2 < (0 : Int))) true (decide (x.2.2 > ((List.length x.2.1 : Nat) : Int)))) = true → K (((0 : Int), (0 : Int)), (false, (3 : Int))) ()) ∧ ((cond (decide (x.2.2 < (0 : Int))) true (decide (x.2.2 > ((List.length x.2.1 : Nat) : Int)))) = false → Fn P "mergelens/search.find" S_search_find ((x.1.1, x.1.2), (x.2.1, x.2.2)) (fun (d3 : ((Int × Int) × Bool)) (e4 : Unit) => K ((d3.1.1, d3.1.2), (d3.2, (0 : Int))) ()))))))
theorem fn_search_Find {P : Program} (h : Has P F_search_Find) {x : DP S_search_Find.ps} {K : DP S_search_Find.rs → DP (ptrs S_search_Find.ps) → Prop} (hw : W_search_Find P x K) : Fn P "mergelens/search.Find" S_search_Find x K :=
  fn_of (c := t_search_Find) h rfl rfl (by kernel_rfl) (Eq.mpr (show liftT P F_search_Find S_search_Find t_search_Find x K = W_search_Find P x K by kernel_rfl) hw)

def t_law06_SearchFinds : TCode :=
  (.seq
    (.region [o1 8 (.asg (.c (.bool false)))])
  (.seq
    (.region [o1 25 (.mv (.t 0)),
      o1 26 (.mv (.t 1)),
      ⟨⟨some 27, .call "mergelens/mergelenslaw06.made" [(.t 25), (.t 26)], none⟩, none, S_law06_made, true, none, false, false⟩,
      o1 28 (.mv (.t 0)),
      oS ⟨some 29, .call "mergelens/mergelenslaw06.word" [(.t 28), (.c (.int .i64 50))], none⟩ S_law06_word,
      o1 9 (.alloc [(.slice none 0 0), (.int .i64 0)]),
      o0 ⟨none, .store 2 (.t 9) (.t 27), none⟩,
      o1 10 (.asg (.t 29))])
  (.seq
    (.seq
      (.region [o1 30 (.mv (.t 3))])
    (.frame [2, 31, 32, 33, 34, 35] [] false (.join [.sl 2 false (.int .i64) .leaf]
    (.cond (.t 30)
      (.region [o1 31 (.mv (.t 2)),
        o1 32 (.mv (.t 10)),
        o1 33 (.lenS (.t 32)),
        o1 34 (.bin .add (.t 33) (.c (.int .i64 1))),
        oS ⟨some 35, .call "mergelens/mergelensgen.Mod" [(.t 31), (.t 34)], none⟩ S_gen_Mod,
        o1 2 (.asg (.t 35))])
      .skip))))
  (.seq
    (.region [o1 37 (.load true 2 (.t 9)),
      o1 38 (.mv (.t 10)),
      oS ⟨some 39, .call "mergelens/search.Whole" [(.t 37), (.t 38)], none⟩ S_search_Whole,
      o1 36 (.mv (.t 39)),
      o1 40 (.ext (.t 36) 0),
      o1 41 (.ext (.t 36) 1),
      o1 11 (.asg (.t 40)),
      o1 12 (.asg (.t 41))])
  (.seq
    (.region [o1 43 (.load true 2 (.t 9)),
      o1 44 (.mv (.t 10)),
      oS ⟨some 45, .call "mergelens/mergelensref06.Whole" [(.t 43), (.t 44)], none⟩ S_ref06_Whole,
      o1 42 (.mv (.t 45)),
      o1 46 (.ext (.t 42) 0),
      o1 47 (.ext (.t 42) 1),
      o1 13 (.asg (.t 46)),
      o1 14 (.asg (.t 47))])
  (.seq
    (.region [o1 49 (.load true 2 (.t 9)),
      o1 50 (.mv (.t 10)),
      oS ⟨some 51, .call "mergelens/search.Any" [(.t 49), (.t 50)], none⟩ S_search_Any,
      o1 48 (.mv (.t 51)),
      o1 52 (.ext (.t 48) 0),
      o1 53 (.ext (.t 48) 1),
      o1 15 (.asg (.t 52)),
      o1 16 (.asg (.t 53))])
  (.seq
    (.region [o1 55 (.load true 2 (.t 9)),
      o1 56 (.mv (.t 10)),
      oS ⟨some 57, .call "mergelens/mergelensref06.Any" [(.t 55), (.t 56)], none⟩ S_ref06_Any,
      o1 54 (.mv (.t 57)),
      o1 58 (.ext (.t 54) 0),
      o1 59 (.ext (.t 54) 1),
      o1 17 (.asg (.t 58)),
      o1 18 (.asg (.t 59))])
  (.seq
    (.region [o1 61 (.load true 2 (.t 9)),
      o1 62 (.mv (.t 10)),
      o1 63 (.mv (.t 2)),
      oS ⟨some 64, .call "mergelens/search.Find" [(.t 61), (.t 62), (.t 63)], none⟩ S_search_Find,
      o1 60 (.mv (.t 64)),
      o1 65 (.ext (.t 60) 0),
      o1 66 (.ext (.t 60) 1),
      o1 67 (.ext (.t 60) 2),
      o1 19 (.alloc [(.int .i64 0), (.int .i64 0)]),
      o0 ⟨none, .store 2 (.t 19) (.t 65), none⟩,
      o1 20 (.asg (.t 66)),
      o1 21 (.asg (.t 67))])
  (.seq
    (.region [o1 69 (.load true 2 (.t 9)),
      o1 70 (.mv (.t 10)),
      o1 71 (.mv (.t 2)),
      oS ⟨some 72, .call "mergelens/mergelensref06.Find" [(.t 69), (.t 70), (.t 71)], none⟩ S_ref06_Find,
      o1 68 (.mv (.t 72)),
      o1 73 (.ext (.t 68) 0),
      o1 74 (.ext (.t 68) 1),
      o1 75 (.ext (.t 68) 2),
      o1 22 (.alloc [(.int .i64 0), (.int .i64 0)]),
      o0 ⟨none, .store 2 (.t 22) (.t 73), none⟩,
      o1 23 (.asg (.t 74)),
      o1 24 (.asg (.t 75))])
  (.seq
    (.region [o1 76 (.mv (.t 11)),
      o1 77 (.mv (.t 13)),
      o1 78 (.eqB false (.t 76) (.t 77)),
      o1 79 (.mv (.t 78)),
      o0 ⟨some 80, .mv (.t 12), some (79, true)⟩,
      o0 ⟨some 81, .mv (.t 14), some (79, true)⟩,
      o0 ⟨some 82, .bin .eql (.t 80) (.t 81), some (79, true)⟩,
      o1 83 (.pick (.t 79) (.t 82) (.c (.bool false))),
      o1 84 (.mv (.t 83)),
      o0 ⟨some 85, .mv (.t 15), some (84, true)⟩,
      o0 ⟨some 86, .mv (.t 17), some (84, true)⟩,
      o0 ⟨some 87, .eqB false (.t 85) (.t 86), some (84, true)⟩,
      o1 88 (.pick (.t 84) (.t 87) (.c (.bool false))),
      o1 89 (.mv (.t 88)),
      o0 ⟨some 90, .mv (.t 16), some (89, true)⟩,
      o0 ⟨some 91, .mv (.t 18), some (89, true)⟩,
      o0 ⟨some 92, .bin .eql (.t 90) (.t 91), some (89, true)⟩,
      o1 93 (.pick (.t 89) (.t 92) (.c (.bool false))),
      o1 94 (.mv (.t 93)),
      o0 ⟨some 95, .load true 2 (.t 19), some (94, true)⟩,
      o0 ⟨some 96, .load true 2 (.t 22), some (94, true)⟩,
      o0 ⟨some 97, .eqA false [.int, .int] (.t 95) (.t 96), some (94, true)⟩,
      o1 98 (.pick (.t 94) (.t 97) (.c (.bool false))),
      o1 99 (.mv (.t 98)),
      o0 ⟨some 100, .mv (.t 20), some (99, true)⟩,
      o0 ⟨some 101, .mv (.t 23), some (99, true)⟩,
      o0 ⟨some 102, .eqB false (.t 100) (.t 101), some (99, true)⟩,
      o1 103 (.pick (.t 99) (.t 102) (.c (.bool false))),
      o1 104 (.mv (.t 103)),
      o0 ⟨some 105, .mv (.t 21), some (104, true)⟩,
      o0 ⟨some 106, .mv (.t 24), some (104, true)⟩,
      o0 ⟨some 107, .bin .eql (.t 105) (.t 106), some (104, true)⟩,
      o1 108 (.pick (.t 104) (.t 107) (.c (.bool false))),
      o1 109 (.mv (.t 108)),
      oS ⟨some 110, .call "mergelens/mergelenslaw06.awake" [], some (109, true)⟩ S_law06_awake,
      o1 111 (.pick (.t 109) (.t 110) (.c (.bool false))),
      o1 8 (.asg (.t 111))])
  .ret))))))))))
def F_law06_SearchFinds : AFn := ⟨ "mergelens/mergelenslaw06.SearchFinds", t_law06_SearchFinds.erase, [.tmp 8], 4⟩
def W_law06_SearchFinds (P : Program) (x : ((List Int) × (Int × (Int × Bool)))) (K : Bool → Unit → Prop) : Prop :=
  Fn P "mergelens/mergelenslaw06.made" S_law06_made (x.1, x.2.1) (fun (d1 : ((List State) × Int)) (e2 : Unit) => Fn P "mergelens/mergelenslaw06.word" S_law06_word (x.1, (50 : Int)) (fun (d3 : (List UInt8)) (e4 : Unit) => JoinW (D := Int) (fun J5 => ((x.2.2.2 = true → Fn P "mergelens/mergelensgen.Mod" S_gen_Mod (x.2.2.1, (IntKind.i64.wrap (((List.length d3 : Nat) : Int) + (1 : Int)))) (fun (d7 : Int) (e8 : Unit) => J5 d7)) ∧ (x.2.2.2 = false → J5 x.2.2.1))) (fun (d6 : Int) => Fn P "mergelens/search.Whole" S_search_Whole ((d1.1, d1.2), d3) (fun (d9 : (Bool × Int)) (e10 : Unit) => Fn P "mergelens/mergelensref06.Whole" S_ref06_Whole ((d1.1, d1.2), d3) (fun (d11 : (Bool × Int)) (e12 : Unit) => Fn P "mergelens/search.Any" S_search_Any ((d1.1, d1.2), d3) (fun (d13 : (Bool × Int)) (e14 : Unit) => Fn P "mergelens/mergelensref06.Any" S_ref06_Any ((d1.1, d1.2), d3) (fun (d15 : (Bool × Int)) (e16 : Unit) => Fn P "mergelens/search.Find" S_search_Find ((d1.1, d1.2), (d3, d6)) (fun (d17 : ((Int × Int) × (Bool × Int))) (e18 : Unit) => Fn P "mergelens/mergelensref06.Find" S_ref06_Find ((d1.1, d1.2), (d3, d6)) (fun (d19 : ((Int × Int) × (Bool × Int))) (e20 : Unit) => JoinW (D := Bool) (fun J21 => (((cond (cond (cond (cond (cond (cond (d9.1 == d11.1) (d9.2 == d11.2) false) (d13.1 == d15.1) false) (d13.2 == d15.2) false) ((d17.1.1 == d19.1.1) && ((d17.1.2 == d19.1.2) && true)) false) (d17.2.1 == d19.2.1) false) (d17.2.2 == d19.2.2) false) = true → Fn P "mergelens/mergelenslaw06.awake" S_law06_awake () (fun (d22 : Bool) _ => J21 d22)) ∧ (((cond (cond (cond (cond (cond (cond (d9.1 == d11.1) (d9.2 == d11.2) false) (d13.1 == d15.1) false) (d13.2 == d15.2) false) ((d17.1.1 == d19.1.1) && ((d17.1.2 == d19.1.2) && true)) false) (d17.2.1 == d19.2.1) false) (d17.2.2 == d19.2.2) false) = false → J21 false) ∧ True))) (fun d23 => K (cond (cond (cond (cond (cond (cond (cond (d9.1 == d11.1) (d9.2 == d11.2) false) (d13.1 == d15.1) false) (d13.2 == d15.2) false) ((d17.1.1 == d19.1.1) && ((d17.1.2 == d19.1.2) && true)) false) (d17.2.1 == d19.2.1) false) (d17.2.2 == d19.2.2) false) d23 false) ()))))))))))
theorem fn_law06_SearchFinds {P : Program} (h : Has P F_law06_SearchFinds) {x : DP S_law06_SearchFinds.ps} {K : DP S_law06_SearchFinds.rs → DP (ptrs S_law06_SearchFinds.ps) → Prop} (hw : W_law06_SearchFinds P x K) : Fn P "mergelens/mergelenslaw06.SearchFinds" S_law06_SearchFinds x K :=
  fn_of (c := t_law06_SearchFinds) h rfl rfl (by kernel_rfl) (Eq.mpr (show liftT P F_law06_SearchFinds S_law06_SearchFinds t_law06_SearchFinds x K = W_law06_SearchFinds P x K by kernel_rfl) hw)

def t_law06_SearchRefuses : TCode :=
  (.seq
    (.region [o1 3 (.box (.t 0)),
      o1 6 (.asg (.c (.bool false)))])
  (.seq
    (.seq
      (.region [o1 22 (.fAddr 0 (.t 3)),
        o1 23 (.load false 1 (.t 22)),
        o1 24 (.lenK (.t 23)),
        o1 25 (.bin .gtr (.t 24) (.c (.int .i64 8))),
        o1 26 (.mv (.t 25)),
        o0 ⟨some 27, .mv (.t 1), some (26, false)⟩,
        o0 ⟨some 28, .lenS (.t 27), some (26, false)⟩,
        o0 ⟨some 29, .bin .gtr (.t 28) (.c (.int .i64 12)), some (26, false)⟩,
        o1 30 (.pick (.t 26) (.c (.bool true)) (.t 29))])
    (.cond (.t 30)
      (.seq
        (.region [oS ⟨some 31, .call "mergelens/mergelenslaw06.awake" [], none⟩ S_law06_awake,
          o1 6 (.asg (.t 31))])
      .ret)
      .skip))
  (.seq
    (.seq
      (.region [o1 32 (.load true 2 (.t 3)),
        oS ⟨some 33, .call "mergelens/mergelensref05.Check" [(.t 32)], none⟩ S_ref05_Check,
        o1 34 (.bin .eql (.t 33) (.c (.int .i64 0)))])
    (.cond (.t 34)
      (.seq
        (.region [o1 36 (.load true 2 (.t 3)),
          o1 37 (.mv (.t 1)),
          o1 38 (.mv (.t 1)),
          o1 39 (.lenS (.t 38)),
          o1 40 (.bin .add (.t 39) (.c (.int .i64 1))),
          oS ⟨some 41, .call "mergelens/search.Find" [(.t 36), (.t 37), (.t 40)], none⟩ S_search_Find,
          o1 35 (.mv (.t 41)),
          o1 42 (.ext (.t 35) 0),
          o1 43 (.ext (.t 35) 1),
          o1 44 (.ext (.t 35) 2),
          o1 7 (.alloc [(.int .i64 0), (.int .i64 0)]),
          o0 ⟨none, .store 2 (.t 7) (.t 42), none⟩,
          o1 8 (.asg (.t 43)),
          o1 9 (.asg (.t 44))])
      (.seq
        (.region [o1 46 (.load true 2 (.t 3)),
          o1 47 (.mv (.t 1)),
          oS ⟨some 48, .call "mergelens/search.Find" [(.t 46), (.t 47), (.c (.int .i64 (-1)))], none⟩ S_search_Find,
          o1 45 (.mv (.t 48)),
          o1 49 (.ext (.t 45) 0),
          o1 50 (.ext (.t 45) 1),
          o1 51 (.ext (.t 45) 2),
          o1 10 (.alloc [(.int .i64 0), (.int .i64 0)]),
          o0 ⟨none, .store 2 (.t 10) (.t 49), none⟩,
          o1 11 (.asg (.t 50)),
          o1 12 (.asg (.t 51))])
      (.seq
        (.region [o1 52 (.mv (.t 9)),
          o1 53 (.bin .eql (.t 52) (.c (.int .i64 3))),
          o1 54 (.mv (.t 53)),
          o0 ⟨some 55, .mv (.t 12), some (54, true)⟩,
          o0 ⟨some 56, .bin .eql (.t 55) (.c (.int .i64 3)), some (54, true)⟩,
          o1 57 (.pick (.t 54) (.t 56) (.c (.bool false))),
          o1 58 (.mv (.t 57)),
          oS ⟨some 59, .call "mergelens/mergelenslaw06.awake" [], some (58, true)⟩ S_law06_awake,
          o1 60 (.pick (.t 58) (.t 59) (.c (.bool false))),
          o1 6 (.asg (.t 60))])
      .ret)))
      .skip))
  (.seq
    (.region [o1 62 (.load true 2 (.t 3)),
      o1 63 (.mv (.t 1)),
      oS ⟨some 64, .call "mergelens/search.Whole" [(.t 62), (.t 63)], none⟩ S_search_Whole,
      o1 61 (.mv (.t 64)),
      o1 65 (.ext (.t 61) 0),
      o1 66 (.ext (.t 61) 1),
      o1 13 (.asg (.t 65)),
      o1 14 (.asg (.t 66))])
  (.seq
    (.region [o1 68 (.load true 2 (.t 3)),
      o1 69 (.mv (.t 1)),
      oS ⟨some 70, .call "mergelens/search.Any" [(.t 68), (.t 69)], none⟩ S_search_Any,
      o1 67 (.mv (.t 70)),
      o1 71 (.ext (.t 67) 0),
      o1 72 (.ext (.t 67) 1),
      o1 15 (.asg (.t 71)),
      o1 16 (.asg (.t 72))])
  (.seq
    (.region [o1 74 (.load true 2 (.t 3)),
      o1 75 (.mv (.t 1)),
      o1 76 (.mv (.t 2)),
      oS ⟨some 77, .call "mergelens/search.Find" [(.t 74), (.t 75), (.t 76)], none⟩ S_search_Find,
      o1 73 (.mv (.t 77)),
      o1 78 (.ext (.t 73) 0),
      o1 79 (.ext (.t 73) 1),
      o1 80 (.ext (.t 73) 2),
      o1 17 (.alloc [(.int .i64 0), (.int .i64 0)]),
      o0 ⟨none, .store 2 (.t 17) (.t 78), none⟩,
      o1 18 (.asg (.t 79)),
      o1 19 (.asg (.t 80))])
  (.seq
    (.region [o1 82 (.load true 2 (.t 3)),
      o1 83 (.mv (.t 1)),
      oS ⟨some 84, .call "mergelens/search.All" [(.t 82), (.t 83)], none⟩ S_search_All,
      o1 81 (.mv (.t 84)),
      o1 85 (.ext (.t 81) 0),
      o1 86 (.ext (.t 81) 1),
      o1 20 (.asg (.t 85)),
      o1 21 (.asg (.t 86))])
  (.seq
    (.region [o1 87 (.mv (.t 13)),
      o1 88 (.un .not (.t 87)),
      o1 89 (.mv (.t 88)),
      o0 ⟨some 90, .mv (.t 15), some (89, true)⟩,
      o0 ⟨some 91, .un .not (.t 90), some (89, true)⟩,
      o1 92 (.pick (.t 89) (.t 91) (.c (.bool false))),
      o1 93 (.mv (.t 92)),
      o0 ⟨some 94, .mv (.t 18), some (93, true)⟩,
      o0 ⟨some 95, .un .not (.t 94), some (93, true)⟩,
      o1 96 (.pick (.t 93) (.t 95) (.c (.bool false))),
      o1 97 (.mv (.t 96)),
      o0 ⟨some 98, .mv (.t 20), some (97, true)⟩,
      o0 ⟨some 99, .lenK (.t 98), some (97, true)⟩,
      o0 ⟨some 100, .bin .eql (.t 99) (.c (.int .i64 0)), some (97, true)⟩,
      o1 101 (.pick (.t 97) (.t 100) (.c (.bool false))),
      o1 102 (.mv (.t 101)),
      o0 ⟨some 103, .load true 2 (.t 17), some (102, true)⟩,
      o0 ⟨some 104, .build [(.int .i64 0), (.int .i64 0)] [], some (102, true)⟩,
      o0 ⟨some 105, .eqA false [.int, .int] (.t 103) (.t 104), some (102, true)⟩,
      o1 106 (.pick (.t 102) (.t 105) (.c (.bool false))),
      o1 107 (.mv (.t 106)),
      o0 ⟨some 108, .mv (.t 14), some (107, true)⟩,
      o0 ⟨some 109, .bin .eql (.t 108) (.c (.int .i64 2)), some (107, true)⟩,
      o1 110 (.pick (.t 107) (.t 109) (.c (.bool false))),
      o1 111 (.mv (.t 110)),
      o0 ⟨some 112, .mv (.t 16), some (111, true)⟩,
      o0 ⟨some 113, .bin .eql (.t 112) (.c (.int .i64 2)), some (111, true)⟩,
      o1 114 (.pick (.t 111) (.t 113) (.c (.bool false))),
      o1 115 (.mv (.t 114)),
      o0 ⟨some 116, .mv (.t 19), some (115, true)⟩,
      o0 ⟨some 117, .bin .eql (.t 116) (.c (.int .i64 2)), some (115, true)⟩,
      o1 118 (.pick (.t 115) (.t 117) (.c (.bool false))),
      o1 119 (.mv (.t 118)),
      o0 ⟨some 120, .mv (.t 21), some (119, true)⟩,
      o0 ⟨some 121, .bin .eql (.t 120) (.c (.int .i64 2)), some (119, true)⟩,
      o1 122 (.pick (.t 119) (.t 121) (.c (.bool false))),
      o1 123 (.mv (.t 122)),
      oS ⟨some 124, .call "mergelens/mergelenslaw06.awake" [], some (123, true)⟩ S_law06_awake,
      o1 125 (.pick (.t 123) (.t 124) (.c (.bool false))),
      o1 6 (.asg (.t 125))])
  .ret))))))))
def F_law06_SearchRefuses : AFn := ⟨ "mergelens/mergelenslaw06.SearchRefuses", t_law06_SearchRefuses.erase, [.tmp 6], 3⟩
def W_law06_SearchRefuses (P : Program) (x : (((List State) × Int) × ((List UInt8) × Int))) (K : Bool → Unit → Prop) : Prop :=
  (((cond (decide (((List.length x.1.1 : Nat) : Int) > (8 : Int))) true (decide (((List.length x.2.1 : Nat) : Int) > (12 : Int)))) = true → Fn P "mergelens/mergelenslaw06.awake" S_law06_awake () (fun (d1 : Bool) (e2 : Unit) => K d1 ())) ∧ ((cond (decide (((List.length x.1.1 : Nat) : Int) > (8 : Int))) true (decide (((List.length x.2.1 : Nat) : Int) > (12 : Int)))) = false → Fn P "mergelens/mergelensref05.Check" S_ref05_Check (x.1.1, x.1.2) (fun (d3 : Int) (e4 : Unit) => (((d3 == (0 : Int)) = true → Fn P "mergelens/search.Find" S_search_Find ((x.1.1, x.1.2), (x.2.1, (IntKind.i64.wrap (((List.length x.2.1 : Nat) : Int) + (1 : Int))))) (fun (d5 : ((Int × Int) × (Bool × Int))) (e6 : Unit) => Fn P "mergelens/search.Find" S_search_Find ((x.1.1, x.1.2), (x.2.1, (-1 : Int))) (fun (d7 : ((Int × Int) × (Bool × Int))) (e8 : Unit) => JoinW (D := Bool) (fun J9 => (((cond (d5.2.2 == (3 : Int)) (d7.2.2 == (3 : Int)) false) = true → Fn P "mergelens/mergelenslaw06.awake" S_law06_awake () (fun (d10 : Bool) _ => J9 d10)) ∧ (((cond (d5.2.2 == (3 : Int)) (d7.2.2 == (3 : Int)) false) = false → J9 false) ∧ True))) (fun d11 => K (cond (cond (d5.2.2 == (3 : Int)) (d7.2.2 == (3 : Int)) false) d11 false) ())))) ∧ ((d3 == (0 : Int)) = false → Fn P "mergelens/search.Whole" S_search_Whole ((x.1.1, x.1.2), x.2.1) (fun (d12 : (Bool × Int)) (e13 : Unit) => Fn P "mergelens/search.Any" S_search_Any ((x.1.1, x.1.2), x.2.1) (fun (d14 : (Bool × Int)) (e15 : Unit) => Fn P "mergelens/search.Find" S_search_Find ((x.1.1, x.1.2), (x.2.1, x.2.2)) (fun (d16 : ((Int × Int) × (Bool × Int))) (e17 : Unit) => Fn P "mergelens/search.All" S_search_All ((x.1.1, x.1.2), x.2.1) (fun (d18 : ((List (Int × Int)) × Int)) (e19 : Unit) => JoinW (D := Bool) (fun J20 => (((cond (cond (cond (cond (cond (cond (cond (cond (!d12.1) (!d14.1) false) (!d16.2.1) false) (((List.length d18.1 : Nat) : Int) == (0 : Int)) false) ((d16.1.1 == (0 : Int)) && ((d16.1.2 == (0 : Int)) && true)) false) (d12.2 == (2 : Int)) false) (d14.2 == (2 : Int)) false) (d16.2.2 == (2 : Int)) false) (d18.2 == (2 : Int)) false) = true → Fn P "mergelens/mergelenslaw06.awake" S_law06_awake () (fun (d21 : Bool) _ => J20 d21)) ∧ (((cond (cond (cond (cond (cond (cond (cond (cond (!d12.1) (!d14.1) false) (!d16.2.1) false) (((List.length d18.1 : Nat) : Int) == (0 : Int)) false) ((d16.1.1 == (0 : Int)) && ((d16.1.2 == (0 : Int)) && true)) false) (d12.2 == (2 : Int)) false) (d14.2 == (2 : Int)) false) (d16.2.2 == (2 : Int)) false) (d18.2 == (2 : Int)) false) = false → J20 false) ∧ True))) (fun d22 => K (cond (cond (cond (cond (cond (cond (cond (cond (cond (!d12.1) (!d14.1) false) (!d16.2.1) false) (((List.length d18.1 : Nat) : Int) == (0 : Int)) false) ((d16.1.1 == (0 : Int)) && ((d16.1.2 == (0 : Int)) && true)) false) (d12.2 == (2 : Int)) false) (d14.2 == (2 : Int)) false) (d16.2.2 == (2 : Int)) false) (d18.2 == (2 : Int)) false) d22 false) ()))))))))))
theorem fn_law06_SearchRefuses {P : Program} (h : Has P F_law06_SearchRefuses) {x : DP S_law06_SearchRefuses.ps} {K : DP S_law06_SearchRefuses.rs → DP (ptrs S_law06_SearchRefuses.ps) → Prop} (hw : W_law06_SearchRefuses P x K) : Fn P "mergelens/mergelenslaw06.SearchRefuses" S_law06_SearchRefuses x K :=
  fn_of (c := t_law06_SearchRefuses) h rfl rfl (by kernel_rfl) (Eq.mpr (show liftT P F_law06_SearchRefuses S_law06_SearchRefuses t_law06_SearchRefuses x K = W_law06_SearchRefuses P x K by kernel_rfl) hw)

def t_law06_SearchDisjoint : TCode :=
  (.seq
    (.region [o1 4 (.asg (.c (.bool false)))])
  (.seq
    (.region [o1 22 (.mv (.t 0)),
      o1 23 (.mv (.t 1)),
      ⟨⟨some 24, .call "mergelens/mergelenslaw06.made" [(.t 22), (.t 23)], none⟩, none, S_law06_made, true, none, false, false⟩,
      o1 25 (.mv (.t 0)),
      oS ⟨some 26, .call "mergelens/mergelenslaw06.word" [(.t 25), (.c (.int .i64 50))], none⟩ S_law06_word,
      o1 5 (.alloc [(.slice none 0 0), (.int .i64 0)]),
      o0 ⟨none, .store 2 (.t 5) (.t 24), none⟩,
      o1 6 (.asg (.t 26))])
  (.seq
    (.region [o1 28 (.load true 2 (.t 5)),
      o1 29 (.mv (.t 6)),
      oS ⟨some 30, .call "mergelens/search.Any" [(.t 28), (.t 29)], none⟩ S_search_Any,
      o1 27 (.mv (.t 30)),
      o1 31 (.ext (.t 27) 0),
      o1 32 (.ext (.t 27) 1),
      o1 7 (.asg (.t 31)),
      o1 8 (.asg (.t 32))])
  (.seq
    (.region [o1 34 (.load true 2 (.t 5)),
      o1 35 (.mv (.t 6)),
      oS ⟨some 36, .call "mergelens/search.Find" [(.t 34), (.t 35), (.c (.int .i64 0))], none⟩ S_search_Find,
      o1 33 (.mv (.t 36)),
      o1 37 (.ext (.t 33) 0),
      o1 38 (.ext (.t 33) 1),
      o1 39 (.ext (.t 33) 2),
      o1 9 (.alloc [(.int .i64 0), (.int .i64 0)]),
      o0 ⟨none, .store 2 (.t 9) (.t 37), none⟩,
      o1 10 (.asg (.t 38)),
      o1 11 (.asg (.t 39))])
  (.seq
    (.region [o1 41 (.load true 2 (.t 5)),
      o1 42 (.mv (.t 6)),
      oS ⟨some 43, .call "mergelens/search.All" [(.t 41), (.t 42)], none⟩ S_search_All,
      o1 40 (.mv (.t 43)),
      o1 44 (.ext (.t 40) 0),
      o1 45 (.ext (.t 40) 1),
      o1 12 (.asg (.t 44)),
      o1 13 (.asg (.t 45))])
  (.seq
    (.seq
      (.region [o1 46 (.mv (.t 8)),
        o1 47 (.bin .neq (.t 46) (.c (.int .i64 0))),
        o1 48 (.mv (.t 47)),
        o0 ⟨some 49, .mv (.t 11), some (48, false)⟩,
        o0 ⟨some 50, .bin .neq (.t 49) (.c (.int .i64 0)), some (48, false)⟩,
        o1 51 (.pick (.t 48) (.c (.bool true)) (.t 50)),
        o1 52 (.mv (.t 51)),
        o0 ⟨some 53, .mv (.t 13), some (52, false)⟩,
        o0 ⟨some 54, .bin .neq (.t 53) (.c (.int .i64 0)), some (52, false)⟩,
        o1 55 (.pick (.t 52) (.c (.bool true)) (.t 54)),
        o1 56 (.mv (.t 55)),
        o0 ⟨some 57, .mv (.t 7), some (56, false)⟩,
        o0 ⟨some 58, .mv (.t 10), some (56, false)⟩,
        o0 ⟨some 59, .eqB true (.t 57) (.t 58), some (56, false)⟩,
        o1 60 (.pick (.t 56) (.c (.bool true)) (.t 59)),
        o1 61 (.mv (.t 60)),
        o0 ⟨some 62, .mv (.t 12), some (61, false)⟩,
        o0 ⟨some 63, .lenK (.t 62), some (61, false)⟩,
        o0 ⟨some 64, .bin .gtr (.t 63) (.c (.int .i64 0)), some (61, false)⟩,
        o0 ⟨some 65, .mv (.t 10), some (61, false)⟩,
        o0 ⟨some 66, .eqB true (.t 64) (.t 65), some (61, false)⟩,
        o1 67 (.pick (.t 61) (.c (.bool true)) (.t 66))])
    (.cond (.t 67)
      (.seq
        (.region [o1 4 (.asg (.c (.bool false)))])
      .ret)
      .skip))
  (.seq
    (.region [o1 14 (.asg (.c (.int .i64 0)))])
  (.seq
    (.seq
      (.region [o1 15 (.asg (.c (.int .i64 0)))])
    (.frame [4, 14, 15, 16, 17, 18, 68, 69, 70, 71, 72, 73, 74, 75, 76, 77, 78, 79, 80, 81, 82, 83, 84, 85, 86, 87, 88, 89, 90, 91, 92, 93, 94, 95, 96, 97, 98, 99, 100, 101, 102, 103, 104, 105, 106, 107, 108, 109, 110, 111, 112, 113, 114, 115, 116, 117, 118, 119, 120, 121, 122, 123, 124, 125, 126, 127, 128, 129, 130, 131, 132, 133, 134, 135, 136, 137, 138, 139, 140, 141, 142, 143, 144, 145] [1016] false (.join [.sl 4 false .bool .leaf, .sl 14 false (.int .i64) .leaf]
    (.block 0
      (.loop [.sl 4 false .bool .leaf, .sl 14 false (.int .i64) .leaf, .sl 15 false (.int .i64) .leaf]
        (.seq
          (.seq
            (.region [o1 68 (.mv (.t 15)),
              o1 69 (.mv (.t 12)),
              o1 70 (.lenK (.t 69)),
              o1 71 (.bin .lss (.t 68) (.t 70))])
          (.cond (.t 71)
            .skip
            (.exit 0)))
        (.seq
          (.frame [4, 14, 16, 17, 18, 74, 75, 76, 77, 78, 79, 80, 81, 82, 83, 84, 85, 86, 87, 88, 89, 90, 91, 92, 93, 94, 95, 96, 97, 98, 99, 100, 101, 102, 103, 104, 105, 106, 107, 108, 109, 110, 111, 112, 113, 114, 115, 116, 117, 118, 119, 120, 121, 122, 123, 124, 125, 126, 127, 128, 129, 130, 131, 132, 133, 134, 135, 136, 137, 138, 139, 140, 141, 142, 143, 144, 145] [1016] false (.join [.sl 4 false .bool .leaf, .sl 14 false (.int .i64) .leaf]
          (.block 1
            (.seq
              (.region [o1 75 (.load true 2 (.t 5)),
                o1 76 (.mv (.t 6)),
                o1 77 (.mv (.t 14)),
                oS ⟨some 78, .call "mergelens/search.Find" [(.t 75), (.t 76), (.t 77)], none⟩ S_search_Find,
                o1 74 (.mv (.t 78)),
                o1 79 (.ext (.t 74) 0),
                o1 80 (.ext (.t 74) 1),
                o1 81 (.ext (.t 74) 2),
                o1 16 (.alloc [(.int .i64 0), (.int .i64 0)]),
                o0 ⟨none, .store 2 (.t 16) (.t 79), none⟩,
                o1 17 (.asg (.t 80)),
                o1 18 (.asg (.t 81))])
            (.seq
              (.seq
                (.draw [(.first (o1 82 (.mv (.t 18)))
                (.first (o1 83 (.bin .neq (.t 82) (.c (.int .i64 0))))
                (.first (o1 84 (.mv (.t 83)))
                (.first (o0 ⟨some 85, .mv (.t 17), some (84, false)⟩)
                (.first (o0 ⟨some 86, .un .not (.t 85), some (84, false)⟩)
                (.first (o1 87 (.pick (.t 84) (.c (.bool true)) (.t 86)))
                (.first (o1 88 (.mv (.t 87)))
                (.first (o0 ⟨some 89, .load true 2 (.t 16), some (88, false)⟩)
                (.first (o0 ⟨some 90, .mv (.t 12), some (88, false)⟩)
                (.first (o0 ⟨some 91, .mv (.t 15), some (88, false)⟩)
                (.first (o0 ⟨some 92, .ixA 2 (.t 90) (.t 91), some (88, false)⟩)
                (.first (o0 ⟨some 93, .load true 2 (.t 92), some (88, false)⟩)
                (.first (o0 ⟨some 94, .eqA true [.int, .int] (.t 89) (.t 93), some (88, false)⟩)
                (.first (o1 95 (.pick (.t 88) (.c (.bool true)) (.t 94)))
                (.first (o1 96 (.mv (.t 95)))
                (.first (o0 ⟨some 97, .mv (.t 12), some (96, false)⟩)
                (.first (o0 ⟨some 98, .mv (.t 15), some (96, false)⟩)
                (.first (o0 ⟨some 99, .ixA 2 (.t 97) (.t 98), some (96, false)⟩)
                (.first (o0 ⟨some 100, .fAddr 0 (.t 99), some (96, false)⟩)
                (.first (o0 ⟨some 101, .load false 1 (.t 100), some (96, false)⟩)
                (.first (o0 ⟨some 102, .mv (.t 14), some (96, false)⟩)
                (.first (o0 ⟨some 103, .bin .lss (.t 101) (.t 102), some (96, false)⟩)
                (.first (o1 104 (.pick (.t 96) (.c (.bool true)) (.t 103)))
                (.first (o1 105 (.mv (.t 104)))
                (.first (o0 ⟨some 106, .mv (.t 12), some (105, false)⟩)
                (.first (o0 ⟨some 107, .mv (.t 15), some (105, false)⟩)
                (.first (o0 ⟨some 108, .ixA 2 (.t 106) (.t 107), some (105, false)⟩)
                (.first (o0 ⟨some 109, .fAddr 1 (.t 108), some (105, false)⟩)
                (.first (o0 ⟨some 110, .load false 1 (.t 109), some (105, false)⟩)
                (.first (o0 ⟨some 111, .mv (.t 12), some (105, false)⟩)
                (.first (o0 ⟨some 112, .mv (.t 15), some (105, false)⟩)
                (.first (o0 ⟨some 113, .ixA 2 (.t 111) (.t 112), some (105, false)⟩)
                (.first (o0 ⟨some 114, .fAddr 0 (.t 113), some (105, false)⟩)
                (.first (o0 ⟨some 115, .load false 1 (.t 114), some (105, false)⟩)
                (.first (o0 ⟨some 116, .bin .lss (.t 110) (.t 115), some (105, false)⟩)
                (.first (o1 117 (.pick (.t 105) (.c (.bool true)) (.t 116)))
                (.first (o1 118 (.mv (.t 117)))
                (.first (o0 ⟨some 119, .mv (.t 12), some (118, false)⟩)
                (.first (o0 ⟨some 120, .mv (.t 15), some (118, false)⟩)
                (.first (o0 ⟨some 121, .ixA 2 (.t 119) (.t 120), some (118, false)⟩)
                (.first (o0 ⟨some 122, .fAddr 1 (.t 121), some (118, false)⟩)
                (.first (o0 ⟨some 123, .load false 1 (.t 122), some (118, false)⟩)
                (.first (o0 ⟨some 124, .mv (.t 6), some (118, false)⟩)
                (.first (o0 ⟨some 125, .lenS (.t 124), some (118, false)⟩)
                (.first (o0 ⟨some 126, .bin .gtr (.t 123) (.t 125), some (118, false)⟩)
                (.first (o1 127 (.pick (.t 118) (.c (.bool true)) (.t 126)))
                .done))))))))))))))))))))))))))))))))))))))))))))))])
              (.cond (.t 127)
                (.seq
                  (.region [o1 4 (.asg (.c (.bool false)))])
                .ret)
                .skip))
            (.seq
              (.region [o1 128 (.mv (.t 12)),
                o1 129 (.mv (.t 15)),
                o1 130 (.ixA 2 (.t 128) (.t 129)),
                o1 131 (.fAddr 1 (.t 130)),
                o1 132 (.load false 1 (.t 131)),
                o1 14 (.asg (.t 132))])
            (.seq
              (.draw [(.first (o1 133 (.mv (.t 12)))
              (.first (o1 134 (.mv (.t 15)))
              (.first (o1 135 (.ixA 2 (.t 133) (.t 134)))
              (.first (o1 136 (.fAddr 1 (.t 135)))
              (.first (o1 137 (.load false 1 (.t 136)))
              (.first (o1 138 (.mv (.t 12)))
              (.first (o1 139 (.mv (.t 15)))
              (.first (o1 140 (.ixA 2 (.t 138) (.t 139)))
              (.first (o1 141 (.fAddr 0 (.t 140)))
              (.first (o1 142 (.load false 1 (.t 141)))
              (.first (o1 143 (.bin .eql (.t 137) (.t 142)))
              .done)))))))))))])
            (.frame [14, 144, 145] [] false (.join [.sl 14 false (.int .i64) .leaf]
            (.cond (.t 143)
              (.region [o1 144 (.mv (.t 14)),
                o1 145 (.bin .add (.t 144) (.c (.int .i64 1))),
                o1 14 (.asg (.t 145))])
              .skip))))))))))
        (.region [o1 72 (.mv (.t 15)),
          o1 73 (.bin .add (.t 72) (.c (.int .i64 1))),
          o1 15 (.asg (.t 73))]))))))))
  (.seq
    (.seq
      (.region [o1 146 (.mv (.t 14)),
        o1 147 (.mv (.t 6)),
        o1 148 (.lenS (.t 147)),
        o1 149 (.bin .gtr (.t 146) (.t 148))])
    (.cond (.t 149)
      (.seq
        (.region [oS ⟨some 150, .call "mergelens/mergelenslaw06.awake" [], none⟩ S_law06_awake,
          o1 4 (.asg (.t 150))])
      .ret)
      .skip))
  (.seq
    (.region [o1 152 (.load true 2 (.t 5)),
      o1 153 (.mv (.t 6)),
      o1 154 (.mv (.t 14)),
      oS ⟨some 155, .call "mergelens/search.Find" [(.t 152), (.t 153), (.t 154)], none⟩ S_search_Find,
      o1 151 (.mv (.t 155)),
      o1 156 (.ext (.t 151) 0),
      o1 157 (.ext (.t 151) 1),
      o1 158 (.ext (.t 151) 2),
      o1 19 (.alloc [(.int .i64 0), (.int .i64 0)]),
      o0 ⟨none, .store 2 (.t 19) (.t 156), none⟩,
      o1 20 (.asg (.t 157)),
      o1 21 (.asg (.t 158))])
  (.seq
    (.region [o1 159 (.mv (.t 21)),
      o1 160 (.bin .eql (.t 159) (.c (.int .i64 0))),
      o1 161 (.mv (.t 160)),
      o0 ⟨some 162, .mv (.t 20), some (161, true)⟩,
      o0 ⟨some 163, .un .not (.t 162), some (161, true)⟩,
      o1 164 (.pick (.t 161) (.t 163) (.c (.bool false))),
      o1 165 (.mv (.t 164)),
      oS ⟨some 166, .call "mergelens/mergelenslaw06.awake" [], some (165, true)⟩ S_law06_awake,
      o1 167 (.pick (.t 165) (.t 166) (.c (.bool false))),
      o1 4 (.asg (.t 167))])
  .ret)))))))))))
def F_law06_SearchDisjoint : AFn := ⟨ "mergelens/mergelenslaw06.SearchDisjoint", t_law06_SearchDisjoint.erase, [.tmp 4], 2⟩
def W_law06_SearchDisjoint (P : Program) (x : ((List Int) × Int)) (K : Bool → Unit → Prop) : Prop :=
  Fn P "mergelens/mergelenslaw06.made" S_law06_made (x.1, x.2) (fun (d1 : ((List State) × Int)) (e2 : Unit) => Fn P "mergelens/mergelenslaw06.word" S_law06_word (x.1, (50 : Int)) (fun (d3 : (List UInt8)) (e4 : Unit) => Fn P "mergelens/search.Any" S_search_Any ((d1.1, d1.2), d3) (fun (d5 : (Bool × Int)) (e6 : Unit) => Fn P "mergelens/search.Find" S_search_Find ((d1.1, d1.2), (d3, (0 : Int))) (fun (d7 : ((Int × Int) × (Bool × Int))) (e8 : Unit) => Fn P "mergelens/search.All" S_search_All ((d1.1, d1.2), d3) (fun (d9 : ((List (Int × Int)) × Int)) (e10 : Unit) => (((cond (cond (cond (cond (d5.2 != (0 : Int)) true (d7.2.2 != (0 : Int))) true (d9.2 != (0 : Int))) true (!(d5.1 == d7.2.1))) true (!((decide (((List.length d9.1 : Nat) : Int) > (0 : Int))) == d7.2.1))) = true → K false ()) ∧ ((cond (cond (cond (cond (d5.2 != (0 : Int)) true (d7.2.2 != (0 : Int))) true (d9.2 != (0 : Int))) true (!(d5.1 == d7.2.1))) true (!((decide (((List.length d9.1 : Nat) : Int) > (0 : Int))) == d7.2.1))) = false → JoinW (D := (Bool × Int)) (fun J11 => LoopW (D := (Bool × (Int × Int))) (false, ((0 : Int), (0 : Int))) (fun (d13 : (Bool × (Int × Int))) J14 => (((decide (d13.2.2 < ((List.length d9.1 : Nat) : Int))) = true → JoinW (D := (Bool × Int)) (fun J15 => Fn P "mergelens/search.Find" S_search_Find ((d1.1, d1.2), (d3, d13.2.1)) (fun (d17 : ((Int × Int) × (Bool × Int))) (e18 : Unit) => (((cond (d17.2.2 != (0 : Int)) true (!d17.2.1)) = false → 0 ≤ d13.2.2 ∧ d13.2.2 < ((List.length d9.1 : Nat) : Int))) ∧
  (((cond (d17.2.2 != (0 : Int)) true (!d17.2.1)) = false → (Int.toNat d13.2.2) < List.length d9.1)) ∧
  (((cond (cond (d17.2.2 != (0 : Int)) true (!d17.2.1)) true (!((d17.1.1 == (List.getD d9.1 (Int.toNat d13.2.2) ((0 : Int), (0 : Int))).1) && ((d17.1.2 == (List.getD d9.1 (Int.toNat d13.2.2) ((0 : Int), (0 : Int))).2) && true)))) = false → 0 ≤ d13.2.2 ∧ d13.2.2 < ((List.length d9.1 : Nat) : Int))) ∧
  (((cond (cond (d17.2.2 != (0 : Int)) true (!d17.2.1)) true (!((d17.1.1 == (List.getD d9.1 (Int.toNat d13.2.2) ((0 : Int), (0 : Int))).1) && ((d17.1.2 == (List.getD d9.1 (Int.toNat d13.2.2) ((0 : Int), (0 : Int))).2) && true)))) = false → (Int.toNat d13.2.2) < List.length d9.1)) ∧
  (((cond (cond (cond (d17.2.2 != (0 : Int)) true (!d17.2.1)) true (!((d17.1.1 == (List.getD d9.1 (Int.toNat d13.2.2) ((0 : Int), (0 : Int))).1) && ((d17.1.2 == (List.getD d9.1 (Int.toNat d13.2.2) ((0 : Int), (0 : Int))).2) && true)))) true (decide ((List.getD d9.1 (Int.toNat d13.2.2) ((0 : Int), (0 : Int))).1 < d13.2.1))) = false → 0 ≤ d13.2.2 ∧ d13.2.2 < ((List.length d9.1 : Nat) : Int))) ∧
  (((cond (cond (cond (d17.2.2 != (0 : Int)) true (!d17.2.1)) true (!((d17.1.1 == (List.getD d9.1 (Int.toNat d13.2.2) ((0 : Int), (0 : Int))).1) && ((d17.1.2 == (List.getD d9.1 (Int.toNat d13.2.2) ((0 : Int), (0 : Int))).2) && true)))) true (decide ((List.getD d9.1 (Int.toNat d13.2.2) ((0 : Int), (0 : Int))).1 < d13.2.1))) = false → (Int.toNat d13.2.2) < List.length d9.1)) ∧
  (((cond (cond (cond (d17.2.2 != (0 : Int)) true (!d17.2.1)) true (!((d17.1.1 == (List.getD d9.1 (Int.toNat d13.2.2) ((0 : Int), (0 : Int))).1) && ((d17.1.2 == (List.getD d9.1 (Int.toNat d13.2.2) ((0 : Int), (0 : Int))).2) && true)))) true (decide ((List.getD d9.1 (Int.toNat d13.2.2) ((0 : Int), (0 : Int))).1 < d13.2.1))) = false → 0 ≤ d13.2.2 ∧ d13.2.2 < ((List.length d9.1 : Nat) : Int))) ∧
  (((cond (cond (cond (d17.2.2 != (0 : Int)) true (!d17.2.1)) true (!((d17.1.1 == (List.getD d9.1 (Int.toNat d13.2.2) ((0 : Int), (0 : Int))).1) && ((d17.1.2 == (List.getD d9.1 (Int.toNat d13.2.2) ((0 : Int), (0 : Int))).2) && true)))) true (decide ((List.getD d9.1 (Int.toNat d13.2.2) ((0 : Int), (0 : Int))).1 < d13.2.1))) = false → (Int.toNat d13.2.2) < List.length d9.1)) ∧
  (((cond (cond (cond (cond (d17.2.2 != (0 : Int)) true (!d17.2.1)) true (!((d17.1.1 == (List.getD d9.1 (Int.toNat d13.2.2) ((0 : Int), (0 : Int))).1) && ((d17.1.2 == (List.getD d9.1 (Int.toNat d13.2.2) ((0 : Int), (0 : Int))).2) && true)))) true (decide ((List.getD d9.1 (Int.toNat d13.2.2) ((0 : Int), (0 : Int))).1 < d13.2.1))) true (decide ((List.getD d9.1 (Int.toNat d13.2.2) ((0 : Int), (0 : Int))).2 < (List.getD d9.1 (Int.toNat d13.2.2) ((0 : Int), (0 : Int))).1))) = false → 0 ≤ d13.2.2 ∧ d13.2.2 < ((List.length d9.1 : Nat) : Int))) ∧
  (((cond (cond (cond (cond (d17.2.2 != (0 : Int)) true (!d17.2.1)) true (!((d17.1.1 == (List.getD d9.1 (Int.toNat d13.2.2) ((0 : Int), (0 : Int))).1) && ((d17.1.2 == (List.getD d9.1 (Int.toNat d13.2.2) ((0 : Int), (0 : Int))).2) && true)))) true (decide ((List.getD d9.1 (Int.toNat d13.2.2) ((0 : Int), (0 : Int))).1 < d13.2.1))) true (decide ((List.getD d9.1 (Int.toNat d13.2.2) ((0 : Int), (0 : Int))).2 < (List.getD d9.1 (Int.toNat d13.2.2) ((0 : Int), (0 : Int))).1))) = false → (Int.toNat d13.2.2) < List.length d9.1)) ∧
  (((cond (cond (cond (cond (cond (d17.2.2 != (0 : Int)) true (!d17.2.1)) true (!((d17.1.1 == (List.getD d9.1 (Int.toNat d13.2.2) ((0 : Int), (0 : Int))).1) && ((d17.1.2 == (List.getD d9.1 (Int.toNat d13.2.2) ((0 : Int), (0 : Int))).2) && true)))) true (decide ((List.getD d9.1 (Int.toNat d13.2.2) ((0 : Int), (0 : Int))).1 < d13.2.1))) true (decide ((List.getD d9.1 (Int.toNat d13.2.2) ((0 : Int), (0 : Int))).2 < (List.getD d9.1 (Int.toNat d13.2.2) ((0 : Int), (0 : Int))).1))) true (decide ((List.getD d9.1 (Int.toNat d13.2.2) ((0 : Int), (0 : Int))).2 > ((List.length d3 : Nat) : Int)))) = true → K false ()) ∧ ((cond (cond (cond (cond (cond (d17.2.2 != (0 : Int)) true (!d17.2.1)) true (!((d17.1.1 == (List.getD d9.1 (Int.toNat d13.2.2) ((0 : Int), (0 : Int))).1) && ((d17.1.2 == (List.getD d9.1 (Int.toNat d13.2.2) ((0 : Int), (0 : Int))).2) && true)))) true (decide ((List.getD d9.1 (Int.toNat d13.2.2) ((0 : Int), (0 : Int))).1 < d13.2.1))) true (decide ((List.getD d9.1 (Int.toNat d13.2.2) ((0 : Int), (0 : Int))).2 < (List.getD d9.1 (Int.toNat d13.2.2) ((0 : Int), (0 : Int))).1))) true (decide ((List.getD d9.1 (Int.toNat d13.2.2) ((0 : Int), (0 : Int))).2 > ((List.length d3 : Nat) : Int)))) = false → (0 ≤ d13.2.2 ∧ d13.2.2 < ((List.length d9.1 : Nat) : Int)) ∧
  ((Int.toNat d13.2.2) < List.length d9.1) ∧
  (0 ≤ d13.2.2 ∧ d13.2.2 < ((List.length d9.1 : Nat) : Int)) ∧
  ((Int.toNat d13.2.2) < List.length d9.1) ∧
  (0 ≤ d13.2.2 ∧ d13.2.2 < ((List.length d9.1 : Nat) : Int)) ∧
  ((Int.toNat d13.2.2) < List.length d9.1) ∧
  JoinW (D := Int) (fun J19 => ((((List.getD d9.1 (Int.toNat d13.2.2) ((0 : Int), (0 : Int))).2 == (List.getD d9.1 (Int.toNat d13.2.2) ((0 : Int), (0 : Int))).1) = true → J19 (IntKind.i64.wrap ((List.getD d9.1 (Int.toNat d13.2.2) ((0 : Int), (0 : Int))).2 + (1 : Int)))) ∧ (((List.getD d9.1 (Int.toNat d13.2.2) ((0 : Int), (0 : Int))).2 == (List.getD d9.1 (Int.toNat d13.2.2) ((0 : Int), (0 : Int))).1) = false → J19 (List.getD d9.1 (Int.toNat d13.2.2) ((0 : Int), (0 : Int))).2))) (fun (d20 : Int) => J15 (d13.1, d20)))))) (fun (d16 : (Bool × Int)) => J14 (d16.1, (d16.2, (IntKind.i64.wrap (d13.2.2 + (1 : Int))))))) ∧ ((decide (d13.2.2 < ((List.length d9.1 : Nat) : Int))) = false → J11 (d13.1, d13.2.1))))) (fun (d12 : (Bool × Int)) => (((decide (d12.2 > ((List.length d3 : Nat) : Int))) = true → Fn P "mergelens/mergelenslaw06.awake" S_law06_awake () (fun (d21 : Bool) (e22 : Unit) => K d21 ())) ∧ ((decide (d12.2 > ((List.length d3 : Nat) : Int))) = false → Fn P "mergelens/search.Find" S_search_Find ((d1.1, d1.2), (d3, d12.2)) (fun (d23 : ((Int × Int) × (Bool × Int))) (e24 : Unit) => JoinW (D := Bool) (fun J25 => (((cond (d23.2.2 == (0 : Int)) (!d23.2.1) false) = true → Fn P "mergelens/mergelenslaw06.awake" S_law06_awake () (fun (d26 : Bool) _ => J25 d26)) ∧ (((cond (d23.2.2 == (0 : Int)) (!d23.2.1) false) = false → J25 false) ∧ True))) (fun d27 => K (cond (cond (d23.2.2 == (0 : Int)) (!d23.2.1) false) d27 false) ()))))))))))))
theorem fn_law06_SearchDisjoint {P : Program} (h : Has P F_law06_SearchDisjoint) {x : DP S_law06_SearchDisjoint.ps} {K : DP S_law06_SearchDisjoint.rs → DP (ptrs S_law06_SearchDisjoint.ps) → Prop} (hw : W_law06_SearchDisjoint P x K) : Fn P "mergelens/mergelenslaw06.SearchDisjoint" S_law06_SearchDisjoint x K :=
  fn_of (c := t_law06_SearchDisjoint) h rfl rfl (by kernel_rfl) (Eq.mpr (show liftT P F_law06_SearchDisjoint S_law06_SearchDisjoint t_law06_SearchDisjoint x K = W_law06_SearchDisjoint P x K by kernel_rfl) hw)


end Go.VS
