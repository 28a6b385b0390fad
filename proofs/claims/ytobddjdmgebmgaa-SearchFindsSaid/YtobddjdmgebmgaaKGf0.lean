/- Functions of the program: typed code, and what it says, lifted. -/
import Derived.Test.YtobddjdmgebmgaaKTxSig
import Derived.KernelRfl
set_option linter.unusedVariables false
set_option linter.unusedSimpArgs false
set_option linter.unusedSectionVars false
namespace Go.VS

def t_gen_Mod : TCode :=
  (.seq
    (.region [o1 4 (.asg (.c (.int .i64 0)))])
  (.seq
    (.region [o1 5 (.mv (.t 0)),
      o1 6 (.conv (.toInt .u64) (.t 5)),
      o1 7 (.mv (.t 1)),
      o1 8 (.conv (.toInt .u64) (.t 7)),
      o1 9 (.bin .rem (.t 6) (.t 8)),
      o1 10 (.conv (.toInt .i64) (.t 9)),
      o1 4 (.asg (.t 10))])
  .ret))
def F_gen_Mod : AFn := ⟨ "mergelens/mergelensgen.Mod", t_gen_Mod.erase, [.tmp 4], 2⟩
def W_gen_Mod (P : Program) (x : (Int × Int)) (K : Int → Unit → Prop) : Prop :=
  ((IntKind.u64.wrap x.2) ≠ 0) ∧
  K (IntKind.i64.wrap (Int.tmod (IntKind.u64.wrap x.1) (IntKind.u64.wrap x.2))) ()
theorem fn_gen_Mod {P : Program} (h : Has P F_gen_Mod) {x : DP S_gen_Mod.ps} {K : DP S_gen_Mod.rs → DP (ptrs S_gen_Mod.ps) → Prop} (hw : W_gen_Mod P x K) : Fn P "mergelens/mergelensgen.Mod" S_gen_Mod x K :=
  fn_of (c := t_gen_Mod) h rfl rfl (by kernel_rfl) (Eq.mpr (show liftT P F_gen_Mod S_gen_Mod t_gen_Mod x K = W_gen_Mod P x K by kernel_rfl) hw)

def t_gen_At : TCode :=
  (.seq
    (.region [o1 4 (.asg (.c (.int .i64 0)))])
  (.seq
    (.region [o1 6 (.mv (.t 1)),
      o1 7 (.bin .add (.t 6) (.c (.int .i64 1))),
      o1 8 (.conv (.toInt .u64) (.t 7)),
      o1 9 (.bin .mul (.t 8) (.c (.int .u64 11400714819323198485))),
      o1 5 (.asg (.t 9))])
  (.seq
    (.seq
      (.region [o1 10 (.mv (.t 0)),
        o1 11 (.lenK (.t 10)),
        o1 12 (.bin .gtr (.t 11) (.c (.int .i64 0)))])
    (.frame [5, 13, 14, 15, 16, 17, 18, 19, 20, 21, 22] [] false (.join [.sl 5 false (.int .u64) .leaf]
    (.cond (.t 12)
      (.region [o1 13 (.mv (.t 5)),
        o1 14 (.mv (.t 0)),
        o1 15 (.mv (.t 1)),
        o1 16 (.mv (.t 0)),
        o1 17 (.lenK (.t 16)),
        o1 18 (.bin .rem (.t 15) (.t 17)),
        o1 19 (.ixA 1 (.t 14) (.t 18)),
        o1 20 (.load false 1 (.t 19)),
        o1 21 (.conv (.toInt .u64) (.t 20)),
        o1 22 (.bin .xor (.t 13) (.t 21)),
        o1 5 (.asg (.t 22))])
      .skip))))
  (.seq
    (.region [o1 23 (.mv (.t 5)),
      o1 24 (.mv (.t 5)),
      o1 25 (.bin .shr (.t 24) (.c (.int .u64 31))),
      o1 26 (.bin .xor (.t 23) (.t 25)),
      o1 27 (.bin .mul (.t 26) (.c (.int .u64 13787848793156543929))),
      o1 5 (.asg (.t 27))])
  (.seq
    (.region [o1 28 (.mv (.t 5)),
      o1 29 (.mv (.t 5)),
      o1 30 (.bin .shr (.t 29) (.c (.int .u64 29))),
      o1 31 (.bin .xor (.t 28) (.t 30)),
      o1 32 (.bin .shr (.t 31) (.c (.int .u64 1))),
      o1 33 (.conv (.toInt .i64) (.t 32)),
      o1 4 (.asg (.t 33))])
  .ret)))))
def F_gen_At : AFn := ⟨ "mergelens/mergelensgen.At", t_gen_At.erase, [.tmp 4], 2⟩
def W_gen_At (P : Program) (x : ((List Int) × Int)) (K : Int → Unit → Prop) : Prop :=
  JoinW (D := Int) (fun J1 => (((decide (((List.length x.1 : Nat) : Int) > (0 : Int))) = true → (((List.length x.1 : Nat) : Int) ≠ 0) ∧
  (0 ≤ (Int.tmod x.2 ((List.length x.1 : Nat) : Int)) ∧ (Int.tmod x.2 ((List.length x.1 : Nat) : Int)) < ((List.length x.1 : Nat) : Int)) ∧
  ((Int.toNat (Int.tmod x.2 ((List.length x.1 : Nat) : Int))) < List.length x.1) ∧
  J1 (IntKind.u64.wrap ((BitVec.toNat (BitVec.ofInt IntKind.u64.bits (IntKind.u64.wrap ((IntKind.u64.wrap (IntKind.i64.wrap (x.2 + (1 : Int)))) * (11400714819323198485 : Int))) ^^^ BitVec.ofInt IntKind.u64.bits (IntKind.u64.wrap (List.getD x.1 (Int.toNat (Int.tmod x.2 ((List.length x.1 : Nat) : Int))) (0 : Int)))) : Nat) : Int))) ∧ ((decide (((List.length x.1 : Nat) : Int) > (0 : Int))) = false → J1 (IntKind.u64.wrap ((IntKind.u64.wrap (IntKind.i64.wrap (x.2 + (1 : Int)))) * (11400714819323198485 : Int)))))) (fun (d2 : Int) => (0 ≤ (31 : Int)) ∧
  (0 ≤ (29 : Int)) ∧
  (0 ≤ (1 : Int)) ∧
  K (IntKind.i64.wrap (Int.fdiv (IntKind.u64.wrap ((BitVec.toNat (BitVec.ofInt IntKind.u64.bits (IntKind.u64.wrap ((IntKind.u64.wrap ((BitVec.toNat (BitVec.ofInt IntKind.u64.bits d2 ^^^ BitVec.ofInt IntKind.u64.bits (Int.fdiv d2 (2 ^ (min (Int.toNat (31 : Int)) IntKind.u64.bits)))) : Nat) : Int)) * (13787848793156543929 : Int))) ^^^ BitVec.ofInt IntKind.u64.bits (Int.fdiv (IntKind.u64.wrap ((IntKind.u64.wrap ((BitVec.toNat (BitVec.ofInt IntKind.u64.bits d2 ^^^ BitVec.ofInt IntKind.u64.bits (Int.fdiv d2 (2 ^ (min (Int.toNat (31 : Int)) IntKind.u64.bits)))) : Nat) : Int)) * (13787848793156543929 : Int))) (2 ^ (min (Int.toNat (29 : Int)) IntKind.u64.bits)))) : Nat) : Int)) (2 ^ (min (Int.toNat (1 : Int)) IntKind.u64.bits)))) ())
theorem fn_gen_At {P : Program} (h : Has P F_gen_At) {x : DP S_gen_At.ps} {K : DP S_gen_At.rs → DP (ptrs S_gen_At.ps) → Prop} (hw : W_gen_At P x K) : Fn P "mergelens/mergelensgen.At" S_gen_At x K :=
  fn_of (c := t_gen_At) h rfl rfl (by kernel_rfl) (Eq.mpr (show liftT P F_gen_At S_gen_At t_gen_At x K = W_gen_At P x K by kernel_rfl) hw)

def t_ref04_Put : TCode :=
  (.seq
    (.region [o1 2 (.box (.t 0)),
      o1 4 (.alloc [(.int .u64 0), (.int .u64 0), (.int .u64 0), (.int .u64 0)])])
  (.seq
    (.region [o1 5 (.mv (.t 1)),
      o1 6 (.bin .quo (.t 5) (.c (.int .u8 64))),
      o1 7 (.mv (.t 1)),
      o1 8 (.bin .quo (.t 7) (.c (.int .u8 64))),
      o1 9 (.ixAr 4 1 (.t 2) (.t 8)),
      o1 10 (.load false 1 (.t 9)),
      o1 11 (.mv (.t 1)),
      o1 12 (.bin .rem (.t 11) (.c (.int .u8 64))),
      o1 13 (.bin .shl (.c (.int .u64 1)) (.t 12)),
      o1 14 (.bin .or (.t 10) (.t 13)),
      o1 15 (.ixAr 4 1 (.t 2) (.t 6)),
      o0 ⟨none, .store 1 (.t 15) (.t 14), none⟩])
  (.seq
    (.region [o1 16 (.load true 4 (.t 2)),
      o0 ⟨none, .store 4 (.t 4) (.t 16), none⟩])
  .ret)))
def F_ref04_Put : AFn := ⟨ "mergelens/mergelensref04.Put", t_ref04_Put.erase, [.cell 4 true 4], 2⟩
def W_ref04_Put (P : Program) (x : ((Int × (Int × (Int × Int))) × Int)) (K : (Int × (Int × (Int × Int))) → Unit → Prop) : Prop :=
  ((64 : Int) ≠ 0) ∧
  ((64 : Int) ≠ 0) ∧
  (0 ≤ (IntKind.u8.wrap (Int.tdiv x.2 (64 : Int))) ∧ (IntKind.u8.wrap (Int.tdiv x.2 (64 : Int))) < ((4 : Nat) : Int)) ∧
  ((Int.toNat (IntKind.u8.wrap (Int.tdiv x.2 (64 : Int)))) < 4) ∧
  ((64 : Int) ≠ 0) ∧
  (0 ≤ (Int.tmod x.2 (64 : Int))) ∧
  (0 ≤ (IntKind.u8.wrap (Int.tdiv x.2 (64 : Int))) ∧ (IntKind.u8.wrap (Int.tdiv x.2 (64 : Int))) < ((4 : Nat) : Int)) ∧
  ((Int.toNat (IntKind.u8.wrap (Int.tdiv x.2 (64 : Int)))) < 4) ∧
  K ((if (Int.toNat (IntKind.u8.wrap (Int.tdiv x.2 (64 : Int)))) = 0 then (IntKind.u64.wrap ((BitVec.toNat (BitVec.ofInt IntKind.u64.bits (List.getD [x.1.1, x.1.2.1, x.1.2.2.1, x.1.2.2.2] (Int.toNat (IntKind.u8.wrap (Int.tdiv x.2 (64 : Int)))) (0 : Int)) ||| BitVec.ofInt IntKind.u64.bits (IntKind.u64.wrap ((1 : Int) * 2 ^ (min (Int.toNat (Int.tmod x.2 (64 : Int))) IntKind.u64.bits)))) : Nat) : Int)) else x.1.1), ((if (Int.toNat (IntKind.u8.wrap (Int.tdiv x.2 (64 : Int)))) = 1 then (IntKind.u64.wrap ((BitVec.toNat (BitVec.ofInt IntKind.u64.bits (List.getD [x.1.1, x.1.2.1, x.1.2.2.1, x.1.2.2.2] (Int.toNat (IntKind.u8.wrap (Int.tdiv x.2 (64 : Int)))) (0 : Int)) ||| BitVec.ofInt IntKind.u64.bits (IntKind.u64.wrap ((1 : Int) * 2 ^ (min (Int.toNat (Int.tmod x.2 (64 : Int))) IntKind.u64.bits)))) : Nat) : Int)) else x.1.2.1), ((if (Int.toNat (IntKind.u8.wrap (Int.tdiv x.2 (64 : Int)))) = 2 then (IntKind.u64.wrap ((BitVec.toNat (BitVec.ofInt IntKind.u64.bits (List.getD [x.1.1, x.1.2.1, x.1.2.2.1, x.1.2.2.2] (Int.toNat (IntKind.u8.wrap (Int.tdiv x.2 (64 : Int)))) (0 : Int)) ||| BitVec.ofInt IntKind.u64.bits (IntKind.u64.wrap ((1 : Int) * 2 ^ (min (Int.toNat (Int.tmod x.2 (64 : Int))) IntKind.u64.bits)))) : Nat) : Int)) else x.1.2.2.1), (if (Int.toNat (IntKind.u8.wrap (Int.tdiv x.2 (64 : Int)))) = 3 then (IntKind.u64.wrap ((BitVec.toNat (BitVec.ofInt IntKind.u64.bits (List.getD [x.1.1, x.1.2.1, x.1.2.2.1, x.1.2.2.2] (Int.toNat (IntKind.u8.wrap (Int.tdiv x.2 (64 : Int)))) (0 : Int)) ||| BitVec.ofInt IntKind.u64.bits (IntKind.u64.wrap ((1 : Int) * 2 ^ (min (Int.toNat (Int.tmod x.2 (64 : Int))) IntKind.u64.bits)))) : Nat) : Int)) else x.1.2.2.2)))) ()
theorem fn_ref04_Put {P : Program} (h : Has P F_ref04_Put) {x : DP S_ref04_Put.ps} {K : DP S_ref04_Put.rs → DP (ptrs S_ref04_Put.ps) → Prop} (hw : W_ref04_Put P x K) : Fn P "mergelens/mergelensref04.Put" S_ref04_Put x K :=
  fn_of (c := t_ref04_Put) h rfl rfl (by kernel_rfl) (Eq.mpr (show liftT P F_ref04_Put S_ref04_Put t_ref04_Put x K = W_ref04_Put P x K by kernel_rfl) hw)

def t_law06_made : TCode :=
  (.seq
    (.region [o1 4 (.alloc [(.slice none 0 0), (.int .i64 0)])])
  (.seq
    (.region [o1 8 (.mv (.t 1)),
      oS ⟨some 9, .call "mergelens/mergelensgen.Mod" [(.t 8), (.c (.int .i64 6))], none⟩ S_gen_Mod,
      o1 10 (.bin .add (.c (.int .i64 1)) (.t 9)),
      o1 1 (.asg (.t 10))])
  (.seq
    (.region [o1 11 (.mv (.t 0)),
      oS ⟨some 12, .call "mergelens/mergelensgen.At" [(.t 11), (.c (.int .i64 0))], none⟩ S_gen_At,
      o1 13 (.mv (.t 1)),
      oS ⟨some 14, .call "mergelens/mergelensgen.Mod" [(.t 12), (.t 13)], none⟩ S_gen_Mod,
      o1 15 (.build [(.slice none 0 0), (.int .i64 0)] [(1, 1, (.t 14))]),
      o1 5 (.alloc [(.slice none 0 0), (.int .i64 0)]),
      o0 ⟨none, .store 2 (.t 5) (.t 15), none⟩])
  (.seq
    (.seq
      (.region [o1 6 (.asg (.c (.int .i64 0)))])
    (.frame [6, 7, 16, 17, 18, 19, 20, 21, 22, 23, 24, 25, 26, 27, 28, 29, 30, 31, 32, 33, 34, 35, 36, 37, 38, 39, 40, 41, 42, 43, 44, 45, 46, 47, 48, 49, 50, 51, 52, 53, 54, 55, 56, 57, 58, 59] [1005, 1007] true (.join [.bx 1005 (.pair (.sl bState) (.int .i64)) (.pair (.node .own .leaf) .leaf)]
    (.block 0
      (.loop [.sl 6 false (.int .i64) .leaf, .bx 1005 (.pair (.sl bState) (.int .i64)) (.pair (.node .own .leaf) .leaf)]
        (.seq
          (.seq
            (.region [o1 16 (.mv (.t 6)),
              o1 17 (.mv (.t 1)),
              o1 18 (.bin .lss (.t 16) (.t 17))])
          (.cond (.t 18)
            .skip
            (.exit 0)))
        (.seq
          (.frame [7, 21, 22, 23, 24, 25, 26, 27, 28, 29, 30, 31, 32, 33, 34, 35, 36, 37, 38, 39, 40, 41, 42, 43, 44, 45, 46, 47, 48, 49, 50, 51, 52, 53, 54, 55, 56, 57, 58, 59] [1005, 1007] true (.join [.bx 1005 (.pair (.sl bState) (.int .i64)) (.pair (.node .own .leaf) .leaf)]
          (.block 1
            (.seq
              (.region [o1 21 (.mv (.t 0)),
                o1 22 (.mv (.t 6)),
                o1 23 (.bin .mul (.c (.int .i64 4)) (.t 22)),
                o1 24 (.bin .add (.c (.int .i64 1)) (.t 23)),
                oS ⟨some 25, .call "mergelens/mergelensgen.At" [(.t 21), (.t 24)], none⟩ S_gen_At,
                oS ⟨some 26, .call "mergelens/mergelensgen.Mod" [(.t 25), (.c (.int .i64 5))], none⟩ S_gen_Mod,
                o1 27 (.mv (.t 0)),
                o1 28 (.mv (.t 6)),
                o1 29 (.bin .mul (.c (.int .i64 4)) (.t 28)),
                o1 30 (.bin .add (.c (.int .i64 2)) (.t 29)),
                oS ⟨some 31, .call "mergelens/mergelensgen.At" [(.t 27), (.t 30)], none⟩ S_gen_At,
                o1 32 (.mv (.t 1)),
                oS ⟨some 33, .call "mergelens/mergelensgen.Mod" [(.t 31), (.t 32)], none⟩ S_gen_Mod,
                o1 34 (.mv (.t 0)),
                o1 35 (.mv (.t 6)),
                o1 36 (.bin .mul (.c (.int .i64 4)) (.t 35)),
                o1 37 (.bin .add (.c (.int .i64 3)) (.t 36)),
                oS ⟨some 38, .call "mergelens/mergelensgen.At" [(.t 34), (.t 37)], none⟩ S_gen_At,
                o1 39 (.mv (.t 1)),
                oS ⟨some 40, .call "mergelens/mergelensgen.Mod" [(.t 38), (.t 39)], none⟩ S_gen_Mod,
                o1 41 (.build [(.int .i64 0), (.int .u64 0), (.int .u64 0), (.int .u64 0), (.int .u64 0), (.int .i64 0), (.int .i64 0)] [(0, 1, (.t 26)), (5, 1, (.t 33)), (6, 1, (.t 40))]),
                o1 7 (.alloc [(.int .i64 0), (.int .u64 0), (.int .u64 0), (.int .u64 0), (.int .u64 0), (.int .i64 0), (.int .i64 0)]),
                o0 ⟨none, .store 7 (.t 7) (.t 41), none⟩])
            (.seq
              (.frame [42, 43, 44, 45, 46, 47, 48, 49, 50, 51, 52, 53] [1007] false (.join [.bx 1007 bState .leaf]
              (.draw [(.first (o1 42 (.fAddr 1 (.t 7)))
              (.first (o1 44 (.mv (.t 0)))
              (.first (o1 45 (.mv (.t 6)))
              (.first (o1 46 (.bin .mul (.c (.int .i64 4)) (.t 45)))
              (.first (o1 47 (.bin .add (.c (.int .i64 4)) (.t 46)))
              (.alt (o1 43 (.load true 4 (.t 42)))
              (.alt (oS ⟨some 48, .call "mergelens/mergelensgen.At" [(.t 44), (.t 47)], none⟩ S_gen_At)
              (.alt (oS ⟨some 49, .call "mergelens/mergelensgen.Mod" [(.t 48), (.c (.int .i64 2))], none⟩ S_gen_Mod)
              (.first (o1 50 (.conv (.toInt .u8) (.t 49)))
              (.first (o1 51 (.bin .add (.c (.int .u8 97)) (.t 50)))
              (.alt (oS ⟨some 52, .call "mergelens/mergelensref04.Put" [(.t 43), (.t 51)], none⟩ S_ref04_Put)
              (.first (o1 53 (.fAddr 1 (.t 7)))
              (.alt (o0 ⟨none, .store 4 (.t 53) (.t 52), none⟩)
              .done
              .stop))
              .stop)))
              .stop)
              .stop)
              (.alt (oS ⟨some 48, .call "mergelens/mergelensgen.At" [(.t 44), (.t 47)], none⟩ S_gen_At)
              (.alt (o1 43 (.load true 4 (.t 42)))
              (.alt (oS ⟨some 49, .call "mergelens/mergelensgen.Mod" [(.t 48), (.c (.int .i64 2))], none⟩ S_gen_Mod)
              (.first (o1 50 (.conv (.toInt .u8) (.t 49)))
              (.first (o1 51 (.bin .add (.c (.int .u8 97)) (.t 50)))
              (.alt (oS ⟨some 52, .call "mergelens/mergelensref04.Put" [(.t 43), (.t 51)], none⟩ S_ref04_Put)
              (.first (o1 53 (.fAddr 1 (.t 7)))
              (.alt (o0 ⟨none, .store 4 (.t 53) (.t 52), none⟩)
              .done
              .stop))
              .stop)))
              .stop)
              (.alt (oS ⟨some 49, .call "mergelens/mergelensgen.Mod" [(.t 48), (.c (.int .i64 2))], none⟩ S_gen_Mod)
              (.first (o1 43 (.load true 4 (.t 42)))
              (.first (o1 50 (.conv (.toInt .u8) (.t 49)))
              (.first (o1 51 (.bin .add (.c (.int .u8 97)) (.t 50)))
              (.alt (oS ⟨some 52, .call "mergelens/mergelensref04.Put" [(.t 43), (.t 51)], none⟩ S_ref04_Put)
              (.first (o1 53 (.fAddr 1 (.t 7)))
              (.alt (o0 ⟨none, .store 4 (.t 53) (.t 52), none⟩)
              .done
              .stop))
              .stop))))
              .stop))
              .stop)))))))])))
            (.region [o1 54 (.fAddr 0 (.t 5)),
              o1 55 (.load false 1 (.t 54)),
              o1 56 (.load true 7 (.t 7)),
              oT ⟨some 57, .buildSl 7 [(.int .i64 0), (.int .u64 0), (.int .u64 0), (.int .u64 0), (.int .u64 0), (.int .i64 0), (.int .i64 0)] 1 [(0, (.t 56))], none⟩ (some (bState, .leaf)),
              oT ⟨some 58, .app 7 56 (.t 55) (.t 57), none⟩ (some (bState, .leaf)),
              o1 59 (.fAddr 0 (.t 5)),
              o0 ⟨none, .store 1 (.t 59) (.t 58), none⟩]))))))
        (.region [o1 19 (.mv (.t 6)),
          o1 20 (.bin .add (.t 19) (.c (.int .i64 1))),
          o1 6 (.asg (.t 20))]))))))))
  (.seq
    (.region [o1 60 (.load true 2 (.t 5)),
      o0 ⟨none, .store 2 (.t 4) (.t 60), none⟩])
  .ret)))))
def F_law06_made : AFn := ⟨ "mergelens/mergelenslaw06.made", t_law06_made.erase, [.cell 4 true 2], 2⟩
def W_law06_made (P : Program) (x : ((List Int) × Int)) (K : ((List State) × Int) → Unit → Prop) : Prop :=
  Fn P "mergelens/mergelensgen.Mod" S_gen_Mod (x.2, (6 : Int)) (fun (d1 : Int) (e2 : Unit) => Fn P "mergelens/mergelensgen.At" S_gen_At (x.1, (0 : Int)) (fun (d3 : Int) (e4 : Unit) => Fn P "mergelens/mergelensgen.Mod" S_gen_Mod (d3, (IntKind.i64.wrap ((1 : Int) + d1))) (fun (d5 : Int) (e6 : Unit) => JoinW (D := ((List State) × Int)) (fun J7 => LoopW (D := (Int × ((List State) × Int))) ((0 : Int), ([], d5)) (fun (d9 : (Int × ((List State) × Int))) J10 => (((decide (d9.1 < (IntKind.i64.wrap ((1 : Int) + d1)))) = true → JoinW (D := ((List State) × Int)) (fun J11 => Fn P "mergelens/mergelensgen.At" S_gen_At (x.1, (IntKind.i64.wrap ((1 : Int) + (IntKind.i64.wrap ((4 : Int) * d9.1))))) (fun (d13 : Int) (e14 : Unit) => Fn P "mergelens/mergelensgen.Mod" S_gen_Mod (d13, (5 : Int)) (fun (d15 : Int) (e16 : Unit) => Fn P "mergelens/mergelensgen.At" S_gen_At (x.1, (IntKind.i64.wrap ((2 : Int) + (IntKind.i64.wrap ((4 : Int) * d9.1))))) (fun (d17 : Int) (e18 : Unit) => Fn P "mergelens/mergelensgen.Mod" S_gen_Mod (d17, (IntKind.i64.wrap ((1 : Int) + d1))) (fun (d19 : Int) (e20 : Unit) => Fn P "mergelens/mergelensgen.At" S_gen_At (x.1, (IntKind.i64.wrap ((3 : Int) + (IntKind.i64.wrap ((4 : Int) * d9.1))))) (fun (d21 : Int) (e22 : Unit) => Fn P "mergelens/mergelensgen.Mod" S_gen_Mod (d21, (IntKind.i64.wrap ((1 : Int) + d1))) (fun (d23 : Int) (e24 : Unit) => JoinW (D := State) (fun J25 => ((Fn P "mergelens/mergelensgen.At" S_gen_At (x.1, (IntKind.i64.wrap ((4 : Int) + (IntKind.i64.wrap ((4 : Int) * d9.1))))) (fun (d27 : Int) (e28 : Unit) => (Fn P "mergelens/mergelensgen.Mod" S_gen_Mod (d27, (2 : Int)) (fun (d29 : Int) (e30 : Unit) => (Fn P "mergelens/mergelensref04.Put" S_ref04_Put (((0 : Int), ((0 : Int), ((0 : Int), (0 : Int)))), (IntKind.u8.wrap ((97 : Int) + (IntKind.u8.wrap d29)))) (fun (d31 : (Int × (Int × (Int × Int)))) (e32 : Unit) => (J25 (d15, ((d31.1, (d31.2.1, (d31.2.2.1, d31.2.2.2))), (d19, d23)))) ∧ (True))) ∧ (True))) ∧ (True))) ∧ (True)) ∧ ((Fn P "mergelens/mergelensgen.At" S_gen_At (x.1, (IntKind.i64.wrap ((4 : Int) + (IntKind.i64.wrap ((4 : Int) * d9.1))))) (fun (d33 : Int) (e34 : Unit) => ((Fn P "mergelens/mergelensgen.Mod" S_gen_Mod (d33, (2 : Int)) (fun (d35 : Int) (e36 : Unit) => (Fn P "mergelens/mergelensref04.Put" S_ref04_Put (((0 : Int), ((0 : Int), ((0 : Int), (0 : Int)))), (IntKind.u8.wrap ((97 : Int) + (IntKind.u8.wrap d35)))) (fun (d37 : (Int × (Int × (Int × Int)))) (e38 : Unit) => (J25 (d15, ((d37.1, (d37.2.1, (d37.2.2.1, d37.2.2.2))), (d19, d23)))) ∧ (True))) ∧ (True))) ∧ (True)) ∧ ((Fn P "mergelens/mergelensgen.Mod" S_gen_Mod (d33, (2 : Int)) (fun (d39 : Int) (e40 : Unit) => (Fn P "mergelens/mergelensref04.Put" S_ref04_Put (((0 : Int), ((0 : Int), ((0 : Int), (0 : Int)))), (IntKind.u8.wrap ((97 : Int) + (IntKind.u8.wrap d39)))) (fun (d41 : (Int × (Int × (Int × Int)))) (e42 : Unit) => (J25 (d15, ((d41.1, (d41.2.1, (d41.2.2.1, d41.2.2.2))), (d19, d23)))) ∧ (True))) ∧ (True))) ∧ (True)))) ∧ (True))) (fun (d26 : State) => ((List.length d9.2.1 + List.length ([(d26.1, ((d26.2.1.1, (d26.2.1.2.1, (d26.2.1.2.2.1, d26.2.1.2.2.2))), (d26.2.2.1, d26.2.2.2)))] : List State)) * 56 ≤ 140737488355328) ∧
  J11 ((d9.2.1 ++ ([(d26.1, ((d26.2.1.1, (d26.2.1.2.1, (d26.2.1.2.2.1, d26.2.1.2.2.2))), (d26.2.2.1, d26.2.2.2)))] : List State)), d9.2.2))))))))) (fun (d12 : ((List State) × Int)) => J10 ((IntKind.i64.wrap (d9.1 + (1 : Int))), (d12.1, d12.2)))) ∧ ((decide (d9.1 < (IntKind.i64.wrap ((1 : Int) + d1)))) = false → J7 (d9.2.1, d9.2.2))))) (fun (d8 : ((List State) × Int)) => K (d8.1, d8.2) ()))))
theorem fn_law06_made {P : Program} (h : Has P F_law06_made) {x : DP S_law06_made.ps} {K : DP S_law06_made.rs → DP (ptrs S_law06_made.ps) → Prop} (hw : W_law06_made P x K) : Fn P "mergelens/mergelenslaw06.made" S_law06_made x K :=
  fn_of (c := t_law06_made) h rfl rfl (by kernel_rfl) (Eq.mpr (show liftT P F_law06_made S_law06_made t_law06_made x K = W_law06_made P x K by kernel_rfl) hw)

def t_law06_word : TCode :=
  (.seq
    (.region [o1 4 (.asg (.c (.string ⟨#[]⟩)))])
  (.seq
    (.region [o1 5 (.asg (.c (.string ⟨#[]⟩)))])
  (.seq
    (.seq
      (.region [o1 6 (.asg (.c (.int .i64 0)))])
    (.frame [5, 6, 7, 8, 9, 10, 11, 12, 13, 14, 15, 16, 17, 18, 19, 20, 21, 22, 23, 24, 25, 26] [] false (.join [.sl 5 false .str .leaf]
    (.block 0
      (.loop [.sl 5 false .str .leaf, .sl 6 false (.int .i64) .leaf]
        (.seq
          (.seq
            (.region [o1 7 (.mv (.t 6)),
              o1 8 (.mv (.t 0)),
              o1 9 (.mv (.t 1)),
              oS ⟨some 10, .call "mergelens/mergelensgen.At" [(.t 8), (.t 9)], none⟩ S_gen_At,
              oS ⟨some 11, .call "mergelens/mergelensgen.Mod" [(.t 10), (.c (.int .i64 9))], none⟩ S_gen_Mod,
              o1 12 (.bin .lss (.t 7) (.t 11))])
          (.cond (.t 12)
            .skip
            (.exit 0)))
        (.seq
          (.frame [5, 15, 16, 17, 18, 19, 20, 21, 22, 23, 24, 25, 26] [] false (.join [.sl 5 false .str .leaf]
          (.block 1
            (.region [o1 15 (.mv (.t 5)),
              oT ⟨some 16, .buildSl 1 [(.string ⟨#[]⟩)] 3 [(0, (.c (.string ⟨#[97]⟩))), (1, (.c (.string ⟨#[98]⟩))), (2, (.c (.string ⟨#[120]⟩)))], none⟩ (some (.str, .leaf)),
              o1 17 (.mv (.t 0)),
              o1 18 (.mv (.t 1)),
              o1 19 (.bin .add (.t 18) (.c (.int .i64 1))),
              o1 20 (.mv (.t 6)),
              o1 21 (.bin .add (.t 19) (.t 20)),
              oS ⟨some 22, .call "mergelens/mergelensgen.At" [(.t 17), (.t 21)], none⟩ S_gen_At,
              oS ⟨some 23, .call "mergelens/mergelensgen.Mod" [(.t 22), (.c (.int .i64 3))], none⟩ S_gen_Mod,
              o1 24 (.ixA 1 (.t 16) (.t 23)),
              o1 25 (.load false 1 (.t 24)),
              o1 26 (.bin .add (.t 15) (.t 25)),
              o1 5 (.asg (.t 26))]))))
        (.region [o1 13 (.mv (.t 6)),
          o1 14 (.bin .add (.t 13) (.c (.int .i64 1))),
          o1 6 (.asg (.t 14))]))))))))
  (.seq
    (.region [o1 27 (.mv (.t 5)),
      o1 4 (.asg (.t 27))])
  .ret))))
def F_law06_word : AFn := ⟨ "mergelens/mergelenslaw06.word", t_law06_word.erase, [.tmp 4], 2⟩
def W_law06_word (P : Program) (x : ((List Int) × Int)) (K : (List UInt8) → Unit → Prop) : Prop :=
  JoinW (D := (List UInt8)) (fun J1 => LoopW (D := ((List UInt8) × Int)) (([] : List UInt8), (0 : Int)) (fun (d3 : ((List UInt8) × Int)) J4 => Fn P "mergelens/mergelensgen.At" S_gen_At (x.1, x.2) (fun (d5 : Int) (e6 : Unit) => Fn P "mergelens/mergelensgen.Mod" S_gen_Mod (d5, (9 : Int)) (fun (d7 : Int) (e8 : Unit) => (((decide (d3.2 < d7)) = true → JoinW (D := (List UInt8)) (fun J9 => Fn P "mergelens/mergelensgen.At" S_gen_At (x.1, (IntKind.i64.wrap ((IntKind.i64.wrap (x.2 + (1 : Int))) + d3.2))) (fun (d11 : Int) (e12 : Unit) => Fn P "mergelens/mergelensgen.Mod" S_gen_Mod (d11, (3 : Int)) (fun (d13 : Int) (e14 : Unit) => (0 ≤ d13 ∧ d13 < ((List.length ([([97] : List UInt8), ([98] : List UInt8), ([120] : List UInt8)] : List (List UInt8)) : Nat) : Int)) ∧
  ((Int.toNat d13) < List.length ([([97] : List UInt8), ([98] : List UInt8), ([120] : List UInt8)] : List (List UInt8))) ∧
  (List.length d3.1 + List.length (List.getD ([([97] : List UInt8), ([98] : List UInt8), ([120] : List UInt8)] : List (List UInt8)) (Int.toNat d13) []) ≤ 9223372036854775807) ∧
  J9 (d3.1 ++ (List.getD ([([97] : List UInt8), ([98] : List UInt8), ([120] : List UInt8)] : List (List UInt8)) (Int.toNat d13) []))))) (fun (d10 : (List UInt8)) => J4 (d10, (IntKind.i64.wrap (d3.2 + (1 : Int)))))) ∧ ((decide (d3.2 < d7)) = false → J1 d3.1)))))) (fun (d2 : (List UInt8)) => K d2 ())
theorem fn_law06_word {P : Program} (h : Has P F_law06_word) {x : DP S_law06_word.ps} {K : DP S_law06_word.rs → DP (ptrs S_law06_word.ps) → Prop} (hw : W_law06_word P x K) : Fn P "mergelens/mergelenslaw06.word" S_law06_word x K :=
  fn_of (c := t_law06_word) h rfl rfl (by kernel_rfl) (Eq.mpr (show liftT P F_law06_word S_law06_word t_law06_word x K = W_law06_word P x K by kernel_rfl) hw)

def t_automaton_Check_1 : TCode :=
  (.seq
    (.region [o1 3 (.asg (.c (.bool false)))])
  (.seq
    (.region [o1 4 (.mv (.t 0)),
      o1 5 (.bin .geq (.t 4) (.c (.int .i64 0))),
      o1 6 (.mv (.t 5)),
      o0 ⟨some 7, .mv (.t 0), some (6, true)⟩,
      o0 ⟨some 8, .load false 1 (.t 1), some (6, true)⟩,
      o0 ⟨some 9, .bin .lss (.t 7) (.t 8), some (6, true)⟩,
      o1 10 (.pick (.t 6) (.t 9) (.c (.bool false))),
      o1 3 (.asg (.t 10))])
  .ret))
def F_automaton_Check_1 : AFn := ⟨ "mergelens/automaton.Check\x241", t_automaton_Check_1.erase, [.tmp 3], 2⟩
def W_automaton_Check_1 (P : Program) (x : (Int × Int)) (K : Bool → Int → Prop) : Prop :=
  K (cond (decide (x.1 ≥ (0 : Int))) (decide (x.1 < x.2)) false) x.2
theorem fn_automaton_Check_1 {P : Program} (h : Has P F_automaton_Check_1) {x : DP S_automaton_Check_1.ps} {K : DP S_automaton_Check_1.rs → DP (ptrs S_automaton_Check_1.ps) → Prop} (hw : W_automaton_Check_1 P x K) : Fn P "mergelens/automaton.Check\x241" S_automaton_Check_1 x K :=
  fn_of (c := t_automaton_Check_1) h rfl rfl (by kernel_rfl) (Eq.mpr (show liftT P F_automaton_Check_1 S_automaton_Check_1 t_automaton_Check_1 x K = W_automaton_Check_1 P x K by kernel_rfl) hw)

def t_automaton_Check : TCode :=
  (.seq
    (.region [o1 1 (.box (.t 0)),
      o1 2 (.asg (.c (.int .i64 0)))])
  (.seq
    (.region [o1 8 (.fAddr 0 (.t 1)),
      o1 9 (.load false 1 (.t 8)),
      o1 10 (.lenK (.t 9)),
      o1 3 (.alloc [(.int .i64 0)]),
      o0 ⟨none, .store 1 (.t 3) (.t 10), none⟩])
  (.seq
    (.region [o1 11 (.mkf "mergelens/automaton.Check\x241" [(.t 3)]),
      o1 4 (.asg (.t 11))])
  (.seq
    (.seq
      (.region [o1 12 (.load false 1 (.t 3)),
        o1 13 (.bin .lss (.t 12) (.c (.int .i64 1))),
        o1 14 (.mv (.t 13)),
        o0 ⟨some 15, .load false 1 (.t 3), some (14, false)⟩,
        o0 ⟨some 16, .bin .gtr (.t 15) (.c (.int .i64 8000)), some (14, false)⟩,
        o1 17 (.pick (.t 14) (.c (.bool true)) (.t 16)),
        o1 18 (.mv (.t 17)),
        ⟨⟨some 19, .mv (.t 4), some (18, false)⟩, none, ⟨[], []⟩, false, some 18, true, false⟩,
        ⟨⟨some 20, .fAddr 1 (.t 1), some (18, false)⟩, none, ⟨[], []⟩, false, none, true, false⟩,
        ⟨⟨some 21, .load false 1 (.t 20), some (18, false)⟩, none, ⟨[], []⟩, false, none, true, false⟩,
        ⟨⟨some 22, .callv (.t 19) [(.t 21)], some (18, false)⟩, none, S_automaton_Check_1, false, none, true, true⟩,
        ⟨⟨some 23, .un .not (.t 22), some (18, false)⟩, none, ⟨[], []⟩, false, none, true, true⟩,
        o1 24 (.pick (.t 18) (.c (.bool true)) (.t 23))])
    (.cond (.t 24)
      (.seq
        (.region [o1 2 (.asg (.c (.int .i64 2)))])
      .ret)
      .skip))
  (.seq
    (.seq
      (.region [o1 25 (.fAddr 0 (.t 1)),
        o1 26 (.load false 1 (.t 25)),
        o1 27 (.lenK (.t 26)),
        o1 28 (.mv (.c (.int .i64 0)))])
    (.frame [2, 6, 7, 28, 29, 30, 31, 32, 33, 34, 35, 36, 37, 38, 39, 40, 41, 42, 43, 44, 45, 46, 47, 48, 49, 50, 51, 52, 53, 54, 55] [1003, 1006] true (.join [.sl 2 false (.int .i64) .leaf]
    (.block 0
      (.loop [.sl 2 false (.int .i64) .leaf, .sl 28 false (.int .i64) .leaf, .bx 1003 (.int .i64) .leaf]
        (.seq
          (.region [o1 29 (.bin .lss (.t 28) (.t 27))])
        (.seq
          (.cond (.t 29)
            .skip
            (.exit 0))
        (.seq
          (.frame [2, 6, 7, 30, 31, 32, 33, 34, 35, 36, 37, 38, 39, 40, 41, 42, 43, 44, 45, 46, 47, 48, 49, 50, 51, 52, 53, 54] [1003, 1006] true (.join [.sl 2 false (.int .i64) .leaf, .bx 1003 (.int .i64) .leaf]
          (.block 1
            (.seq
              (.region [o1 30 (.ixA 7 (.t 26) (.t 28)),
                o1 31 (.load true 7 (.t 30)),
                o1 6 (.alloc [(.int .i64 0), (.int .u64 0), (.int .u64 0), (.int .u64 0), (.int .u64 0), (.int .i64 0), (.int .i64 0)]),
                o0 ⟨none, .store 7 (.t 6) (.t 31), none⟩])
            (.seq
              (.region [o1 32 (.mv (.t 4)),
                o1 33 (.fAddr 5 (.t 6)),
                o1 34 (.load false 1 (.t 33)),
                oS ⟨some 35, .callv (.t 32) [(.t 34)], none⟩ S_automaton_Check_1,
                o1 7 (.asg (.t 35))])
            (.seq
              (.seq
                (.region [o1 36 (.fAddr 0 (.t 6)),
                  o1 37 (.load false 1 (.t 36))])
              (.frame [7, 38, 39, 40, 41, 42, 43, 44, 45, 46, 47, 48, 49, 50, 51, 52] [1003] true (.join [.sl 7 false .bool .leaf, .bx 1003 (.int .i64) .leaf]
              (.block 2
                (.seq
                  (.seq
                    (.region [o1 39 (.bin .eql (.t 37) (.c (.int .i64 0))),
                      o1 38 (.asg (.t 39))])
                  (.frame [38, 40, 41] [] false (.join [.sl 38 false .bool .leaf]
                  (.cond (.t 38)
                    .skip
                    (.seq
                      (.region [o1 40 (.bin .eql (.t 37) (.c (.int .i64 2))),
                        o1 38 (.asg (.t 40))])
                    (.frame [38, 41] [] false (.join [.sl 38 false .bool .leaf]
                    (.cond (.t 38)
                      .skip
                      (.region [o1 41 (.bin .eql (.t 37) (.c (.int .i64 3))),
                        o1 38 (.asg (.t 41))])))))))))
                (.frame [7, 42, 43, 44, 45, 46, 47, 48, 49, 50, 51, 52] [1003] true (.join [.sl 7 false .bool .leaf, .bx 1003 (.int .i64) .leaf]
                (.cond (.t 38)
                  .skip
                  (.seq
                    (.region [o1 43 (.bin .eql (.t 37) (.c (.int .i64 1))),
                      o1 42 (.asg (.t 43))])
                  (.frame [7, 44, 45, 46, 47, 48, 49, 50, 51, 52] [1003] true (.join [.sl 7 false .bool .leaf, .bx 1003 (.int .i64) .leaf]
                  (.cond (.t 42)
                    (.region [o1 44 (.mv (.t 7)),
                      o1 45 (.mv (.t 44)),
                      ⟨⟨some 46, .mv (.t 4), some (45, true)⟩, none, ⟨[], []⟩, false, some 45, true, false⟩,
                      ⟨⟨some 47, .fAddr 6 (.t 6), some (45, true)⟩, none, ⟨[], []⟩, false, none, true, false⟩,
                      ⟨⟨some 48, .load false 1 (.t 47), some (45, true)⟩, none, ⟨[], []⟩, false, none, true, false⟩,
                      ⟨⟨some 49, .callv (.t 46) [(.t 48)], some (45, true)⟩, none, S_automaton_Check_1, false, none, true, true⟩,
                      o1 50 (.pick (.t 45) (.t 49) (.c (.bool false))),
                      o1 7 (.asg (.t 50))])
                    (.seq
                      (.region [o1 52 (.bin .eql (.t 37) (.c (.int .i64 4))),
                        o1 51 (.asg (.t 52))])
                    (.frame [7] [] false (.join [.sl 7 false .bool .leaf]
                    (.cond (.t 51)
                      (.region [o1 7 (.asg (.c (.bool true)))])
                      (.region [o1 7 (.asg (.c (.bool false)))])))))))))))))))))
            (.seq
              (.region [o1 53 (.mv (.t 7)),
                o1 54 (.un .not (.t 53))])
            (.cond (.t 54)
              (.seq
                (.region [o1 2 (.asg (.c (.int .i64 2)))])
              .ret)
              .skip))))))))
        (.region [o1 55 (.bin .add (.t 28) (.c (.int .i64 1))),
          o1 28 (.mv (.t 55))])))))))))
  (.seq
    (.region [o1 2 (.asg (.c (.int .i64 0)))])
  .ret))))))
def F_automaton_Check : AFn := ⟨ "mergelens/automaton.Check", t_automaton_Check.erase, [.tmp 2], 1⟩
def W_automaton_Check (P : Program) (x : ((List State) × Int)) (K : Int → Unit → Prop) : Prop :=
  (((cond (decide (((List.length x.1 : Nat) : Int) < (1 : Int))) true (decide (((List.length x.1 : Nat) : Int) > (8000 : Int)))) = true → (((cond true true false) = true → K (2 : Int) ()) ∧ ((cond true true false) = false → JoinW (D := Int) (fun J1 => LoopW (D := (Int × (Int × Int))) ((0 : Int), ((0 : Int), ((List.length x.1 : Nat) : Int))) (fun (d3 : (Int × (Int × Int))) J4 => (((decide (d3.2.1 < ((List.length x.1 : Nat) : Int))) = true → JoinW (D := (Int × Int)) (fun J5 => (0 ≤ d3.2.1 ∧ d3.2.1 < ((List.length x.1 : Nat) : Int)) ∧
  ((Int.toNat d3.2.1) < List.length x.1) ∧
  Fn P "mergelens/automaton.Check\x241" S_automaton_Check_1 ((List.getD x.1 (Int.toNat d3.2.1) zState).2.2.1, d3.2.2) (fun (d7 : Bool) (e8 : Int) => JoinW (D := (Bool × Int)) (fun J9 => JoinW (D := Bool) (fun J11 => ((((List.getD x.1 (Int.toNat d3.2.1) zState).1 == (0 : Int)) = true → J11 ((List.getD x.1 (Int.toNat d3.2.1) zState).1 == (0 : Int))) ∧ (((List.getD x.1 (Int.toNat d3.2.1) zState).1 == (0 : Int)) = false → JoinW (D := Bool) (fun J13 => ((((List.getD x.1 (Int.toNat d3.2.1) zState).1 == (2 : Int)) = true → J13 ((List.getD x.1 (Int.toNat d3.2.1) zState).1 == (2 : Int))) ∧ (((List.getD x.1 (Int.toNat d3.2.1) zState).1 == (2 : Int)) = false → J13 ((List.getD x.1 (Int.toNat d3.2.1) zState).1 == (3 : Int))))) (fun (d14 : Bool) => J11 d14)))) (fun (d12 : Bool) => JoinW (D := (Bool × Int)) (fun J15 => ((d12 = true → J15 (d7, e8)) ∧ (d12 = false → JoinW (D := (Bool × Int)) (fun J17 => ((((List.getD x.1 (Int.toNat d3.2.1) zState).1 == (1 : Int)) = true → ((d7 = true → Fn P "mergelens/automaton.Check\x241" S_automaton_Check_1 ((List.getD x.1 (Int.toNat d3.2.1) zState).2.2.2, e8) (fun (d19 : Bool) (e20 : Int) => J17 ((cond true d19 false), e20))) ∧ (d7 = false → J17 ((cond false false false), e8)))) ∧ (((List.getD x.1 (Int.toNat d3.2.1) zState).1 == (1 : Int)) = false → JoinW (D := Bool) (fun J21 => ((((List.getD x.1 (Int.toNat d3.2.1) zState).1 == (4 : Int)) = true → J21 true) ∧ (((List.getD x.1 (Int.toNat d3.2.1) zState).1 == (4 : Int)) = false → J21 false))) (fun (d22 : Bool) => J17 (d22, e8))))) (fun (d18 : (Bool × Int)) => J15 (d18.1, d18.2))))) (fun (d16 : (Bool × Int)) => J9 (d16.1, d16.2)))) (fun (d10 : (Bool × Int)) => (((!d10.1) = true → K (2 : Int) ()) ∧ ((!d10.1) = false → J5 (d3.1, d10.2)))))) (fun (d6 : (Int × Int)) => J4 (d6.1, ((IntKind.i64.wrap (d3.2.1 + (1 : Int))), d6.2)))) ∧ ((decide (d3.2.1 < ((List.length x.1 : Nat) : Int))) = false → J1 d3.1)))) (fun (d2 : Int) => K (0 : Int) ())))) ∧ ((cond (decide (((List.length x.1 : Nat) : Int) < (1 : Int))) true (decide (((List.length x.1 : Nat) : Int) > (8000 : Int)))) = false → Fn P "mergelens/automaton.Check\x241" S_automaton_Check_1 (x.2, ((List.length x.1 : Nat) : Int)) (fun (d23 : Bool) (e24 : Int) => (((cond false true (!d23)) = true → K (2 : Int) ()) ∧ ((cond false true (!d23)) = false → JoinW (D := Int) (fun J25 => LoopW (D := (Int × (Int × Int))) ((0 : Int), ((0 : Int), e24)) (fun (d27 : (Int × (Int × Int))) J28 => (((decide (d27.2.1 < ((List.length x.1 : Nat) : Int))) = true → JoinW (D := (Int × Int)) (fun J29 => (0 ≤ d27.2.1 ∧ d27.2.1 < ((List.length x.1 : Nat) : Int)) ∧
  ((Int.toNat d27.2.1) < List.length x.1) ∧
  Fn P "mergelens/automaton.Check\x241" S_automaton_Check_1 ((List.getD x.1 (Int.toNat d27.2.1) zState).2.2.1, d27.2.2) (fun (d31 : Bool) (e32 : Int) => JoinW (D := (Bool × Int)) (fun J33 => JoinW (D := Bool) (fun J35 => ((((List.getD x.1 (Int.toNat d27.2.1) zState).1 == (0 : Int)) = true → J35 ((List.getD x.1 (Int.toNat d27.2.1) zState).1 == (0 : Int))) ∧ (((List.getD x.1 (Int.toNat d27.2.1) zState).1 == (0 : Int)) = false → JoinW (D := Bool) (fun J37 => ((((List.getD x.1 (Int.toNat d27.2.1) zState).1 == (2 : Int)) = true → J37 ((List.getD x.1 (Int.toNat d27.2.1) zState).1 == (2 : Int))) ∧ (((List.getD x.1 (Int.toNat d27.2.1) zState).1 == (2 : Int)) = false → J37 ((List.getD x.1 (Int.toNat d27.2.1) zState).1 == (3 : Int))))) (fun (d38 : Bool) => J35 d38)))) (fun (d36 : Bool) => JoinW (D := (Bool × Int)) (fun J39 => ((d36 = true → J39 (d31, e32)) ∧ (d36 = false → JoinW (D := (Bool × Int)) (fun J41 => ((((List.getD x.1 (Int.toNat d27.2.1) zState).1 == (1 : Int)) = true → ((d31 = true → Fn P "mergelens/automaton.Check\x241" S_automaton_Check_1 ((List.getD x.1 (Int.toNat d27.2.1) zState).2.2.2, e32) (fun (d43 : Bool) (e44 : Int) => J41 ((cond true d43 false), e44))) ∧ (d31 = false → J41 ((cond false false false), e32)))) ∧ (((List.getD x.1 (Int.toNat d27.2.1) zState).1 == (1 : Int)) = false → JoinW (D := Bool) (fun J45 => ((((List.getD x.1 (Int.toNat d27.2.1) zState).1 == (4 : Int)) = true → J45 true) ∧ (((List.getD x.1 (Int.toNat d27.2.1) zState).1 == (4 : Int)) = false → J45 false))) (fun (d46 : Bool) => J41 (d46, e32))))) (fun (d42 : (Bool × Int)) => J39 (d42.1, d42.2))))) (fun (d40 : (Bool × Int)) => J33 (d40.1, d40.2)))) (fun (d34 : (Bool × Int)) => (((!d34.1) = true → K (2 : Int) ()) ∧ ((!d34.1) = false → J29 (d27.1, d34.2)))))) (fun (d30 : (Int × Int)) => J28 (d30.1, ((IntKind.i64.wrap (d27.2.1 + (1 : Int))), d30.2)))) ∧ ((decide (d27.2.1 < ((List.length x.1 : Nat) : Int))) = false → J25 d27.1)))) (fun (d26 : Int) => K (0 : Int) ()))))))
theorem fn_automaton_Check {P : Program} (h : Has P F_automaton_Check) {x : DP S_automaton_Check.ps} {K : DP S_automaton_Check.rs → DP (ptrs S_automaton_Check.ps) → Prop} (hw : W_automaton_Check P x K) : Fn P "mergelens/automaton.Check" S_automaton_Check x K :=
  fn_of (c := t_automaton_Check) h rfl rfl (by kernel_rfl) (Eq.mpr (show liftT P F_automaton_Check S_automaton_Check t_automaton_Check x K = W_automaton_Check P x K by kernel_rfl) hw)

def t_search_start : TCode :=
  (.seq
    (.region [o1 3 (.box (.t 0)),
      o1 6 (.asg (.c (.pointer none)))])
  (.seq
    (.frame [6, 7, 8, 9, 10, 11, 12, 13, 14, 15] [1015] false (.join [.pt 6 1015 0, .bx 1015 bsearch_machine (.pair (.pair (.node .imm .leaf) .leaf) (.pair .leaf (.pair .leaf (.pair (.node .own .leaf) (.node .own .leaf)))))]
    (.draw [(.first (o1 8 (.mv (.t 1)))
    (.first (o1 9 (.mv (.t 2)))
    (.first (o1 10 (.fAddr 0 (.t 3)))
    (.first (o1 11 (.load false 1 (.t 10)))
    (.first (o1 12 (.lenK (.t 11)))
    (.alt (o1 7 (.load true 2 (.t 3)))
    (.alt (oT ⟨some 13, .mkSl 1 1 [(.bool false)] (.t 12) (.t 12), none⟩ (some (.bool, .leaf)))
    (.first (o1 14 (.build [(.slice none 0 0), (.int .i64 0), (.string ⟨#[]⟩), (.int .i64 0), (.slice none 0 0), (.slice none 0 0)] [(0, 2, (.t 7)), (2, 1, (.t 8)), (3, 1, (.t 9)), (5, 1, (.t 13))]))
    (.alt (o1 15 (.box (.t 14)))
    (.alt (o1 6 (.asg (.t 15)))
    .done
    .stop)
    .stop))
    .stop)
    (.alt (oT ⟨some 13, .mkSl 1 1 [(.bool false)] (.t 12) (.t 12), none⟩ (some (.bool, .leaf)))
    (.first (o1 7 (.load true 2 (.t 3)))
    (.first (o1 14 (.build [(.slice none 0 0), (.int .i64 0), (.string ⟨#[]⟩), (.int .i64 0), (.slice none 0 0), (.slice none 0 0)] [(0, 2, (.t 7)), (2, 1, (.t 8)), (3, 1, (.t 9)), (5, 1, (.t 13))]))
    (.alt (o1 15 (.box (.t 14)))
    (.alt (o1 6 (.asg (.t 15)))
    .done
    .stop)
    .stop)))
    .stop)))))))])))
  .ret))
def F_search_start : AFn := ⟨ "mergelens/search.start", t_search_start.erase, [.tmp 6], 3⟩
def W_search_start (P : Program) (x : (((List State) × Int) × ((List UInt8) × Int))) (K : search_machine → Unit → Prop) : Prop :=
  JoinW (D := search_machine) (fun J1 => (((0 ≤ ((List.length x.1.1 : Nat) : Int) ∧ ((List.length x.1.1 : Nat) : Int) ≤ ((List.length x.1.1 : Nat) : Int) ∧ ((1 : Nat) : Int) * ((List.length x.1.1 : Nat) : Int) ≤ 281474976710656) ∧
  ((J1 ((x.1.1, x.1.2), (x.2.1, (x.2.2, ([], (List.replicate (Int.toNat ((List.length x.1.1 : Nat) : Int)) false)))))) ∧ (True)) ∧ (True)) ∧ (True)) ∧ (((0 ≤ ((List.length x.1.1 : Nat) : Int) ∧ ((List.length x.1.1 : Nat) : Int) ≤ ((List.length x.1.1 : Nat) : Int) ∧ ((1 : Nat) : Int) * ((List.length x.1.1 : Nat) : Int) ≤ 281474976710656) ∧
  ((J1 ((x.1.1, x.1.2), (x.2.1, (x.2.2, ([], (List.replicate (Int.toNat ((List.length x.1.1 : Nat) : Int)) false)))))) ∧ (True)) ∧ (True)) ∧ (True))) (fun (d2 : search_machine) => K ((d2.1.1, d2.1.2), (d2.2.1, (d2.2.2.1, (d2.2.2.2.1, d2.2.2.2.2)))) ())
theorem fn_search_start {P : Program} (h : Has P F_search_start) {x : DP S_search_start.ps} {K : DP S_search_start.rs → DP (ptrs S_search_start.ps) → Prop} (hw : W_search_start P x K) : Fn P "mergelens/search.start" S_search_start x K :=
  fn_of (c := t_search_start) h rfl rfl (by kernel_rfl) (Eq.mpr (show liftT P F_search_start S_search_start t_search_start x K = W_search_start P x K by kernel_rfl) hw)

def t_automaton_Steps : TCode :=
  (.seq
    (.region [o1 3 (.box (.t 0)),
      o1 6 (.asg (.c (.slice none 0 0)))])
  (.seq
    (.seq
      (.region [o1 7 (.fAddr 0 (.t 3)),
        o1 8 (.load false 1 (.t 7))])
    (.frame [6, 9, 10, 11, 12, 13, 14, 15, 16, 17, 18, 19, 20, 21, 22, 23, 24, 25, 26, 27] [] false (.join [.sl 6 false (.sl (.int .i64)) (.node .own .leaf)]
    (.block 0
      (.seq
        (.region [o1 10 (.bin .eql (.t 8) (.c (.int .i64 1))),
          o1 9 (.asg (.t 10))])
      (.cond (.t 9)
        (.seq
          (.region [o1 11 (.fAddr 5 (.t 3)),
            o1 12 (.load false 1 (.t 11)),
            o1 13 (.fAddr 6 (.t 3)),
            o1 14 (.load false 1 (.t 13)),
            oT ⟨some 15, .buildSl 1 [(.int .i64 0)] 2 [(0, (.t 12)), (1, (.t 14))], none⟩ (some ((.int .i64), .leaf)),
            o1 6 (.asg (.t 15))])
        .ret)
        (.seq
          (.region [o1 17 (.bin .eql (.t 8) (.c (.int .i64 2))),
            o1 16 (.asg (.t 17))])
        (.frame [6, 18, 19, 20, 21, 22, 23, 24, 25, 26, 27] [] false (.join [.sl 6 false (.sl (.int .i64)) (.node .own .leaf)]
        (.cond (.t 16)
          (.seq
            (.region [o1 18 (.mv (.t 1))])
          (.cond (.t 18)
            (.seq
              (.region [o1 19 (.fAddr 5 (.t 3)),
                o1 20 (.load false 1 (.t 19)),
                oT ⟨some 21, .buildSl 1 [(.int .i64 0)] 1 [(0, (.t 20))], none⟩ (some ((.int .i64), .leaf)),
                o1 6 (.asg (.t 21))])
            .ret)
            .skip))
          (.seq
            (.region [o1 23 (.bin .eql (.t 8) (.c (.int .i64 3))),
              o1 22 (.asg (.t 23))])
          (.frame [6, 24, 25, 26, 27] [] false (.join [.sl 6 false (.sl (.int .i64)) (.node .own .leaf)]
          (.cond (.t 22)
            (.seq
              (.region [o1 24 (.mv (.t 2))])
            (.cond (.t 24)
              (.seq
                (.region [o1 25 (.fAddr 5 (.t 3)),
                  o1 26 (.load false 1 (.t 25)),
                  oT ⟨some 27, .buildSl 1 [(.int .i64 0)] 1 [(0, (.t 26))], none⟩ (some ((.int .i64), .leaf)),
                  o1 6 (.asg (.t 27))])
              .ret)
              .skip))
            .skip))))))))))))))
  (.seq
    (.region [o1 6 (.asg (.c (.slice none 0 0)))])
  .ret)))
def F_automaton_Steps : AFn := ⟨ "mergelens/automaton.Steps", t_automaton_Steps.erase, [.tmp 6], 3⟩
def W_automaton_Steps (P : Program) (x : (State × (Bool × Bool))) (K : (List Int) → Unit → Prop) : Prop :=
  JoinW (D := (List Int)) (fun J1 => (((x.1.1 == (1 : Int)) = true → K ([x.1.2.2.1, x.1.2.2.2] : List Int) ()) ∧ ((x.1.1 == (1 : Int)) = false → JoinW (D := (List Int)) (fun J3 => (((x.1.1 == (2 : Int)) = true → ((x.2.1 = true → K ([x.1.2.2.1] : List Int) ()) ∧ (x.2.1 = false → J3 []))) ∧ ((x.1.1 == (2 : Int)) = false → JoinW (D := (List Int)) (fun J5 => (((x.1.1 == (3 : Int)) = true → ((x.2.2 = true → K ([x.1.2.2.1] : List Int) ()) ∧ (x.2.2 = false → J5 []))) ∧ ((x.1.1 == (3 : Int)) = false → J5 []))) (fun (d6 : (List Int)) => J3 d6)))) (fun (d4 : (List Int)) => J1 d4)))) (fun (d2 : (List Int)) => K [] ())
theorem fn_automaton_Steps {P : Program} (h : Has P F_automaton_Steps) {x : DP S_automaton_Steps.ps} {K : DP S_automaton_Steps.rs → DP (ptrs S_automaton_Steps.ps) → Prop} (hw : W_automaton_Steps P x K) : Fn P "mergelens/automaton.Steps" S_automaton_Steps x K :=
  fn_of (c := t_automaton_Steps) h rfl rfl (by kernel_rfl) (Eq.mpr (show liftT P F_automaton_Steps S_automaton_Steps t_automaton_Steps x K = W_automaton_Steps P x K by kernel_rfl) hw)

def t_search_machine_add : TCode :=
  (.seq
    (.region [o1 3 (.box (.t 1))])
  (.seq
    (.region [o1 6 (.fAddr 0 (.t 3)),
      o1 7 (.load false 1 (.t 6)),
      oT ⟨some 8, .buildSl 1 [(.int .i64 0)] 1 [(0, (.t 7))], none⟩ (some ((.int .i64), .leaf)),
      o1 4 (.asg (.t 8))])
  (.frame [4, 5, 9, 10, 11, 12, 13, 14, 15, 16, 17, 18, 19, 20, 21, 22, 23, 24, 25, 26, 27, 28, 29, 30, 31, 32, 33, 34, 35, 36, 37, 38, 39, 40, 41, 42, 43, 44, 45, 46, 47, 48, 49, 50, 51, 52, 53, 54, 55, 56, 57, 58, 59, 60, 61, 62, 63, 64, 65, 66, 67, 68, 69, 70, 71, 72, 73, 74] [0] true (.join [.bx 0 bsearch_machine (.pair (.pair (.node .imm .leaf) .leaf) (.pair .leaf (.pair .leaf (.pair (.node .own .leaf) (.node .own .leaf)))))]
  (.block 0
    (.loop [.sl 4 false (.sl (.int .i64)) (.node .own .leaf), .bx 0 bsearch_machine (.pair (.pair (.node .imm .leaf) .leaf) (.pair .leaf (.pair .leaf (.pair (.node .own .leaf) (.node .own .leaf)))))]
      (.seq
        (.seq
          (.region [o1 9 (.mv (.t 4)),
            o1 10 (.lenK (.t 9)),
            o1 11 (.bin .gtr (.t 10) (.c (.int .i64 0)))])
        (.cond (.t 11)
          .skip
          (.exit 0)))
      (.frame [4, 5, 12, 13, 14, 15, 16, 17, 18, 19, 20, 21, 22, 23, 24, 25, 26, 27, 28, 29, 30, 31, 32, 33, 34, 35, 36, 37, 38, 39, 40, 41, 42, 43, 44, 45, 46, 47, 48, 49, 50, 51, 52, 53, 54, 55, 56, 57, 58, 59, 60, 61, 62, 63, 64, 65, 66, 67, 68, 69, 70, 71, 72, 73, 74] [0] true (.join [.sl 4 false (.sl (.int .i64)) (.node .own .leaf), .bx 0 bsearch_machine (.pair (.pair (.node .imm .leaf) .leaf) (.pair .leaf (.pair .leaf (.pair (.node .own .leaf) (.node .own .leaf)))))]
      (.block 1
        (.seq
          (.region [o1 12 (.mv (.t 4)),
            o1 13 (.mv (.t 4)),
            o1 14 (.lenK (.t 13)),
            o1 15 (.bin .sub (.t 14) (.c (.int .i64 1))),
            o1 16 (.ixA 1 (.t 12) (.t 15)),
            o1 17 (.load false 1 (.t 16)),
            o1 5 (.asg (.t 17))])
        (.seq
          (.region [o1 18 (.mv (.t 4)),
            o1 19 (.mv (.t 4)),
            o1 20 (.lenK (.t 19)),
            o1 21 (.bin .sub (.t 20) (.c (.int .i64 1))),
            o1 22 (.slK 1 (.t 18) none (some (.t 21))),
            o1 4 (.asg (.t 22))])
        (.seq
          (.seq
            (.region [o1 23 (.mv (.t 0)),
              o1 24 (.nilc (.t 23)),
              o1 25 (.fAddr 5 (.t 24)),
              o1 26 (.load false 1 (.t 25)),
              o1 27 (.mv (.t 5)),
              o1 28 (.ixA 1 (.t 26) (.t 27)),
              o1 29 (.load false 1 (.t 28))])
          (.cond (.t 29)
            (.exit 1)
            .skip))
        (.seq
          (.region [o1 30 (.mv (.t 0)),
            o1 31 (.nilc (.t 30)),
            o1 32 (.fAddr 5 (.t 31)),
            o1 33 (.load false 1 (.t 32)),
            o1 34 (.mv (.t 5)),
            o1 35 (.ixA 1 (.t 33) (.t 34)),
            o0 ⟨none, .store 1 (.t 35) (.c (.bool true)), none⟩])
        (.seq
          (.frame [36, 37, 38, 39, 40, 41, 42, 43, 44, 45, 46, 47, 48] [0] true (.join [.bx 0 bsearch_machine (.pair (.pair (.node .imm .leaf) .leaf) (.pair .leaf (.pair .leaf (.pair (.node .own .leaf) (.node .own .leaf)))))]
          (.draw [(.first (o1 36 (.mv (.t 0)))
          (.first (o1 37 (.mv (.t 0)))
          (.first (o1 38 (.nilc (.t 37)))
          (.first (o1 39 (.fAddr 4 (.t 38)))
          (.first (o1 41 (.mv (.t 5)))
          (.first (o1 42 (.fAddr 1 (.t 3)))
          (.first (o1 43 (.load false 1 (.t 42)))
          (.first (o1 44 (.build [(.int .i64 0), (.int .i64 0)] [(0, 1, (.t 41)), (1, 1, (.t 43))]))
          (.alt (o1 40 (.load false 1 (.t 39)))
          (.alt (oT ⟨some 45, .buildSl 2 [(.int .i64 0), (.int .i64 0)] 1 [(0, (.t 44))], none⟩ (some ((.pair (.int .i64) (.int .i64)), .leaf)))
          (.alt (oT ⟨some 46, .app 2 16 (.t 40) (.t 45), none⟩ (some ((.pair (.int .i64) (.int .i64)), .leaf)))
          (.first (o1 47 (.nilc (.t 36)))
          (.first (o1 48 (.fAddr 4 (.t 47)))
          (.alt (o0 ⟨none, .store 1 (.t 48) (.t 46), none⟩)
          .done
          .stop)))
          .stop)
          .stop)
          (.alt (oT ⟨some 45, .buildSl 2 [(.int .i64 0), (.int .i64 0)] 1 [(0, (.t 44))], none⟩ (some ((.pair (.int .i64) (.int .i64)), .leaf)))
          (.first (o1 40 (.load false 1 (.t 39)))
          (.alt (oT ⟨some 46, .app 2 16 (.t 40) (.t 45), none⟩ (some ((.pair (.int .i64) (.int .i64)), .leaf)))
          (.first (o1 47 (.nilc (.t 36)))
          (.first (o1 48 (.fAddr 4 (.t 47)))
          (.alt (o0 ⟨none, .store 1 (.t 48) (.t 46), none⟩)
          .done
          .stop)))
          .stop))
          .stop))))))))))])))
        (.frame [4, 49, 50, 51, 52, 53, 54, 55, 56, 57, 58, 59, 60, 61, 62, 63, 64, 65, 66, 67, 68, 69, 70, 71, 72, 73, 74] [] false (.join [.sl 4 false (.sl (.int .i64)) (.node .own .leaf)]
        (.draw [(.first (o1 49 (.mv (.t 4)))
        (.first (o1 50 (.mv (.t 0)))
        (.first (o1 51 (.nilc (.t 50)))
        (.first (o1 52 (.fAddr 0 (.t 51)))
        (.first (o1 53 (.fAddr 0 (.t 52)))
        (.first (o1 54 (.load false 1 (.t 53)))
        (.first (o1 55 (.mv (.t 5)))
        (.first (o1 56 (.ixA 7 (.t 54) (.t 55)))
        (.first (o1 57 (.load true 7 (.t 56)))
        (.first (o1 58 (.mv (.t 0)))
        (.first (o1 59 (.nilc (.t 58)))
        (.first (o1 60 (.fAddr 3 (.t 59)))
        (.first (o1 61 (.load false 1 (.t 60)))
        (.first (o1 62 (.bin .eql (.t 61) (.c (.int .i64 0))))
        (.first (o1 63 (.mv (.t 0)))
        (.first (o1 64 (.nilc (.t 63)))
        (.first (o1 65 (.fAddr 3 (.t 64)))
        (.first (o1 66 (.load false 1 (.t 65)))
        (.first (o1 67 (.mv (.t 0)))
        (.first (o1 68 (.nilc (.t 67)))
        (.first (o1 69 (.fAddr 2 (.t 68)))
        (.first (o1 70 (.load false 1 (.t 69)))
        (.first (o1 71 (.lenS (.t 70)))
        (.first (o1 72 (.bin .eql (.t 66) (.t 71)))
        (.alt (oS ⟨some 73, .call "mergelens/automaton.Steps" [(.t 57), (.t 62), (.t 72)], none⟩ S_automaton_Steps)
        (.alt (oT ⟨some 74, .app 1 8 (.t 49) (.t 73), none⟩ (some ((.int .i64), .leaf)))
        (.alt (o1 4 (.asg (.t 74)))
        .done
        .stop)
        .stop)
        .stop)))))))))))))))))))))))))]))))))))))))))))))
def F_search_machine_add : AFn := ⟨ "(*mergelens/search.machine).add", t_search_machine_add.erase, [], 2⟩
def W_search_machine_add (P : Program) (x : (search_machine × (Int × Int))) (K : Unit → search_machine → Prop) : Prop :=
  JoinW (D := search_machine) (fun J1 => LoopW (D := ((List Int) × search_machine)) (([x.2.1] : List Int), ((x.1.1.1, x.1.1.2), (x.1.2.1, (x.1.2.2.1, (x.1.2.2.2.1, x.1.2.2.2.2))))) (fun (d3 : ((List Int) × search_machine)) J4 => (((decide (((List.length d3.1 : Nat) : Int) > (0 : Int))) = true → JoinW (D := ((List Int) × search_machine)) (fun J5 => (0 ≤ (IntKind.i64.wrap (((List.length d3.1 : Nat) : Int) - (1 : Int))) ∧ (IntKind.i64.wrap (((List.length d3.1 : Nat) : Int) - (1 : Int))) < ((List.length d3.1 : Nat) : Int)) ∧
  ((Int.toNat (IntKind.i64.wrap (((List.length d3.1 : Nat) : Int) - (1 : Int)))) < List.length d3.1) ∧
  (0 ≤ (IntKind.i64.wrap (((List.length d3.1 : Nat) : Int) - (1 : Int))) ∧ (IntKind.i64.wrap (((List.length d3.1 : Nat) : Int) - (1 : Int))) ≤ ((List.length d3.1 : Nat) : Int)) ∧
  (0 + (Int.toNat (IntKind.i64.wrap (((List.length d3.1 : Nat) : Int) - (1 : Int)))) ≤ List.length d3.1) ∧
  (0 ≤ (List.getD d3.1 (Int.toNat (IntKind.i64.wrap (((List.length d3.1 : Nat) : Int) - (1 : Int)))) (0 : Int)) ∧ (List.getD d3.1 (Int.toNat (IntKind.i64.wrap (((List.length d3.1 : Nat) : Int) - (1 : Int)))) (0 : Int)) < ((List.length d3.2.2.2.2.2 : Nat) : Int)) ∧
  ((Int.toNat (List.getD d3.1 (Int.toNat (IntKind.i64.wrap (((List.length d3.1 : Nat) : Int) - (1 : Int)))) (0 : Int))) < List.length d3.2.2.2.2.2) ∧
  (((List.getD d3.2.2.2.2.2 (Int.toNat (List.getD d3.1 (Int.toNat (IntKind.i64.wrap (((List.length d3.1 : Nat) : Int) - (1 : Int)))) (0 : Int))) false) = true → J5 ((List.take (Int.toNat (IntKind.i64.wrap (((List.length d3.1 : Nat) : Int) - (1 : Int)))) (List.drop 0 d3.1)), ((d3.2.1.1, d3.2.1.2), (d3.2.2.1, (d3.2.2.2.1, (d3.2.2.2.2.1, d3.2.2.2.2.2)))))) ∧ ((List.getD d3.2.2.2.2.2 (Int.toNat (List.getD d3.1 (Int.toNat (IntKind.i64.wrap (((List.length d3.1 : Nat) : Int) - (1 : Int)))) (0 : Int))) false) = false → (0 ≤ (List.getD d3.1 (Int.toNat (IntKind.i64.wrap (((List.length d3.1 : Nat) : Int) - (1 : Int)))) (0 : Int)) ∧ (List.getD d3.1 (Int.toNat (IntKind.i64.wrap (((List.length d3.1 : Nat) : Int) - (1 : Int)))) (0 : Int)) < ((List.length d3.2.2.2.2.2 : Nat) : Int)) ∧
  ((Int.toNat (List.getD d3.1 (Int.toNat (IntKind.i64.wrap (((List.length d3.1 : Nat) : Int) - (1 : Int)))) (0 : Int))) < List.length d3.2.2.2.2.2) ∧
  JoinW (D := search_machine) (fun J7 => (((((List.length d3.2.2.2.2.1 + List.length ([((List.getD d3.1 (Int.toNat (IntKind.i64.wrap (((List.length d3.1 : Nat) : Int) - (1 : Int)))) (0 : Int)), x.2.2)] : List (Int × Int))) * 16 ≤ 140737488355328) ∧
  (J7 ((d3.2.1.1, d3.2.1.2), (d3.2.2.1, (d3.2.2.2.1, ((d3.2.2.2.2.1 ++ ([((List.getD d3.1 (Int.toNat (IntKind.i64.wrap (((List.length d3.1 : Nat) : Int) - (1 : Int)))) (0 : Int)), x.2.2)] : List (Int × Int))), (List.set d3.2.2.2.2.2 (Int.toNat (List.getD d3.1 (Int.toNat (IntKind.i64.wrap (((List.length d3.1 : Nat) : Int) - (1 : Int)))) (0 : Int))) true)))))) ∧ (True)) ∧ (True)) ∧ (True)) ∧ (((((List.length d3.2.2.2.2.1 + List.length ([((List.getD d3.1 (Int.toNat (IntKind.i64.wrap (((List.length d3.1 : Nat) : Int) - (1 : Int)))) (0 : Int)), x.2.2)] : List (Int × Int))) * 16 ≤ 140737488355328) ∧
  (J7 ((d3.2.1.1, d3.2.1.2), (d3.2.2.1, (d3.2.2.2.1, ((d3.2.2.2.2.1 ++ ([((List.getD d3.1 (Int.toNat (IntKind.i64.wrap (((List.length d3.1 : Nat) : Int) - (1 : Int)))) (0 : Int)), x.2.2)] : List (Int × Int))), (List.set d3.2.2.2.2.2 (Int.toNat (List.getD d3.1 (Int.toNat (IntKind.i64.wrap (((List.length d3.1 : Nat) : Int) - (1 : Int)))) (0 : Int))) true)))))) ∧ (True)) ∧ (True)) ∧ (True))) (fun (d8 : search_machine) => JoinW (D := (List Int)) (fun J9 => (0 ≤ (List.getD d3.1 (Int.toNat (IntKind.i64.wrap (((List.length d3.1 : Nat) : Int) - (1 : Int)))) (0 : Int)) ∧ (List.getD d3.1 (Int.toNat (IntKind.i64.wrap (((List.length d3.1 : Nat) : Int) - (1 : Int)))) (0 : Int)) < ((List.length d8.1.1 : Nat) : Int)) ∧
  ((Int.toNat (List.getD d3.1 (Int.toNat (IntKind.i64.wrap (((List.length d3.1 : Nat) : Int) - (1 : Int)))) (0 : Int))) < List.length d8.1.1) ∧
  (Fn P "mergelens/automaton.Steps" S_automaton_Steps (((List.getD d8.1.1 (Int.toNat (List.getD d3.1 (Int.toNat (IntKind.i64.wrap (((List.length d3.1 : Nat) : Int) - (1 : Int)))) (0 : Int))) zState).1, (((List.getD d8.1.1 (Int.toNat (List.getD d3.1 (Int.toNat (IntKind.i64.wrap (((List.length d3.1 : Nat) : Int) - (1 : Int)))) (0 : Int))) zState).2.1.1, ((List.getD d8.1.1 (Int.toNat (List.getD d3.1 (Int.toNat (IntKind.i64.wrap (((List.length d3.1 : Nat) : Int) - (1 : Int)))) (0 : Int))) zState).2.1.2.1, ((List.getD d8.1.1 (Int.toNat (List.getD d3.1 (Int.toNat (IntKind.i64.wrap (((List.length d3.1 : Nat) : Int) - (1 : Int)))) (0 : Int))) zState).2.1.2.2.1, (List.getD d8.1.1 (Int.toNat (List.getD d3.1 (Int.toNat (IntKind.i64.wrap (((List.length d3.1 : Nat) : Int) - (1 : Int)))) (0 : Int))) zState).2.1.2.2.2))), ((List.getD d8.1.1 (Int.toNat (List.getD d3.1 (Int.toNat (IntKind.i64.wrap (((List.length d3.1 : Nat) : Int) - (1 : Int)))) (0 : Int))) zState).2.2.1, (List.getD d8.1.1 (Int.toNat (List.getD d3.1 (Int.toNat (IntKind.i64.wrap (((List.length d3.1 : Nat) : Int) - (1 : Int)))) (0 : Int))) zState).2.2.2))), ((d8.2.2.1 == (0 : Int)), (d8.2.2.1 == ((List.length d8.2.1 : Nat) : Int)))) (fun (d11 : (List Int)) (e12 : Unit) => (((List.length (List.take (Int.toNat (IntKind.i64.wrap (((List.length d3.1 : Nat) : Int) - (1 : Int)))) (List.drop 0 d3.1)) + List.length d11) * 8 ≤ 140737488355328) ∧
  (J9 ((List.take (Int.toNat (IntKind.i64.wrap (((List.length d3.1 : Nat) : Int) - (1 : Int)))) (List.drop 0 d3.1)) ++ d11)) ∧ (True)) ∧ (True))) ∧ (True)) (fun (d10 : (List Int)) => J5 (d10, ((d8.1.1, d8.1.2), (d8.2.1, (d8.2.2.1, (d8.2.2.2.1, d8.2.2.2.2)))))))))) (fun (d6 : ((List Int) × search_machine)) => J4 (d6.1, ((d6.2.1.1, d6.2.1.2), (d6.2.2.1, (d6.2.2.2.1, (d6.2.2.2.2.1, d6.2.2.2.2.2))))))) ∧ ((decide (((List.length d3.1 : Nat) : Int) > (0 : Int))) = false → J1 ((d3.2.1.1, d3.2.1.2), (d3.2.2.1, (d3.2.2.2.1, (d3.2.2.2.2.1, d3.2.2.2.2.2)))))))) (fun (d2 : search_machine) => K () ((d2.1.1, d2.1.2), (d2.2.1, (d2.2.2.1, (d2.2.2.2.1, d2.2.2.2.2)))))
theorem fn_search_machine_add {P : Program} (h : Has P F_search_machine_add) {x : DP S_search_machine_add.ps} {K : DP S_search_machine_add.rs → DP (ptrs S_search_machine_add.ps) → Prop} (hw : W_search_machine_add P x K) : Fn P "(*mergelens/search.machine).add" S_search_machine_add x K :=
  fn_of (c := t_search_machine_add) h rfl rfl (by kernel_rfl) (Eq.mpr (show liftT P F_search_machine_add S_search_machine_add t_search_machine_add x K = W_search_machine_add P x K by kernel_rfl) hw)


def t_search_machine_read : TCode :=
  (.seq
    (.frame [2, 7, 8, 9, 10, 11, 12, 13, 14, 15] [] false (.join [.sl 2 false (.int .u8) .leaf]
    (.draw [(.first (o1 7 (.mv (.t 0)))
    (.first (o1 8 (.nilc (.t 7)))
    (.first (o1 9 (.fAddr 2 (.t 8)))
    (.first (o1 10 (.load false 1 (.t 9)))
    (.first (o1 11 (.mv (.t 0)))
    (.first (o1 12 (.nilc (.t 11)))
    (.first (o1 13 (.fAddr 3 (.t 12)))
    (.first (o1 14 (.load false 1 (.t 13)))
    (.first (o1 15 (.ixS (.t 10) (.t 14)))
    (.alt (o1 2 (.asg (.t 15)))
    .done
    .stop))))))))))])))
  (.seq
    (.region [o1 16 (.mv (.t 0)),
      o1 17 (.nilc (.t 16)),
      o1 18 (.fAddr 3 (.t 17)),
      o1 19 (.load false 1 (.t 18)),
      o1 20 (.bin .add (.t 19) (.c (.int .i64 1))),
      o1 21 (.nilc (.t 16)),
      o1 22 (.fAddr 3 (.t 21)),
      o0 ⟨none, .store 1 (.t 22) (.t 20), none⟩])
  (.seq
    (.region [o1 23 (.mv (.t 0)),
      o1 24 (.nilc (.t 23)),
      o1 25 (.fAddr 4 (.t 24)),
      o1 26 (.load false 1 (.t 25)),
      o1 3 (.asg (.t 26))])
  (.seq
    (.frame [27, 28, 29, 30, 31, 32, 33, 34, 35, 36, 37, 38, 39] [0] true (.join [.bx 0 bsearch_machine (.pair (.pair (.node .imm .leaf) .leaf) (.pair .leaf (.pair .leaf (.pair (.node .own .leaf) (.node .own .leaf)))))]
    (.draw [(.first (o1 27 (.mv (.t 0)))
    (.first (o1 28 (.mv (.t 0)))
    (.first (o1 29 (.mv (.t 0)))
    (.first (o1 30 (.nilc (.t 29)))
    (.first (o1 31 (.fAddr 0 (.t 30)))
    (.first (o1 32 (.fAddr 0 (.t 31)))
    (.first (o1 33 (.load false 1 (.t 32)))
    (.first (o1 34 (.lenK (.t 33)))
    (.first (o1 36 (.nilc (.t 27)))
    (.first (o1 37 (.fAddr 4 (.t 36)))
    (.alt (oT ⟨some 35, .mkSl 1 1 [(.bool false)] (.t 34) (.t 34), none⟩ (some (.bool, .leaf)))
    (.alt (o0 ⟨none, .store 1 (.t 37) (.c (.slice none 0 0)), none⟩)
    (.first (o1 38 (.nilc (.t 28)))
    (.first (o1 39 (.fAddr 5 (.t 38)))
    (.alt (o0 ⟨none, .store 1 (.t 39) (.t 35), none⟩)
    .done
    .stop)))
    .stop)
    (.alt (o0 ⟨none, .store 1 (.t 37) (.c (.slice none 0 0)), none⟩)
    (.alt (oT ⟨some 35, .mkSl 1 1 [(.bool false)] (.t 34) (.t 34), none⟩ (some (.bool, .leaf)))
    (.first (o1 38 (.nilc (.t 28)))
    (.first (o1 39 (.fAddr 5 (.t 38)))
    (.alt (o0 ⟨none, .store 1 (.t 39) (.t 35), none⟩)
    .done
    .stop)))
    .stop)
    .stop))))))))))))])))
  (.seq
    (.region [o1 40 (.mv (.t 3)),
      o1 41 (.lenK (.t 40)),
      o1 42 (.mv (.c (.int .i64 0)))])
  (.frame [5, 6, 42, 43, 44, 45, 46, 47, 48, 49, 50, 51, 52, 53, 54, 55, 56, 57, 58, 59, 60, 61, 62, 63, 64, 65, 66, 67, 68, 69, 70, 71, 72, 73, 74, 75, 76, 77] [0, 1005, 1006] true (.join [.bx 0 bsearch_machine (.pair (.pair (.node .imm .leaf) .leaf) (.pair .leaf (.pair .leaf (.pair (.node .own .leaf) (.node .own .leaf)))))]
  (.block 0
    (.loop [.sl 42 false (.int .i64) .leaf, .bx 0 bsearch_machine (.pair (.pair (.node .imm .leaf) .leaf) (.pair .leaf (.pair .leaf (.pair (.node .own .leaf) (.node .own .leaf)))))]
      (.seq
        (.region [o1 43 (.bin .lss (.t 42) (.t 41))])
      (.seq
        (.cond (.t 43)
          .skip
          (.exit 0))
      (.seq
        (.frame [5, 6, 44, 45, 46, 47, 48, 49, 50, 51, 52, 53, 54, 55, 56, 57, 58, 59, 60, 61, 62, 63, 64, 65, 66, 67, 68, 69, 70, 71, 72, 73, 74, 75, 76] [0, 1005, 1006] true (.join [.bx 0 bsearch_machine (.pair (.pair (.node .imm .leaf) .leaf) (.pair .leaf (.pair .leaf (.pair (.node .own .leaf) (.node .own .leaf)))))]
        (.block 1
          (.seq
            (.region [o1 44 (.ixA 2 (.t 40) (.t 42)),
              o1 45 (.load true 2 (.t 44)),
              o1 5 (.alloc [(.int .i64 0), (.int .i64 0)]),
              o0 ⟨none, .store 2 (.t 5) (.t 45), none⟩])
          (.seq
            (.frame [6, 46, 47, 48, 49, 50, 51, 52, 53, 54] [1006] false (.join [.pt 6 1006 0, .bx 1006 bState .leaf]
            (.draw [(.first (o1 46 (.mv (.t 0)))
            (.first (o1 47 (.nilc (.t 46)))
            (.first (o1 48 (.fAddr 0 (.t 47)))
            (.first (o1 49 (.fAddr 0 (.t 48)))
            (.first (o1 51 (.fAddr 0 (.t 5)))
            (.alt (o1 50 (.load false 1 (.t 49)))
            (.alt (o1 52 (.load false 1 (.t 51)))
            (.first (o1 53 (.ixA 7 (.t 50) (.t 52)))
            (.alt (o1 54 (.load true 7 (.t 53)))
            (.alt (o1 6 (.alloc [(.int .i64 0), (.int .u64 0), (.int .u64 0), (.int .u64 0), (.int .u64 0), (.int .i64 0), (.int .i64 0)]))
            (.alt (o0 ⟨none, .store 7 (.t 6) (.t 54), none⟩)
            .done
            .stop)
            .stop)
            (.alt (o1 6 (.alloc [(.int .i64 0), (.int .u64 0), (.int .u64 0), (.int .u64 0), (.int .u64 0), (.int .i64 0), (.int .i64 0)]))
            (.first (o1 54 (.load true 7 (.t 53)))
            (.alt (o0 ⟨none, .store 7 (.t 6) (.t 54), none⟩)
            .done
            .stop))
            .stop)))
            (.alt (o1 6 (.alloc [(.int .i64 0), (.int .u64 0), (.int .u64 0), (.int .u64 0), (.int .u64 0), (.int .i64 0), (.int .i64 0)]))
            (.first (o1 52 (.load false 1 (.t 51)))
            (.first (o1 53 (.ixA 7 (.t 50) (.t 52)))
            (.first (o1 54 (.load true 7 (.t 53)))
            (.alt (o0 ⟨none, .store 7 (.t 6) (.t 54), none⟩)
            .done
            .stop))))
            .stop))
            (.alt (o1 52 (.load false 1 (.t 51)))
            (.alt (o1 50 (.load false 1 (.t 49)))
            (.first (o1 53 (.ixA 7 (.t 50) (.t 52)))
            (.alt (o1 54 (.load true 7 (.t 53)))
            (.alt (o1 6 (.alloc [(.int .i64 0), (.int .u64 0), (.int .u64 0), (.int .u64 0), (.int .u64 0), (.int .i64 0), (.int .i64 0)]))
            (.alt (o0 ⟨none, .store 7 (.t 6) (.t 54), none⟩)
            .done
            .stop)
            .stop)
            (.alt (o1 6 (.alloc [(.int .i64 0), (.int .u64 0), (.int .u64 0), (.int .u64 0), (.int .u64 0), (.int .i64 0), (.int .i64 0)]))
            (.first (o1 54 (.load true 7 (.t 53)))
            (.alt (o0 ⟨none, .store 7 (.t 6) (.t 54), none⟩)
            .done
            .stop))
            .stop)))
            (.alt (o1 6 (.alloc [(.int .i64 0), (.int .u64 0), (.int .u64 0), (.int .u64 0), (.int .u64 0), (.int .i64 0), (.int .i64 0)]))
            (.first (o1 50 (.load false 1 (.t 49)))
            (.first (o1 53 (.ixA 7 (.t 50) (.t 52)))
            (.first (o1 54 (.load true 7 (.t 53)))
            (.alt (o0 ⟨none, .store 7 (.t 6) (.t 54), none⟩)
            .done
            .stop))))
            .stop))
            (.alt (o1 6 (.alloc [(.int .i64 0), (.int .u64 0), (.int .u64 0), (.int .u64 0), (.int .u64 0), (.int .i64 0), (.int .i64 0)]))
            (.first (o1 50 (.load false 1 (.t 49)))
            (.first (o1 52 (.load false 1 (.t 51)))
            (.first (o1 53 (.ixA 7 (.t 50) (.t 52)))
            (.first (o1 54 (.load true 7 (.t 53)))
            (.alt (o0 ⟨none, .store 7 (.t 6) (.t 54), none⟩)
            .done
            .stop)))))
            .stop))))))))])))
          (.seq
            (.region [o1 55 (.fAddr 0 (.t 6)),
              o1 56 (.load false 1 (.t 55)),
              o1 57 (.bin .eql (.t 56) (.c (.int .i64 0))),
              o1 58 (.mv (.t 57)),
              o0 ⟨some 59, .mv (.t 2), some (58, true)⟩,
              o0 ⟨some 60, .bin .quo (.t 59) (.c (.int .u8 64)), some (58, true)⟩,
              o0 ⟨some 61, .fAddr 1 (.t 6), some (58, true)⟩,
              o0 ⟨some 62, .ixAr 4 1 (.t 61) (.t 60), some (58, true)⟩,
              o0 ⟨some 63, .load false 1 (.t 62), some (58, true)⟩,
              o0 ⟨some 64, .mv (.t 2), some (58, true)⟩,
              o0 ⟨some 65, .bin .rem (.t 64) (.c (.int .u8 64)), some (58, true)⟩,
              o0 ⟨some 66, .bin .shr (.t 63) (.t 65), some (58, true)⟩,
              o0 ⟨some 67, .bin .and (.t 66) (.c (.int .u64 1)), some (58, true)⟩,
              o0 ⟨some 68, .bin .eql (.t 67) (.c (.int .u64 1)), some (58, true)⟩,
              o1 69 (.pick (.t 58) (.t 68) (.c (.bool false)))])
          (.frame [70, 71, 72, 73, 74, 75, 76] [0] true (.join [.bx 0 bsearch_machine (.pair (.pair (.node .imm .leaf) .leaf) (.pair .leaf (.pair .leaf (.pair (.node .own .leaf) (.node .own .leaf)))))]
          (.cond (.t 69)
            (.region [o1 70 (.mv (.t 0)),
              o1 71 (.fAddr 5 (.t 6)),
              o1 72 (.load false 1 (.t 71)),
              o1 73 (.fAddr 1 (.t 5)),
              o1 74 (.load false 1 (.t 73)),
              o1 75 (.build [(.int .i64 0), (.int .i64 0)] [(0, 1, (.t 72)), (1, 1, (.t 74))]),
              oS ⟨some 76, .call "(*mergelens/search.machine).add" [(.t 70), (.t 75)], none⟩ S_search_machine_add])
            .skip)))))))))
      (.region [o1 77 (.bin .add (.t 42) (.c (.int .i64 1))),
        o1 42 (.mv (.t 77))])))))))))))))
def F_search_machine_read : AFn := ⟨ "(*mergelens/search.machine).read", t_search_machine_read.erase, [], 1⟩
def W_search_machine_read (P : Program) (x : search_machine) (K : Unit → search_machine → Prop) : Prop :=
  JoinW (D := Int) (fun J1 => (0 ≤ x.2.2.1 ∧ x.2.2.1 < ((List.length x.2.1 : Nat) : Int)) ∧
  (J1 ((UInt8.toNat (List.getD x.2.1 (Int.toNat x.2.2.1) 0) : Nat) : Int)) ∧ (True)) (fun (d2 : Int) => JoinW (D := search_machine) (fun J3 => ((0 ≤ ((List.length x.1.1 : Nat) : Int) ∧ ((List.length x.1.1 : Nat) : Int) ≤ ((List.length x.1.1 : Nat) : Int) ∧ ((1 : Nat) : Int) * ((List.length x.1.1 : Nat) : Int) ≤ 281474976710656) ∧
  ((J3 ((x.1.1, x.1.2), (x.2.1, ((IntKind.i64.wrap (x.2.2.1 + (1 : Int))), ([], (List.replicate (Int.toNat ((List.length x.1.1 : Nat) : Int)) false)))))) ∧ (True)) ∧ (True)) ∧ ((((0 ≤ ((List.length x.1.1 : Nat) : Int) ∧ ((List.length x.1.1 : Nat) : Int) ≤ ((List.length x.1.1 : Nat) : Int) ∧ ((1 : Nat) : Int) * ((List.length x.1.1 : Nat) : Int) ≤ 281474976710656) ∧
  (J3 ((x.1.1, x.1.2), (x.2.1, ((IntKind.i64.wrap (x.2.2.1 + (1 : Int))), ([], (List.replicate (Int.toNat ((List.length x.1.1 : Nat) : Int)) false)))))) ∧ (True)) ∧ (True)) ∧ (True))) (fun (d4 : search_machine) => JoinW (D := search_machine) (fun J5 => LoopW (D := (Int × search_machine)) ((0 : Int), ((d4.1.1, d4.1.2), (d4.2.1, (d4.2.2.1, (d4.2.2.2.1, d4.2.2.2.2))))) (fun (d7 : (Int × search_machine)) J8 => (((decide (d7.1 < ((List.length x.2.2.2.1 : Nat) : Int))) = true → JoinW (D := search_machine) (fun J9 => (0 ≤ d7.1 ∧ d7.1 < ((List.length x.2.2.2.1 : Nat) : Int)) ∧
  ((Int.toNat d7.1) < List.length x.2.2.2.1) ∧
  JoinW (D := State) (fun J11 => (((0 ≤ (List.getD x.2.2.2.1 (Int.toNat d7.1) ((0 : Int), (0 : Int))).1 ∧ (List.getD x.2.2.2.1 (Int.toNat d7.1) ((0 : Int), (0 : Int))).1 < ((List.length d7.2.1.1 : Nat) : Int)) ∧
  (((Int.toNat (List.getD x.2.2.2.1 (Int.toNat d7.1) ((0 : Int), (0 : Int))).1) < List.length d7.2.1.1) ∧
  ((J11 ((List.getD d7.2.1.1 (Int.toNat (List.getD x.2.2.2.1 (Int.toNat d7.1) ((0 : Int), (0 : Int))).1) zState).1, (((List.getD d7.2.1.1 (Int.toNat (List.getD x.2.2.2.1 (Int.toNat d7.1) ((0 : Int), (0 : Int))).1) zState).2.1.1, ((List.getD d7.2.1.1 (Int.toNat (List.getD x.2.2.2.1 (Int.toNat d7.1) ((0 : Int), (0 : Int))).1) zState).2.1.2.1, ((List.getD d7.2.1.1 (Int.toNat (List.getD x.2.2.2.1 (Int.toNat d7.1) ((0 : Int), (0 : Int))).1) zState).2.1.2.2.1, (List.getD d7.2.1.1 (Int.toNat (List.getD x.2.2.2.1 (Int.toNat d7.1) ((0 : Int), (0 : Int))).1) zState).2.1.2.2.2))), ((List.getD d7.2.1.1 (Int.toNat (List.getD x.2.2.2.1 (Int.toNat d7.1) ((0 : Int), (0 : Int))).1) zState).2.2.1, (List.getD d7.2.1.1 (Int.toNat (List.getD x.2.2.2.1 (Int.toNat d7.1) ((0 : Int), (0 : Int))).1) zState).2.2.2)))) ∧ (True)) ∧ (True)) ∧ ((((Int.toNat (List.getD x.2.2.2.1 (Int.toNat d7.1) ((0 : Int), (0 : Int))).1) < List.length d7.2.1.1) ∧
  (J11 ((List.getD d7.2.1.1 (Int.toNat (List.getD x.2.2.2.1 (Int.toNat d7.1) ((0 : Int), (0 : Int))).1) zState).1, (((List.getD d7.2.1.1 (Int.toNat (List.getD x.2.2.2.1 (Int.toNat d7.1) ((0 : Int), (0 : Int))).1) zState).2.1.1, ((List.getD d7.2.1.1 (Int.toNat (List.getD x.2.2.2.1 (Int.toNat d7.1) ((0 : Int), (0 : Int))).1) zState).2.1.2.1, ((List.getD d7.2.1.1 (Int.toNat (List.getD x.2.2.2.1 (Int.toNat d7.1) ((0 : Int), (0 : Int))).1) zState).2.1.2.2.1, (List.getD d7.2.1.1 (Int.toNat (List.getD x.2.2.2.1 (Int.toNat d7.1) ((0 : Int), (0 : Int))).1) zState).2.1.2.2.2))), ((List.getD d7.2.1.1 (Int.toNat (List.getD x.2.2.2.1 (Int.toNat d7.1) ((0 : Int), (0 : Int))).1) zState).2.2.1, (List.getD d7.2.1.1 (Int.toNat (List.getD x.2.2.2.1 (Int.toNat d7.1) ((0 : Int), (0 : Int))).1) zState).2.2.2)))) ∧ (True)) ∧ (True))) ∧ (((0 ≤ (List.getD x.2.2.2.1 (Int.toNat d7.1) ((0 : Int), (0 : Int))).1 ∧ (List.getD x.2.2.2.1 (Int.toNat d7.1) ((0 : Int), (0 : Int))).1 < ((List.length d7.2.1.1 : Nat) : Int)) ∧
  ((Int.toNat (List.getD x.2.2.2.1 (Int.toNat d7.1) ((0 : Int), (0 : Int))).1) < List.length d7.2.1.1) ∧
  (J11 ((List.getD d7.2.1.1 (Int.toNat (List.getD x.2.2.2.1 (Int.toNat d7.1) ((0 : Int), (0 : Int))).1) zState).1, (((List.getD d7.2.1.1 (Int.toNat (List.getD x.2.2.2.1 (Int.toNat d7.1) ((0 : Int), (0 : Int))).1) zState).2.1.1, ((List.getD d7.2.1.1 (Int.toNat (List.getD x.2.2.2.1 (Int.toNat d7.1) ((0 : Int), (0 : Int))).1) zState).2.1.2.1, ((List.getD d7.2.1.1 (Int.toNat (List.getD x.2.2.2.1 (Int.toNat d7.1) ((0 : Int), (0 : Int))).1) zState).2.1.2.2.1, (List.getD d7.2.1.1 (Int.toNat (List.getD x.2.2.2.1 (Int.toNat d7.1) ((0 : Int), (0 : Int))).1) zState).2.1.2.2.2))), ((List.getD d7.2.1.1 (Int.toNat (List.getD x.2.2.2.1 (Int.toNat d7.1) ((0 : Int), (0 : Int))).1) zState).2.2.1, (List.getD d7.2.1.1 (Int.toNat (List.getD x.2.2.2.1 (Int.toNat d7.1) ((0 : Int), (0 : Int))).1) zState).2.2.2)))) ∧ (True)) ∧ (True))) ∧ ((((0 ≤ (List.getD x.2.2.2.1 (Int.toNat d7.1) ((0 : Int), (0 : Int))).1 ∧ (List.getD x.2.2.2.1 (Int.toNat d7.1) ((0 : Int), (0 : Int))).1 < ((List.length d7.2.1.1 : Nat) : Int)) ∧
  (((Int.toNat (List.getD x.2.2.2.1 (Int.toNat d7.1) ((0 : Int), (0 : Int))).1) < List.length d7.2.1.1) ∧
  ((J11 ((List.getD d7.2.1.1 (Int.toNat (List.getD x.2.2.2.1 (Int.toNat d7.1) ((0 : Int), (0 : Int))).1) zState).1, (((List.getD d7.2.1.1 (Int.toNat (List.getD x.2.2.2.1 (Int.toNat d7.1) ((0 : Int), (0 : Int))).1) zState).2.1.1, ((List.getD d7.2.1.1 (Int.toNat (List.getD x.2.2.2.1 (Int.toNat d7.1) ((0 : Int), (0 : Int))).1) zState).2.1.2.1, ((List.getD d7.2.1.1 (Int.toNat (List.getD x.2.2.2.1 (Int.toNat d7.1) ((0 : Int), (0 : Int))).1) zState).2.1.2.2.1, (List.getD d7.2.1.1 (Int.toNat (List.getD x.2.2.2.1 (Int.toNat d7.1) ((0 : Int), (0 : Int))).1) zState).2.1.2.2.2))), ((List.getD d7.2.1.1 (Int.toNat (List.getD x.2.2.2.1 (Int.toNat d7.1) ((0 : Int), (0 : Int))).1) zState).2.2.1, (List.getD d7.2.1.1 (Int.toNat (List.getD x.2.2.2.1 (Int.toNat d7.1) ((0 : Int), (0 : Int))).1) zState).2.2.2)))) ∧ (True)) ∧ (True)) ∧ ((((Int.toNat (List.getD x.2.2.2.1 (Int.toNat d7.1) ((0 : Int), (0 : Int))).1) < List.length d7.2.1.1) ∧
  (J11 ((List.getD d7.2.1.1 (Int.toNat (List.getD x.2.2.2.1 (Int.toNat d7.1) ((0 : Int), (0 : Int))).1) zState).1, (((List.getD d7.2.1.1 (Int.toNat (List.getD x.2.2.2.1 (Int.toNat d7.1) ((0 : Int), (0 : Int))).1) zState).2.1.1, ((List.getD d7.2.1.1 (Int.toNat (List.getD x.2.2.2.1 (Int.toNat d7.1) ((0 : Int), (0 : Int))).1) zState).2.1.2.1, ((List.getD d7.2.1.1 (Int.toNat (List.getD x.2.2.2.1 (Int.toNat d7.1) ((0 : Int), (0 : Int))).1) zState).2.1.2.2.1, (List.getD d7.2.1.1 (Int.toNat (List.getD x.2.2.2.1 (Int.toNat d7.1) ((0 : Int), (0 : Int))).1) zState).2.1.2.2.2))), ((List.getD d7.2.1.1 (Int.toNat (List.getD x.2.2.2.1 (Int.toNat d7.1) ((0 : Int), (0 : Int))).1) zState).2.2.1, (List.getD d7.2.1.1 (Int.toNat (List.getD x.2.2.2.1 (Int.toNat d7.1) ((0 : Int), (0 : Int))).1) zState).2.2.2)))) ∧ (True)) ∧ (True))) ∧ (((0 ≤ (List.getD x.2.2.2.1 (Int.toNat d7.1) ((0 : Int), (0 : Int))).1 ∧ (List.getD x.2.2.2.1 (Int.toNat d7.1) ((0 : Int), (0 : Int))).1 < ((List.length d7.2.1.1 : Nat) : Int)) ∧
  ((Int.toNat (List.getD x.2.2.2.1 (Int.toNat d7.1) ((0 : Int), (0 : Int))).1) < List.length d7.2.1.1) ∧
  (J11 ((List.getD d7.2.1.1 (Int.toNat (List.getD x.2.2.2.1 (Int.toNat d7.1) ((0 : Int), (0 : Int))).1) zState).1, (((List.getD d7.2.1.1 (Int.toNat (List.getD x.2.2.2.1 (Int.toNat d7.1) ((0 : Int), (0 : Int))).1) zState).2.1.1, ((List.getD d7.2.1.1 (Int.toNat (List.getD x.2.2.2.1 (Int.toNat d7.1) ((0 : Int), (0 : Int))).1) zState).2.1.2.1, ((List.getD d7.2.1.1 (Int.toNat (List.getD x.2.2.2.1 (Int.toNat d7.1) ((0 : Int), (0 : Int))).1) zState).2.1.2.2.1, (List.getD d7.2.1.1 (Int.toNat (List.getD x.2.2.2.1 (Int.toNat d7.1) ((0 : Int), (0 : Int))).1) zState).2.1.2.2.2))), ((List.getD d7.2.1.1 (Int.toNat (List.getD x.2.2.2.1 (Int.toNat d7.1) ((0 : Int), (0 : Int))).1) zState).2.2.1, (List.getD d7.2.1.1 (Int.toNat (List.getD x.2.2.2.1 (Int.toNat d7.1) ((0 : Int), (0 : Int))).1) zState).2.2.2)))) ∧ (True)) ∧ (True))) ∧ (((0 ≤ (List.getD x.2.2.2.1 (Int.toNat d7.1) ((0 : Int), (0 : Int))).1 ∧ (List.getD x.2.2.2.1 (Int.toNat d7.1) ((0 : Int), (0 : Int))).1 < ((List.length d7.2.1.1 : Nat) : Int)) ∧
  ((Int.toNat (List.getD x.2.2.2.1 (Int.toNat d7.1) ((0 : Int), (0 : Int))).1) < List.length d7.2.1.1) ∧
  (J11 ((List.getD d7.2.1.1 (Int.toNat (List.getD x.2.2.2.1 (Int.toNat d7.1) ((0 : Int), (0 : Int))).1) zState).1, (((List.getD d7.2.1.1 (Int.toNat (List.getD x.2.2.2.1 (Int.toNat d7.1) ((0 : Int), (0 : Int))).1) zState).2.1.1, ((List.getD d7.2.1.1 (Int.toNat (List.getD x.2.2.2.1 (Int.toNat d7.1) ((0 : Int), (0 : Int))).1) zState).2.1.2.1, ((List.getD d7.2.1.1 (Int.toNat (List.getD x.2.2.2.1 (Int.toNat d7.1) ((0 : Int), (0 : Int))).1) zState).2.1.2.2.1, (List.getD d7.2.1.1 (Int.toNat (List.getD x.2.2.2.1 (Int.toNat d7.1) ((0 : Int), (0 : Int))).1) zState).2.1.2.2.2))), ((List.getD d7.2.1.1 (Int.toNat (List.getD x.2.2.2.1 (Int.toNat d7.1) ((0 : Int), (0 : Int))).1) zState).2.2.1, (List.getD d7.2.1.1 (Int.toNat (List.getD x.2.2.2.1 (Int.toNat d7.1) ((0 : Int), (0 : Int))).1) zState).2.2.2)))) ∧ (True)) ∧ (True)))) (fun (d12 : State) => (((d12.1 == (0 : Int)) = true → (64 : Int) ≠ 0)) ∧
  (((d12.1 == (0 : Int)) = true → 0 ≤ (IntKind.u8.wrap (Int.tdiv d2 (64 : Int))) ∧ (IntKind.u8.wrap (Int.tdiv d2 (64 : Int))) < ((4 : Nat) : Int))) ∧
  (((d12.1 == (0 : Int)) = true → (Int.toNat (IntKind.u8.wrap (Int.tdiv d2 (64 : Int)))) < 4)) ∧
  (((d12.1 == (0 : Int)) = true → (64 : Int) ≠ 0)) ∧
  (((d12.1 == (0 : Int)) = true → 0 ≤ (Int.tmod d2 (64 : Int)))) ∧
  JoinW (D := search_machine) (fun J13 => (((cond (d12.1 == (0 : Int)) ((IntKind.u64.wrap ((BitVec.toNat (BitVec.ofInt IntKind.u64.bits (Int.fdiv (List.getD [d12.2.1.1, d12.2.1.2.1, d12.2.1.2.2.1, d12.2.1.2.2.2] (Int.toNat (IntKind.u8.wrap (Int.tdiv d2 (64 : Int)))) (0 : Int)) (2 ^ (min (Int.toNat (Int.tmod d2 (64 : Int))) IntKind.u64.bits))) &&& BitVec.ofInt IntKind.u64.bits (1 : Int)) : Nat) : Int)) == (1 : Int)) false) = true → Fn P "(*mergelens/search.machine).add" S_search_machine_add (((d7.2.1.1, d7.2.1.2), (d7.2.2.1, (d7.2.2.2.1, (d7.2.2.2.2.1, d7.2.2.2.2.2)))), (d12.2.2.1, (List.getD x.2.2.2.1 (Int.toNat d7.1) ((0 : Int), (0 : Int))).2)) (fun (d15 : Unit) (e16 : search_machine) => J13 ((e16.1.1, e16.1.2), (e16.2.1, (e16.2.2.1, (e16.2.2.2.1, e16.2.2.2.2)))))) ∧ ((cond (d12.1 == (0 : Int)) ((IntKind.u64.wrap ((BitVec.toNat (BitVec.ofInt IntKind.u64.bits (Int.fdiv (List.getD [d12.2.1.1, d12.2.1.2.1, d12.2.1.2.2.1, d12.2.1.2.2.2] (Int.toNat (IntKind.u8.wrap (Int.tdiv d2 (64 : Int)))) (0 : Int)) (2 ^ (min (Int.toNat (Int.tmod d2 (64 : Int))) IntKind.u64.bits))) &&& BitVec.ofInt IntKind.u64.bits (1 : Int)) : Nat) : Int)) == (1 : Int)) false) = false → J13 ((d7.2.1.1, d7.2.1.2), (d7.2.2.1, (d7.2.2.2.1, (d7.2.2.2.2.1, d7.2.2.2.2.2))))))) (fun (d14 : search_machine) => J9 ((d14.1.1, d14.1.2), (d14.2.1, (d14.2.2.1, (d14.2.2.2.1, d14.2.2.2.2))))))) (fun (d10 : search_machine) => J8 ((IntKind.i64.wrap (d7.1 + (1 : Int))), ((d10.1.1, d10.1.2), (d10.2.1, (d10.2.2.1, (d10.2.2.2.1, d10.2.2.2.2))))))) ∧ ((decide (d7.1 < ((List.length x.2.2.2.1 : Nat) : Int))) = false → J5 ((d7.2.1.1, d7.2.1.2), (d7.2.2.1, (d7.2.2.2.1, (d7.2.2.2.2.1, d7.2.2.2.2.2)))))))) (fun (d6 : search_machine) => K () ((d6.1.1, d6.1.2), (d6.2.1, (d6.2.2.1, (d6.2.2.2.1, d6.2.2.2.2)))))))
theorem fn_search_machine_read {P : Program} (h : Has P F_search_machine_read) {x : DP S_search_machine_read.ps} {K : DP S_search_machine_read.rs → DP (ptrs S_search_machine_read.ps) → Prop} (hw : W_search_machine_read P x K) : Fn P "(*mergelens/search.machine).read" S_search_machine_read x K :=
  fn_of (c := t_search_machine_read) h rfl rfl (by kernel_rfl) (Eq.mpr (show liftT P F_search_machine_read S_search_machine_read t_search_machine_read x K = W_search_machine_read P x K by kernel_rfl) hw)

def t_search_machine_accepted : TCode :=
  (.seq
    (.region [o1 2 (.asg (.c (.int .i64 0)))])
  (.seq
    (.seq
      (.region [o1 5 (.mv (.t 0)),
        o1 6 (.nilc (.t 5)),
        o1 7 (.fAddr 4 (.t 6)),
        o1 8 (.load false 1 (.t 7)),
        o1 9 (.lenK (.t 8)),
        o1 10 (.mv (.c (.int .i64 0)))])
    (.frame [2, 4, 10, 11, 12, 13, 14, 15, 16, 17, 18, 19, 20, 21, 22, 23, 24, 25, 26, 27] [1004] false (.join [.sl 2 false (.int .i64) .leaf]
    (.block 0
      (.loop [.sl 2 false (.int .i64) .leaf, .sl 10 false (.int .i64) .leaf]
        (.seq
          (.region [o1 11 (.bin .lss (.t 10) (.t 9))])
        (.seq
          (.cond (.t 11)
            .skip
            (.exit 0))
        (.seq
          (.frame [2, 4, 12, 13, 14, 15, 16, 17, 18, 19, 20, 21, 22, 23, 24, 25, 26] [1004] false (.join [.sl 2 false (.int .i64) .leaf]
          (.block 1
            (.seq
              (.region [o1 12 (.ixA 2 (.t 8) (.t 10)),
                o1 13 (.load true 2 (.t 12)),
                o1 4 (.alloc [(.int .i64 0), (.int .i64 0)]),
                o0 ⟨none, .store 2 (.t 4) (.t 13), none⟩])
            (.seq
              (.draw [(.first (o1 14 (.mv (.t 0)))
              (.first (o1 15 (.nilc (.t 14)))
              (.first (o1 16 (.fAddr 0 (.t 15)))
              (.first (o1 17 (.fAddr 0 (.t 16)))
              (.first (o1 18 (.load false 1 (.t 17)))
              (.first (o1 19 (.fAddr 0 (.t 4)))
              (.first (o1 20 (.load false 1 (.t 19)))
              (.first (o1 21 (.ixA 7 (.t 18) (.t 20)))
              (.first (o1 22 (.fAddr 0 (.t 21)))
              (.first (o1 23 (.load false 1 (.t 22)))
              (.first (o1 24 (.bin .eql (.t 23) (.c (.int .i64 4))))
              .done)))))))))))])
            (.cond (.t 24)
              (.seq
                (.region [o1 25 (.fAddr 1 (.t 4)),
                  o1 26 (.load false 1 (.t 25)),
                  o1 2 (.asg (.t 26))])
              .ret)
              .skip))))))
        (.region [o1 27 (.bin .add (.t 10) (.c (.int .i64 1))),
          o1 10 (.mv (.t 27))])))))))))
  (.seq
    (.region [o1 2 (.asg (.c (.int .i64 (-1))))])
  .ret)))
def F_search_machine_accepted : AFn := ⟨ "(*mergelens/search.machine).accepted", t_search_machine_accepted.erase, [.tmp 2], 1⟩
def W_search_machine_accepted (P : Program) (x : search_machine) (K : Int → search_machine → Prop) : Prop :=
  JoinW (D := Int) (fun J1 => LoopW (D := (Int × Int)) ((0 : Int), (0 : Int)) (fun (d3 : (Int × Int)) J4 => (((decide (d3.2 < ((List.length x.2.2.2.1 : Nat) : Int))) = true → JoinW (D := Int) (fun J5 => (0 ≤ d3.2 ∧ d3.2 < ((List.length x.2.2.2.1 : Nat) : Int)) ∧
  ((Int.toNat d3.2) < List.length x.2.2.2.1) ∧
  (0 ≤ (List.getD x.2.2.2.1 (Int.toNat d3.2) ((0 : Int), (0 : Int))).1 ∧ (List.getD x.2.2.2.1 (Int.toNat d3.2) ((0 : Int), (0 : Int))).1 < ((List.length x.1.1 : Nat) : Int)) ∧
  ((Int.toNat (List.getD x.2.2.2.1 (Int.toNat d3.2) ((0 : Int), (0 : Int))).1) < List.length x.1.1) ∧
  ((((List.getD x.1.1 (Int.toNat (List.getD x.2.2.2.1 (Int.toNat d3.2) ((0 : Int), (0 : Int))).1) zState).1 == (4 : Int)) = true → K (List.getD x.2.2.2.1 (Int.toNat d3.2) ((0 : Int), (0 : Int))).2 ((x.1.1, x.1.2), (x.2.1, (x.2.2.1, (x.2.2.2.1, x.2.2.2.2))))) ∧ (((List.getD x.1.1 (Int.toNat (List.getD x.2.2.2.1 (Int.toNat d3.2) ((0 : Int), (0 : Int))).1) zState).1 == (4 : Int)) = false → J5 d3.1))) (fun (d6 : Int) => J4 (d6, (IntKind.i64.wrap (d3.2 + (1 : Int)))))) ∧ ((decide (d3.2 < ((List.length x.2.2.2.1 : Nat) : Int))) = false → J1 d3.1)))) (fun (d2 : Int) => K (-1 : Int) ((x.1.1, x.1.2), (x.2.1, (x.2.2.1, (x.2.2.2.1, x.2.2.2.2)))))
theorem fn_search_machine_accepted {P : Program} (h : Has P F_search_machine_accepted) {x : DP S_search_machine_accepted.ps} {K : DP S_search_machine_accepted.rs → DP (ptrs S_search_machine_accepted.ps) → Prop} (hw : W_search_machine_accepted P x K) : Fn P "(*mergelens/search.machine).accepted" S_search_machine_accepted x K :=
  fn_of (c := t_search_machine_accepted) h rfl rfl (by kernel_rfl) (Eq.mpr (show liftT P F_search_machine_accepted S_search_machine_accepted t_search_machine_accepted x K = W_search_machine_accepted P x K by kernel_rfl) hw)

def t_search_machine_keep : TCode :=
  (.seq
    (.region [o1 6 (.mv (.t 0)),
      o1 7 (.nilc (.t 6)),
      o1 8 (.fAddr 4 (.t 7)),
      o1 9 (.load false 1 (.t 8)),
      o1 10 (.lenK (.t 9)),
      o1 11 (.mv (.c (.int .i64 0)))])
  (.frame [4, 5, 9, 11, 12, 13, 14, 15, 16, 17, 18, 19, 20, 21, 22, 23, 24, 25, 26, 27, 28, 29] [0, 1005] true (.join [.bx 0 bsearch_machine (.pair (.pair (.node .imm .leaf) .leaf) (.pair .leaf (.pair .leaf (.pair (.node .own .leaf) (.node .own .leaf)))))]
  (.block 0
    (.loop [.rf 9 ⟨.obj 0 4, []⟩ .leaf (.pair (.int .i64) (.int .i64)), .sl 11 false (.int .i64) .leaf, .bx 0 bsearch_machine (.pair (.pair (.node .imm .leaf) .leaf) (.pair .leaf (.pair .leaf (.pair (.node .own .leaf) (.node .own .leaf)))))]
      (.seq
        (.region [o1 12 (.bin .lss (.t 11) (.t 10))])
      (.seq
        (.cond (.t 12)
          .skip
          (.exit 0))
      (.seq
        (.frame [4, 5, 9, 13, 14, 15, 16, 17, 18, 19, 20, 21, 22, 23, 24, 25, 26, 27, 28] [0, 1005] true (.join [.rf 9 ⟨.obj 0 4, []⟩ .leaf (.pair (.int .i64) (.int .i64)), .bx 0 bsearch_machine (.pair (.pair (.node .imm .leaf) .leaf) (.pair .leaf (.pair .leaf (.pair (.node .own .leaf) (.node .own .leaf)))))]
        (.block 1
          (.seq
            (.region [o1 13 (.mv (.t 11)),
              o1 14 (.ixA 2 (.t 9) (.t 11)),
              o1 15 (.load true 2 (.t 14)),
              o1 5 (.alloc [(.int .i64 0), (.int .i64 0)]),
              o1 4 (.asg (.t 13)),
              o0 ⟨none, .store 2 (.t 5) (.t 15), none⟩])
          (.seq
            (.region [o1 16 (.fAddr 1 (.t 5)),
              o1 17 (.load false 1 (.t 16)),
              o1 18 (.mv (.t 1)),
              o1 19 (.bin .gtr (.t 17) (.t 18))])
          (.cond (.t 19)
            (.seq
              (.region [o1 20 (.mv (.t 0)),
                o1 21 (.mv (.t 0)),
                o1 22 (.nilc (.t 21)),
                o1 23 (.fAddr 4 (.t 22)),
                o1 24 (.load false 1 (.t 23)),
                o1 25 (.mv (.t 4)),
                o1 26 (.slK 2 (.t 24) none (some (.t 25))),
                o1 27 (.nilc (.t 20)),
                o1 28 (.fAddr 4 (.t 27)),
                o0 ⟨none, .store 1 (.t 28) (.t 26), none⟩])
            .ret)
            .skip))))))
      (.region [o1 29 (.bin .add (.t 11) (.c (.int .i64 1))),
        o1 11 (.mv (.t 29))])))))))))
def F_search_machine_keep : AFn := ⟨ "(*mergelens/search.machine).keep", t_search_machine_keep.erase, [], 2⟩
def W_search_machine_keep (P : Program) (x : (search_machine × Int)) (K : Unit → search_machine → Prop) : Prop :=
  JoinW (D := search_machine) (fun J1 => LoopW (D := (Int × (Int × search_machine))) (((List.length x.1.2.2.2.1 : Nat) : Int), ((0 : Int), ((x.1.1.1, x.1.1.2), (x.1.2.1, (x.1.2.2.1, (x.1.2.2.2.1, x.1.2.2.2.2)))))) (fun (d3 : (Int × (Int × search_machine))) J4 => (((decide (d3.2.1 < ((List.length x.1.2.2.2.1 : Nat) : Int))) = true → JoinW (D := (Int × search_machine)) (fun J5 => (0 ≤ d3.2.1 ∧ d3.2.1 < (((Int.toNat d3.1) : Nat) : Int)) ∧
  ((0 + Int.toNat d3.2.1) < List.length d3.2.2.2.2.2.1) ∧
  (((decide ((List.getD d3.2.2.2.2.2.1 (0 + Int.toNat d3.2.1) ((0 : Int), (0 : Int))).2 > x.2)) = true → (0 ≤ d3.2.1 ∧ d3.2.1 ≤ ((List.length d3.2.2.2.2.2.1 : Nat) : Int)) ∧
  (0 + (Int.toNat d3.2.1) ≤ List.length d3.2.2.2.2.2.1) ∧
  K () ((d3.2.2.1.1, d3.2.2.1.2), (d3.2.2.2.1, (d3.2.2.2.2.1, ((List.take (Int.toNat d3.2.1) (List.drop 0 d3.2.2.2.2.2.1)), d3.2.2.2.2.2.2))))) ∧ ((decide ((List.getD d3.2.2.2.2.2.1 (0 + Int.toNat d3.2.1) ((0 : Int), (0 : Int))).2 > x.2)) = false → J5 ((((Int.toNat d3.1) : Nat) : Int), ((d3.2.2.1.1, d3.2.2.1.2), (d3.2.2.2.1, (d3.2.2.2.2.1, (d3.2.2.2.2.2.1, d3.2.2.2.2.2.2)))))))) (fun (d6 : (Int × search_machine)) => J4 ((((Int.toNat d6.1) : Nat) : Int), ((IntKind.i64.wrap (d3.2.1 + (1 : Int))), ((d6.2.1.1, d6.2.1.2), (d6.2.2.1, (d6.2.2.2.1, (d6.2.2.2.2.1, d6.2.2.2.2.2)))))))) ∧ ((decide (d3.2.1 < ((List.length x.1.2.2.2.1 : Nat) : Int))) = false → J1 ((d3.2.2.1.1, d3.2.2.1.2), (d3.2.2.2.1, (d3.2.2.2.2.1, (d3.2.2.2.2.2.1, d3.2.2.2.2.2.2)))))))) (fun (d2 : search_machine) => K () ((d2.1.1, d2.1.2), (d2.2.1, (d2.2.2.1, (d2.2.2.2.1, d2.2.2.2.2)))))
theorem fn_search_machine_keep {P : Program} (h : Has P F_search_machine_keep) {x : DP S_search_machine_keep.ps} {K : DP S_search_machine_keep.rs → DP (ptrs S_search_machine_keep.ps) → Prop} (hw : W_search_machine_keep P x K) : Fn P "(*mergelens/search.machine).keep" S_search_machine_keep x K :=
  fn_of (c := t_search_machine_keep) h rfl rfl (by kernel_rfl) (Eq.mpr (show liftT P F_search_machine_keep S_search_machine_keep t_search_machine_keep x K = W_search_machine_keep P x K by kernel_rfl) hw)

def t_search_find : TCode :=
  (.seq
    (.region [o1 3 (.box (.t 0)),
      o1 6 (.alloc [(.int .i64 0), (.int .i64 0)]),
      o1 7 (.asg (.c (.bool false)))])
  (.seq
    (.region [o1 12 (.load true 2 (.t 3)),
      o1 13 (.mv (.t 1)),
      o1 14 (.mv (.t 2)),
      oS ⟨some 15, .call "mergelens/search.start" [(.t 12), (.t 13), (.t 14)], none⟩ S_search_start,
      o1 8 (.asg (.t 15))])
  (.seq
    (.region [o1 9 (.alloc [(.int .i64 0), (.int .i64 0)])])
  (.seq
    (.region [o1 10 (.asg (.c (.bool false)))])
  (.frame [7, 10, 11, 16, 17, 18, 19, 20, 21, 22, 23, 24, 25, 26, 27, 28, 29, 30, 31, 32, 33, 34, 35, 36, 37, 38, 39, 40, 41, 42, 43, 44, 45, 46, 47, 48, 49, 50, 51, 52, 53, 54, 55, 56, 57, 58, 59, 60, 61] [1006, 1009, 1015] true
  (.block 0
    (.loop [.sl 7 false .bool .leaf, .sl 10 false .bool .leaf, .bx 1006 (.pair (.int .i64) (.int .i64)) .leaf, .bx 1009 (.pair (.int .i64) (.int .i64)) .leaf, .bx 1015 bsearch_machine (.pair (.pair (.node .imm .leaf) .leaf) (.pair .leaf (.pair .leaf (.pair (.node .own .leaf) (.node .own .leaf)))))]
      (.frame [7, 10, 11, 16, 17, 18, 19, 20, 21, 22, 23, 24, 25, 26, 27, 28, 29, 30, 31, 32, 33, 34, 35, 36, 37, 38, 39, 40, 41, 42, 43, 44, 45, 46, 47, 48, 49, 50, 51, 52, 53, 54, 55, 56, 57, 58, 59, 60, 61] [1006, 1009, 1015] true (.join [.sl 7 false .bool .leaf, .sl 10 false .bool .leaf, .bx 1006 (.pair (.int .i64) (.int .i64)) .leaf, .bx 1009 (.pair (.int .i64) (.int .i64)) .leaf, .bx 1015 bsearch_machine (.pair (.pair (.node .imm .leaf) .leaf) (.pair .leaf (.pair .leaf (.pair (.node .own .leaf) (.node .own .leaf)))))]
      (.block 1
        (.seq
          (.seq
            (.region [o1 16 (.mv (.t 10)),
              o1 17 (.un .not (.t 16))])
          (.frame [18, 19, 20, 21, 22, 23, 24, 25, 26] [1015] true (.join [.bx 1015 bsearch_machine (.pair (.pair (.node .imm .leaf) .leaf) (.pair .leaf (.pair .leaf (.pair (.node .own .leaf) (.node .own .leaf)))))]
          (.cond (.t 17)
            (.frame [18, 19, 20, 21, 22, 23, 24, 25, 26] [1015] true (.join [.bx 1015 bsearch_machine (.pair (.pair (.node .imm .leaf) .leaf) (.pair .leaf (.pair .leaf (.pair (.node .own .leaf) (.node .own .leaf)))))]
            (.draw [(.first (o1 18 (.mv (.t 8)))
            (.first (o1 19 (.fAddr 1 (.t 3)))
            (.first (o1 20 (.load false 1 (.t 19)))
            (.first (o1 21 (.mv (.t 8)))
            (.first (o1 22 (.nilc (.t 21)))
            (.first (o1 23 (.fAddr 3 (.t 22)))
            (.first (o1 24 (.load false 1 (.t 23)))
            (.first (o1 25 (.build [(.int .i64 0), (.int .i64 0)] [(0, 1, (.t 20)), (1, 1, (.t 24))]))
            (.alt (oS ⟨some 26, .call "(*mergelens/search.machine).add" [(.t 18), (.t 25)], none⟩ S_search_machine_add)
            .done
            .stop)))))))))])))
            .skip))))
        (.seq
          (.seq
            (.region [o1 27 (.mv (.t 8)),
              oS ⟨some 28, .call "(*mergelens/search.machine).accepted" [(.t 27)], none⟩ S_search_machine_accepted,
              o1 11 (.asg (.t 28))])
          (.seq
            (.region [o1 29 (.mv (.t 11)),
              o1 30 (.bin .geq (.t 29) (.c (.int .i64 0)))])
          (.frame [10, 31, 32, 33, 34, 35, 36, 37, 38, 39] [1009, 1015] true (.join [.sl 10 false .bool .leaf, .bx 1009 (.pair (.int .i64) (.int .i64)) .leaf, .bx 1015 bsearch_machine (.pair (.pair (.node .imm .leaf) .leaf) (.pair .leaf (.pair .leaf (.pair (.node .own .leaf) (.node .own .leaf)))))]
          (.cond (.t 30)
            (.seq
              (.region [o1 31 (.mv (.t 11)),
                o1 32 (.mv (.t 8)),
                o1 33 (.nilc (.t 32)),
                o1 34 (.fAddr 3 (.t 33)),
                o1 35 (.load false 1 (.t 34)),
                o1 36 (.build [(.int .i64 0), (.int .i64 0)] [(0, 1, (.t 31)), (1, 1, (.t 35))]),
                o0 ⟨none, .store 2 (.t 9) (.t 36), none⟩,
                o1 10 (.asg (.c (.bool true)))])
            (.region [o1 37 (.mv (.t 8)),
              o1 38 (.mv (.t 11)),
              oS ⟨some 39, .call "(*mergelens/search.machine).keep" [(.t 37), (.t 38)], none⟩ S_search_machine_keep]))
            .skip)))))
        (.seq
          (.seq
            (.region [o1 40 (.mv (.t 8)),
              o1 41 (.nilc (.t 40)),
              o1 42 (.fAddr 3 (.t 41)),
              o1 43 (.load false 1 (.t 42)),
              o1 44 (.mv (.t 1)),
              o1 45 (.lenS (.t 44)),
              o1 46 (.bin .eql (.t 43) (.t 45)),
              o1 47 (.mv (.t 46)),
              o0 ⟨some 48, .mv (.t 10), some (47, false)⟩,
              o0 ⟨some 49, .mv (.t 48), some (47, false)⟩,
              o0 ⟨some 50, .mv (.t 8), some (49, true)⟩,
              o0 ⟨some 51, .nilc (.t 50), some (49, true)⟩,
              o0 ⟨some 52, .fAddr 4 (.t 51), some (49, true)⟩,
              o0 ⟨some 53, .load false 1 (.t 52), some (49, true)⟩,
              o0 ⟨some 54, .lenK (.t 53), some (49, true)⟩,
              o0 ⟨some 55, .bin .eql (.t 54) (.c (.int .i64 0)), some (49, true)⟩,
              o0 ⟨some 56, .pick (.t 49) (.t 55) (.c (.bool false)), some (47, false)⟩,
              o1 57 (.pick (.t 47) (.c (.bool true)) (.t 56))])
          (.cond (.t 57)
            (.seq
              (.region [o1 58 (.load true 2 (.t 9)),
                o1 59 (.mv (.t 10)),
                o0 ⟨none, .store 2 (.t 6) (.t 58), none⟩,
                o1 7 (.asg (.t 59))])
            .ret)
            .skip))
        (.region [o1 60 (.mv (.t 8)),
          oS ⟨some 61, .call "(*mergelens/search.machine).read" [(.t 60)], none⟩ S_search_machine_read]))))))))))))))
def F_search_find : AFn := ⟨ "mergelens/search.find", t_search_find.erase, [.cell 6 true 2, .tmp 7], 3⟩
def W_search_find (P : Program) (x : (((List State) × Int) × ((List UInt8) × Int))) (K : ((Int × Int) × Bool) → Unit → Prop) : Prop :=
  Fn P "mergelens/search.start" S_search_start ((x.1.1, x.1.2), (x.2.1, x.2.2)) (fun (d1 : search_machine) (e2 : Unit) => LoopW (D := (Bool × (Bool × ((Int × Int) × ((Int × Int) × search_machine))))) (false, (false, (((0 : Int), (0 : Int)), (((0 : Int), (0 : Int)), ((d1.1.1, d1.1.2), (d1.2.1, (d1.2.2.1, (d1.2.2.2.1, d1.2.2.2.2)))))))) (fun (d3 : (Bool × (Bool × ((Int × Int) × ((Int × Int) × search_machine))))) J4 => JoinW (D := (Bool × (Bool × ((Int × Int) × ((Int × Int) × search_machine))))) (fun J5 => JoinW (D := search_machine) (fun J7 => (((!d3.2.1) = true → JoinW (D := search_machine) (fun J9 => (Fn P "(*mergelens/search.machine).add" S_search_machine_add (((d3.2.2.2.2.1.1, d3.2.2.2.2.1.2), (d3.2.2.2.2.2.1, (d3.2.2.2.2.2.2.1, (d3.2.2.2.2.2.2.2.1, d3.2.2.2.2.2.2.2.2)))), (x.1.2, d3.2.2.2.2.2.2.1)) (fun (d11 : Unit) (e12 : search_machine) => J9 ((e12.1.1, e12.1.2), (e12.2.1, (e12.2.2.1, (e12.2.2.2.1, e12.2.2.2.2)))))) ∧ (True)) (fun (d10 : search_machine) => J7 ((d10.1.1, d10.1.2), (d10.2.1, (d10.2.2.1, (d10.2.2.2.1, d10.2.2.2.2)))))) ∧ ((!d3.2.1) = false → J7 ((d3.2.2.2.2.1.1, d3.2.2.2.2.1.2), (d3.2.2.2.2.2.1, (d3.2.2.2.2.2.2.1, (d3.2.2.2.2.2.2.2.1, d3.2.2.2.2.2.2.2.2))))))) (fun (d8 : search_machine) => Fn P "(*mergelens/search.machine).accepted" S_search_machine_accepted ((d8.1.1, d8.1.2), (d8.2.1, (d8.2.2.1, (d8.2.2.2.1, d8.2.2.2.2)))) (fun (d13 : Int) (e14 : search_machine) => JoinW (D := (Bool × ((Int × Int) × search_machine))) (fun J15 => (((decide (d13 ≥ (0 : Int))) = true → Fn P "(*mergelens/search.machine).keep" S_search_machine_keep (((e14.1.1, e14.1.2), (e14.2.1, (e14.2.2.1, (e14.2.2.2.1, e14.2.2.2.2)))), d13) (fun (d17 : Unit) (e18 : search_machine) => J15 (true, ((d13, e14.2.2.1), ((e18.1.1, e18.1.2), (e18.2.1, (e18.2.2.1, (e18.2.2.2.1, e18.2.2.2.2)))))))) ∧ ((decide (d13 ≥ (0 : Int))) = false → J15 (d3.2.1, ((d3.2.2.2.1.1, d3.2.2.2.1.2), ((e14.1.1, e14.1.2), (e14.2.1, (e14.2.2.1, (e14.2.2.2.1, e14.2.2.2.2))))))))) (fun (d16 : (Bool × ((Int × Int) × search_machine))) => (((cond (d16.2.2.2.2.1 == ((List.length x.2.1 : Nat) : Int)) true (cond d16.1 (((List.length d16.2.2.2.2.2.1 : Nat) : Int) == (0 : Int)) false)) = true → K ((d16.2.1.1, d16.2.1.2), d16.1) ()) ∧ ((cond (d16.2.2.2.2.1 == ((List.length x.2.1 : Nat) : Int)) true (cond d16.1 (((List.length d16.2.2.2.2.2.1 : Nat) : Int) == (0 : Int)) false)) = false → Fn P "(*mergelens/search.machine).read" S_search_machine_read ((d16.2.2.1.1, d16.2.2.1.2), (d16.2.2.2.1, (d16.2.2.2.2.1, (d16.2.2.2.2.2.1, d16.2.2.2.2.2.2)))) (fun (d19 : Unit) (e20 : search_machine) => J5 (d3.1, (d16.1, ((d3.2.2.1.1, d3.2.2.1.2), ((d16.2.1.1, d16.2.1.2), ((e20.1.1, e20.1.2), (e20.2.1, (e20.2.2.1, (e20.2.2.2.1, e20.2.2.2.2))))))))))))))) (fun (d6 : (Bool × (Bool × ((Int × Int) × ((Int × Int) × search_machine))))) => J4 (d6.1, (d6.2.1, ((d6.2.2.1.1, d6.2.2.1.2), ((d6.2.2.2.1.1, d6.2.2.2.1.2), ((d6.2.2.2.2.1.1, d6.2.2.2.2.1.2), (d6.2.2.2.2.2.1, (d6.2.2.2.2.2.2.1, (d6.2.2.2.2.2.2.2.1, d6.2.2.2.2.2.2.2.2)))))))))))
theorem fn_search_find {P : Program} (h : Has P F_search_find) {x : DP S_search_find.ps} {K : DP S_search_find.rs → DP (ptrs S_search_find.ps) → Prop} (hw : W_search_find P x K) : Fn P "mergelens/search.find" S_search_find x K :=
  fn_of (c := t_search_find) h rfl rfl (by kernel_rfl) (Eq.mpr (show liftT P F_search_find S_search_find t_search_find x K = W_search_find P x K by kernel_rfl) hw)

def t_search_All : TCode :=
  (.seq
    (.region [o1 2 (.box (.t 0)),
      o1 4 (.asg (.c (.slice none 0 0))),
      o1 5 (.asg (.c (.int .i64 0)))])
  (.seq
    (.seq
      (.region [o1 11 (.load true 2 (.t 2)),
        oS ⟨some 12, .call "mergelens/automaton.Check" [(.t 11)], none⟩ S_automaton_Check,
        o1 6 (.asg (.t 12))])
    (.seq
      (.region [o1 13 (.mv (.t 6)),
        o1 14 (.bin .neq (.t 13) (.c (.int .i64 0)))])
    (.cond (.t 14)
      (.seq
        (.region [o1 15 (.mv (.t 6)),
          o1 4 (.asg (.c (.slice none 0 0))),
          o1 5 (.asg (.t 15))])
      .ret)
      .skip)))
  (.seq
    (.region [o1 7 (.asg (.c (.slice none 0 0)))])
  (.seq
    (.seq
      (.region [o1 8 (.asg (.c (.int .i64 0)))])
    (.frame [7, 8, 9, 10, 16, 17, 18, 19, 20, 21, 22, 23, 24, 25, 26, 27, 28, 29, 30, 31, 32, 33, 34, 35, 36, 37, 38] [1009] false (.join [.sl 7 false (.sl (.pair (.int .i64) (.int .i64))) (.node .own .leaf)]
    (.block 0
      (.loop [.sl 7 false (.sl (.pair (.int .i64) (.int .i64))) (.node .own .leaf), .sl 8 false (.int .i64) .leaf]
        (.seq
          (.seq
            (.region [o1 16 (.mv (.t 8)),
              o1 17 (.mv (.t 1)),
              o1 18 (.lenS (.t 17)),
              o1 19 (.bin .leq (.t 16) (.t 18))])
          (.cond (.t 19)
            .skip
            (.exit 0)))
        (.frame [7, 8, 9, 10, 20, 21, 22, 23, 24, 25, 26, 27, 28, 29, 30, 31, 32, 33, 34, 35, 36, 37, 38] [1009] false (.join [.sl 7 false (.sl (.pair (.int .i64) (.int .i64))) (.node .own .leaf), .sl 8 false (.int .i64) .leaf]
        (.block 1
          (.seq
            (.region [o1 21 (.load true 2 (.t 2)),
              o1 22 (.mv (.t 1)),
              o1 23 (.mv (.t 8)),
              oS ⟨some 24, .call "mergelens/search.find" [(.t 21), (.t 22), (.t 23)], none⟩ S_search_find,
              o1 20 (.mv (.t 24)),
              o1 25 (.ext (.t 20) 0),
              o1 26 (.ext (.t 20) 1),
              o1 9 (.alloc [(.int .i64 0), (.int .i64 0)]),
              o0 ⟨none, .store 2 (.t 9) (.t 25), none⟩,
              o1 10 (.asg (.t 26))])
          (.seq
            (.seq
              (.region [o1 27 (.mv (.t 10)),
                o1 28 (.un .not (.t 27))])
            (.cond (.t 28)
              (.exit 0)
              .skip))
          (.seq
            (.region [o1 29 (.mv (.t 7)),
              o1 30 (.load true 2 (.t 9)),
              oT ⟨some 31, .buildSl 2 [(.int .i64 0), (.int .i64 0)] 1 [(0, (.t 30))], none⟩ (some ((.pair (.int .i64) (.int .i64)), .leaf)),
              oT ⟨some 32, .app 2 16 (.t 29) (.t 31), none⟩ (some ((.pair (.int .i64) (.int .i64)), .leaf)),
              o1 7 (.asg (.t 32))])
          (.region [o1 33 (.fAddr 1 (.t 9)),
            o1 34 (.load false 1 (.t 33)),
            o1 35 (.fAddr 0 (.t 9)),
            o1 36 (.load false 1 (.t 35)),
            o1 37 (.bin .add (.t 36) (.c (.int .i64 1))),
            o1 38 (.mm true (.t 34) (.t 37)),
            o1 8 (.asg (.t 38))])))))))))))))
  (.seq
    (.region [o1 39 (.mv (.t 7)),
      o1 4 (.asg (.t 39)),
      o1 5 (.asg (.c (.int .i64 0)))])
  .ret)))))
def F_search_All : AFn := ⟨ "mergelens/search.All", t_search_All.erase, [.tmp 4, .tmp 5], 2⟩
def W_search_All (P : Program) (x : (((List State) × Int) × (List UInt8))) (K : ((List (Int × Int)) × Int) → Unit → Prop) : Prop :=
  Fn P "mergelens/automaton.Check" S_automaton_Check (x.1.1, x.1.2) (fun (d1 : Int) (e2 : Unit) => (((d1 != (0 : Int)) = true → K ([], d1) ()) ∧ ((d1 != (0 : Int)) = false → JoinW (D := (List (Int × Int))) (fun J3 => LoopW (D := ((List (Int × Int)) × Int)) ([], (0 : Int)) (fun (d5 : ((List (Int × Int)) × Int)) J6 => (((decide (d5.2 ≤ ((List.length x.2 : Nat) : Int))) = true → JoinW (D := ((List (Int × Int)) × Int)) (fun J7 => Fn P "mergelens/search.find" S_search_find ((x.1.1, x.1.2), (x.2, d5.2)) (fun (d9 : ((Int × Int) × Bool)) (e10 : Unit) => (((!d9.2) = true → J3 d5.1) ∧ ((!d9.2) = false → ((List.length d5.1 + List.length ([(d9.1.1, d9.1.2)] : List (Int × Int))) * 16 ≤ 140737488355328) ∧
  J7 ((d5.1 ++ ([(d9.1.1, d9.1.2)] : List (Int × Int))), (if (IntKind.i64.wrap (d9.1.1 + (1 : Int))) > d9.1.2 then (IntKind.i64.wrap (d9.1.1 + (1 : Int))) else d9.1.2)))))) (fun (d8 : ((List (Int × Int)) × Int)) => J6 (d8.1, d8.2))) ∧ ((decide (d5.2 ≤ ((List.length x.2 : Nat) : Int))) = false → J3 d5.1)))) (fun (d4 : (List (Int × Int))) => K (d4, (0 : Int)) ()))))
theorem fn_search_All {P : Program} (h : Has P F_search_All) {x : DP S_search_All.ps} {K : DP S_search_All.rs → DP (ptrs S_search_All.ps) → Prop} (hw : W_search_All P x K) : Fn P "mergelens/search.All" S_search_All x K :=
  fn_of (c := t_search_All) h rfl rfl (by kernel_rfl) (Eq.mpr (show liftT P F_search_All S_search_All t_search_All x K = W_search_All P x K by kernel_rfl) hw)

def t_ref05_Check : TCode :=
  (.seq
    (.region [o1 1 (.box (.t 0)),
      o1 2 (.asg (.c (.int .i64 0)))])
  (.seq
    (.region [o1 6 (.fAddr 0 (.t 1)),
      o1 7 (.load false 1 (.t 6)),
      o1 8 (.lenK (.t 7)),
      o1 3 (.asg (.t 8))])
  (.seq
    (.seq
      (.region [o1 9 (.mv (.t 3)),
        o1 10 (.bin .lss (.t 9) (.c (.int .i64 1))),
        o1 11 (.mv (.t 10)),
        o0 ⟨some 12, .mv (.t 3), some (11, false)⟩,
        o0 ⟨some 13, .bin .gtr (.t 12) (.c (.int .i64 8000)), some (11, false)⟩,
        o1 14 (.pick (.t 11) (.c (.bool true)) (.t 13)),
        o1 15 (.mv (.t 14)),
        o0 ⟨some 16, .fAddr 1 (.t 1), some (15, false)⟩,
        o0 ⟨some 17, .load false 1 (.t 16), some (15, false)⟩,
        o0 ⟨some 18, .bin .lss (.t 17) (.c (.int .i64 0)), some (15, false)⟩,
        o1 19 (.pick (.t 15) (.c (.bool true)) (.t 18)),
        o1 20 (.mv (.t 19)),
        o0 ⟨some 21, .fAddr 1 (.t 1), some (20, false)⟩,
        o0 ⟨some 22, .load false 1 (.t 21), some (20, false)⟩,
        o0 ⟨some 23, .mv (.t 3), some (20, false)⟩,
        o0 ⟨some 24, .bin .geq (.t 22) (.t 23), some (20, false)⟩,
        o1 25 (.pick (.t 20) (.c (.bool true)) (.t 24))])
    (.cond (.t 25)
      (.seq
        (.region [o1 2 (.asg (.c (.int .i64 2)))])
      .ret)
      .skip))
  (.seq
    (.seq
      (.region [o1 4 (.asg (.c (.int .i64 0)))])
    (.frame [2, 4, 5, 26, 27, 28, 29, 30, 31, 32, 33, 34, 35, 36, 37, 38, 39, 40, 41, 42, 43, 44, 45, 46, 47, 48, 49, 50, 51, 52, 53, 54, 55, 56, 57, 58, 59, 60, 61, 62, 63, 64, 65, 66, 67, 68, 69, 70, 71, 72, 73, 74, 75] [1005] false (.join [.sl 2 false (.int .i64) .leaf]
    (.block 0
      (.loop [.sl 2 false (.int .i64) .leaf, .sl 4 false (.int .i64) .leaf]
        (.seq
          (.seq
            (.region [o1 26 (.mv (.t 4)),
              o1 27 (.mv (.t 3)),
              o1 28 (.bin .lss (.t 26) (.t 27))])
          (.cond (.t 28)
            .skip
            (.exit 0)))
        (.seq
          (.frame [2, 5, 31, 32, 33, 34, 35, 36, 37, 38, 39, 40, 41, 42, 43, 44, 45, 46, 47, 48, 49, 50, 51, 52, 53, 54, 55, 56, 57, 58, 59, 60, 61, 62, 63, 64, 65, 66, 67, 68, 69, 70, 71, 72, 73, 74, 75] [1005] false (.join [.sl 2 false (.int .i64) .leaf]
          (.block 1
            (.seq
              (.region [o1 31 (.fAddr 0 (.t 1)),
                o1 32 (.load false 1 (.t 31)),
                o1 33 (.mv (.t 4)),
                o1 34 (.ixA 7 (.t 32) (.t 33)),
                o1 35 (.load true 7 (.t 34)),
                o1 5 (.alloc [(.int .i64 0), (.int .u64 0), (.int .u64 0), (.int .u64 0), (.int .u64 0), (.int .i64 0), (.int .i64 0)]),
                o0 ⟨none, .store 7 (.t 5) (.t 35), none⟩])
            (.seq
              (.region [o1 36 (.fAddr 0 (.t 5)),
                o1 37 (.load false 1 (.t 36)),
                o1 38 (.bin .lss (.t 37) (.c (.int .i64 0))),
                o1 39 (.mv (.t 38)),
                o0 ⟨some 40, .fAddr 0 (.t 5), some (39, false)⟩,
                o0 ⟨some 41, .load false 1 (.t 40), some (39, false)⟩,
                o0 ⟨some 42, .bin .gtr (.t 41) (.c (.int .i64 4)), some (39, false)⟩,
                o1 43 (.pick (.t 39) (.c (.bool true)) (.t 42)),
                o1 44 (.mv (.t 43)),
                o0 ⟨some 45, .fAddr 0 (.t 5), some (44, false)⟩,
                o0 ⟨some 46, .load false 1 (.t 45), some (44, false)⟩,
                o0 ⟨some 47, .bin .neq (.t 46) (.c (.int .i64 4)), some (44, false)⟩,
                o0 ⟨some 48, .mv (.t 47), some (44, false)⟩,
                o0 ⟨some 49, .fAddr 5 (.t 5), some (48, true)⟩,
                o0 ⟨some 50, .load false 1 (.t 49), some (48, true)⟩,
                o0 ⟨some 51, .bin .lss (.t 50) (.c (.int .i64 0)), some (48, true)⟩,
                o0 ⟨some 52, .mv (.t 51), some (48, true)⟩,
                o0 ⟨some 53, .fAddr 5 (.t 5), some (52, false)⟩,
                o0 ⟨some 54, .load false 1 (.t 53), some (52, false)⟩,
                o0 ⟨some 55, .mv (.t 3), some (52, false)⟩,
                o0 ⟨some 56, .bin .geq (.t 54) (.t 55), some (52, false)⟩,
                o0 ⟨some 57, .pick (.t 52) (.c (.bool true)) (.t 56), some (48, true)⟩,
                o0 ⟨some 58, .pick (.t 48) (.t 57) (.c (.bool false)), some (44, false)⟩,
                o1 59 (.pick (.t 44) (.c (.bool true)) (.t 58)),
                o1 60 (.mv (.t 59)),
                o0 ⟨some 61, .fAddr 0 (.t 5), some (60, false)⟩,
                o0 ⟨some 62, .load false 1 (.t 61), some (60, false)⟩,
                o0 ⟨some 63, .bin .eql (.t 62) (.c (.int .i64 1)), some (60, false)⟩,
                o0 ⟨some 64, .mv (.t 63), some (60, false)⟩,
                o0 ⟨some 65, .fAddr 6 (.t 5), some (64, true)⟩,
                o0 ⟨some 66, .load false 1 (.t 65), some (64, true)⟩,
                o0 ⟨some 67, .bin .lss (.t 66) (.c (.int .i64 0)), some (64, true)⟩,
                o0 ⟨some 68, .mv (.t 67), some (64, true)⟩,
                o0 ⟨some 69, .fAddr 6 (.t 5), some (68, false)⟩,
                o0 ⟨some 70, .load false 1 (.t 69), some (68, false)⟩,
                o0 ⟨some 71, .mv (.t 3), some (68, false)⟩,
                o0 ⟨some 72, .bin .geq (.t 70) (.t 71), some (68, false)⟩,
                o0 ⟨some 73, .pick (.t 68) (.c (.bool true)) (.t 72), some (64, true)⟩,
                o0 ⟨some 74, .pick (.t 64) (.t 73) (.c (.bool false)), some (60, false)⟩,
                o1 75 (.pick (.t 60) (.c (.bool true)) (.t 74))])
            (.cond (.t 75)
              (.seq
                (.region [o1 2 (.asg (.c (.int .i64 2)))])
              .ret)
              .skip))))))
        (.region [o1 29 (.mv (.t 4)),
          o1 30 (.bin .add (.t 29) (.c (.int .i64 1))),
          o1 4 (.asg (.t 30))]))))))))
  (.seq
    (.region [o1 2 (.asg (.c (.int .i64 0)))])
  .ret)))))
def F_ref05_Check : AFn := ⟨ "mergelens/mergelensref05.Check", t_ref05_Check.erase, [.tmp 2], 1⟩
def W_ref05_Check (P : Program) (x : ((List State) × Int)) (K : Int → Unit → Prop) : Prop :=
  (((cond (cond (cond (decide (((List.length x.1 : Nat) : Int) < (1 : Int))) true (decide (((List.length x.1 : Nat) : Int) > (8000 : Int)))) true (decide (x.2 < (0 : Int)))) true (decide (x.2 ≥ ((List.length x.1 : Nat) : Int)))) = true → K (2 : Int) ()) ∧ ((cond (cond (cond (decide (((List.length x.1 : Nat) : Int) < (1 : Int))) true (decide (((List.length x.1 : Nat) : Int) > (8000 : Int)))) true (decide (x.2 < (0 : Int)))) true (decide (x.2 ≥ ((List.length x.1 : Nat) : Int)))) = false → JoinW (D := Int) (fun J1 => LoopW (D := (Int × Int)) ((0 : Int), (0 : Int)) (fun (d3 : (Int × Int)) J4 => (((decide (d3.2 < ((List.length x.1 : Nat) : Int))) = true → JoinW (D := Int) (fun J5 => (0 ≤ d3.2 ∧ d3.2 < ((List.length x.1 : Nat) : Int)) ∧
  ((Int.toNat d3.2) < List.length x.1) ∧
  (((cond (cond (cond (decide ((List.getD x.1 (Int.toNat d3.2) zState).1 < (0 : Int))) true (decide ((List.getD x.1 (Int.toNat d3.2) zState).1 > (4 : Int)))) true (cond ((List.getD x.1 (Int.toNat d3.2) zState).1 != (4 : Int)) (cond (decide ((List.getD x.1 (Int.toNat d3.2) zState).2.2.1 < (0 : Int))) true (decide ((List.getD x.1 (Int.toNat d3.2) zState).2.2.1 ≥ ((List.length x.1 : Nat) : Int)))) false)) true (cond ((List.getD x.1 (Int.toNat d3.2) zState).1 == (1 : Int)) (cond (decide ((List.getD x.1 (Int.toNat d3.2) zState).2.2.2 < (0 : Int))) true (decide ((List.getD x.1 (Int.toNat d3.2) zState).2.2.2 ≥ ((List.length x.1 : Nat) : Int)))) false)) = true → K (2 : Int) ()) ∧ ((cond (cond (cond (decide ((List.getD x.1 (Int.toNat d3.2) zState).1 < (0 : Int))) true (decide ((List.getD x.1 (Int.toNat d3.2) zState).1 > (4 : Int)))) true (cond ((List.getD x.1 (Int.toNat d3.2) zState).1 != (4 : Int)) (cond (decide ((List.getD x.1 (Int.toNat d3.2) zState).2.2.1 < (0 : Int))) true (decide ((List.getD x.1 (Int.toNat d3.2) zState).2.2.1 ≥ ((List.length x.1 : Nat) : Int)))) false)) true (cond ((List.getD x.1 (Int.toNat d3.2) zState).1 == (1 : Int)) (cond (decide ((List.getD x.1 (Int.toNat d3.2) zState).2.2.2 < (0 : Int))) true (decide ((List.getD x.1 (Int.toNat d3.2) zState).2.2.2 ≥ ((List.length x.1 : Nat) : Int)))) false)) = false → J5 d3.1))) (fun (d6 : Int) => J4 (d6, (IntKind.i64.wrap (d3.2 + (1 : Int)))))) ∧ ((decide (d3.2 < ((List.length x.1 : Nat) : Int))) = false → J1 d3.1)))) (fun (d2 : Int) => K (0 : Int) ())))
theorem fn_ref05_Check {P : Program} (h : Has P F_ref05_Check) {x : DP S_ref05_Check.ps} {K : DP S_ref05_Check.rs → DP (ptrs S_ref05_Check.ps) → Prop} (hw : W_ref05_Check P x K) : Fn P "mergelens/mergelensref05.Check" S_ref05_Check x K :=
  fn_of (c := t_ref05_Check) h rfl rfl (by kernel_rfl) (Eq.mpr (show liftT P F_ref05_Check S_ref05_Check t_ref05_Check x K = W_ref05_Check P x K by kernel_rfl) hw)


end Go.VS
