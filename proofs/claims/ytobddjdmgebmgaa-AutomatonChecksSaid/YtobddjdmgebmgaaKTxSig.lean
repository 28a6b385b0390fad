/- Types and signatures of the functions. -/
import Derived.Test.YtobddjdmgebmgaaFwD
set_option linter.unusedVariables false
set_option linter.unusedSimpArgs false
set_option linter.unusedSectionVars false
namespace Go.VS

abbrev bautomaton_builder : BT := (.pair (.sl (.pair (.int .i64) (.pair (.pair (.int .u64) (.pair (.int .u64) (.pair (.int .u64) (.int .u64)))) (.pair (.int .i64) (.pair (.int .i64) (.sl (.int .i64))))))) (.pair (.sl (.int .i64)) (.sl (.pair (.int .i64) (.pair (.pair (.int .u64) (.pair (.int .u64) (.pair (.int .u64) (.int .u64)))) (.pair (.int .i64) (.int .i64)))))))
abbrev automaton_builder : Type := ((List (Int × ((Int × (Int × (Int × Int))) × (Int × (Int × (List Int)))))) × ((List Int) × (List (Int × ((Int × (Int × (Int × Int))) × (Int × Int))))))
abbrev zautomaton_builder : automaton_builder := ([], ([], []))
abbrev bruntime_boundsError : BT := (.pair (.int .i64) (.pair (.int .i64) (.pair .bool (.int .u8))))
abbrev runtime_boundsError : Type := (Int × (Int × (Bool × Int)))
abbrev zruntime_boundsError : runtime_boundsError := ((0 : Int), ((0 : Int), (false, (0 : Int))))
abbrev bref04_reader : BT := (.pair .str (.pair (.int .i64) (.pair (.int .i64) (.pair (.sl (.pair (.int .i64) (.pair (.pair (.int .u64) (.pair (.int .u64) (.pair (.int .u64) (.int .u64)))) (.pair (.int .i64) (.pair (.int .i64) (.sl (.int .i64))))))) (.int .i64)))))
abbrev ref04_reader : Type := ((List UInt8) × (Int × (Int × ((List (Int × ((Int × (Int × (Int × Int))) × (Int × (Int × (List Int)))))) × Int))))
abbrev zref04_reader : ref04_reader := ([], ((0 : Int), ((0 : Int), ([], (0 : Int)))))
abbrev bsearch_machine : BT := (.pair (.pair (.sl (.pair (.int .i64) (.pair (.pair (.int .u64) (.pair (.int .u64) (.pair (.int .u64) (.int .u64)))) (.pair (.int .i64) (.int .i64))))) (.int .i64)) (.pair .str (.pair (.int .i64) (.pair (.sl (.pair (.int .i64) (.int .i64))) (.sl .bool)))))
abbrev search_machine : Type := (((List (Int × ((Int × (Int × (Int × Int))) × (Int × Int)))) × Int) × ((List UInt8) × (Int × ((List (Int × Int)) × (List Bool)))))
abbrev zsearch_machine : search_machine := (([], (0 : Int)), ([], ((0 : Int), ([], []))))
abbrev bState : BT := (.pair (.int .i64) (.pair (.pair (.int .u64) (.pair (.int .u64) (.pair (.int .u64) (.int .u64)))) (.pair (.int .i64) (.int .i64))))
abbrev State : Type := (Int × ((Int × (Int × (Int × Int))) × (Int × Int)))
abbrev zState : State := ((0 : Int), (((0 : Int), ((0 : Int), ((0 : Int), (0 : Int)))), ((0 : Int), (0 : Int))))
abbrev bNode : BT := (.pair (.int .i64) (.pair (.pair (.int .u64) (.pair (.int .u64) (.pair (.int .u64) (.int .u64)))) (.pair (.int .i64) (.pair (.int .i64) (.sl (.int .i64))))))
abbrev Node : Type := (Int × ((Int × (Int × (Int × Int))) × (Int × (Int × (List Int)))))
abbrev zNode : Node := ((0 : Int), (((0 : Int), ((0 : Int), ((0 : Int), (0 : Int)))), ((0 : Int), ((0 : Int), []))))
def S_law05_AutomatonChecks : Sig := ⟨[.val true (.pair (.sl bState) (.int .i64)) (.pair (.node .brw .leaf) .leaf), .val false (.sl (.int .i64)) (.node .brw .leaf), .val false (.int .i64) .leaf, .val false (.int .i64) .leaf, .val false (.int .i64) .leaf, .val false (.int .i64) .leaf], [.val false .bool .leaf]⟩
def S_gen_Mod : Sig := ⟨[.val false (.int .i64) .leaf, .val false (.int .i64) .leaf], [.val false (.int .i64) .leaf]⟩
def S_ref05_Check : Sig := ⟨[.val true (.pair (.sl bState) (.int .i64)) (.pair (.node .brw .leaf) .leaf)], [.val false (.int .i64) .leaf]⟩
def S_ref04_Parse : Sig := ⟨[.val false .str .leaf], [.val false (.sl bNode) (.node .own (.pair .leaf (.pair .leaf (.pair .leaf (.pair .leaf (.node .imm .leaf)))))), .val false (.int .i64) .leaf]⟩
def S_law05_awake : Sig := ⟨[], [.val false .bool .leaf]⟩
def S_gen_At : Sig := ⟨[.val false (.sl (.int .i64)) (.node .brw .leaf), .val false (.int .i64) .leaf], [.val false (.int .i64) .leaf]⟩
def S_automaton_Build : Sig := ⟨[.val false (.sl bNode) (.node .imm (.pair .leaf (.pair .leaf (.pair .leaf (.pair .leaf (.node .imm .leaf))))))], [.val true (.pair (.sl bState) (.int .i64)) (.pair (.node .own .leaf) .leaf), .val false (.int .i64) .leaf]⟩
def S_law05_made : Sig := ⟨[.val false (.sl (.int .i64)) (.node .brw .leaf), .val false (.int .i64) .leaf], [.val true (.pair (.sl bState) (.int .i64)) (.pair (.node .own .leaf) .leaf)]⟩
def S_automaton_Check : Sig := ⟨[.val true (.pair (.sl bState) (.int .i64)) (.pair (.node .brw .leaf) .leaf)], [.val false (.int .i64) .leaf]⟩
def S_ref04_Put : Sig := ⟨[.val true (.pair (.int .u64) (.pair (.int .u64) (.pair (.int .u64) (.int .u64)))) .leaf, .val false (.int .u8) .leaf], [.val true (.pair (.int .u64) (.pair (.int .u64) (.pair (.int .u64) (.int .u64)))) .leaf]⟩
def S_ref05_Ends : Sig := ⟨[.val true (.pair (.sl bState) (.int .i64)) (.pair (.node .brw .leaf) .leaf), .val false .str .leaf, .val false (.int .i64) .leaf], [.val false (.sl .bool) (.node .own .leaf)]⟩
def S_ref04_reader_pattern : Sig := ⟨[.ptr bref04_reader (.pair .leaf (.pair .leaf (.pair .leaf (.pair (.node .own (.pair .leaf (.pair .leaf (.pair .leaf (.pair .leaf (.node .imm .leaf)))))) .leaf))))], [.val false (.int .i64) .leaf]⟩
def S_ref04_reader_fail : Sig := ⟨[.ptr bref04_reader (.pair .leaf (.pair .leaf (.pair .leaf (.pair (.node .own (.pair .leaf (.pair .leaf (.pair .leaf (.pair .leaf (.node .imm .leaf)))))) .leaf)))), .val false (.int .i64) .leaf], [.val false (.int .i64) .leaf]⟩
def S_regex_Weight : Sig := ⟨[.val false (.sl bNode) (.node .brw (.pair .leaf (.pair .leaf (.pair .leaf (.pair .leaf (.node .brw .leaf))))))], [.val false (.int .i64) .leaf, .val false (.int .i64) .leaf]⟩
def S_regex_Weights : Sig := ⟨[.val false (.sl bNode) (.node .brw (.pair .leaf (.pair .leaf (.pair .leaf (.pair .leaf (.node .brw .leaf))))))], [.val false (.sl (.int .i64)) (.node .own .leaf)]⟩
def S_automaton_builder_add : Sig := ⟨[.ptr bautomaton_builder (.pair (.node .imm (.pair .leaf (.pair .leaf (.pair .leaf (.pair .leaf (.node .imm .leaf)))))) (.pair (.node .own .leaf) (.node .own .leaf))), .val true bState .leaf], [.val false (.int .i64) .leaf]⟩
def S_automaton_builder_build : Sig := ⟨[.ptr bautomaton_builder (.pair (.node .imm (.pair .leaf (.pair .leaf (.pair .leaf (.pair .leaf (.node .imm .leaf)))))) (.pair (.node .own .leaf) (.node .own .leaf))), .val false (.int .i64) .leaf, .val false (.int .i64) .leaf], [.val false (.int .i64) .leaf]⟩
def S_automaton_Check_1 : Sig := ⟨[.val false (.int .i64) .leaf, .ptr (.int .i64) .leaf], [.val false .bool .leaf]⟩
def S_ref05_Close : Sig := ⟨[.val true (.pair (.sl bState) (.int .i64)) (.pair (.node .brw .leaf) .leaf), .val false (.sl .bool) (.node .brw .leaf), .val false .bool .leaf, .val false .bool .leaf], [.val false (.sl .bool) (.node .own .leaf)]⟩
def S_ref04_Has : Sig := ⟨[.val true (.pair (.int .u64) (.pair (.int .u64) (.pair (.int .u64) (.int .u64)))) .leaf, .val false (.int .u8) .leaf], [.val false .bool .leaf]⟩
def S_ref04_reader_alternative : Sig := ⟨[.ptr bref04_reader (.pair .leaf (.pair .leaf (.pair .leaf (.pair (.node .own (.pair .leaf (.pair .leaf (.pair .leaf (.pair .leaf (.node .imm .leaf)))))) .leaf))))], [.val false (.int .i64) .leaf]⟩
def S_ref04_reader_is : Sig := ⟨[.ptr bref04_reader (.pair .leaf (.pair .leaf (.pair .leaf (.pair (.node .own (.pair .leaf (.pair .leaf (.pair .leaf (.pair .leaf (.node .imm .leaf)))))) .leaf)))), .val false (.int .u8) .leaf], [.val false .bool .leaf]⟩
def S_ref04_reader_node : Sig := ⟨[.ptr bref04_reader (.pair .leaf (.pair .leaf (.pair .leaf (.pair (.node .own (.pair .leaf (.pair .leaf (.pair .leaf (.pair .leaf (.node .imm .leaf)))))) .leaf)))), .val true bNode (.pair .leaf (.pair .leaf (.pair .leaf (.pair .leaf (.node .imm .leaf)))))], [.val false (.int .i64) .leaf]⟩
def S_regex_Check : Sig := ⟨[.val false (.sl bNode) (.node .brw (.pair .leaf (.pair .leaf (.pair .leaf (.pair .leaf (.node .brw .leaf))))))], [.val false (.int .i64) .leaf]⟩
def S_regex_weight : Sig := ⟨[.val true bNode (.pair .leaf (.pair .leaf (.pair .leaf (.pair .leaf (.node .brw .leaf))))), .val false (.sl (.int .i64)) (.node .brw .leaf)], [.val false (.int .i64) .leaf]⟩
def S_automaton_builder_choice : Sig := ⟨[.ptr bautomaton_builder (.pair (.node .imm (.pair .leaf (.pair .leaf (.pair .leaf (.pair .leaf (.node .imm .leaf)))))) (.pair (.node .own .leaf) (.node .own .leaf))), .val false (.sl (.int .i64)) (.node .brw .leaf), .val false (.int .i64) .leaf], [.val false (.int .i64) .leaf]⟩
def S_automaton_builder_repeat : Sig := ⟨[.ptr bautomaton_builder (.pair (.node .imm (.pair .leaf (.pair .leaf (.pair .leaf (.pair .leaf (.node .imm .leaf)))))) (.pair (.node .own .leaf) (.node .own .leaf))), .val true bNode (.pair .leaf (.pair .leaf (.pair .leaf (.pair .leaf (.node .brw .leaf))))), .val false (.int .i64) .leaf], [.val false (.int .i64) .leaf]⟩
def S_ref04_reader_piece : Sig := ⟨[.ptr bref04_reader (.pair .leaf (.pair .leaf (.pair .leaf (.pair (.node .own (.pair .leaf (.pair .leaf (.pair .leaf (.pair .leaf (.node .imm .leaf)))))) .leaf))))], [.val false (.int .i64) .leaf]⟩
def S_regex_fits : Sig := ⟨[.val true bNode (.pair .leaf (.pair .leaf (.pair .leaf (.pair .leaf (.node .brw .leaf))))), .val false (.int .i64) .leaf], [.val false .bool .leaf]⟩
def S_ref04_reader_atom : Sig := ⟨[.ptr bref04_reader (.pair .leaf (.pair .leaf (.pair .leaf (.pair (.node .own (.pair .leaf (.pair .leaf (.pair .leaf (.pair .leaf (.node .imm .leaf)))))) .leaf))))], [.val false (.int .i64) .leaf]⟩
def S_ref04_reader_bounds : Sig := ⟨[.ptr bref04_reader (.pair .leaf (.pair .leaf (.pair .leaf (.pair (.node .own (.pair .leaf (.pair .leaf (.pair .leaf (.pair .leaf (.node .imm .leaf)))))) .leaf))))], [.val false (.int .i64) .leaf, .val false (.int .i64) .leaf]⟩
def S_regex_bounded : Sig := ⟨[.val true bNode (.pair .leaf (.pair .leaf (.pair .leaf (.pair .leaf (.node .brw .leaf)))))], [.val false .bool .leaf]⟩
def S_ref04_reader_class : Sig := ⟨[.ptr bref04_reader (.pair .leaf (.pair .leaf (.pair .leaf (.pair (.node .own (.pair .leaf (.pair .leaf (.pair .leaf (.pair .leaf (.node .imm .leaf)))))) .leaf))))], [.val false (.int .i64) .leaf]⟩
def S_ref04_complement : Sig := ⟨[.val true (.pair (.int .u64) (.pair (.int .u64) (.pair (.int .u64) (.int .u64)))) .leaf], [.val true (.pair (.int .u64) (.pair (.int .u64) (.pair (.int .u64) (.int .u64)))) .leaf]⟩

end Go.VS
