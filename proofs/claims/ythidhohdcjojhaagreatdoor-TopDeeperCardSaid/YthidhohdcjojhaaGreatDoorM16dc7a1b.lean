/- Texts of this proof, one behind the other. What is proved, and on which conditions, stands ahead of each. -/
import Derived.Test.YthidhohdcjojhaaGreatDoorProg
import Derived.Test.YthidhohdcjojhaaGreatDoorM15ca5df9

set_option linter.unusedVariables false
set_option linter.unusedSimpArgs false
namespace Go.Gv
open Go.Proofs
def valid_r0 : List AI := [oA 2 (.mv (.c (.bool false)))]
def valid_r1 : List AI := [oA 3 (.mv (.t 0)), oA 4 (.ibin .geq (.t 3) (.c (.int .i64 1))), oA 5 (.mv (.t 4)), oG 6 5 true (.mv (.t 0)), oG 7 5 true (.ibin .leq (.t 6) (.c (.int .i64 25))), oA 8 (.pick (.t 5) (.t 7) (.c (.bool false))), oA 2 (.mv (.t 8))]
def valid_c : AC := (.seq (.reg valid_r0) (.seq (.reg valid_r1) .ret))
def valid_res : List ARes := [(.tmp 2)]
set_option maxRecDepth 100000 in
theorem valid_get : getF Tryz.prog 230 59000 [] = some ("gavotte/ops.Valid", 9, valid_c, valid_res) := by kernel_rfl
def operand_r0 : List AI := [oA 2 (.mv (.c (.int .i64 0)))]
def operand_r1 : List AI := [oA 3 (.mv (.t 0))]
def operand_r2 : List AI := [oA 5 (.ibin .eql (.t 3) (.c (.int .i64 1))), oA 4 (.mv (.t 5))]
def operand_r3 : List AI := [oA 2 (.mv (.c (.int .i64 1)))]
def operand_r4 : List AI := [oA 7 (.ibin .eql (.t 3) (.c (.int .i64 5))), oA 6 (.mv (.t 7))]
def operand_r5 : List AI := [oA 8 (.ibin .eql (.t 3) (.c (.int .i64 6))), oA 6 (.mv (.t 8))]
def operand_r6 : List AI := [oA 2 (.mv (.c (.int .i64 2)))]
def operand_r7 : List AI := [oA 10 (.ibin .eql (.t 3) (.c (.int .i64 7))), oA 9 (.mv (.t 10))]
def operand_r8 : List AI := [oA 2 (.mv (.c (.int .i64 3)))]
def operand_r9 : List AI := [oA 12 (.ibin .eql (.t 3) (.c (.int .i64 20))), oA 11 (.mv (.t 12))]
def operand_r10 : List AI := [oA 13 (.ibin .eql (.t 3) (.c (.int .i64 21))), oA 11 (.mv (.t 13))]
def operand_r11 : List AI := [oA 2 (.mv (.c (.int .i64 4)))]
def operand_r12 : List AI := [oA 15 (.ibin .eql (.t 3) (.c (.int .i64 22))), oA 14 (.mv (.t 15))]
def operand_r13 : List AI := [oA 2 (.mv (.c (.int .i64 5)))]
def operand_r14 : List AI := [oA 2 (.mv (.c (.int .i64 0)))]
def operand_c : AC := (.seq (.reg operand_r0) (.seq (.seq (.reg operand_r1) (.block 0 (.seq (.reg operand_r2) (.cond (.t 4) (.seq (.reg operand_r3) .ret) (.seq (.seq (.reg operand_r4) (.cond (.t 6) .skip (.reg operand_r5))) (.cond (.t 6) (.seq (.reg operand_r6) .ret) (.seq (.reg operand_r7) (.cond (.t 9) (.seq (.reg operand_r8) .ret) (.seq (.seq (.reg operand_r9) (.cond (.t 11) .skip (.reg operand_r10))) (.cond (.t 11) (.seq (.reg operand_r11) .ret) (.seq (.reg operand_r12) (.cond (.t 14) (.seq (.reg operand_r13) .ret) .skip)))))))))))) (.seq (.reg operand_r14) .ret)))
def operand_res : List ARes := [(.tmp 2)]
set_option maxRecDepth 100000 in
theorem operand_get : getF Tryz.prog 154 58000 [] = some ("gavotte/ops.Operand", 16, operand_c, operand_res) := by kernel_rfl
def eachH_r0 : List AI := [oA 3 (.box 33003 4 (.t 0)), oA 6 (.mv (.c (.int .i64 0)))]
def eachH_r1 : List AI := [oA 10 (.mv (.t 1)), oA 11 (.len (.t 10)), oA 12 (.mv (.c (.int .i64 0)))]
def eachH_r2 : List AI := [oA 13 (.ibin .lss (.t 12) (.t 11))]
def eachH_r3 : List AI := [oA 14 (.idx 2 (.t 10) (.t 12)), oA 15 (.load (some 2) (.t 14)), oA 8 (.new 33008 2 (.agg [(.int .i64 0), .nils])), oN (.store 2 (.t 8) (.t 15))]
def eachH_r4 : List AI := [oA 16 (.mv (.t 2)), oA 17 (.load (some 4) (.t 3)), oA 18 (.load (some 2) (.t 8)), oC 19 (.t 16) [(.t 17), (.t 18)], oA 9 (.mv (.t 19))]
def eachH_r5 : List AI := [oA 20 (.mv (.t 9)), oA 21 (.ibin .neq (.t 20) (.c (.int .i64 0)))]
def eachH_r6 : List AI := [oA 22 (.mv (.t 9)), oA 6 (.mv (.t 22))]
def eachH_r7 : List AI := [oA 23 (.ibin .add (.t 12) (.c (.int .i64 1))), oA 12 (.mv (.t 23))]
def eachH_l0 : AC := (.seq (.reg eachH_r2) (.seq (.cond (.t 13) .skip (.exit 0)) (.seq (.block 1 (.seq (.reg eachH_r3) (.seq (.reg eachH_r4) (.seq (.reg eachH_r5) (.cond (.t 21) (.seq (.reg eachH_r6) .ret) .skip))))) (.reg eachH_r7))))
def eachH_r8 : List AI := [oA 6 (.mv (.c (.int .i64 0)))]
def eachH_c : AC := (.seq (.reg eachH_r0) (.seq (.seq (.reg eachH_r1) (.block 0 (.loop eachH_l0))) (.seq (.reg eachH_r8) .ret)))
def eachH_res : List ARes := [(.tmp 6)]
set_option maxRecDepth 100000 in
theorem eachH_get : getF Tryz.prog 160 33000 [] = some ("gavotte/prog.each[gavotte/api.Handler]", 24, eachH_c, eachH_res) := by kernel_rfl
def eachA_r0 : List AI := [oA 3 (.box 35003 4 (.t 0)), oA 6 (.mv (.c (.int .i64 0)))]
def eachA_r1 : List AI := [oA 10 (.mv (.t 1)), oA 11 (.len (.t 10)), oA 12 (.mv (.c (.int .i64 0)))]
def eachA_r2 : List AI := [oA 13 (.ibin .lss (.t 12) (.t 11))]
def eachA_r3 : List AI := [oA 14 (.idx 4 (.t 10) (.t 12)), oA 15 (.load (some 4) (.t 14)), oA 8 (.new 35008 4 (.agg [.nils, (.int .i64 0), (.int .i64 0), (.bool false)])), oN (.store 4 (.t 8) (.t 15))]
def eachA_r4 : List AI := [oA 16 (.mv (.t 2)), oA 17 (.load (some 4) (.t 3)), oA 18 (.load (some 4) (.t 8)), oC 19 (.t 16) [(.t 17), (.t 18)], oA 9 (.mv (.t 19))]
def eachA_r5 : List AI := [oA 20 (.mv (.t 9)), oA 21 (.ibin .neq (.t 20) (.c (.int .i64 0)))]
def eachA_r6 : List AI := [oA 22 (.mv (.t 9)), oA 6 (.mv (.t 22))]
def eachA_r7 : List AI := [oA 23 (.ibin .add (.t 12) (.c (.int .i64 1))), oA 12 (.mv (.t 23))]
def eachA_l0 : AC := (.seq (.reg eachA_r2) (.seq (.cond (.t 13) .skip (.exit 0)) (.seq (.block 1 (.seq (.reg eachA_r3) (.seq (.reg eachA_r4) (.seq (.reg eachA_r5) (.cond (.t 21) (.seq (.reg eachA_r6) .ret) .skip))))) (.reg eachA_r7))))
def eachA_r8 : List AI := [oA 6 (.mv (.c (.int .i64 0)))]
def eachA_c : AC := (.seq (.reg eachA_r0) (.seq (.seq (.reg eachA_r1) (.block 0 (.loop eachA_l0))) (.seq (.reg eachA_r8) .ret)))
def eachA_res : List ARes := [(.tmp 6)]
set_option maxRecDepth 100000 in
theorem eachA_get : getF Tryz.prog 162 35000 [] = some ("gavotte/prog.each[gavotte/api.Actor]", 24, eachA_c, eachA_res) := by kernel_rfl
def eachN_r0 : List AI := [oA 3 (.box 37003 4 (.t 0)), oA 6 (.mv (.c (.int .i64 0)))]
def eachN_r1 : List AI := [oA 10 (.mv (.t 1)), oA 11 (.len (.t 10)), oA 12 (.mv (.c (.int .i64 0)))]
def eachN_r2 : List AI := [oA 13 (.ibin .lss (.t 12) (.t 11))]
def eachN_r3 : List AI := [oA 14 (.idx 3 (.t 10) (.t 12)), oA 15 (.load (some 3) (.t 14)), oA 8 (.new 37008 3 (.agg [(.int .i64 0), (.int .i64 0), .nils])), oN (.store 3 (.t 8) (.t 15))]
def eachN_r4 : List AI := [oA 16 (.mv (.t 2)), oA 17 (.load (some 4) (.t 3)), oA 18 (.load (some 3) (.t 8)), oC 19 (.t 16) [(.t 17), (.t 18)], oA 9 (.mv (.t 19))]
def eachN_r5 : List AI := [oA 20 (.mv (.t 9)), oA 21 (.ibin .neq (.t 20) (.c (.int .i64 0)))]
def eachN_r6 : List AI := [oA 22 (.mv (.t 9)), oA 6 (.mv (.t 22))]
def eachN_r7 : List AI := [oA 23 (.ibin .add (.t 12) (.c (.int .i64 1))), oA 12 (.mv (.t 23))]
def eachN_l0 : AC := (.seq (.reg eachN_r2) (.seq (.cond (.t 13) .skip (.exit 0)) (.seq (.block 1 (.seq (.reg eachN_r3) (.seq (.reg eachN_r4) (.seq (.reg eachN_r5) (.cond (.t 21) (.seq (.reg eachN_r6) .ret) .skip))))) (.reg eachN_r7))))
def eachN_r8 : List AI := [oA 6 (.mv (.c (.int .i64 0)))]
def eachN_c : AC := (.seq (.reg eachN_r0) (.seq (.seq (.reg eachN_r1) (.block 0 (.loop eachN_l0))) (.seq (.reg eachN_r8) .ret)))
def eachN_res : List ARes := [(.tmp 6)]
set_option maxRecDepth 100000 in
theorem eachN_get : getF Tryz.prog 164 37000 [] = some ("gavotte/prog.each[gavotte/api.Note]", 24, eachN_c, eachN_res) := by kernel_rfl
def instr_r0 : List AI := [oA 3 (.box 53003 4 (.t 0)), oA 4 (.box 53004 2 (.t 1)), oA 5 (.box 53005 2 (.t 2)), oA 6 (.mv (.c (.int .i64 0)))]
def instr_r1 : List AI := [oA 8 (.fld 0 (.t 5)), oA 9 (.load none (.t 8)), oC 10 (.c (.fn 154 [])) [(.t 9)], oA 7 (.mv (.t 10))]
def instr_r2 : List AI := [oA 12 (.fld 0 (.t 5)), oA 13 (.load none (.t 12)), oC 14 (.c (.fn 230 [])) [(.t 13)], oA 15 (.not (.t 14)), oA 11 (.mv (.t 15))]
def instr_r3 : List AI := [oA 16 (.mv (.t 7)), oA 17 (.ibin .eql (.t 16) (.c (.int .i64 0))), oA 18 (.mv (.t 17)), oG 19 18 true (.fld 1 (.t 5)), oG 20 18 true (.load none (.t 19)), oG 21 18 true (.ibin .neq (.t 20) (.c (.int .i64 0))), oA 22 (.pick (.t 18) (.t 21) (.c (.bool false))), oA 11 (.mv (.t 22))]
def instr_r4 : List AI := [oA 6 (.mv (.c (.int .i64 1)))]
def instr_r5 : List AI := [oA 24 (.mv (.t 7)), oA 25 (.ibin .eql (.t 24) (.c (.int .i64 4))), oA 26 (.mv (.t 25)), oG 27 26 true (.fld 1 (.t 5)), oG 28 26 true (.load none (.t 27)), oG 29 26 true (.ibin .lss (.t 28) (.c (.int .i64 0))), oG 30 26 true (.mv (.t 29)), oG 31 30 false (.fld 1 (.t 5)), oG 32 30 false (.load none (.t 31)), oG 33 30 false (.fld 1 (.t 4)), oG 34 30 false (.load none (.t 33)), oG 35 30 false (.len (.t 34)), oG 36 30 false (.ibin .gtr (.t 32) (.t 35)), oG 37 26 true (.pick (.t 30) (.c (.bool true)) (.t 36)), oA 38 (.pick (.t 26) (.t 37) (.c (.bool false))), oA 23 (.mv (.t 38))]
def instr_r6 : List AI := [oA 6 (.mv (.c (.int .i64 4)))]
def instr_r7 : List AI := [oA 40 (.mv (.t 7)), oA 41 (.ibin .eql (.t 40) (.c (.int .i64 2))), oA 42 (.mv (.t 41)), oG 43 42 true (.fld 1 (.t 5)), oG 44 42 true (.load none (.t 43)), oG 45 42 true (.ibin .lss (.t 44) (.c (.int .i64 0))), oG 46 42 true (.mv (.t 45)), oG 47 46 false (.fld 1 (.t 5)), oG 48 46 false (.load none (.t 47)), oG 49 46 false (.ibin .geq (.t 48) (.c (.int .i64 8))), oG 50 42 true (.pick (.t 46) (.c (.bool true)) (.t 49)), oA 51 (.pick (.t 42) (.t 50) (.c (.bool false))), oA 39 (.mv (.t 51))]
def instr_r8 : List AI := [oA 52 (.mv (.t 7)), oA 53 (.ibin .eql (.t 52) (.c (.int .i64 3))), oA 54 (.mv (.t 53)), oG 55 54 true (.fld 1 (.t 5)), oG 56 54 true (.load none (.t 55)), oG 57 54 true (.ibin .lss (.t 56) (.c (.int .i64 0))), oG 58 54 true (.mv (.t 57)), oG 59 58 false (.fld 1 (.t 5)), oG 60 58 false (.load none (.t 59)), oG 61 58 false (.fld 0 (.t 4)), oG 62 58 false (.load none (.t 61)), oG 63 58 false (.ibin .geq (.t 60) (.t 62)), oG 64 54 true (.pick (.t 58) (.c (.bool true)) (.t 63)), oA 65 (.pick (.t 54) (.t 64) (.c (.bool false))), oA 39 (.mv (.t 65))]
def instr_r9 : List AI := [oA 6 (.mv (.c (.int .i64 6)))]
def instr_r10 : List AI := [oA 67 (.mv (.t 7)), oA 68 (.ibin .eql (.t 67) (.c (.int .i64 5))), oA 69 (.mv (.t 68)), oG 70 69 true (.fld 1 (.t 5)), oG 71 69 true (.load none (.t 70)), oG 72 69 true (.ibin .lss (.t 71) (.c (.int .i64 0))), oG 73 69 true (.mv (.t 72)), oG 74 73 false (.fld 1 (.t 5)), oG 75 73 false (.load none (.t 74)), oG 76 73 false (.fld 0 (.t 3)), oG 77 73 false (.load none (.t 76)), oG 78 73 false (.len (.t 77)), oG 79 73 false (.ibin .geq (.t 75) (.t 78)), oG 80 69 true (.pick (.t 73) (.c (.bool true)) (.t 79)), oA 81 (.pick (.t 69) (.t 80) (.c (.bool false))), oA 66 (.mv (.t 81))]
def instr_r11 : List AI := [oA 6 (.mv (.c (.int .i64 7)))]
def instr_r12 : List AI := [oA 6 (.mv (.c (.int .i64 0)))]
def instr_c : AC := (.seq (.reg instr_r0) (.seq (.seq (.reg instr_r1) (.block 0 (.seq (.seq (.reg instr_r2) (.cond (.t 11) .skip (.reg instr_r3))) (.cond (.t 11) (.seq (.reg instr_r4) .ret) (.seq (.reg instr_r5) (.cond (.t 23) (.seq (.reg instr_r6) .ret) (.seq (.seq (.reg instr_r7) (.cond (.t 39) .skip (.reg instr_r8))) (.cond (.t 39) (.seq (.reg instr_r9) .ret) (.seq (.reg instr_r10) (.cond (.t 66) (.seq (.reg instr_r11) .ret) .skip)))))))))) (.seq (.reg instr_r12) .ret)))
def instr_res : List ARes := [(.tmp 6)]
set_option maxRecDepth 100000 in
theorem instr_get : getF Tryz.prog 208 53000 [] = some ("gavotte/prog.instr", 82, instr_c, instr_res) := by kernel_rfl
def handler_r0 : List AI := [oA 2 (.box 34002 4 (.t 0)), oA 3 (.box 34003 2 (.t 1)), oA 4 (.mv (.c (.int .i64 0)))]
def handler_r1 : List AI := [oA 9 (.fld 0 (.t 3)), oA 10 (.load none (.t 9)), oA 11 (.ibin .lss (.t 10) (.c (.int .i64 0))), oA 8 (.mv (.t 11))]
def handler_r2 : List AI := [oA 12 (.fld 0 (.t 3)), oA 13 (.load none (.t 12)), oA 14 (.ibin .gtr (.t 13) (.c (.int .i64 4))), oA 8 (.mv (.t 14))]
def handler_r3 : List AI := [oA 4 (.mv (.c (.int .i64 1)))]
def handler_r4 : List AI := [oA 16 (.fld 1 (.t 3)), oA 17 (.load none (.t 16)), oA 18 (.len (.t 17)), oA 19 (.ibin .gtr (.t 18) (.c (.int .i64 64))), oA 15 (.mv (.t 19))]
def handler_r5 : List AI := [oA 4 (.mv (.c (.int .i64 3)))]
def handler_r6 : List AI := [oA 20 (.fld 1 (.t 3)), oA 21 (.load none (.t 20)), oA 22 (.len (.t 21)), oA 23 (.mv (.c (.int .i64 0)))]
def handler_r7 : List AI := [oA 24 (.ibin .lss (.t 23) (.t 22))]
def handler_r8 : List AI := [oA 25 (.idx 2 (.t 21) (.t 23)), oA 26 (.load (some 2) (.t 25)), oA 6 (.new 34006 2 (.agg [(.int .i64 0), (.int .i64 0)])), oN (.store 2 (.t 6) (.t 26))]
def handler_r9 : List AI := [oA 27 (.load (some 4) (.t 2)), oA 28 (.load (some 2) (.t 3)), oA 29 (.load (some 2) (.t 6)), oC 30 (.c (.fn 208 [])) [(.t 27), (.t 28), (.t 29)], oA 7 (.mv (.t 30))]
def handler_r10 : List AI := [oA 31 (.mv (.t 7)), oA 32 (.ibin .neq (.t 31) (.c (.int .i64 0)))]
def handler_r11 : List AI := [oA 33 (.mv (.t 7)), oA 4 (.mv (.t 33))]
def handler_r12 : List AI := [oA 34 (.ibin .add (.t 23) (.c (.int .i64 1))), oA 23 (.mv (.t 34))]
def handler_l0 : AC := (.seq (.reg handler_r7) (.seq (.cond (.t 24) .skip (.exit 1)) (.seq (.block 2 (.seq (.reg handler_r8) (.seq (.reg handler_r9) (.seq (.reg handler_r10) (.cond (.t 32) (.seq (.reg handler_r11) .ret) .skip))))) (.reg handler_r12))))
def handler_r13 : List AI := [oA 4 (.mv (.c (.int .i64 0)))]
def handler_c : AC := (.seq (.reg handler_r0) (.seq (.block 0 (.seq (.seq (.reg handler_r1) (.cond (.t 8) .skip (.reg handler_r2))) (.cond (.t 8) (.seq (.reg handler_r3) .ret) (.seq (.reg handler_r4) (.cond (.t 15) (.seq (.reg handler_r5) .ret) .skip))))) (.seq (.seq (.reg handler_r6) (.block 1 (.loop handler_l0))) (.seq (.reg handler_r13) .ret))))
def handler_res : List ARes := [(.tmp 4)]
set_option maxRecDepth 100000 in
theorem handler_get : getF Tryz.prog 161 34000 [] = some ("gavotte/prog.handler", 35, handler_c, handler_res) := by kernel_rfl
def actor_r0 : List AI := [oA 2 (.box 36002 4 (.t 0)), oA 3 (.box 36003 4 (.t 1)), oA 4 (.mv (.c (.int .i64 0)))]
def actor_r1 : List AI := [oA 6 (.fld 0 (.t 3)), oA 7 (.load none (.t 6)), oA 8 (.len (.t 7)), oA 9 (.ibin .gtr (.t 8) (.c (.int .i64 8))), oA 5 (.mv (.t 9))]
def actor_r2 : List AI := [oA 4 (.mv (.c (.int .i64 3)))]
def actor_r3 : List AI := [oA 11 (.fld 1 (.t 3)), oA 12 (.load none (.t 11)), oA 13 (.ibin .lss (.t 12) (.c (.int .i64 0))), oA 10 (.mv (.t 13))]
def actor_r4 : List AI := [oA 14 (.fld 1 (.t 3)), oA 15 (.load none (.t 14)), oA 16 (.ibin .gtr (.t 15) (.c (.int .i64 16))), oA 10 (.mv (.t 16))]
def actor_r5 : List AI := [oA 4 (.mv (.c (.int .i64 1)))]
def actor_r6 : List AI := [oA 18 (.fld 2 (.t 3)), oA 19 (.load none (.t 18)), oA 20 (.ibin .neq (.t 19) (.c (.int .i64 (-1)))), oA 21 (.mv (.t 20)), oG 22 21 true (.fld 2 (.t 3)), oG 23 21 true (.load none (.t 22)), oG 24 21 true (.ibin .lss (.t 23) (.c (.int .i64 0))), oG 25 21 true (.mv (.t 24)), oG 26 25 false (.fld 2 (.t 3)), oG 27 25 false (.load none (.t 26)), oG 28 25 false (.fld 0 (.t 2)), oG 29 25 false (.load none (.t 28)), oG 30 25 false (.len (.t 29)), oG 31 25 false (.ibin .geq (.t 27) (.t 30)), oG 32 21 true (.pick (.t 25) (.c (.bool true)) (.t 31)), oG 33 21 true (.mv (.t 32)), oG 34 33 false (.fld 0 (.t 2)), oG 35 33 false (.load none (.t 34)), oG 36 33 false (.fld 2 (.t 3)), oG 37 33 false (.load none (.t 36)), oG 38 33 false (.idx 2 (.t 35) (.t 37)), oG 39 33 false (.fld 0 (.t 38)), oG 40 33 false (.load none (.t 39)), oG 41 33 false (.ibin .neq (.t 40) (.c (.int .i64 0))), oG 42 21 true (.pick (.t 33) (.c (.bool true)) (.t 41)), oA 43 (.pick (.t 21) (.t 42) (.c (.bool false))), oA 17 (.mv (.t 43))]
def actor_r7 : List AI := [oA 4 (.mv (.c (.int .i64 7)))]
def actor_r8 : List AI := [oA 45 (.fld 3 (.t 3)), oA 46 (.load none (.t 45)), oA 47 (.mv (.t 46)), oG 48 47 true (.fld 2 (.t 3)), oG 49 47 true (.load none (.t 48)), oG 50 47 true (.ibin .eql (.t 49) (.c (.int .i64 (-1)))), oA 51 (.pick (.t 47) (.t 50) (.c (.bool false))), oA 44 (.mv (.t 51))]
def actor_r9 : List AI := [oA 4 (.mv (.c (.int .i64 1)))]
def actor_r10 : List AI := [oA 4 (.mv (.c (.int .i64 0)))]
def actor_c : AC := (.seq (.reg actor_r0) (.seq (.block 0 (.seq (.reg actor_r1) (.cond (.t 5) (.seq (.reg actor_r2) .ret) (.seq (.seq (.reg actor_r3) (.cond (.t 10) .skip (.reg actor_r4))) (.cond (.t 10) (.seq (.reg actor_r5) .ret) (.seq (.reg actor_r6) (.cond (.t 17) (.seq (.reg actor_r7) .ret) (.seq (.reg actor_r8) (.cond (.t 44) (.seq (.reg actor_r9) .ret) .skip))))))))) (.seq (.reg actor_r10) .ret)))
def actor_res : List ARes := [(.tmp 4)]
set_option maxRecDepth 100000 in
theorem actor_get : getF Tryz.prog 163 36000 [] = some ("gavotte/prog.actor", 52, actor_c, actor_res) := by kernel_rfl
def note_r0 : List AI := [oA 2 (.box 38002 4 (.t 0)), oA 3 (.box 38003 3 (.t 1)), oA 4 (.mv (.c (.int .i64 0)))]
def note_r1 : List AI := [oA 6 (.fld 0 (.t 3)), oA 7 (.load none (.t 6)), oA 8 (.ibin .lss (.t 7) (.c (.int .i64 0))), oA 5 (.mv (.t 8))]
def note_r2 : List AI := [oA 9 (.fld 0 (.t 3)), oA 10 (.load none (.t 9)), oA 11 (.fld 1 (.t 2)), oA 12 (.load none (.t 11)), oA 13 (.len (.t 12)), oA 14 (.ibin .geq (.t 10) (.t 13)), oA 5 (.mv (.t 14))]
def note_r3 : List AI := [oA 15 (.fld 1 (.t 3)), oA 16 (.load none (.t 15)), oA 17 (.ibin .lss (.t 16) (.c (.int .i64 0))), oA 5 (.mv (.t 17))]
def note_r4 : List AI := [oA 18 (.fld 1 (.t 3)), oA 19 (.load none (.t 18)), oA 20 (.fld 0 (.t 2)), oA 21 (.load none (.t 20)), oA 22 (.len (.t 21)), oA 23 (.ibin .geq (.t 19) (.t 22)), oA 5 (.mv (.t 23))]
def note_r5 : List AI := [oA 4 (.mv (.c (.int .i64 7)))]
def note_r6 : List AI := [oA 25 (.fld 2 (.t 3)), oA 26 (.load none (.t 25)), oA 27 (.len (.t 26)), oA 28 (.fld 0 (.t 2)), oA 29 (.load none (.t 28)), oA 30 (.fld 1 (.t 3)), oA 31 (.load none (.t 30)), oA 32 (.idx 2 (.t 29) (.t 31)), oA 33 (.fld 0 (.t 32)), oA 34 (.load none (.t 33)), oA 35 (.ibin .neq (.t 27) (.t 34)), oA 24 (.mv (.t 35))]
def note_p6 : List (List Nat) := [[], [0], [1, 0], [], [3], [], [5], [4, 6, 3, 5], [7, 4, 6, 3, 5], [8, 7, 4, 6, 3, 5], [2, 9, 1, 0, 8, 7, 4, 6, 3, 5], [10, 2, 9, 1, 0, 8, 7, 4, 6, 3, 5]]
def note_r7 : List AI := [oA 4 (.mv (.c (.int .i64 1)))]
def note_r8 : List AI := [oA 4 (.mv (.c (.int .i64 0)))]
def note_c : AC := (.seq (.reg note_r0) (.seq (.block 0 (.seq (.seq (.reg note_r1) (.cond (.t 5) .skip (.seq (.reg note_r2) (.cond (.t 5) .skip (.seq (.reg note_r3) (.cond (.t 5) .skip (.reg note_r4))))))) (.cond (.t 5) (.seq (.reg note_r5) .ret) (.seq (.regd note_r6 note_p6) (.cond (.t 24) (.seq (.reg note_r7) .ret) .skip))))) (.seq (.reg note_r8) .ret)))
def note_res : List ARes := [(.tmp 4)]
set_option maxRecDepth 100000 in
theorem note_get : getF Tryz.prog 165 38000 [] = some ("gavotte/prog.Note", 36, note_c, note_res) := by kernel_rfl
attribute [simp] valid_r0 valid_r1 valid_res operand_r0 operand_r1 operand_r2 operand_r3 operand_r4 operand_r5 operand_r6 operand_r7 operand_r8 operand_r9 operand_r10 operand_r11 operand_r12 operand_r13 operand_r14 operand_res eachH_r0 eachH_r1 eachH_r2 eachH_r3 eachH_r4 eachH_r5 eachH_r6 eachH_r7 eachH_r8 eachH_res eachA_r0 eachA_r1 eachA_r2 eachA_r3 eachA_r4 eachA_r5 eachA_r6 eachA_r7 eachA_r8 eachA_res eachN_r0 eachN_r1 eachN_r2 eachN_r3 eachN_r4 eachN_r5 eachN_r6 eachN_r7 eachN_r8 eachN_res instr_r0 instr_r1 instr_r2 instr_r3 instr_r4 instr_r5 instr_r6 instr_r7 instr_r8 instr_r9 instr_r10 instr_r11 instr_r12 instr_res handler_r0 handler_r1 handler_r2 handler_r3 handler_r4 handler_r5 handler_r6 handler_r7 handler_r8 handler_r9 handler_r10 handler_r11 handler_r12 handler_r13 handler_res actor_r0 actor_r1 actor_r2 actor_r3 actor_r4 actor_r5 actor_r6 actor_r7 actor_r8 actor_r9 actor_r10 actor_res note_r0 note_r1 note_r2 note_r3 note_r4 note_r5 note_r6 note_p6 note_r7 note_r8 note_res
theorem valid_pc (n : Int) : PC Tryz.prog 230 [iv n] (.bool (decide (1 <= n) && decide (n <= 25))) := by
 refine pc_of_get valid_get (by simp) _ (by simp) _ ?_
 unfold valid_c
 simp
 repeat' (refine split (fun hc => ?_) (fun hc => ?_) <;> simp [*])
theorem operand_pc (n : Int) : PC Tryz.prog 154 [iv n] (iv (operandV n)) := by
 refine pc_of_get operand_get (by simp) _ (by simp) _ ?_
 unfold operand_c
 simp
 repeat' (refine split (fun hc => ?_) (fun hc => ?_) <;> simp [*])
 all_goals grind [operandV]
theorem eachH_pc (p : Prg) (hs : List Hnd) (f : FuncId) (g : Hnd -> Int) (hg : ∀ h ∈ hs, PC Tryz.prog f [p.av, h.av] (iv (g h))) (hl : hs.length < 4611686018427387904) :
   PC Tryz.prog 160 [p.av, .lst 2 (hs.map Hnd.av), .fn f []] (iv (firstNZ (hs.map g))) := by
 refine pc_of_get eachH_get (by simp) _ (by simp) _ ?_
 unfold eachH_c
 simp
 refine loopN (fun i S => S.t 10 = .lst 2 (hs.map Hnd.av) /\ S.t 11 = iv hs.length /\ S.t 12 = iv i /\ S.t 2 = .fn f [] /\ (∃ st, S.t 3 = .ptr 33003 st 4 0 0 /\ S.blk 33003 = some ⟨st, 4, [p.av]⟩) /\ firstNZ (hs.map g) = firstNZ ((hs.map g).drop i)) hs.length ?_ ?_
 . simp
 . rintro i S hi ⟨h10, h11, h12, h2, ⟨st, h3, hb⟩, hv⟩
   by_cases hlt : i < hs.length
   . have e : hs[i]? = some hs[i] := List.getElem?_eq_getElem hlt
     have hm := hg hs[i] (List.getElem_mem hlt)
     rw [firstNZ_drop _ _ (by simpa using hlt), List.getElem_map] at hv
     simp [eachH_l0, h10, h11, h12, h2, h3, hb, hlt, e]
     refine call hm (by simp) ?_
     simp [h10, h11, h12, h2, h3, hb, hlt, hv]
     refine split (fun hc => ?_) (fun hc => ?_) <;> simp [hc, h10, h11, h12, h2, h3, hb, hlt, hv, wrap_succ i _ hlt hl]
   . have e : i = hs.length := by omega
     subst e
     rw [firstNZ_end _ _ (by simp)] at hv
     simp [eachH_l0, h10, h11, h12, h2, h3, hb, hv]
theorem eachA_pc (p : Prg) (hs : List Actr) (f : FuncId) (g : Actr -> Int) (hg : ∀ h ∈ hs, PC Tryz.prog f [p.av, h.av] (iv (g h))) (hl : hs.length < 4611686018427387904) :
   PC Tryz.prog 162 [p.av, .lst 4 (hs.map Actr.av), .fn f []] (iv (firstNZ (hs.map g))) := by
 refine pc_of_get eachA_get (by simp) _ (by simp) _ ?_
 unfold eachA_c
 simp
 refine loopN (fun i S => S.t 10 = .lst 4 (hs.map Actr.av) /\ S.t 11 = iv hs.length /\ S.t 12 = iv i /\ S.t 2 = .fn f [] /\ (∃ st, S.t 3 = .ptr 35003 st 4 0 0 /\ S.blk 35003 = some ⟨st, 4, [p.av]⟩) /\ firstNZ (hs.map g) = firstNZ ((hs.map g).drop i)) hs.length ?_ ?_
 . simp
 . rintro i S hi ⟨h10, h11, h12, h2, ⟨st, h3, hb⟩, hv⟩
   by_cases hlt : i < hs.length
   . have e : hs[i]? = some hs[i] := List.getElem?_eq_getElem hlt
     have hm := hg hs[i] (List.getElem_mem hlt)
     rw [firstNZ_drop _ _ (by simpa using hlt), List.getElem_map] at hv
     simp [eachA_l0, h10, h11, h12, h2, h3, hb, hlt, e]
     refine call hm (by simp) ?_
     simp [h10, h11, h12, h2, h3, hb, hlt, hv]
     refine split (fun hc => ?_) (fun hc => ?_) <;> simp [hc, h10, h11, h12, h2, h3, hb, hlt, hv, wrap_succ i _ hlt hl]
   . have e : i = hs.length := by omega
     subst e
     rw [firstNZ_end _ _ (by simp)] at hv
     simp [eachA_l0, h10, h11, h12, h2, h3, hb, hv]
theorem eachN_pc (p : Prg) (hs : List Nt) (f : FuncId) (g : Nt -> Int) (hg : ∀ h ∈ hs, PC Tryz.prog f [p.av, h.av] (iv (g h))) (hl : hs.length < 4611686018427387904) :
   PC Tryz.prog 164 [p.av, .lst 3 (hs.map Nt.av), .fn f []] (iv (firstNZ (hs.map g))) := by
 refine pc_of_get eachN_get (by simp) _ (by simp) _ ?_
 unfold eachN_c
 simp
 refine loopN (fun i S => S.t 10 = .lst 3 (hs.map Nt.av) /\ S.t 11 = iv hs.length /\ S.t 12 = iv i /\ S.t 2 = .fn f [] /\ (∃ st, S.t 3 = .ptr 37003 st 4 0 0 /\ S.blk 37003 = some ⟨st, 4, [p.av]⟩) /\ firstNZ (hs.map g) = firstNZ ((hs.map g).drop i)) hs.length ?_ ?_
 . simp
 . rintro i S hi ⟨h10, h11, h12, h2, ⟨st, h3, hb⟩, hv⟩
   by_cases hlt : i < hs.length
   . have e : hs[i]? = some hs[i] := List.getElem?_eq_getElem hlt
     have hm := hg hs[i] (List.getElem_mem hlt)
     rw [firstNZ_drop _ _ (by simpa using hlt), List.getElem_map] at hv
     simp [eachN_l0, h10, h11, h12, h2, h3, hb, hlt, e]
     refine call hm (by simp) ?_
     simp [h10, h11, h12, h2, h3, hb, hlt, hv]
     refine split (fun hc => ?_) (fun hc => ?_) <;> simp [hc, h10, h11, h12, h2, h3, hb, hlt, hv, wrap_succ i _ hlt hl]
   . have e : i = hs.length := by omega
     subst e
     rw [firstNZ_end _ _ (by simp)] at hv
     simp [eachN_l0, h10, h11, h12, h2, h3, hb, hv]
theorem instr_pc (p : Prg) (h : Hnd) (i : Ins) : PC Tryz.prog 208 [p.av, h.av, i.av] (iv (instrV p.hs.length h.args h.code.length i)) := by
 refine pc_of_get instr_get (by simp) _ (by simp) _ ?_
 unfold instr_c
 simp
 refine call (operand_pc i.op) (by simp) ?_
 simp
 refine call (valid_pc i.op) (by simp) ?_
 have hk := operandV_cases i.op
 unfold instrV
 generalize operandV i.op = k at hk
 simp
 by_cases h1 : 1 <= i.op
 . by_cases h2 : i.op <= 25
   . rcases hk with rfl | rfl | rfl | rfl | rfl | rfl <;> simp [h1, h2]
     all_goals
       repeat' (refine split (fun hc => ?_) (fun hc => ?_) <;> simp [*])
     all_goals grind
   . simp [h1, h2]
 . simp [h1]
theorem handler_pc (p : Prg) (h : Hnd) : PC Tryz.prog 161 [p.av, h.av] (iv (handlerV p.hs.length h)) := by
 refine pc_of_get handler_get (by simp) _ (by simp) _ ?_
 unfold handler_c
 simp
 refine split (fun h1 => ?_) (fun h1 => ?_) <;> simp [h1]
 . grind [handlerV]
 refine split (fun h2 => ?_) (fun h2 => ?_) <;> simp [h2]
 . grind [handlerV]
 refine split (fun h3 => ?_) (fun h3 => ?_) <;> simp [h3]
 . grind [handlerV]
 have hv : handlerV p.hs.length h = firstNZ (h.code.map (instrV p.hs.length h.args h.code.length)) := by grind [handlerV]
 rw [hv]
 refine loopN (fun i S => S.t 21 = .lst 2 (h.code.map Ins.av) /\ S.t 22 = iv h.code.length /\ S.t 23 = iv i /\ (∃ st, S.t 2 = .ptr 34002 st 4 0 0 /\ S.blk 34002 = some ⟨st, 4, [p.av]⟩) /\ (∃ st, S.t 3 = .ptr 34003 st 2 0 0 /\ S.blk 34003 = some ⟨st, 2, [h.av]⟩) /\
   firstNZ (h.code.map (instrV p.hs.length h.args h.code.length)) = firstNZ ((h.code.map (instrV p.hs.length h.args h.code.length)).drop i)) h.code.length ?_ ?_
 . simp
 . rintro i S hi ⟨h10, h11, h12, ⟨st, g1, g2⟩, ⟨st', g3, g4⟩, hv⟩
   by_cases hlt : i < h.code.length
   . rw [firstNZ_drop _ _ (by simpa using hlt), List.getElem_map] at hv
     simp [handler_l0, h10, h11, h12, g1, g2, g3, g4, hlt]
     refine call (instr_pc p h h.code[i]) (by simp) ?_
     simp
     refine split (fun hc => ?_) (fun hc => ?_) <;> simp [hc, h10, h11, h12, g1, g2, g3, g4, hlt, hv, wrap_succ i _ hlt (by omega)]
   . have e : i = h.code.length := by omega
     subst e
     rw [firstNZ_end _ _ (by simp)] at hv
     simp [handler_l0, h10, h11, h12, g1, g2, g3, g4, hv]
theorem actor_pc (p : Prg) (a : Actr) : PC Tryz.prog 163 [p.av, a.av] (iv (actorV p.hs a)) := by
 refine pc_of_get actor_get (by simp) _ (by simp) _ ?_
 unfold actor_c
 simp
 refine split (fun h1 => ?_) (fun h1 => ?_) <;> simp [h1]
 . grind [actorV]
 refine split (fun h2 => ?_) (fun h2 => ?_) <;> simp [h2]
 . grind [actorV]
 refine split (fun h3 => ?_) (fun h3 => ?_) <;> simp [h3]
 . grind [actorV]
 obtain ⟨regs, cap, timer, armed⟩ := a
 simp at h1 h2 h3
 by_cases ht : timer = -1
 . subst ht
   simp
   cases armed <;> simp <;> grind [actorV]
 . simp [ht]
   by_cases ht2 : timer < 0
   . simp [ht2]; grind [actorV]
   . obtain ⟨k, rfl⟩ := Int.eq_ofNat_of_zero_le (by omega : 0 <= timer)
     have hn : ¬ ((k : Int) < 0) := by omega
     by_cases hk : k < p.hs.length
     . simp [hk, ht, hn, Nat.not_le.2 hk]
       by_cases hz : p.hs[k].args = 0
       . simp [hk, ht, hn, hz, Nat.not_le.2 hk]
         cases armed <;> simp [hk, ht, hn, hz, Nat.not_le.2 hk] <;> grind [actorV]
       . simp [hk, ht, hn, hz, Nat.not_le.2 hk]; grind [actorV]
     . simp [hk, ht, hn, Nat.not_lt.1 hk]; grind [actorV]
theorem note_pc (p : Prg) (n : Nt) : PC Tryz.prog 165 [p.av, n.av] (iv (noteV p.hs p.as.length n)) := by
 refine pc_of_get note_get (by simp) _ (by simp) _ ?_
 unfold note_c
 simp
 refine split (fun h1 => ?_) (fun h1 => ?_) <;> simp [h1]
 . grind [noteV]
 refine split (fun h2 => ?_) (fun h2 => ?_) <;> simp [h2]
 . grind [noteV]
 refine split (fun h3 => ?_) (fun h3 => ?_) <;> simp [h3]
 . grind [noteV]
 refine split (fun h4 => ?_) (fun h4 => ?_) <;> simp only [h4]
 . simp [h4]; grind [noteV]
 obtain ⟨to, hd, args⟩ := n
 obtain ⟨k, rfl⟩ := Int.eq_ofNat_of_zero_le (by simpa using h3 : 0 <= hd)
 have hk : k < p.hs.length := by simpa using h4
 simp [hk]
 refine split (fun h5 => ?_) (fun h5 => ?_) <;> simp <;> grind [noteV]
end Go.Gv

namespace Go.Gv
open Go.Proofs
def check_r0 : List AI := [oA 1 (.box 21001 4 (.t 0)), oA 2 (.mv (.c (.int .i64 0)))]
def check_r1 : List AI := [oA 6 (.fld 0 (.t 1)), oA 7 (.load none (.t 6)), oA 8 (.len (.t 7)), oA 9 (.ibin .gtr (.t 8) (.c (.int .i64 16))), oA 5 (.mv (.t 9))]
def check_r2 : List AI := [oA 10 (.fld 1 (.t 1)), oA 11 (.load none (.t 10)), oA 12 (.len (.t 11)), oA 13 (.ibin .gtr (.t 12) (.c (.int .i64 8))), oA 5 (.mv (.t 13))]
def check_r3 : List AI := [oA 14 (.fld 2 (.t 1)), oA 15 (.load none (.t 14)), oA 16 (.len (.t 15)), oA 17 (.ibin .gtr (.t 16) (.c (.int .i64 16))), oA 5 (.mv (.t 17))]
def check_r4 : List AI := [oA 2 (.mv (.c (.int .i64 3)))]
def check_r5 : List AI := [oA 19 (.fld 1 (.t 1)), oA 20 (.load none (.t 19)), oA 21 (.len (.t 20)), oA 22 (.ibin .eql (.t 21) (.c (.int .i64 0))), oA 18 (.mv (.t 22))]
def check_r6 : List AI := [oA 23 (.fld 3 (.t 1)), oA 24 (.load none (.t 23)), oA 25 (.ibin .lss (.t 24) (.c (.int .i64 1))), oA 18 (.mv (.t 25))]
def check_r7 : List AI := [oA 26 (.fld 3 (.t 1)), oA 27 (.load none (.t 26)), oA 28 (.ibin .gtr (.t 27) (.c (.int .i64 256))), oA 18 (.mv (.t 28))]
def check_r8 : List AI := [oA 2 (.mv (.c (.int .i64 1)))]
def check_r9 : List AI := [oA 29 (.load (some 4) (.t 1)), oA 30 (.fld 0 (.t 1)), oA 31 (.load none (.t 30)), oC 32 (.c (.fn 160 [])) [(.t 29), (.t 31), (.c (.fn 161 []))], oA 3 (.mv (.t 32))]
def check_r10 : List AI := [oA 33 (.mv (.t 3)), oA 34 (.ibin .neq (.t 33) (.c (.int .i64 0)))]
def check_r11 : List AI := [oA 35 (.mv (.t 3)), oA 2 (.mv (.t 35))]
def check_r12 : List AI := [oA 36 (.load (some 4) (.t 1)), oA 37 (.fld 1 (.t 1)), oA 38 (.load none (.t 37)), oC 39 (.c (.fn 162 [])) [(.t 36), (.t 38), (.c (.fn 163 []))], oA 4 (.mv (.t 39))]
def check_r13 : List AI := [oA 40 (.mv (.t 4)), oA 41 (.ibin .neq (.t 40) (.c (.int .i64 0)))]
def check_r14 : List AI := [oA 42 (.mv (.t 4)), oA 2 (.mv (.t 42))]
def check_r15 : List AI := [oA 43 (.load (some 4) (.t 1)), oA 44 (.fld 2 (.t 1)), oA 45 (.load none (.t 44)), oC 46 (.c (.fn 164 [])) [(.t 43), (.t 45), (.c (.fn 165 []))], oA 2 (.mv (.t 46))]
def check_c : AC := (.seq (.reg check_r0) (.seq (.block 0 (.seq (.seq (.reg check_r1) (.cond (.t 5) .skip (.seq (.reg check_r2) (.cond (.t 5) .skip (.reg check_r3))))) (.cond (.t 5) (.seq (.reg check_r4) .ret) (.seq (.seq (.reg check_r5) (.cond (.t 18) .skip (.seq (.reg check_r6) (.cond (.t 18) .skip (.reg check_r7))))) (.cond (.t 18) (.seq (.reg check_r8) .ret) .skip))))) (.seq (.seq (.reg check_r9) (.seq (.reg check_r10) (.cond (.t 34) (.seq (.reg check_r11) .ret) .skip))) (.seq (.seq (.reg check_r12) (.seq (.reg check_r13) (.cond (.t 41) (.seq (.reg check_r14) .ret) .skip))) (.seq (.reg check_r15) .ret)))))
def check_res : List ARes := [(.tmp 2)]
set_option maxRecDepth 100000 in
theorem check_get : getF Tryz.prog 122 21000 [] = some ("gavotte/prog.Check", 47, check_c, check_res) := by kernel_rfl
attribute [simp] check_r0 check_r1 check_r2 check_r3 check_r4 check_r5 check_r6 check_r7 check_r8 check_r9 check_r10 check_r11 check_r12 check_r13 check_r14 check_r15 check_res
theorem check_pc (p : Prg) : PC Tryz.prog 122 [p.av] (iv (checkV p)) := by
 refine pc_of_get check_get (by simp) _ (by simp) _ ?_
 unfold check_c
 simp
 refine split (fun h1 => ?_) (fun h1 => ?_) <;> simp [h1]
 . grind [checkV]
 refine split (fun h2 => ?_) (fun h2 => ?_) <;> simp [h2]
 . grind [checkV]
 refine split (fun h3 => ?_) (fun h3 => ?_) <;> simp [h3]
 . grind [checkV]
 refine split (fun h4 => ?_) (fun h4 => ?_) <;> simp [h4]
 . grind [checkV]
 refine split (fun h5 => ?_) (fun h5 => ?_) <;> simp [h5]
 . grind [checkV]
 refine split (fun h6 => ?_) (fun h6 => ?_) <;> simp [h6]
 . grind [checkV]
 refine call (eachH_pc p p.hs 161 (handlerV p.hs.length) (fun h _ => handler_pc p h) (by omega)) (by simp) ?_
 simp
 refine split (fun h7 => ?_) (fun h7 => ?_) <;> simp [h7]
 rotate_left
 . grind [checkV]
 refine call (eachA_pc p p.as 163 (actorV p.hs) (fun h _ => actor_pc p h) (by omega)) (by simp) ?_
 simp
 refine split (fun h8 => ?_) (fun h8 => ?_) <;> simp [h8]
 rotate_left
 . grind [checkV]
 refine call (eachN_pc p p.boot 165 (noteV p.hs p.as.length) (fun h _ => note_pc p h) (by omega)) (by simp) ?_
 simp
 grind [checkV]
end Go.Gv

namespace Go.Gv
open Go.Proofs
end Go.Gv

namespace Go.Gv
open Go.Proofs
end Go.Gv

namespace Go.Gv
open Go.Proofs
def small_r0 : List AI := [oA 1 (.box 19001 4 (.t 0)), oA 2 (.mv (.c (.bool false)))]
def small_r1 : List AI := [oA 6 (.fld 0 (.t 1)), oA 7 (.load none (.t 6)), oA 8 (.len (.t 7)), oA 9 (.ibin .gtr (.t 8) (.c (.int .i64 18))), oA 10 (.mv (.t 9)), oG 11 10 false (.fld 1 (.t 1)), oG 12 10 false (.load none (.t 11)), oG 13 10 false (.len (.t 12)), oG 14 10 false (.ibin .gtr (.t 13) (.c (.int .i64 10))), oA 15 (.pick (.t 10) (.c (.bool true)) (.t 14)), oA 16 (.mv (.t 15)), oG 17 16 false (.fld 2 (.t 1)), oG 18 16 false (.load none (.t 17)), oG 19 16 false (.len (.t 18)), oG 20 16 false (.ibin .gtr (.t 19) (.c (.int .i64 18))), oA 21 (.pick (.t 16) (.c (.bool true)) (.t 20))]
def small_r2 : List AI := [oA 2 (.mv (.c (.bool false)))]
def small_r3 : List AI := [oA 3 (.mv (.c (.int .i64 0)))]
def small_r4 : List AI := [oA 22 (.mv (.t 3)), oA 23 (.fld 0 (.t 1)), oA 24 (.load none (.t 23)), oA 25 (.len (.t 24)), oA 26 (.ibin .lss (.t 22) (.t 25))]
def small_r5 : List AI := [oA 29 (.fld 0 (.t 1)), oA 30 (.load none (.t 29)), oA 31 (.mv (.t 3)), oA 32 (.idx 2 (.t 30) (.t 31)), oA 33 (.fld 1 (.t 32)), oA 34 (.load none (.t 33)), oA 35 (.len (.t 34)), oA 36 (.ibin .gtr (.t 35) (.c (.int .i64 70)))]
def small_r6 : List AI := [oA 2 (.mv (.c (.bool false)))]
def small_r7 : List AI := [oA 27 (.mv (.t 3)), oA 28 (.ibin .add (.t 27) (.c (.int .i64 1))), oA 3 (.mv (.t 28))]
def small_l0 : AC := (.seq (.seq (.reg small_r4) (.cond (.t 26) .skip (.exit 0))) (.seq (.block 1 (.seq (.reg small_r5) (.cond (.t 36) (.seq (.reg small_r6) .ret) .skip))) (.reg small_r7)))
def small_r8 : List AI := [oA 4 (.mv (.c (.int .i64 0)))]
def small_r9 : List AI := [oA 37 (.mv (.t 4)), oA 38 (.fld 1 (.t 1)), oA 39 (.load none (.t 38)), oA 40 (.len (.t 39)), oA 41 (.ibin .lss (.t 37) (.t 40))]
def small_r10 : List AI := [oA 44 (.fld 1 (.t 1)), oA 45 (.load none (.t 44)), oA 46 (.mv (.t 4)), oA 47 (.idx 4 (.t 45) (.t 46)), oA 48 (.fld 0 (.t 47)), oA 49 (.load none (.t 48)), oA 50 (.len (.t 49)), oA 51 (.ibin .gtr (.t 50) (.c (.int .i64 10)))]
def small_r11 : List AI := [oA 2 (.mv (.c (.bool false)))]
def small_r12 : List AI := [oA 42 (.mv (.t 4)), oA 43 (.ibin .add (.t 42) (.c (.int .i64 1))), oA 4 (.mv (.t 43))]
def small_l1 : AC := (.seq (.seq (.reg small_r9) (.cond (.t 41) .skip (.exit 2))) (.seq (.block 3 (.seq (.reg small_r10) (.cond (.t 51) (.seq (.reg small_r11) .ret) .skip))) (.reg small_r12)))
def small_r13 : List AI := [oA 5 (.mv (.c (.int .i64 0)))]
def small_r14 : List AI := [oA 52 (.mv (.t 5)), oA 53 (.fld 2 (.t 1)), oA 54 (.load none (.t 53)), oA 55 (.len (.t 54)), oA 56 (.ibin .lss (.t 52) (.t 55))]
def small_r15 : List AI := [oA 59 (.fld 2 (.t 1)), oA 60 (.load none (.t 59)), oA 61 (.mv (.t 5)), oA 62 (.idx 3 (.t 60) (.t 61)), oA 63 (.fld 2 (.t 62)), oA 64 (.load none (.t 63)), oA 65 (.len (.t 64)), oA 66 (.ibin .gtr (.t 65) (.c (.int .i64 6)))]
def small_r16 : List AI := [oA 2 (.mv (.c (.bool false)))]
def small_r17 : List AI := [oA 57 (.mv (.t 5)), oA 58 (.ibin .add (.t 57) (.c (.int .i64 1))), oA 5 (.mv (.t 58))]
def small_l2 : AC := (.seq (.seq (.reg small_r14) (.cond (.t 56) .skip (.exit 4))) (.seq (.block 5 (.seq (.reg small_r15) (.cond (.t 66) (.seq (.reg small_r16) .ret) .skip))) (.reg small_r17)))
def small_r18 : List AI := [oA 2 (.mv (.c (.bool true)))]
def small_c : AC := (.seq (.reg small_r0) (.seq (.seq (.reg small_r1) (.cond (.t 21) (.seq (.reg small_r2) .ret) .skip)) (.seq (.seq (.reg small_r3) (.block 0 (.loop small_l0))) (.seq (.seq (.reg small_r8) (.block 2 (.loop small_l1))) (.seq (.seq (.reg small_r13) (.block 4 (.loop small_l2))) (.seq (.reg small_r18) .ret))))))
def small_res : List ARes := [(.tmp 2)]
set_option maxRecDepth 100000 in
theorem small_get : getF Tryz.prog 15 19000 [] = some ("gavotte/gavottealike.Small", 67, small_c, small_res) := by kernel_rfl
attribute [simp] small_r0 small_r1 small_r2 small_r3 small_r4 small_r5 small_r6 small_r7 small_r8 small_r9 small_r10 small_r11 small_r12 small_r13 small_r14 small_r15 small_r16 small_r17 small_r18 small_res
def smallV (p : Prg) : Prop := p.hs.length <= 18 /\ p.as.length <= 10 /\ p.boot.length <= 18 /\ (∀ h ∈ p.hs, h.code.length <= 70) /\ (∀ a ∈ p.as, a.regs.length <= 10) /\ (∀ n ∈ p.boot, n.args.length <= 6)
instance (p : Prg) : Decidable (smallV p) := inferInstanceAs (Decidable (_ /\ _))
theorem all_drop {α : Type} (l : List α) (P : α -> Prop) (i : Nat) (h : i < l.length) : (∀ x ∈ l.drop i, P x) ↔ P l[i] /\ ∀ x ∈ l.drop (i + 1), P x := by
 rw [List.drop_eq_getElem_cons h]; simp only [List.mem_cons, forall_eq_or_imp]
theorem small_pc (p : Prg) : PC Tryz.prog 15 [p.av] (.bool (decide (smallV p))) := by
 refine pc_of_get small_get (by simp) _ (by simp) _ ?_
 unfold small_c
 simp
 refine split (fun h1 => ?_) (fun h1 => ?_) <;> simp [h1]
 . intro h; have := h.1; omega
 refine split (fun h2 => ?_) (fun h2 => ?_) <;> simp [h2]
 . intro h; have := h.2.1; omega
 refine split (fun h3 => ?_) (fun h3 => ?_) <;> simp [h3]
 . intro h; have := h.2.2.1; omega
 have e : smallV p ↔ (∀ h ∈ p.hs, h.code.length <= 70) /\ (∀ a ∈ p.as, a.regs.length <= 10) /\ (∀ n ∈ p.boot, n.args.length <= 6) := by
   unfold smallV
   constructor
   . intro h; exact h.2.2.2
   . intro h; exact ⟨by omega, by omega, by omega, h⟩
 refine loopN (fun i S => S.t 3 = iv i /\ (∃ st, S.t 1 = .ptr 19001 st 4 0 0 /\ S.blk 19001 = some ⟨st, 4, [p.av]⟩) /\
   ((∀ h ∈ p.hs, h.code.length <= 70) ↔ ∀ h ∈ p.hs.drop i, h.code.length <= 70)) p.hs.length ?_ ?_
 . simp
 . rintro i S hi ⟨g1, ⟨st, g2, g3⟩, hh⟩
   by_cases hlt : i < p.hs.length
   . rw [all_drop _ _ _ hlt] at hh
     simp [small_l0, g1, g2, g3, hlt]
     refine split (fun c1 => ?_) (fun c1 => ?_) <;> simp [c1, g1, g2, g3, hlt, wrap_succ i _ hlt (by omega)]
     . intro h; have := (hh.1 (e.1 h).1).1; omega
     . rw [hh]; exact ⟨fun h => h.2, fun h => ⟨by omega, h⟩⟩
   . have e1 : i = p.hs.length := by omega
     subst e1
     simp at hh
     simp [small_l0, g1, g2, g3]
     refine loopN (fun i S => S.t 4 = iv i /\ (∃ st, S.t 1 = .ptr 19001 st 4 0 0 /\ S.blk 19001 = some ⟨st, 4, [p.av]⟩) /\
       ((∀ h ∈ p.as, h.regs.length <= 10) ↔ ∀ h ∈ p.as.drop i, h.regs.length <= 10)) p.as.length ?_ ?_
     . simp [g2, g3]
     . rintro i S hi ⟨g1, ⟨st, g2, g3⟩, hh2⟩
       by_cases hlt : i < p.as.length
       . rw [all_drop _ _ _ hlt] at hh2
         simp [small_l1, g1, g2, g3, hlt]
         refine split (fun c1 => ?_) (fun c1 => ?_) <;> simp [c1, g1, g2, g3, hlt, wrap_succ i _ hlt (by omega)]
         . intro h; have := (hh2.1 (e.1 h).2.1).1; omega
         . rw [hh2]; exact ⟨fun h => h.2, fun h => ⟨by omega, h⟩⟩
       . have e1 : i = p.as.length := by omega
         subst e1
         simp at hh2
         simp [small_l1, g1, g2, g3]
         refine loopN (fun i S => S.t 5 = iv i /\ (∃ st, S.t 1 = .ptr 19001 st 4 0 0 /\ S.blk 19001 = some ⟨st, 4, [p.av]⟩) /\
           ((∀ h ∈ p.boot, h.args.length <= 6) ↔ ∀ h ∈ p.boot.drop i, h.args.length <= 6)) p.boot.length ?_ ?_
         . simp [g2, g3]
         . rintro i S hi ⟨g1, ⟨st, g2, g3⟩, hh3⟩
           by_cases hlt : i < p.boot.length
           . rw [all_drop _ _ _ hlt] at hh3
             simp [small_l2, g1, g2, g3, hlt]
             refine split (fun c1 => ?_) (fun c1 => ?_) <;> simp [c1, g1, g2, g3, hlt, wrap_succ i _ hlt (by omega)]
             . intro h; have := (hh3.1 (e.1 h).2.2).1; omega
             . rw [hh3]; exact ⟨fun h => h.2, fun h => ⟨by omega, h⟩⟩
           . have e1 : i = p.boot.length := by omega
             subst e1
             simp at hh3
             simp [small_l2, g1, g2, g3]
             exact e.2 ⟨hh, hh2, hh3⟩
end Go.Gv
