/- Texts of this proof, one behind the other. What is proved, and on which conditions, stands ahead of each. -/
import Derived.Test.YthidhohdcjojhaaGreatDoorProg
import Derived.Test.YthidhohdcjojhaaGreatDoorM144b9f9f

set_option linter.unusedVariables false
set_option linter.unusedSimpArgs false
namespace Go.Gv
open Go.Proofs
def valid_r0 : List AI := [⟨(some 2), none, (.op (.mv (.c (.bool false))))⟩]
def valid_r1 : List AI := [⟨(some 3), none, (.op (.mv (.t 0)))⟩, ⟨(some 4), none, (.op (.ibin .geq (.t 3) (.c (.int .i64 1))))⟩, ⟨(some 5), none, (.op (.mv (.t 4)))⟩, ⟨(some 6), (some (5, true)), (.op (.mv (.t 0)))⟩, ⟨(some 7), (some (5, true)), (.op (.ibin .leq (.t 6) (.c (.int .i64 25))))⟩, ⟨(some 8), none, (.op (.pick (.t 5) (.t 7) (.c (.bool false))))⟩, ⟨(some 2), none, (.op (.mv (.t 8)))⟩]
def valid_c : AC := (.seq (.reg valid_r0) (.seq (.reg valid_r1) .ret))
def valid_res : List ARes := [(.tmp 2)]
set_option maxRecDepth 100000 in
theorem valid_get : getF Tryz.prog 230 59000 [] = some ("gavotte/ops.Valid", 9, valid_c, valid_res) := by kernel_rfl
def operand_r0 : List AI := [⟨(some 2), none, (.op (.mv (.c (.int .i64 0))))⟩]
def operand_r1 : List AI := [⟨(some 3), none, (.op (.mv (.t 0)))⟩]
def operand_r2 : List AI := [⟨(some 5), none, (.op (.ibin .eql (.t 3) (.c (.int .i64 1))))⟩, ⟨(some 4), none, (.op (.mv (.t 5)))⟩]
def operand_r3 : List AI := [⟨(some 2), none, (.op (.mv (.c (.int .i64 1))))⟩]
def operand_r4 : List AI := [⟨(some 7), none, (.op (.ibin .eql (.t 3) (.c (.int .i64 5))))⟩, ⟨(some 6), none, (.op (.mv (.t 7)))⟩]
def operand_r5 : List AI := [⟨(some 8), none, (.op (.ibin .eql (.t 3) (.c (.int .i64 6))))⟩, ⟨(some 6), none, (.op (.mv (.t 8)))⟩]
def operand_r6 : List AI := [⟨(some 2), none, (.op (.mv (.c (.int .i64 2))))⟩]
def operand_r7 : List AI := [⟨(some 10), none, (.op (.ibin .eql (.t 3) (.c (.int .i64 7))))⟩, ⟨(some 9), none, (.op (.mv (.t 10)))⟩]
def operand_r8 : List AI := [⟨(some 2), none, (.op (.mv (.c (.int .i64 3))))⟩]
def operand_r9 : List AI := [⟨(some 12), none, (.op (.ibin .eql (.t 3) (.c (.int .i64 20))))⟩, ⟨(some 11), none, (.op (.mv (.t 12)))⟩]
def operand_r10 : List AI := [⟨(some 13), none, (.op (.ibin .eql (.t 3) (.c (.int .i64 21))))⟩, ⟨(some 11), none, (.op (.mv (.t 13)))⟩]
def operand_r11 : List AI := [⟨(some 2), none, (.op (.mv (.c (.int .i64 4))))⟩]
def operand_r12 : List AI := [⟨(some 15), none, (.op (.ibin .eql (.t 3) (.c (.int .i64 22))))⟩, ⟨(some 14), none, (.op (.mv (.t 15)))⟩]
def operand_r13 : List AI := [⟨(some 2), none, (.op (.mv (.c (.int .i64 5))))⟩]
def operand_r14 : List AI := [⟨(some 2), none, (.op (.mv (.c (.int .i64 0))))⟩]
def operand_c : AC := (.seq (.reg operand_r0) (.seq (.seq (.reg operand_r1) (.block 0 (.seq (.reg operand_r2) (.cond (.t 4) (.seq (.reg operand_r3) .ret) (.seq (.seq (.reg operand_r4) (.cond (.t 6) .skip (.reg operand_r5))) (.cond (.t 6) (.seq (.reg operand_r6) .ret) (.seq (.reg operand_r7) (.cond (.t 9) (.seq (.reg operand_r8) .ret) (.seq (.seq (.reg operand_r9) (.cond (.t 11) .skip (.reg operand_r10))) (.cond (.t 11) (.seq (.reg operand_r11) .ret) (.seq (.reg operand_r12) (.cond (.t 14) (.seq (.reg operand_r13) .ret) .skip)))))))))))) (.seq (.reg operand_r14) .ret)))
def operand_res : List ARes := [(.tmp 2)]
set_option maxRecDepth 100000 in
theorem operand_get : getF Tryz.prog 154 58000 [] = some ("gavotte/ops.Operand", 16, operand_c, operand_res) := by kernel_rfl
def eachH_r0 : List AI := [⟨(some 3), none, (.op (.box 33003 4 (.t 0)))⟩, ⟨(some 6), none, (.op (.mv (.c (.int .i64 0))))⟩]
def eachH_r1 : List AI := [⟨(some 10), none, (.op (.mv (.t 1)))⟩, ⟨(some 11), none, (.op (.len (.t 10)))⟩, ⟨(some 12), none, (.op (.mv (.c (.int .i64 0))))⟩]
def eachH_r2 : List AI := [⟨(some 13), none, (.op (.ibin .lss (.t 12) (.t 11)))⟩]
def eachH_r3 : List AI := [⟨(some 14), none, (.op (.idx 2 (.t 10) (.t 12)))⟩, ⟨(some 15), none, (.op (.load (some 2) (.t 14)))⟩, ⟨(some 8), none, (.op (.new 33008 2 (.agg [(.int .i64 0), .nils])))⟩, ⟨none, none, (.op (.store 2 (.t 8) (.t 15)))⟩]
def eachH_r4 : List AI := [⟨(some 16), none, (.op (.mv (.t 2)))⟩, ⟨(some 17), none, (.op (.load (some 4) (.t 3)))⟩, ⟨(some 18), none, (.op (.load (some 2) (.t 8)))⟩, ⟨(some 19), none, (.call (.t 16) [(.t 17), (.t 18)])⟩, ⟨(some 9), none, (.op (.mv (.t 19)))⟩]
def eachH_r5 : List AI := [⟨(some 20), none, (.op (.mv (.t 9)))⟩, ⟨(some 21), none, (.op (.ibin .neq (.t 20) (.c (.int .i64 0))))⟩]
def eachH_r6 : List AI := [⟨(some 22), none, (.op (.mv (.t 9)))⟩, ⟨(some 6), none, (.op (.mv (.t 22)))⟩]
def eachH_r7 : List AI := [⟨(some 23), none, (.op (.ibin .add (.t 12) (.c (.int .i64 1))))⟩, ⟨(some 12), none, (.op (.mv (.t 23)))⟩]
def eachH_l0 : AC := (.seq (.reg eachH_r2) (.seq (.cond (.t 13) .skip (.exit 0)) (.seq (.block 1 (.seq (.reg eachH_r3) (.seq (.reg eachH_r4) (.seq (.reg eachH_r5) (.cond (.t 21) (.seq (.reg eachH_r6) .ret) .skip))))) (.reg eachH_r7))))
def eachH_r8 : List AI := [⟨(some 6), none, (.op (.mv (.c (.int .i64 0))))⟩]
def eachH_c : AC := (.seq (.reg eachH_r0) (.seq (.seq (.reg eachH_r1) (.block 0 (.loop eachH_l0))) (.seq (.reg eachH_r8) .ret)))
def eachH_res : List ARes := [(.tmp 6)]
set_option maxRecDepth 100000 in
theorem eachH_get : getF Tryz.prog 160 33000 [] = some ("gavotte/prog.each[gavotte/api.Handler]", 24, eachH_c, eachH_res) := by kernel_rfl
def eachA_r0 : List AI := [⟨(some 3), none, (.op (.box 35003 4 (.t 0)))⟩, ⟨(some 6), none, (.op (.mv (.c (.int .i64 0))))⟩]
def eachA_r1 : List AI := [⟨(some 10), none, (.op (.mv (.t 1)))⟩, ⟨(some 11), none, (.op (.len (.t 10)))⟩, ⟨(some 12), none, (.op (.mv (.c (.int .i64 0))))⟩]
def eachA_r2 : List AI := [⟨(some 13), none, (.op (.ibin .lss (.t 12) (.t 11)))⟩]
def eachA_r3 : List AI := [⟨(some 14), none, (.op (.idx 4 (.t 10) (.t 12)))⟩, ⟨(some 15), none, (.op (.load (some 4) (.t 14)))⟩, ⟨(some 8), none, (.op (.new 35008 4 (.agg [.nils, (.int .i64 0), (.int .i64 0), (.bool false)])))⟩, ⟨none, none, (.op (.store 4 (.t 8) (.t 15)))⟩]
def eachA_r4 : List AI := [⟨(some 16), none, (.op (.mv (.t 2)))⟩, ⟨(some 17), none, (.op (.load (some 4) (.t 3)))⟩, ⟨(some 18), none, (.op (.load (some 4) (.t 8)))⟩, ⟨(some 19), none, (.call (.t 16) [(.t 17), (.t 18)])⟩, ⟨(some 9), none, (.op (.mv (.t 19)))⟩]
def eachA_r5 : List AI := [⟨(some 20), none, (.op (.mv (.t 9)))⟩, ⟨(some 21), none, (.op (.ibin .neq (.t 20) (.c (.int .i64 0))))⟩]
def eachA_r6 : List AI := [⟨(some 22), none, (.op (.mv (.t 9)))⟩, ⟨(some 6), none, (.op (.mv (.t 22)))⟩]
def eachA_r7 : List AI := [⟨(some 23), none, (.op (.ibin .add (.t 12) (.c (.int .i64 1))))⟩, ⟨(some 12), none, (.op (.mv (.t 23)))⟩]
def eachA_l0 : AC := (.seq (.reg eachA_r2) (.seq (.cond (.t 13) .skip (.exit 0)) (.seq (.block 1 (.seq (.reg eachA_r3) (.seq (.reg eachA_r4) (.seq (.reg eachA_r5) (.cond (.t 21) (.seq (.reg eachA_r6) .ret) .skip))))) (.reg eachA_r7))))
def eachA_r8 : List AI := [⟨(some 6), none, (.op (.mv (.c (.int .i64 0))))⟩]
def eachA_c : AC := (.seq (.reg eachA_r0) (.seq (.seq (.reg eachA_r1) (.block 0 (.loop eachA_l0))) (.seq (.reg eachA_r8) .ret)))
def eachA_res : List ARes := [(.tmp 6)]
set_option maxRecDepth 100000 in
theorem eachA_get : getF Tryz.prog 162 35000 [] = some ("gavotte/prog.each[gavotte/api.Actor]", 24, eachA_c, eachA_res) := by kernel_rfl
def eachN_r0 : List AI := [⟨(some 3), none, (.op (.box 37003 4 (.t 0)))⟩, ⟨(some 6), none, (.op (.mv (.c (.int .i64 0))))⟩]
def eachN_r1 : List AI := [⟨(some 10), none, (.op (.mv (.t 1)))⟩, ⟨(some 11), none, (.op (.len (.t 10)))⟩, ⟨(some 12), none, (.op (.mv (.c (.int .i64 0))))⟩]
def eachN_r2 : List AI := [⟨(some 13), none, (.op (.ibin .lss (.t 12) (.t 11)))⟩]
def eachN_r3 : List AI := [⟨(some 14), none, (.op (.idx 3 (.t 10) (.t 12)))⟩, ⟨(some 15), none, (.op (.load (some 3) (.t 14)))⟩, ⟨(some 8), none, (.op (.new 37008 3 (.agg [(.int .i64 0), (.int .i64 0), .nils])))⟩, ⟨none, none, (.op (.store 3 (.t 8) (.t 15)))⟩]
def eachN_r4 : List AI := [⟨(some 16), none, (.op (.mv (.t 2)))⟩, ⟨(some 17), none, (.op (.load (some 4) (.t 3)))⟩, ⟨(some 18), none, (.op (.load (some 3) (.t 8)))⟩, ⟨(some 19), none, (.call (.t 16) [(.t 17), (.t 18)])⟩, ⟨(some 9), none, (.op (.mv (.t 19)))⟩]
def eachN_r5 : List AI := [⟨(some 20), none, (.op (.mv (.t 9)))⟩, ⟨(some 21), none, (.op (.ibin .neq (.t 20) (.c (.int .i64 0))))⟩]
def eachN_r6 : List AI := [⟨(some 22), none, (.op (.mv (.t 9)))⟩, ⟨(some 6), none, (.op (.mv (.t 22)))⟩]
def eachN_r7 : List AI := [⟨(some 23), none, (.op (.ibin .add (.t 12) (.c (.int .i64 1))))⟩, ⟨(some 12), none, (.op (.mv (.t 23)))⟩]
def eachN_l0 : AC := (.seq (.reg eachN_r2) (.seq (.cond (.t 13) .skip (.exit 0)) (.seq (.block 1 (.seq (.reg eachN_r3) (.seq (.reg eachN_r4) (.seq (.reg eachN_r5) (.cond (.t 21) (.seq (.reg eachN_r6) .ret) .skip))))) (.reg eachN_r7))))
def eachN_r8 : List AI := [⟨(some 6), none, (.op (.mv (.c (.int .i64 0))))⟩]
def eachN_c : AC := (.seq (.reg eachN_r0) (.seq (.seq (.reg eachN_r1) (.block 0 (.loop eachN_l0))) (.seq (.reg eachN_r8) .ret)))
def eachN_res : List ARes := [(.tmp 6)]
set_option maxRecDepth 100000 in
theorem eachN_get : getF Tryz.prog 164 37000 [] = some ("gavotte/prog.each[gavotte/api.Note]", 24, eachN_c, eachN_res) := by kernel_rfl
def instr_r0 : List AI := [⟨(some 3), none, (.op (.box 53003 4 (.t 0)))⟩, ⟨(some 4), none, (.op (.box 53004 2 (.t 1)))⟩, ⟨(some 5), none, (.op (.box 53005 2 (.t 2)))⟩, ⟨(some 6), none, (.op (.mv (.c (.int .i64 0))))⟩]
def instr_r1 : List AI := [⟨(some 8), none, (.op (.fld 0 (.t 5)))⟩, ⟨(some 9), none, (.op (.load none (.t 8)))⟩, ⟨(some 10), none, (.call (.c (.fn 154 [])) [(.t 9)])⟩, ⟨(some 7), none, (.op (.mv (.t 10)))⟩]
def instr_r2 : List AI := [⟨(some 12), none, (.op (.fld 0 (.t 5)))⟩, ⟨(some 13), none, (.op (.load none (.t 12)))⟩, ⟨(some 14), none, (.call (.c (.fn 230 [])) [(.t 13)])⟩, ⟨(some 15), none, (.op (.not (.t 14)))⟩, ⟨(some 11), none, (.op (.mv (.t 15)))⟩]
def instr_r3 : List AI := [⟨(some 16), none, (.op (.mv (.t 7)))⟩, ⟨(some 17), none, (.op (.ibin .eql (.t 16) (.c (.int .i64 0))))⟩, ⟨(some 18), none, (.op (.mv (.t 17)))⟩, ⟨(some 19), (some (18, true)), (.op (.fld 1 (.t 5)))⟩, ⟨(some 20), (some (18, true)), (.op (.load none (.t 19)))⟩, ⟨(some 21), (some (18, true)), (.op (.ibin .neq (.t 20) (.c (.int .i64 0))))⟩, ⟨(some 22), none, (.op (.pick (.t 18) (.t 21) (.c (.bool false))))⟩, ⟨(some 11), none, (.op (.mv (.t 22)))⟩]
def instr_r4 : List AI := [⟨(some 6), none, (.op (.mv (.c (.int .i64 1))))⟩]
def instr_r5 : List AI := [⟨(some 24), none, (.op (.mv (.t 7)))⟩, ⟨(some 25), none, (.op (.ibin .eql (.t 24) (.c (.int .i64 4))))⟩, ⟨(some 26), none, (.op (.mv (.t 25)))⟩, ⟨(some 27), (some (26, true)), (.op (.fld 1 (.t 5)))⟩, ⟨(some 28), (some (26, true)), (.op (.load none (.t 27)))⟩, ⟨(some 29), (some (26, true)), (.op (.ibin .lss (.t 28) (.c (.int .i64 0))))⟩, ⟨(some 30), (some (26, true)), (.op (.mv (.t 29)))⟩, ⟨(some 31), (some (30, false)), (.op (.fld 1 (.t 5)))⟩, ⟨(some 32), (some (30, false)), (.op (.load none (.t 31)))⟩, ⟨(some 33), (some (30, false)), (.op (.fld 1 (.t 4)))⟩, ⟨(some 34), (some (30, false)), (.op (.load none (.t 33)))⟩, ⟨(some 35), (some (30, false)), (.op (.len (.t 34)))⟩, ⟨(some 36), (some (30, false)), (.op (.ibin .gtr (.t 32) (.t 35)))⟩, ⟨(some 37), (some (26, true)), (.op (.pick (.t 30) (.c (.bool true)) (.t 36)))⟩, ⟨(some 38), none, (.op (.pick (.t 26) (.t 37) (.c (.bool false))))⟩, ⟨(some 23), none, (.op (.mv (.t 38)))⟩]
def instr_r6 : List AI := [⟨(some 6), none, (.op (.mv (.c (.int .i64 4))))⟩]
def instr_r7 : List AI := [⟨(some 40), none, (.op (.mv (.t 7)))⟩, ⟨(some 41), none, (.op (.ibin .eql (.t 40) (.c (.int .i64 2))))⟩, ⟨(some 42), none, (.op (.mv (.t 41)))⟩, ⟨(some 43), (some (42, true)), (.op (.fld 1 (.t 5)))⟩, ⟨(some 44), (some (42, true)), (.op (.load none (.t 43)))⟩, ⟨(some 45), (some (42, true)), (.op (.ibin .lss (.t 44) (.c (.int .i64 0))))⟩, ⟨(some 46), (some (42, true)), (.op (.mv (.t 45)))⟩, ⟨(some 47), (some (46, false)), (.op (.fld 1 (.t 5)))⟩, ⟨(some 48), (some (46, false)), (.op (.load none (.t 47)))⟩, ⟨(some 49), (some (46, false)), (.op (.ibin .geq (.t 48) (.c (.int .i64 8))))⟩, ⟨(some 50), (some (42, true)), (.op (.pick (.t 46) (.c (.bool true)) (.t 49)))⟩, ⟨(some 51), none, (.op (.pick (.t 42) (.t 50) (.c (.bool false))))⟩, ⟨(some 39), none, (.op (.mv (.t 51)))⟩]
def instr_r8 : List AI := [⟨(some 52), none, (.op (.mv (.t 7)))⟩, ⟨(some 53), none, (.op (.ibin .eql (.t 52) (.c (.int .i64 3))))⟩, ⟨(some 54), none, (.op (.mv (.t 53)))⟩, ⟨(some 55), (some (54, true)), (.op (.fld 1 (.t 5)))⟩, ⟨(some 56), (some (54, true)), (.op (.load none (.t 55)))⟩, ⟨(some 57), (some (54, true)), (.op (.ibin .lss (.t 56) (.c (.int .i64 0))))⟩, ⟨(some 58), (some (54, true)), (.op (.mv (.t 57)))⟩, ⟨(some 59), (some (58, false)), (.op (.fld 1 (.t 5)))⟩, ⟨(some 60), (some (58, false)), (.op (.load none (.t 59)))⟩, ⟨(some 61), (some (58, false)), (.op (.fld 0 (.t 4)))⟩, ⟨(some 62), (some (58, false)), (.op (.load none (.t 61)))⟩, ⟨(some 63), (some (58, false)), (.op (.ibin .geq (.t 60) (.t 62)))⟩, ⟨(some 64), (some (54, true)), (.op (.pick (.t 58) (.c (.bool true)) (.t 63)))⟩, ⟨(some 65), none, (.op (.pick (.t 54) (.t 64) (.c (.bool false))))⟩, ⟨(some 39), none, (.op (.mv (.t 65)))⟩]
def instr_r9 : List AI := [⟨(some 6), none, (.op (.mv (.c (.int .i64 6))))⟩]
def instr_r10 : List AI := [⟨(some 67), none, (.op (.mv (.t 7)))⟩, ⟨(some 68), none, (.op (.ibin .eql (.t 67) (.c (.int .i64 5))))⟩, ⟨(some 69), none, (.op (.mv (.t 68)))⟩, ⟨(some 70), (some (69, true)), (.op (.fld 1 (.t 5)))⟩, ⟨(some 71), (some (69, true)), (.op (.load none (.t 70)))⟩, ⟨(some 72), (some (69, true)), (.op (.ibin .lss (.t 71) (.c (.int .i64 0))))⟩, ⟨(some 73), (some (69, true)), (.op (.mv (.t 72)))⟩, ⟨(some 74), (some (73, false)), (.op (.fld 1 (.t 5)))⟩, ⟨(some 75), (some (73, false)), (.op (.load none (.t 74)))⟩, ⟨(some 76), (some (73, false)), (.op (.fld 0 (.t 3)))⟩, ⟨(some 77), (some (73, false)), (.op (.load none (.t 76)))⟩, ⟨(some 78), (some (73, false)), (.op (.len (.t 77)))⟩, ⟨(some 79), (some (73, false)), (.op (.ibin .geq (.t 75) (.t 78)))⟩, ⟨(some 80), (some (69, true)), (.op (.pick (.t 73) (.c (.bool true)) (.t 79)))⟩, ⟨(some 81), none, (.op (.pick (.t 69) (.t 80) (.c (.bool false))))⟩, ⟨(some 66), none, (.op (.mv (.t 81)))⟩]
def instr_r11 : List AI := [⟨(some 6), none, (.op (.mv (.c (.int .i64 7))))⟩]
def instr_r12 : List AI := [⟨(some 6), none, (.op (.mv (.c (.int .i64 0))))⟩]
def instr_c : AC := (.seq (.reg instr_r0) (.seq (.seq (.reg instr_r1) (.block 0 (.seq (.seq (.reg instr_r2) (.cond (.t 11) .skip (.reg instr_r3))) (.cond (.t 11) (.seq (.reg instr_r4) .ret) (.seq (.reg instr_r5) (.cond (.t 23) (.seq (.reg instr_r6) .ret) (.seq (.seq (.reg instr_r7) (.cond (.t 39) .skip (.reg instr_r8))) (.cond (.t 39) (.seq (.reg instr_r9) .ret) (.seq (.reg instr_r10) (.cond (.t 66) (.seq (.reg instr_r11) .ret) .skip)))))))))) (.seq (.reg instr_r12) .ret)))
def instr_res : List ARes := [(.tmp 6)]
set_option maxRecDepth 100000 in
theorem instr_get : getF Tryz.prog 208 53000 [] = some ("gavotte/prog.instr", 82, instr_c, instr_res) := by kernel_rfl
def handler_r0 : List AI := [⟨(some 2), none, (.op (.box 34002 4 (.t 0)))⟩, ⟨(some 3), none, (.op (.box 34003 2 (.t 1)))⟩, ⟨(some 4), none, (.op (.mv (.c (.int .i64 0))))⟩]
def handler_r1 : List AI := [⟨(some 9), none, (.op (.fld 0 (.t 3)))⟩, ⟨(some 10), none, (.op (.load none (.t 9)))⟩, ⟨(some 11), none, (.op (.ibin .lss (.t 10) (.c (.int .i64 0))))⟩, ⟨(some 8), none, (.op (.mv (.t 11)))⟩]
def handler_r2 : List AI := [⟨(some 12), none, (.op (.fld 0 (.t 3)))⟩, ⟨(some 13), none, (.op (.load none (.t 12)))⟩, ⟨(some 14), none, (.op (.ibin .gtr (.t 13) (.c (.int .i64 4))))⟩, ⟨(some 8), none, (.op (.mv (.t 14)))⟩]
def handler_r3 : List AI := [⟨(some 4), none, (.op (.mv (.c (.int .i64 1))))⟩]
def handler_r4 : List AI := [⟨(some 16), none, (.op (.fld 1 (.t 3)))⟩, ⟨(some 17), none, (.op (.load none (.t 16)))⟩, ⟨(some 18), none, (.op (.len (.t 17)))⟩, ⟨(some 19), none, (.op (.ibin .gtr (.t 18) (.c (.int .i64 64))))⟩, ⟨(some 15), none, (.op (.mv (.t 19)))⟩]
def handler_r5 : List AI := [⟨(some 4), none, (.op (.mv (.c (.int .i64 3))))⟩]
def handler_r6 : List AI := [⟨(some 20), none, (.op (.fld 1 (.t 3)))⟩, ⟨(some 21), none, (.op (.load none (.t 20)))⟩, ⟨(some 22), none, (.op (.len (.t 21)))⟩, ⟨(some 23), none, (.op (.mv (.c (.int .i64 0))))⟩]
def handler_r7 : List AI := [⟨(some 24), none, (.op (.ibin .lss (.t 23) (.t 22)))⟩]
def handler_r8 : List AI := [⟨(some 25), none, (.op (.idx 2 (.t 21) (.t 23)))⟩, ⟨(some 26), none, (.op (.load (some 2) (.t 25)))⟩, ⟨(some 6), none, (.op (.new 34006 2 (.agg [(.int .i64 0), (.int .i64 0)])))⟩, ⟨none, none, (.op (.store 2 (.t 6) (.t 26)))⟩]
def handler_r9 : List AI := [⟨(some 27), none, (.op (.load (some 4) (.t 2)))⟩, ⟨(some 28), none, (.op (.load (some 2) (.t 3)))⟩, ⟨(some 29), none, (.op (.load (some 2) (.t 6)))⟩, ⟨(some 30), none, (.call (.c (.fn 208 [])) [(.t 27), (.t 28), (.t 29)])⟩, ⟨(some 7), none, (.op (.mv (.t 30)))⟩]
def handler_r10 : List AI := [⟨(some 31), none, (.op (.mv (.t 7)))⟩, ⟨(some 32), none, (.op (.ibin .neq (.t 31) (.c (.int .i64 0))))⟩]
def handler_r11 : List AI := [⟨(some 33), none, (.op (.mv (.t 7)))⟩, ⟨(some 4), none, (.op (.mv (.t 33)))⟩]
def handler_r12 : List AI := [⟨(some 34), none, (.op (.ibin .add (.t 23) (.c (.int .i64 1))))⟩, ⟨(some 23), none, (.op (.mv (.t 34)))⟩]
def handler_l0 : AC := (.seq (.reg handler_r7) (.seq (.cond (.t 24) .skip (.exit 1)) (.seq (.block 2 (.seq (.reg handler_r8) (.seq (.reg handler_r9) (.seq (.reg handler_r10) (.cond (.t 32) (.seq (.reg handler_r11) .ret) .skip))))) (.reg handler_r12))))
def handler_r13 : List AI := [⟨(some 4), none, (.op (.mv (.c (.int .i64 0))))⟩]
def handler_c : AC := (.seq (.reg handler_r0) (.seq (.block 0 (.seq (.seq (.reg handler_r1) (.cond (.t 8) .skip (.reg handler_r2))) (.cond (.t 8) (.seq (.reg handler_r3) .ret) (.seq (.reg handler_r4) (.cond (.t 15) (.seq (.reg handler_r5) .ret) .skip))))) (.seq (.seq (.reg handler_r6) (.block 1 (.loop handler_l0))) (.seq (.reg handler_r13) .ret))))
def handler_res : List ARes := [(.tmp 4)]
set_option maxRecDepth 100000 in
theorem handler_get : getF Tryz.prog 161 34000 [] = some ("gavotte/prog.handler", 35, handler_c, handler_res) := by kernel_rfl
def actor_r0 : List AI := [⟨(some 2), none, (.op (.box 36002 4 (.t 0)))⟩, ⟨(some 3), none, (.op (.box 36003 4 (.t 1)))⟩, ⟨(some 4), none, (.op (.mv (.c (.int .i64 0))))⟩]
def actor_r1 : List AI := [⟨(some 6), none, (.op (.fld 0 (.t 3)))⟩, ⟨(some 7), none, (.op (.load none (.t 6)))⟩, ⟨(some 8), none, (.op (.len (.t 7)))⟩, ⟨(some 9), none, (.op (.ibin .gtr (.t 8) (.c (.int .i64 8))))⟩, ⟨(some 5), none, (.op (.mv (.t 9)))⟩]
def actor_r2 : List AI := [⟨(some 4), none, (.op (.mv (.c (.int .i64 3))))⟩]
def actor_r3 : List AI := [⟨(some 11), none, (.op (.fld 1 (.t 3)))⟩, ⟨(some 12), none, (.op (.load none (.t 11)))⟩, ⟨(some 13), none, (.op (.ibin .lss (.t 12) (.c (.int .i64 0))))⟩, ⟨(some 10), none, (.op (.mv (.t 13)))⟩]
def actor_r4 : List AI := [⟨(some 14), none, (.op (.fld 1 (.t 3)))⟩, ⟨(some 15), none, (.op (.load none (.t 14)))⟩, ⟨(some 16), none, (.op (.ibin .gtr (.t 15) (.c (.int .i64 16))))⟩, ⟨(some 10), none, (.op (.mv (.t 16)))⟩]
def actor_r5 : List AI := [⟨(some 4), none, (.op (.mv (.c (.int .i64 1))))⟩]
def actor_r6 : List AI := [⟨(some 18), none, (.op (.fld 2 (.t 3)))⟩, ⟨(some 19), none, (.op (.load none (.t 18)))⟩, ⟨(some 20), none, (.op (.ibin .neq (.t 19) (.c (.int .i64 (-1)))))⟩, ⟨(some 21), none, (.op (.mv (.t 20)))⟩, ⟨(some 22), (some (21, true)), (.op (.fld 2 (.t 3)))⟩, ⟨(some 23), (some (21, true)), (.op (.load none (.t 22)))⟩, ⟨(some 24), (some (21, true)), (.op (.ibin .lss (.t 23) (.c (.int .i64 0))))⟩, ⟨(some 25), (some (21, true)), (.op (.mv (.t 24)))⟩, ⟨(some 26), (some (25, false)), (.op (.fld 2 (.t 3)))⟩, ⟨(some 27), (some (25, false)), (.op (.load none (.t 26)))⟩, ⟨(some 28), (some (25, false)), (.op (.fld 0 (.t 2)))⟩, ⟨(some 29), (some (25, false)), (.op (.load none (.t 28)))⟩, ⟨(some 30), (some (25, false)), (.op (.len (.t 29)))⟩, ⟨(some 31), (some (25, false)), (.op (.ibin .geq (.t 27) (.t 30)))⟩, ⟨(some 32), (some (21, true)), (.op (.pick (.t 25) (.c (.bool true)) (.t 31)))⟩, ⟨(some 33), (some (21, true)), (.op (.mv (.t 32)))⟩, ⟨(some 34), (some (33, false)), (.op (.fld 0 (.t 2)))⟩, ⟨(some 35), (some (33, false)), (.op (.load none (.t 34)))⟩, ⟨(some 36), (some (33, false)), (.op (.fld 2 (.t 3)))⟩, ⟨(some 37), (some (33, false)), (.op (.load none (.t 36)))⟩, ⟨(some 38), (some (33, false)), (.op (.idx 2 (.t 35) (.t 37)))⟩, ⟨(some 39), (some (33, false)), (.op (.fld 0 (.t 38)))⟩, ⟨(some 40), (some (33, false)), (.op (.load none (.t 39)))⟩, ⟨(some 41), (some (33, false)), (.op (.ibin .neq (.t 40) (.c (.int .i64 0))))⟩, ⟨(some 42), (some (21, true)), (.op (.pick (.t 33) (.c (.bool true)) (.t 41)))⟩, ⟨(some 43), none, (.op (.pick (.t 21) (.t 42) (.c (.bool false))))⟩, ⟨(some 17), none, (.op (.mv (.t 43)))⟩]
def actor_r7 : List AI := [⟨(some 4), none, (.op (.mv (.c (.int .i64 7))))⟩]
def actor_r8 : List AI := [⟨(some 45), none, (.op (.fld 3 (.t 3)))⟩, ⟨(some 46), none, (.op (.load none (.t 45)))⟩, ⟨(some 47), none, (.op (.mv (.t 46)))⟩, ⟨(some 48), (some (47, true)), (.op (.fld 2 (.t 3)))⟩, ⟨(some 49), (some (47, true)), (.op (.load none (.t 48)))⟩, ⟨(some 50), (some (47, true)), (.op (.ibin .eql (.t 49) (.c (.int .i64 (-1)))))⟩, ⟨(some 51), none, (.op (.pick (.t 47) (.t 50) (.c (.bool false))))⟩, ⟨(some 44), none, (.op (.mv (.t 51)))⟩]
def actor_r9 : List AI := [⟨(some 4), none, (.op (.mv (.c (.int .i64 1))))⟩]
def actor_r10 : List AI := [⟨(some 4), none, (.op (.mv (.c (.int .i64 0))))⟩]
def actor_c : AC := (.seq (.reg actor_r0) (.seq (.block 0 (.seq (.reg actor_r1) (.cond (.t 5) (.seq (.reg actor_r2) .ret) (.seq (.seq (.reg actor_r3) (.cond (.t 10) .skip (.reg actor_r4))) (.cond (.t 10) (.seq (.reg actor_r5) .ret) (.seq (.reg actor_r6) (.cond (.t 17) (.seq (.reg actor_r7) .ret) (.seq (.reg actor_r8) (.cond (.t 44) (.seq (.reg actor_r9) .ret) .skip))))))))) (.seq (.reg actor_r10) .ret)))
def actor_res : List ARes := [(.tmp 4)]
set_option maxRecDepth 100000 in
theorem actor_get : getF Tryz.prog 163 36000 [] = some ("gavotte/prog.actor", 52, actor_c, actor_res) := by kernel_rfl
def note_r0 : List AI := [⟨(some 2), none, (.op (.box 38002 4 (.t 0)))⟩, ⟨(some 3), none, (.op (.box 38003 3 (.t 1)))⟩, ⟨(some 4), none, (.op (.mv (.c (.int .i64 0))))⟩]
def note_r1 : List AI := [⟨(some 6), none, (.op (.fld 0 (.t 3)))⟩, ⟨(some 7), none, (.op (.load none (.t 6)))⟩, ⟨(some 8), none, (.op (.ibin .lss (.t 7) (.c (.int .i64 0))))⟩, ⟨(some 5), none, (.op (.mv (.t 8)))⟩]
def note_r2 : List AI := [⟨(some 9), none, (.op (.fld 0 (.t 3)))⟩, ⟨(some 10), none, (.op (.load none (.t 9)))⟩, ⟨(some 11), none, (.op (.fld 1 (.t 2)))⟩, ⟨(some 12), none, (.op (.load none (.t 11)))⟩, ⟨(some 13), none, (.op (.len (.t 12)))⟩, ⟨(some 14), none, (.op (.ibin .geq (.t 10) (.t 13)))⟩, ⟨(some 5), none, (.op (.mv (.t 14)))⟩]
def note_r3 : List AI := [⟨(some 15), none, (.op (.fld 1 (.t 3)))⟩, ⟨(some 16), none, (.op (.load none (.t 15)))⟩, ⟨(some 17), none, (.op (.ibin .lss (.t 16) (.c (.int .i64 0))))⟩, ⟨(some 5), none, (.op (.mv (.t 17)))⟩]
def note_r4 : List AI := [⟨(some 18), none, (.op (.fld 1 (.t 3)))⟩, ⟨(some 19), none, (.op (.load none (.t 18)))⟩, ⟨(some 20), none, (.op (.fld 0 (.t 2)))⟩, ⟨(some 21), none, (.op (.load none (.t 20)))⟩, ⟨(some 22), none, (.op (.len (.t 21)))⟩, ⟨(some 23), none, (.op (.ibin .geq (.t 19) (.t 22)))⟩, ⟨(some 5), none, (.op (.mv (.t 23)))⟩]
def note_r5 : List AI := [⟨(some 4), none, (.op (.mv (.c (.int .i64 7))))⟩]
def note_r6 : List AI := [⟨(some 25), none, (.op (.fld 2 (.t 3)))⟩, ⟨(some 26), none, (.op (.load none (.t 25)))⟩, ⟨(some 27), none, (.op (.len (.t 26)))⟩, ⟨(some 28), none, (.op (.fld 0 (.t 2)))⟩, ⟨(some 29), none, (.op (.load none (.t 28)))⟩, ⟨(some 30), none, (.op (.fld 1 (.t 3)))⟩, ⟨(some 31), none, (.op (.load none (.t 30)))⟩, ⟨(some 32), none, (.op (.idx 2 (.t 29) (.t 31)))⟩, ⟨(some 33), none, (.op (.fld 0 (.t 32)))⟩, ⟨(some 34), none, (.op (.load none (.t 33)))⟩, ⟨(some 35), none, (.op (.ibin .neq (.t 27) (.t 34)))⟩, ⟨(some 24), none, (.op (.mv (.t 35)))⟩]
def note_p6 : List (List Nat) := [[], [0], [1, 0], [], [3], [], [5], [4, 6, 3, 5], [7, 4, 6, 3, 5], [8, 7, 4, 6, 3, 5], [2, 9, 1, 0, 8, 7, 4, 6, 3, 5], [10, 2, 9, 1, 0, 8, 7, 4, 6, 3, 5]]
def note_r7 : List AI := [⟨(some 4), none, (.op (.mv (.c (.int .i64 1))))⟩]
def note_r8 : List AI := [⟨(some 4), none, (.op (.mv (.c (.int .i64 0))))⟩]
def note_c : AC := (.seq (.reg note_r0) (.seq (.block 0 (.seq (.seq (.reg note_r1) (.cond (.t 5) .skip (.seq (.reg note_r2) (.cond (.t 5) .skip (.seq (.reg note_r3) (.cond (.t 5) .skip (.reg note_r4))))))) (.cond (.t 5) (.seq (.reg note_r5) .ret) (.seq (.regd note_r6 note_p6) (.cond (.t 24) (.seq (.reg note_r7) .ret) .skip))))) (.seq (.reg note_r8) .ret)))
def note_res : List ARes := [(.tmp 4)]
set_option maxRecDepth 100000 in
theorem note_get : getF Tryz.prog 165 38000 [] = some ("gavotte/prog.Note", 36, note_c, note_res) := by kernel_rfl
attribute [simp] valid_r0 valid_r1 valid_res operand_r0 operand_r1 operand_r2 operand_r3 operand_r4 operand_r5 operand_r6 operand_r7 operand_r8 operand_r9 operand_r10 operand_r11 operand_r12 operand_r13 operand_r14 operand_res eachH_r0 eachH_r1 eachH_r2 eachH_r3 eachH_r4 eachH_r5 eachH_r6 eachH_r7 eachH_r8 eachH_res eachA_r0 eachA_r1 eachA_r2 eachA_r3 eachA_r4 eachA_r5 eachA_r6 eachA_r7 eachA_r8 eachA_res eachN_r0 eachN_r1 eachN_r2 eachN_r3 eachN_r4 eachN_r5 eachN_r6 eachN_r7 eachN_r8 eachN_res instr_r0 instr_r1 instr_r2 instr_r3 instr_r4 instr_r5 instr_r6 instr_r7 instr_r8 instr_r9 instr_r10 instr_r11 instr_r12 instr_res handler_r0 handler_r1 handler_r2 handler_r3 handler_r4 handler_r5 handler_r6 handler_r7 handler_r8 handler_r9 handler_r10 handler_r11 handler_r12 handler_r13 handler_res actor_r0 actor_r1 actor_r2 actor_r3 actor_r4 actor_r5 actor_r6 actor_r7 actor_r8 actor_r9 actor_r10 actor_res note_r0 note_r1 note_r2 note_r3 note_r4 note_r5 note_r6 note_p6 note_r7 note_r8 note_res
theorem valid_pc (n : Int) : PC Tryz.prog 230 [iv n] (.bool (decide (1 <= n) && decide (n <= 25))) := by
 refine pc_of_get valid_get (by simp) _ (by simp) _ ?_
 unfold valid_c
 simp
 repeat' (refine split (fun hc => ?_) (fun hc => ?_) <;> simp [*])
theorem operand_pc (n : Int) : PC Tryz.prog 154 [iv n] (iv (operandV n)) := by
 refine pc_of_get operand_get (by simp) _ (by simp) _ ?_
 unfold operand_c
 simp
 repeat' (refine split (fun hc => ?_) (fun hc => ?_) <;> simp [*])
 all_goals grind [operandV]
theorem eachH_pc (p : Prg) (hs : List Hnd) (f : FuncId) (g : Hnd -> Int) (hg : ∀ h ∈ hs, PC Tryz.prog f [p.av, h.av] (iv (g h))) (hl : hs.length < 4611686018427387904) :
   PC Tryz.prog 160 [p.av, .lst 2 (hs.map Hnd.av), .fn f []] (iv (firstNZ (hs.map g))) := by
 refine pc_of_get eachH_get (by simp) _ (by simp) _ ?_
 unfold eachH_c
 simp
 refine loopN (fun i S => S.t 10 = .lst 2 (hs.map Hnd.av) /\ S.t 11 = iv hs.length /\ S.t 12 = iv i /\ S.t 2 = .fn f [] /\ (∃ st, S.t 3 = .ptr 33003 st 4 0 0 /\ S.blk 33003 = some ⟨st, 4, [p.av]⟩) /\ firstNZ (hs.map g) = firstNZ ((hs.map g).drop i)) hs.length ?_ ?_
 . simp
 . rintro i S hi ⟨h10, h11, h12, h2, ⟨st, h3, hb⟩, hv⟩
   by_cases hlt : i < hs.length
   . have e : hs[i]? = some hs[i] := List.getElem?_eq_getElem hlt
     have hm := hg hs[i] (List.getElem_mem hlt)
     rw [firstNZ_drop _ _ (by simpa using hlt), List.getElem_map] at hv
     simp [eachH_l0, h10, h11, h12, h2, h3, hb, hlt, e]
     refine call hm (by simp) ?_
     simp [h10, h11, h12, h2, h3, hb, hlt, hv]
     refine split (fun hc => ?_) (fun hc => ?_) <;> simp [hc, h10, h11, h12, h2, h3, hb, hlt, hv, wrap_succ i _ hlt hl]
   . have e : i = hs.length := by omega
     subst e
     rw [firstNZ_end _ _ (by simp)] at hv
     simp [eachH_l0, h10, h11, h12, h2, h3, hb, hv]
theorem eachA_pc (p : Prg) (hs : List Actr) (f : FuncId) (g : Actr -> Int) (hg : ∀ h ∈ hs, PC Tryz.prog f [p.av, h.av] (iv (g h))) (hl : hs.length < 4611686018427387904) :
   PC Tryz.prog 162 [p.av, .lst 4 (hs.map Actr.av), .fn f []] (iv (firstNZ (hs.map g))) := by
 refine pc_of_get eachA_get (by simp) _ (by simp) _ ?_
 unfold eachA_c
 simp
 refine loopN (fun i S => S.t 10 = .lst 4 (hs.map Actr.av) /\ S.t 11 = iv hs.length /\ S.t 12 = iv i /\ S.t 2 = .fn f [] /\ (∃ st, S.t 3 = .ptr 35003 st 4 0 0 /\ S.blk 35003 = some ⟨st, 4, [p.av]⟩) /\ firstNZ (hs.map g) = firstNZ ((hs.map g).drop i)) hs.length ?_ ?_
 . simp
 . rintro i S hi ⟨h10, h11, h12, h2, ⟨st, h3, hb⟩, hv⟩
   by_cases hlt : i < hs.length
   . have e : hs[i]? = some hs[i] := List.getElem?_eq_getElem hlt
     have hm := hg hs[i] (List.getElem_mem hlt)
     rw [firstNZ_drop _ _ (by simpa using hlt), List.getElem_map] at hv
     simp [eachA_l0, h10, h11, h12, h2, h3, hb, hlt, e]
     refine call hm (by simp) ?_
     simp [h10, h11, h12, h2, h3, hb, hlt, hv]
     refine split (fun hc => ?_) (fun hc => ?_) <;> simp [hc, h10, h11, h12, h2, h3, hb, hlt, hv, wrap_succ i _ hlt hl]
   . have e : i = hs.length := by omega
     subst e
     rw [firstNZ_end _ _ (by simp)] at hv
     simp [eachA_l0, h10, h11, h12, h2, h3, hb, hv]
theorem eachN_pc (p : Prg) (hs : List Nt) (f : FuncId) (g : Nt -> Int) (hg : ∀ h ∈ hs, PC Tryz.prog f [p.av, h.av] (iv (g h))) (hl : hs.length < 4611686018427387904) :
   PC Tryz.prog 164 [p.av, .lst 3 (hs.map Nt.av), .fn f []] (iv (firstNZ (hs.map g))) := by
 refine pc_of_get eachN_get (by simp) _ (by simp) _ ?_
 unfold eachN_c
 simp
 refine loopN (fun i S => S.t 10 = .lst 3 (hs.map Nt.av) /\ S.t 11 = iv hs.length /\ S.t 12 = iv i /\ S.t 2 = .fn f [] /\ (∃ st, S.t 3 = .ptr 37003 st 4 0 0 /\ S.blk 37003 = some ⟨st, 4, [p.av]⟩) /\ firstNZ (hs.map g) = firstNZ ((hs.map g).drop i)) hs.length ?_ ?_
 . simp
 . rintro i S hi ⟨h10, h11, h12, h2, ⟨st, h3, hb⟩, hv⟩
   by_cases hlt : i < hs.length
   . have e : hs[i]? = some hs[i] := List.getElem?_eq_getElem hlt
     have hm := hg hs[i] (List.getElem_mem hlt)
     rw [firstNZ_drop _ _ (by simpa using hlt), List.getElem_map] at hv
     simp [eachN_l0, h10, h11, h12, h2, h3, hb, hlt, e]
     refine call hm (by simp) ?_
     simp [h10, h11, h12, h2, h3, hb, hlt, hv]
     refine split (fun hc => ?_) (fun hc => ?_) <;> simp [hc, h10, h11, h12, h2, h3, hb, hlt, hv, wrap_succ i _ hlt hl]
   . have e : i = hs.length := by omega
     subst e
     rw [firstNZ_end _ _ (by simp)] at hv
     simp [eachN_l0, h10, h11, h12, h2, h3, hb, hv]
theorem instr_pc (p : Prg) (h : Hnd) (i : Ins) : PC Tryz.prog 208 [p.av, h.av, i.av] (iv (instrV p.hs.length h.args h.code.length i)) := by
 refine pc_of_get instr_get (by simp) _ (by simp) _ ?_
 unfold instr_c
 simp
 refine call (operand_pc i.op) (by simp) ?_
 simp
 refine call (valid_pc i.op) (by simp) ?_
 have hk := operandV_cases i.op
 unfold instrV
 generalize operandV i.op = k at hk
 simp
 by_cases h1 : 1 <= i.op
 . by_cases h2 : i.op <= 25
   . rcases hk with rfl | rfl | rfl | rfl | rfl | rfl <;> simp [h1, h2]
     all_goals
       repeat' (refine split (fun hc => ?_) (fun hc => ?_) <;> simp [*])
     all_goals grind
   . simp [h1, h2]
 . simp [h1]
theorem handler_pc (p : Prg) (h : Hnd) : PC Tryz.prog 161 [p.av, h.av] (iv (handlerV p.hs.length h)) := by
 refine pc_of_get handler_get (by simp) _ (by simp) _ ?_
 unfold handler_c
 simp
 refine split (fun h1 => ?_) (fun h1 => ?_) <;> simp [h1]
 . grind [handlerV]
 refine split (fun h2 => ?_) (fun h2 => ?_) <;> simp [h2]
 . grind [handlerV]
 refine split (fun h3 => ?_) (fun h3 => ?_) <;> simp [h3]
 . grind [handlerV]
 have hv : handlerV p.hs.length h = firstNZ (h.code.map (instrV p.hs.length h.args h.code.length)) := by grind [handlerV]
 rw [hv]
 refine loopN (fun i S => S.t 21 = .lst 2 (h.code.map Ins.av) /\ S.t 22 = iv h.code.length /\ S.t 23 = iv i /\ (∃ st, S.t 2 = .ptr 34002 st 4 0 0 /\ S.blk 34002 = some ⟨st, 4, [p.av]⟩) /\ (∃ st, S.t 3 = .ptr 34003 st 2 0 0 /\ S.blk 34003 = some ⟨st, 2, [h.av]⟩) /\
   firstNZ (h.code.map (instrV p.hs.length h.args h.code.length)) = firstNZ ((h.code.map (instrV p.hs.length h.args h.code.length)).drop i)) h.code.length ?_ ?_
 . simp
 . rintro i S hi ⟨h10, h11, h12, ⟨st, g1, g2⟩, ⟨st', g3, g4⟩, hv⟩
   by_cases hlt : i < h.code.length
   . rw [firstNZ_drop _ _ (by simpa using hlt), List.getElem_map] at hv
     simp [handler_l0, h10, h11, h12, g1, g2, g3, g4, hlt]
     refine call (instr_pc p h h.code[i]) (by simp) ?_
     simp
     refine split (fun hc => ?_) (fun hc => ?_) <;> simp [hc, h10, h11, h12, g1, g2, g3, g4, hlt, hv, wrap_succ i _ hlt (by omega)]
   . have e : i = h.code.length := by omega
     subst e
     rw [firstNZ_end _ _ (by simp)] at hv
     simp [handler_l0, h10, h11, h12, g1, g2, g3, g4, hv]
theorem actor_pc (p : Prg) (a : Actr) : PC Tryz.prog 163 [p.av, a.av] (iv (actorV p.hs a)) := by
 refine pc_of_get actor_get (by simp) _ (by simp) _ ?_
 unfold actor_c
 simp
 refine split (fun h1 => ?_) (fun h1 => ?_) <;> simp [h1]
 . grind [actorV]
 refine split (fun h2 => ?_) (fun h2 => ?_) <;> simp [h2]
 . grind [actorV]
 refine split (fun h3 => ?_) (fun h3 => ?_) <;> simp [h3]
 . grind [actorV]
 obtain ⟨regs, cap, timer, armed⟩ := a
 simp at h1 h2 h3
 by_cases ht : timer = -1
 . subst ht
   simp
   cases armed <;> simp <;> grind [actorV]
 . simp [ht]
   by_cases ht2 : timer < 0
   . simp [ht2]; grind [actorV]
   . obtain ⟨k, rfl⟩ := Int.eq_ofNat_of_zero_le (by omega : 0 <= timer)
     have hn : ¬ ((k : Int) < 0) := by omega
     by_cases hk : k < p.hs.length
     . simp [hk, ht, hn, Nat.not_le.2 hk]
       by_cases hz : p.hs[k].args = 0
       . simp [hk, ht, hn, hz, Nat.not_le.2 hk]
         cases armed <;> simp [hk, ht, hn, hz, Nat.not_le.2 hk] <;> grind [actorV]
       . simp [hk, ht, hn, hz, Nat.not_le.2 hk]; grind [actorV]
     . simp [hk, ht, hn, Nat.not_lt.1 hk]; grind [actorV]
theorem note_pc (p : Prg) (n : Nt) : PC Tryz.prog 165 [p.av, n.av] (iv (noteV p.hs p.as.length n)) := by
 refine pc_of_get note_get (by simp) _ (by simp) _ ?_
 unfold note_c
 simp
 refine split (fun h1 => ?_) (fun h1 => ?_) <;> simp [h1]
 . grind [noteV]
 refine split (fun h2 => ?_) (fun h2 => ?_) <;> simp [h2]
 . grind [noteV]
 refine split (fun h3 => ?_) (fun h3 => ?_) <;> simp [h3]
 . grind [noteV]
 refine split (fun h4 => ?_) (fun h4 => ?_) <;> simp only [h4]
 . simp [h4]; grind [noteV]
 obtain ⟨to, hd, args⟩ := n
 obtain ⟨k, rfl⟩ := Int.eq_ofNat_of_zero_le (by simpa using h3 : 0 <= hd)
 have hk : k < p.hs.length := by simpa using h4
 simp [hk]
 refine split (fun h5 => ?_) (fun h5 => ?_) <;> simp <;> grind [noteV]
end Go.Gv

namespace Go.Gv
open Go.Proofs
def check_r0 : List AI := [⟨(some 1), none, (.op (.box 21001 4 (.t 0)))⟩, ⟨(some 2), none, (.op (.mv (.c (.int .i64 0))))⟩]
def check_r1 : List AI := [⟨(some 6), none, (.op (.fld 0 (.t 1)))⟩, ⟨(some 7), none, (.op (.load none (.t 6)))⟩, ⟨(some 8), none, (.op (.len (.t 7)))⟩, ⟨(some 9), none, (.op (.ibin .gtr (.t 8) (.c (.int .i64 16))))⟩, ⟨(some 5), none, (.op (.mv (.t 9)))⟩]
def check_r2 : List AI := [⟨(some 10), none, (.op (.fld 1 (.t 1)))⟩, ⟨(some 11), none, (.op (.load none (.t 10)))⟩, ⟨(some 12), none, (.op (.len (.t 11)))⟩, ⟨(some 13), none, (.op (.ibin .gtr (.t 12) (.c (.int .i64 8))))⟩, ⟨(some 5), none, (.op (.mv (.t 13)))⟩]
def check_r3 : List AI := [⟨(some 14), none, (.op (.fld 2 (.t 1)))⟩, ⟨(some 15), none, (.op (.load none (.t 14)))⟩, ⟨(some 16), none, (.op (.len (.t 15)))⟩, ⟨(some 17), none, (.op (.ibin .gtr (.t 16) (.c (.int .i64 16))))⟩, ⟨(some 5), none, (.op (.mv (.t 17)))⟩]
def check_r4 : List AI := [⟨(some 2), none, (.op (.mv (.c (.int .i64 3))))⟩]
def check_r5 : List AI := [⟨(some 19), none, (.op (.fld 1 (.t 1)))⟩, ⟨(some 20), none, (.op (.load none (.t 19)))⟩, ⟨(some 21), none, (.op (.len (.t 20)))⟩, ⟨(some 22), none, (.op (.ibin .eql (.t 21) (.c (.int .i64 0))))⟩, ⟨(some 18), none, (.op (.mv (.t 22)))⟩]
def check_r6 : List AI := [⟨(some 23), none, (.op (.fld 3 (.t 1)))⟩, ⟨(some 24), none, (.op (.load none (.t 23)))⟩, ⟨(some 25), none, (.op (.ibin .lss (.t 24) (.c (.int .i64 1))))⟩, ⟨(some 18), none, (.op (.mv (.t 25)))⟩]
def check_r7 : List AI := [⟨(some 26), none, (.op (.fld 3 (.t 1)))⟩, ⟨(some 27), none, (.op (.load none (.t 26)))⟩, ⟨(some 28), none, (.op (.ibin .gtr (.t 27) (.c (.int .i64 256))))⟩, ⟨(some 18), none, (.op (.mv (.t 28)))⟩]
def check_r8 : List AI := [⟨(some 2), none, (.op (.mv (.c (.int .i64 1))))⟩]
def check_r9 : List AI := [⟨(some 29), none, (.op (.load (some 4) (.t 1)))⟩, ⟨(some 30), none, (.op (.fld 0 (.t 1)))⟩, ⟨(some 31), none, (.op (.load none (.t 30)))⟩, ⟨(some 32), none, (.call (.c (.fn 160 [])) [(.t 29), (.t 31), (.c (.fn 161 []))])⟩, ⟨(some 3), none, (.op (.mv (.t 32)))⟩]
def check_r10 : List AI := [⟨(some 33), none, (.op (.mv (.t 3)))⟩, ⟨(some 34), none, (.op (.ibin .neq (.t 33) (.c (.int .i64 0))))⟩]
def check_r11 : List AI := [⟨(some 35), none, (.op (.mv (.t 3)))⟩, ⟨(some 2), none, (.op (.mv (.t 35)))⟩]
def check_r12 : List AI := [⟨(some 36), none, (.op (.load (some 4) (.t 1)))⟩, ⟨(some 37), none, (.op (.fld 1 (.t 1)))⟩, ⟨(some 38), none, (.op (.load none (.t 37)))⟩, ⟨(some 39), none, (.call (.c (.fn 162 [])) [(.t 36), (.t 38), (.c (.fn 163 []))])⟩, ⟨(some 4), none, (.op (.mv (.t 39)))⟩]
def check_r13 : List AI := [⟨(some 40), none, (.op (.mv (.t 4)))⟩, ⟨(some 41), none, (.op (.ibin .neq (.t 40) (.c (.int .i64 0))))⟩]
def check_r14 : List AI := [⟨(some 42), none, (.op (.mv (.t 4)))⟩, ⟨(some 2), none, (.op (.mv (.t 42)))⟩]
def check_r15 : List AI := [⟨(some 43), none, (.op (.load (some 4) (.t 1)))⟩, ⟨(some 44), none, (.op (.fld 2 (.t 1)))⟩, ⟨(some 45), none, (.op (.load none (.t 44)))⟩, ⟨(some 46), none, (.call (.c (.fn 164 [])) [(.t 43), (.t 45), (.c (.fn 165 []))])⟩, ⟨(some 2), none, (.op (.mv (.t 46)))⟩]
def check_c : AC := (.seq (.reg check_r0) (.seq (.block 0 (.seq (.seq (.reg check_r1) (.cond (.t 5) .skip (.seq (.reg check_r2) (.cond (.t 5) .skip (.reg check_r3))))) (.cond (.t 5) (.seq (.reg check_r4) .ret) (.seq (.seq (.reg check_r5) (.cond (.t 18) .skip (.seq (.reg check_r6) (.cond (.t 18) .skip (.reg check_r7))))) (.cond (.t 18) (.seq (.reg check_r8) .ret) .skip))))) (.seq (.seq (.reg check_r9) (.seq (.reg check_r10) (.cond (.t 34) (.seq (.reg check_r11) .ret) .skip))) (.seq (.seq (.reg check_r12) (.seq (.reg check_r13) (.cond (.t 41) (.seq (.reg check_r14) .ret) .skip))) (.seq (.reg check_r15) .ret)))))
def check_res : List ARes := [(.tmp 2)]
set_option maxRecDepth 100000 in
theorem check_get : getF Tryz.prog 122 21000 [] = some ("gavotte/prog.Check", 47, check_c, check_res) := by kernel_rfl
attribute [simp] check_r0 check_r1 check_r2 check_r3 check_r4 check_r5 check_r6 check_r7 check_r8 check_r9 check_r10 check_r11 check_r12 check_r13 check_r14 check_r15 check_res
theorem check_pc (p : Prg) : PC Tryz.prog 122 [p.av] (iv (checkV p)) := by
 refine pc_of_get check_get (by simp) _ (by simp) _ ?_
 unfold check_c
 simp
 refine split (fun h1 => ?_) (fun h1 => ?_) <;> simp [h1]
 . grind [checkV]
 refine split (fun h2 => ?_) (fun h2 => ?_) <;> simp [h2]
 . grind [checkV]
 refine split (fun h3 => ?_) (fun h3 => ?_) <;> simp [h3]
 . grind [checkV]
 refine split (fun h4 => ?_) (fun h4 => ?_) <;> simp [h4]
 . grind [checkV]
 refine split (fun h5 => ?_) (fun h5 => ?_) <;> simp [h5]
 . grind [checkV]
 refine split (fun h6 => ?_) (fun h6 => ?_) <;> simp [h6]
 . grind [checkV]
 refine call (eachH_pc p p.hs 161 (handlerV p.hs.length) (fun h _ => handler_pc p h) (by omega)) (by simp) ?_
 simp
 refine split (fun h7 => ?_) (fun h7 => ?_) <;> simp [h7]
 rotate_left
 . grind [checkV]
 refine call (eachA_pc p p.as 163 (actorV p.hs) (fun h _ => actor_pc p h) (by omega)) (by simp) ?_
 simp
 refine split (fun h8 => ?_) (fun h8 => ?_) <;> simp [h8]
 rotate_left
 . grind [checkV]
 refine call (eachN_pc p p.boot 165 (noteV p.hs p.as.length) (fun h _ => note_pc p h) (by omega)) (by simp) ?_
 simp
 grind [checkV]
end Go.Gv

namespace Go.Gv
open Go.Proofs
end Go.Gv

namespace Go.Gv
open Go.Proofs
end Go.Gv

namespace Go.Gv
open Go.Proofs
def smallV (p : Prg) : Prop := p.hs.length <= 18 /\ p.as.length <= 10 /\ p.boot.length <= 18 /\ (∀ h ∈ p.hs, h.code.length <= 70) /\ (∀ a ∈ p.as, a.regs.length <= 10) /\ (∀ n ∈ p.boot, n.args.length <= 6)
instance (p : Prg) : Decidable (smallV p) := inferInstanceAs (Decidable (_ /\ _))
end Go.Gv
