/- Texts of this proof, one behind the other. What is proved, and on which conditions, stands ahead of each. -/
import Derived.Test.YthidhohdcjojhaaGreatDoorProg
import Derived.Test.YthidhohdcjojhaaGreatDoorM2123d77d
import Derived.Test.YthidhohdcjojhaaGreatDoorM19d63b98

set_option linter.unusedVariables false
set_option linter.unusedSimpArgs false
namespace Go.Gv
open Go.Proofs
def xtakes_r0 : List AI := [⟨(some 2), none, (.op (.mv (.c (.int .i64 0))))⟩]
def xtakes_r1 : List AI := [⟨(some 3), none, (.op (.mv (.t 0)))⟩, ⟨(some 4), none, (.call (.c (.fn 174 [])) [(.t 3)])⟩, ⟨(some 2), none, (.op (.mv (.t 4)))⟩]
def xtakes_c : AC := (.seq (.reg xtakes_r0) (.seq (.reg xtakes_r1) .ret))
def xtakes_res : List ARes := [(.tmp 2)]
set_option maxRecDepth 100000 in
theorem xtakes_get : getF Tryz.prog 126 242000 [] = some ("gavotte/expr.takes", 5, xtakes_c, xtakes_res) := by kernel_rfl
def xputs_r0 : List AI := [⟨(some 2), none, (.op (.mv (.c (.int .i64 0))))⟩]
def xputs_r1 : List AI := [⟨(some 3), none, (.op (.mv (.t 0)))⟩, ⟨(some 4), none, (.call (.c (.fn 171 [])) [(.t 3)])⟩]
def xputs_r2 : List AI := [⟨(some 2), none, (.op (.mv (.c (.int .i64 1))))⟩]
def xputs_r3 : List AI := [⟨(some 5), none, (.op (.mv (.t 0)))⟩, ⟨(some 6), none, (.call (.c (.fn 168 [])) [(.t 5)])⟩, ⟨(some 2), none, (.op (.mv (.t 6)))⟩]
def xputs_c : AC := (.seq (.reg xputs_r0) (.seq (.seq (.reg xputs_r1) (.cond (.t 4) (.seq (.reg xputs_r2) .ret) .skip)) (.seq (.reg xputs_r3) .ret)))
def xputs_res : List ARes := [(.tmp 2)]
set_option maxRecDepth 100000 in
theorem xputs_get : getF Tryz.prog 125 243000 [] = some ("gavotte/expr.puts", 7, xputs_c, xputs_res) := by kernel_rfl
def xinstr_r0 : List AI := [⟨(some 3), none, (.op (.box 244003 4 (.t 0)))⟩, ⟨(some 4), none, (.op (.box 244004 2 (.t 1)))⟩, ⟨(some 6), none, (.op (.mv (.c (.int .i64 0))))⟩]
def xinstr_r1 : List AI := [⟨(some 10), none, (.op (.load (some 2) (.t 4)))⟩, ⟨(some 11), none, (.call (.c (.fn 170 [])) [(.t 10)])⟩, ⟨(some 9), none, (.op (.mv (.t 11)))⟩, ⟨(some 12), none, (.op (.ext (.t 9) 0))⟩, ⟨(some 13), none, (.op (.ext (.t 9) 1))⟩, ⟨(some 7), none, (.op (.mv (.t 12)))⟩, ⟨(some 8), none, (.op (.mv (.t 13)))⟩]
def xinstr_r2 : List AI := [⟨(some 15), none, (.op (.fld 0 (.t 4)))⟩, ⟨(some 16), none, (.op (.load none (.t 15)))⟩, ⟨(some 17), none, (.call (.c (.fn 171 [])) [(.t 16)])⟩, ⟨(some 18), none, (.op (.not (.t 17)))⟩, ⟨(some 19), none, (.op (.mv (.t 18)))⟩, ⟨(some 20), (some (19, true)), (.op (.fld 0 (.t 4)))⟩, ⟨(some 21), (some (19, true)), (.op (.load none (.t 20)))⟩, ⟨(some 22), (some (19, true)), (.call (.c (.fn 172 [])) [(.t 21)])⟩, ⟨(some 23), (some (19, true)), (.op (.not (.t 22)))⟩, ⟨(some 24), none, (.op (.pick (.t 19) (.t 23) (.c (.bool false))))⟩, ⟨(some 14), none, (.op (.mv (.t 24)))⟩]
def xinstr_r3 : List AI := [⟨(some 25), none, (.op (.fld 0 (.t 4)))⟩, ⟨(some 26), none, (.op (.load none (.t 25)))⟩, ⟨(some 27), none, (.call (.c (.fn 173 [])) [(.t 26)])⟩, ⟨(some 28), none, (.op (.not (.t 27)))⟩, ⟨(some 29), none, (.op (.mv (.t 28)))⟩, ⟨(some 30), (some (29, true)), (.op (.fld 1 (.t 4)))⟩, ⟨(some 31), (some (29, true)), (.op (.load none (.t 30)))⟩, ⟨(some 32), (some (29, true)), (.op (.ibin .neq (.t 31) (.c (.int .i64 0))))⟩, ⟨(some 33), none, (.op (.pick (.t 29) (.t 32) (.c (.bool false))))⟩, ⟨(some 14), none, (.op (.mv (.t 33)))⟩]
def xinstr_r4 : List AI := [⟨(some 6), none, (.op (.mv (.c (.int .i64 1))))⟩]
def xinstr_r5 : List AI := [⟨(some 35), none, (.op (.fld 0 (.t 4)))⟩, ⟨(some 36), none, (.op (.load none (.t 35)))⟩, ⟨(some 37), none, (.op (.ibin .eql (.t 36) (.c (.int .i64 31))))⟩, ⟨(some 38), none, (.op (.mv (.t 37)))⟩, ⟨(some 39), (some (38, true)), (.op (.fld 1 (.t 4)))⟩, ⟨(some 40), (some (38, true)), (.op (.load none (.t 39)))⟩, ⟨(some 41), (some (38, true)), (.op (.ibin .and (.t 40) (.c (.int .i64 15))))⟩, ⟨(some 42), (some (38, true)), (.op (.ibin .geq (.t 41) (.c (.int .i64 8))))⟩, ⟨(some 43), none, (.op (.pick (.t 38) (.t 42) (.c (.bool false))))⟩, ⟨(some 34), none, (.op (.mv (.t 43)))⟩]
def xinstr_r6 : List AI := [⟨(some 6), none, (.op (.mv (.c (.int .i64 6))))⟩]
def xinstr_r7 : List AI := [⟨(some 45), none, (.op (.mv (.t 8)))⟩, ⟨(some 46), none, (.op (.mv (.t 45)))⟩, ⟨(some 47), (some (46, true)), (.op (.mv (.t 7)))⟩, ⟨(some 48), (some (46, true)), (.op (.ibin .lss (.t 47) (.c (.int .i64 0))))⟩, ⟨(some 49), (some (46, true)), (.op (.mv (.t 48)))⟩, ⟨(some 50), (some (49, false)), (.op (.mv (.t 7)))⟩, ⟨(some 51), (some (49, false)), (.op (.fld 1 (.t 3)))⟩, ⟨(some 52), (some (49, false)), (.op (.load none (.t 51)))⟩, ⟨(some 53), (some (49, false)), (.op (.len (.t 52)))⟩, ⟨(some 54), (some (49, false)), (.op (.ibin .geq (.t 50) (.t 53)))⟩, ⟨(some 55), (some (46, true)), (.op (.pick (.t 49) (.c (.bool true)) (.t 54)))⟩, ⟨(some 56), none, (.op (.pick (.t 46) (.t 55) (.c (.bool false))))⟩, ⟨(some 44), none, (.op (.mv (.t 56)))⟩]
def xinstr_r8 : List AI := [⟨(some 6), none, (.op (.mv (.c (.int .i64 7))))⟩]
def xinstr_r9 : List AI := [⟨(some 58), none, (.op (.mv (.t 2)))⟩, ⟨(some 59), none, (.op (.fld 0 (.t 4)))⟩, ⟨(some 60), none, (.op (.load none (.t 59)))⟩, ⟨(some 61), none, (.call (.c (.fn 126 [])) [(.t 60)])⟩, ⟨(some 62), none, (.op (.ibin .lss (.t 58) (.t 61)))⟩, ⟨(some 57), none, (.op (.mv (.t 62)))⟩]
def xinstr_r10 : List AI := [⟨(some 63), none, (.op (.mv (.t 2)))⟩, ⟨(some 64), none, (.op (.fld 0 (.t 4)))⟩, ⟨(some 65), none, (.op (.load none (.t 64)))⟩, ⟨(some 66), none, (.call (.c (.fn 126 [])) [(.t 65)])⟩, ⟨(some 67), none, (.op (.ibin .sub (.t 63) (.t 66)))⟩, ⟨(some 68), none, (.op (.fld 0 (.t 4)))⟩, ⟨(some 69), none, (.op (.load none (.t 68)))⟩, ⟨(some 70), none, (.call (.c (.fn 125 [])) [(.t 69)])⟩, ⟨(some 71), none, (.op (.ibin .add (.t 67) (.t 70)))⟩, ⟨(some 72), none, (.op (.ibin .gtr (.t 71) (.c (.int .i64 8))))⟩, ⟨(some 57), none, (.op (.mv (.t 72)))⟩]
def xinstr_p10 : List (List Nat) := [[], [], [1], [2, 1], [0, 3, 2, 1], [], [5], [6, 3, 5, 2, 1], [4, 7, 0, 3, 2, 1, 6, 5], [8, 4, 7, 0, 3, 2, 1, 6, 5], [9, 7, 8, 4, 0, 3, 2, 1, 6, 5]]
def xinstr_r11 : List AI := [⟨(some 6), none, (.op (.mv (.c (.int .i64 5))))⟩]
def xinstr_r12 : List AI := [⟨(some 6), none, (.op (.mv (.c (.int .i64 0))))⟩]
def xinstr_c : AC := (.seq (.reg xinstr_r0) (.seq (.reg xinstr_r1) (.seq (.block 0 (.seq (.seq (.reg xinstr_r2) (.cond (.t 14) .skip (.reg xinstr_r3))) (.cond (.t 14) (.seq (.reg xinstr_r4) .ret) (.seq (.reg xinstr_r5) (.cond (.t 34) (.seq (.reg xinstr_r6) .ret) (.seq (.reg xinstr_r7) (.cond (.t 44) (.seq (.reg xinstr_r8) .ret) (.seq (.seq (.reg xinstr_r9) (.cond (.t 57) .skip (.regd xinstr_r10 xinstr_p10))) (.cond (.t 57) (.seq (.reg xinstr_r11) .ret) .skip))))))))) (.seq (.reg xinstr_r12) .ret))))
def xinstr_res : List ARes := [(.tmp 6)]
set_option maxRecDepth 100000 in
theorem xinstr_get : getF Tryz.prog 124 244000 [] = some ("gavotte/expr.instr", 73, xinstr_c, xinstr_res) := by kernel_rfl
def xcheck_r0 : List AI := [⟨(some 2), none, (.op (.box 245002 4 (.t 0)))⟩, ⟨(some 4), none, (.op (.mv (.c (.int .i64 0))))⟩]
def xcheck_r1 : List AI := [⟨(some 10), none, (.op (.load (some 4) (.t 2)))⟩, ⟨(some 11), none, (.call (.c (.fn 89 [])) [(.t 10)])⟩, ⟨(some 5), none, (.op (.mv (.t 11)))⟩]
def xcheck_r2 : List AI := [⟨(some 12), none, (.op (.mv (.t 5)))⟩, ⟨(some 13), none, (.op (.ibin .neq (.t 12) (.c (.int .i64 0))))⟩]
def xcheck_r3 : List AI := [⟨(some 14), none, (.op (.mv (.t 5)))⟩, ⟨(some 4), none, (.op (.mv (.t 14)))⟩]
def xcheck_r4 : List AI := [⟨(some 15), none, (.op (.mv (.t 1)))⟩, ⟨(some 16), none, (.op (.len (.t 15)))⟩, ⟨(some 17), none, (.op (.ibin .gtr (.t 16) (.c (.int .i64 64))))⟩]
def xcheck_r5 : List AI := [⟨(some 4), none, (.op (.mv (.c (.int .i64 3))))⟩]
def xcheck_r6 : List AI := [⟨(some 6), none, (.op (.mv (.c (.int .i64 0))))⟩]
def xcheck_r7 : List AI := [⟨(some 18), none, (.op (.mv (.t 1)))⟩, ⟨(some 19), none, (.op (.len (.t 18)))⟩, ⟨(some 20), none, (.op (.mv (.c (.int .i64 0))))⟩]
def xcheck_r8 : List AI := [⟨(some 21), none, (.op (.ibin .lss (.t 20) (.t 19)))⟩]
def xcheck_r9 : List AI := [⟨(some 22), none, (.op (.idx 2 (.t 18) (.t 20)))⟩, ⟨(some 23), none, (.op (.load (some 2) (.t 22)))⟩, ⟨(some 8), none, (.op (.new 245008 2 (.agg [(.int .i64 0), (.int .i64 0)])))⟩, ⟨none, none, (.op (.store 2 (.t 8) (.t 23)))⟩]
def xcheck_r10 : List AI := [⟨(some 24), none, (.op (.load (some 4) (.t 2)))⟩, ⟨(some 25), none, (.op (.load (some 2) (.t 8)))⟩, ⟨(some 26), none, (.op (.mv (.t 6)))⟩, ⟨(some 27), none, (.call (.c (.fn 124 [])) [(.t 24), (.t 25), (.t 26)])⟩, ⟨(some 9), none, (.op (.mv (.t 27)))⟩]
def xcheck_r11 : List AI := [⟨(some 28), none, (.op (.mv (.t 9)))⟩, ⟨(some 29), none, (.op (.ibin .neq (.t 28) (.c (.int .i64 0))))⟩]
def xcheck_r12 : List AI := [⟨(some 30), none, (.op (.mv (.t 9)))⟩, ⟨(some 4), none, (.op (.mv (.t 30)))⟩]
def xcheck_r13 : List AI := [⟨(some 31), none, (.op (.mv (.t 6)))⟩, ⟨(some 32), none, (.op (.fld 0 (.t 8)))⟩, ⟨(some 33), none, (.op (.load none (.t 32)))⟩, ⟨(some 34), none, (.call (.c (.fn 125 [])) [(.t 33)])⟩, ⟨(some 35), none, (.op (.fld 0 (.t 8)))⟩, ⟨(some 36), none, (.op (.load none (.t 35)))⟩, ⟨(some 37), none, (.call (.c (.fn 126 [])) [(.t 36)])⟩, ⟨(some 38), none, (.op (.ibin .sub (.t 34) (.t 37)))⟩, ⟨(some 39), none, (.op (.ibin .add (.t 31) (.t 38)))⟩, ⟨(some 6), none, (.op (.mv (.t 39)))⟩]
def xcheck_p13 : List (List Nat) := [[], [], [1], [2, 1], [], [4], [5, 3, 4, 2, 1], [3, 6, 2, 1, 5, 4], [0, 7, 3, 6, 2, 1, 5, 4], [8, 6, 0, 1, 2, 3, 4, 5, 7]]
def xcheck_r14 : List AI := [⟨(some 40), none, (.op (.ibin .add (.t 20) (.c (.int .i64 1))))⟩, ⟨(some 20), none, (.op (.mv (.t 40)))⟩]
def xcheck_l0 : AC := (.seq (.reg xcheck_r8) (.seq (.cond (.t 21) .skip (.exit 0)) (.seq (.block 1 (.seq (.reg xcheck_r9) (.seq (.seq (.reg xcheck_r10) (.seq (.reg xcheck_r11) (.cond (.t 29) (.seq (.reg xcheck_r12) .ret) .skip))) (.regd xcheck_r13 xcheck_p13)))) (.reg xcheck_r14))))
def xcheck_r15 : List AI := [⟨(some 41), none, (.op (.mv (.t 6)))⟩, ⟨(some 42), none, (.op (.ibin .neq (.t 41) (.c (.int .i64 1))))⟩]
def xcheck_r16 : List AI := [⟨(some 4), none, (.op (.mv (.c (.int .i64 5))))⟩]
def xcheck_r17 : List AI := [⟨(some 4), none, (.op (.mv (.c (.int .i64 0))))⟩]
def xcheck_c : AC := (.seq (.reg xcheck_r0) (.seq (.seq (.reg xcheck_r1) (.seq (.reg xcheck_r2) (.cond (.t 13) (.seq (.reg xcheck_r3) .ret) .skip))) (.seq (.seq (.reg xcheck_r4) (.cond (.t 17) (.seq (.reg xcheck_r5) .ret) .skip)) (.seq (.reg xcheck_r6) (.seq (.seq (.reg xcheck_r7) (.block 0 (.loop xcheck_l0))) (.seq (.seq (.reg xcheck_r15) (.cond (.t 42) (.seq (.reg xcheck_r16) .ret) .skip)) (.seq (.reg xcheck_r17) .ret)))))))
def xcheck_res : List ARes := [(.tmp 4)]
set_option maxRecDepth 100000 in
theorem xcheck_get : getF Tryz.prog 90 245000 [] = some ("gavotte/expr.Check", 43, xcheck_c, xcheck_res) := by kernel_rfl
def wcheck_r0 : List AI := [⟨(some 2), none, (.op (.box 246002 4 (.t 0)))⟩, ⟨(some 4), none, (.op (.mv (.c (.int .i64 0))))⟩]
def wcheck_r1 : List AI := [⟨(some 9), none, (.op (.mv (.t 1)))⟩, ⟨(some 10), none, (.op (.len (.t 9)))⟩, ⟨(some 11), none, (.op (.ibin .gtr (.t 10) (.c (.int .i64 8))))⟩]
def wcheck_r2 : List AI := [⟨(some 4), none, (.op (.mv (.c (.int .i64 3))))⟩]
def wcheck_r3 : List AI := [⟨(some 12), none, (.op (.load (some 4) (.t 2)))⟩, ⟨(some 13), none, (.call (.c (.fn 89 [])) [(.t 12)])⟩, ⟨(some 5), none, (.op (.mv (.t 13)))⟩]
def wcheck_r4 : List AI := [⟨(some 14), none, (.op (.mv (.t 5)))⟩, ⟨(some 15), none, (.op (.ibin .neq (.t 14) (.c (.int .i64 0))))⟩]
def wcheck_r5 : List AI := [⟨(some 16), none, (.op (.mv (.t 5)))⟩, ⟨(some 4), none, (.op (.mv (.t 16)))⟩]
def wcheck_r6 : List AI := [⟨(some 17), none, (.op (.mv (.t 1)))⟩, ⟨(some 18), none, (.op (.len (.t 17)))⟩, ⟨(some 19), none, (.op (.mv (.c (.int .i64 0))))⟩]
def wcheck_r7 : List AI := [⟨(some 20), none, (.op (.ibin .lss (.t 19) (.t 18)))⟩]
def wcheck_r8 : List AI := [⟨(some 21), none, (.op (.idx 1 (.t 17) (.t 19)))⟩, ⟨(some 22), none, (.op (.load none (.t 21)))⟩, ⟨(some 7), none, (.op (.mv (.t 22)))⟩]
def wcheck_r9 : List AI := [⟨(some 23), none, (.op (.load (some 4) (.t 2)))⟩, ⟨(some 24), none, (.op (.mv (.t 7)))⟩, ⟨(some 25), none, (.call (.c (.fn 90 [])) [(.t 23), (.t 24)])⟩, ⟨(some 8), none, (.op (.mv (.t 25)))⟩]
def wcheck_r10 : List AI := [⟨(some 26), none, (.op (.mv (.t 8)))⟩, ⟨(some 27), none, (.op (.ibin .neq (.t 26) (.c (.int .i64 0))))⟩]
def wcheck_r11 : List AI := [⟨(some 28), none, (.op (.mv (.t 8)))⟩, ⟨(some 4), none, (.op (.mv (.t 28)))⟩]
def wcheck_r12 : List AI := [⟨(some 29), none, (.op (.ibin .add (.t 19) (.c (.int .i64 1))))⟩, ⟨(some 19), none, (.op (.mv (.t 29)))⟩]
def wcheck_l0 : AC := (.seq (.reg wcheck_r7) (.seq (.cond (.t 20) .skip (.exit 0)) (.seq (.block 1 (.seq (.reg wcheck_r8) (.seq (.reg wcheck_r9) (.seq (.reg wcheck_r10) (.cond (.t 27) (.seq (.reg wcheck_r11) .ret) .skip))))) (.reg wcheck_r12))))
def wcheck_r13 : List AI := [⟨(some 4), none, (.op (.mv (.c (.int .i64 0))))⟩]
def wcheck_c : AC := (.seq (.reg wcheck_r0) (.seq (.seq (.reg wcheck_r1) (.cond (.t 11) (.seq (.reg wcheck_r2) .ret) .skip)) (.seq (.seq (.reg wcheck_r3) (.seq (.reg wcheck_r4) (.cond (.t 15) (.seq (.reg wcheck_r5) .ret) .skip))) (.seq (.seq (.reg wcheck_r6) (.block 0 (.loop wcheck_l0))) (.seq (.reg wcheck_r13) .ret)))))
def wcheck_res : List ARes := [(.tmp 4)]
set_option maxRecDepth 100000 in
theorem wcheck_get : getF Tryz.prog 55 246000 [] = some ("gavotte/watch.Check", 30, wcheck_c, wcheck_res) := by kernel_rfl
def wof_r0 : List AI := [⟨(some 2), none, (.op (.box 247002 6 (.t 0)))⟩, ⟨(some 4), none, (.op (.mv (.c .nils)))⟩]
def wof_r1 : List AI := [⟨(some 7), none, (.op (.mv (.t 1)))⟩, ⟨(some 8), none, (.op (.len (.t 7)))⟩, ⟨(some 9), none, (.op (.mv (.c (.int .i64 0))))⟩]
def wof_r2 : List AI := [⟨(some 10), none, (.op (.ibin .lss (.t 9) (.t 8)))⟩]
def wof_r3 : List AI := [⟨(some 11), none, (.op (.mv (.t 9)))⟩, ⟨(some 12), none, (.op (.idx 1 (.t 7) (.t 9)))⟩, ⟨(some 13), none, (.op (.load none (.t 12)))⟩, ⟨(some 5), none, (.op (.mv (.t 11)))⟩, ⟨(some 6), none, (.op (.mv (.t 13)))⟩]
def wof_r4 : List AI := [⟨(some 14), none, (.op (.load (some 6) (.t 2)))⟩, ⟨(some 15), none, (.op (.mv (.t 6)))⟩, ⟨(some 16), none, (.call (.c (.fn 128 [])) [(.t 14), (.t 15)])⟩, ⟨(some 17), none, (.op (.ibin .eql (.t 16) (.c (.int .i64 0))))⟩]
def wof_r5 : List AI := [⟨(some 18), none, (.op (.mv (.t 4)))⟩, ⟨(some 19), none, (.op (.mv (.t 5)))⟩, ⟨(some 20), none, (.op (.bsl 247020 1 3 1 (.int .i64 0) [(0, (.t 19))]))⟩, ⟨(some 21), none, (.op (.app 247021 1 3 8 (.t 18) (.t 20)))⟩, ⟨(some 4), none, (.op (.mv (.t 21)))⟩]
def wof_r6 : List AI := [⟨(some 22), none, (.op (.ibin .add (.t 9) (.c (.int .i64 1))))⟩, ⟨(some 9), none, (.op (.mv (.t 22)))⟩]
def wof_l0 : AC := (.seq (.reg wof_r2) (.seq (.cond (.t 10) .skip (.exit 0)) (.seq (.block 1 (.seq (.reg wof_r3) (.seq (.reg wof_r4) (.cond (.t 17) (.reg wof_r5) .skip)))) (.reg wof_r6))))
def wof_r7 : List AI := [⟨(some 23), none, (.op (.mv (.t 4)))⟩, ⟨(some 4), none, (.op (.mv (.t 23)))⟩]
def wof_c : AC := (.seq (.reg wof_r0) (.seq (.seq (.reg wof_r1) (.block 0 (.loop wof_l0))) (.seq (.reg wof_r7) .ret)))
def wof_res : List ARes := [(.tmp 4)]
set_option maxRecDepth 100000 in
theorem wof_get : getF Tryz.prog 93 247000 [] = some ("gavotte/watch.Of", 24, wof_c, wof_res) := by kernel_rfl
attribute [simp] xtakes_r0 xtakes_r1 xtakes_res xputs_r0 xputs_r1 xputs_r2 xputs_r3 xputs_res xinstr_r0 xinstr_r1 xinstr_r2 xinstr_r3 xinstr_r4 xinstr_r5 xinstr_r6 xinstr_r7 xinstr_r8 xinstr_r9 xinstr_r10 xinstr_p10 xinstr_r11 xinstr_r12 xinstr_res xcheck_r0 xcheck_r1 xcheck_r2 xcheck_r3 xcheck_r4 xcheck_r5 xcheck_r6 xcheck_r7 xcheck_r8 xcheck_r9 xcheck_r10 xcheck_r11 xcheck_r12 xcheck_r13 xcheck_p13 xcheck_r14 xcheck_r15 xcheck_r16 xcheck_r17 xcheck_res wcheck_r0 wcheck_r1 wcheck_r2 wcheck_r3 wcheck_r4 wcheck_r5 wcheck_r6 wcheck_r7 wcheck_r8 wcheck_r9 wcheck_r10 wcheck_r11 wcheck_r12 wcheck_r13 wcheck_res wof_r0 wof_r1 wof_r2 wof_r3 wof_r4 wof_r5 wof_r6 wof_r7 wof_res
theorem xtakes_pc (op : Int) : PC Tryz.prog 126 [iv op] (iv (popsV op)) := by
 refine pc_of_get xtakes_get (by simp) _ (by simp) _ ?_
 unfold xtakes_c
 simp
 refine call (pops_pc op) (by simp) ?_
 simp
def xputsV (op : Int) : Int := if asksV op = true then 1 else putsV op
theorem xputs_pc (op : Int) : PC Tryz.prog 125 [iv op] (iv (xputsV op)) := by
 refine pc_of_get xputs_get (by simp) _ (by simp) _ ?_
 unfold xputs_c xputsV
 simp
 refine call (xasks_pc op) (by simp) ?_
 cases ha : asksV op with
 | true => simp
 | false =>
   simp
   refine call (puts_pc op) (by simp) ?_
   simp
theorem badL_take (w : Wld) : ∀ (l : List (List Ins)) (i : Nat) (h : i < l.length) (j : Nat), badL w j (l.take (i + 1)) = badL w j (l.take i) ++ if ofV w l[i] = 0 then [((j + i : Nat) : Int)] else []
 | [], _, h, _ => by simp at h
 | x :: l, 0, _, j => by
   simp only [List.take_succ_cons, List.take_zero, badL, List.getElem_cons_zero, Nat.add_zero]
   split <;> simp
 | x :: l, i + 1, h, j => by
   rw [List.take_succ_cons, List.take_succ_cons, badL, badL, badL_take w l i (by simpa using h)]
   simp only [List.getElem_cons_succ]
   rw [show j + 1 + i = j + (i + 1) by omega]
   split <;> simp
theorem badL_len (w : Wld) : ∀ (l : List (List Ins)) (j : Nat), (badL w j l).length <= l.length
 | [], _ => Nat.le_refl _
 | x :: l, j => by
   unfold badL
   have := badL_len w l (j + 1)
   split <;> simp <;> omega
theorem wof_pc (w : Wld) (hw : WOk w) (l : List (List Ins)) (hl : l.length <= 1000) (h : ∀ x ∈ l, ExOk w x) : PC Tryz.prog 93 [w.av, .lst 1 (l.map fun x => .lst 2 (x.map Ins.av))] (ints (badV w l)) := by
 refine pc_of_get wof_get (by simp) _ (by simp) _ ?_
 unfold wof_c badV
 simp
 refine loopN (fun i S => S.t 2 = .ptr 247002 0 6 0 0 /\ S.blk 247002 = some ⟨0, 6, [w.av]⟩ /\ S.t 7 = .lst 1 (l.map fun x => .lst 2 (x.map Ins.av)) /\ S.t 8 = iv l.length /\ S.t 9 = iv i /\ AccIs S (S.t 4) 247021 1 3 ((badL w 0 (l.take i)).map iv)) l.length ?_ ?_
 . exact ⟨by simp, by simp, by simp, by simp, by simp, .inl ⟨by simp, by simp [badL]⟩⟩
 . rintro i S hi ⟨g2, b2, g7, g8, g9, g4⟩
   obtain ⟨v, g5⟩ : ∃ v, S.t 4 = v := ⟨_, rfl⟩
   rw [g5] at g4
   by_cases hlt : i < l.length
   . have ws := wrap_succ i _ hlt (by omega)
     have hbl := badL_take w l i hlt 0
     rw [Nat.zero_add] at hbl
     have hll := badL_len w (l.take i) 0
     rw [List.length_take] at hll
     have hx := xof_pc w hw l[i] (h _ (List.getElem_mem hlt))
     simp [wof_l0, g2, b2, g5, g7, g8, g9, hlt]
     refine call hx (by simp [Wld.av]) ?_
     simp [g2, b2, g5, g7, g8, g9]
     by_cases hz : ofV w l[i] = 0
     . rw [if_pos hz] at hbl
       have hbd : ((badL w 0 (l.take i)).length + 1) * 8 <= 140737488355328 := by omega
       rcases g4 with ⟨rfl, q⟩ | ⟨st, rfl, q⟩
       . simp [hz, g2, b2, g5, g7, g8, g9, ws]
         rw [hbl, List.map_append, q]
         exact .inr ⟨_, by simp; rfl, by simp⟩
       . simp [hz, g2, b2, g5, g7, g8, g9, ws, q, hbd]
         rw [hbl]
         exact .inr ⟨_, by simp; rfl, by simp⟩
     . rw [if_neg hz, List.append_nil] at hbl
       simp [hz, g2, b2, g5, g7, g8, g9, ws]
       rw [hbl]
       simpa [AccIs, g5] using g4
   . have e1 : i = l.length := by omega
     subst e1
     rw [List.take_length] at g4
     rcases g4 with ⟨rfl, q⟩ | ⟨st, rfl, q⟩
     . simp [wof_l0, g5, g7, g8, g9, ints, q]
     . simp [wof_l0, g5, g7, g8, g9, ints]
def low16 (a : Int) : Int := bitAnd IntKind.i64 a 15
def xinstrV (p : Prg) (i : Ins) (n : Int) : Int :=
 if (asksV i.op = false /\ reckV i.op = false) \/ (someV i.op = false /\ i.a ≠ 0) then 1
 else if i.op = 31 /\ 8 <= low16 i.a then 6
 else if (asksV i.op = true /\ i.op ≠ 37) /\ (whoX i < 0 \/ (p.as.length : Int) <= whoX i) then 7
 else if n < popsV i.op \/ 8 < n - popsV i.op + xputsV i.op then 5 else 0
theorem xinstr_end (p : Prg) (i : Ins) (n : Int) (h1 : -1000000 <= n /\ n <= 1000000) : IntKind.i64.wrap (n - popsV i.op) = n - popsV i.op /\ IntKind.i64.wrap (n - popsV i.op + xputsV i.op) = n - popsV i.op + xputsV i.op := by
 have a1 : 0 <= popsV i.op /\ popsV i.op <= 2 := by unfold popsV; split <;> (try split) <;> omega
 have a2 : 0 <= xputsV i.op /\ xputsV i.op <= 2 := by unfold xputsV putsV; split <;> (try split) <;> (try split) <;> omega
 exact ⟨wrap_in _ (by omega) (by omega), wrap_in _ (by omega) (by omega)⟩
theorem someV_asks {op : Int} (ha : asksV op = true) (h : op ≠ 37) : someV op = true := by
 unfold someV; rw [ha]; simp [h]
def tailV (i : Ins) (n : Int) : Int := if n < popsV i.op \/ 8 < n - popsV i.op + xputsV i.op then 5 else 0
theorem xinstr_A (p : Prg) (i : Ins) (n : Int) (hb : i.a <= 9223372036854775807) (hn : -1000000 <= n /\ n <= 1000000) (ha : asksV i.op = true) (h37 : i.op ≠ 37) : PC Tryz.prog 124 [p.av, i.av, iv n] (iv (xinstrV p i n)) := by
 have hs := someV_asks ha h37
 have d37 := decide_eq_false h37
 by_cases h31 : i.op = 31
 . have d31 := decide_eq_true h31
   by_cases hlo : 8 <= low16 i.a
   . have hv : xinstrV p i n = 6 := by unfold xinstrV; rw [if_neg (by simp [ha, hs]), if_pos ⟨h31, hlo⟩]
     unfold low16 at hlo
     obtain ⟨w1, w2⟩ := xinstr_end p i n hn
     refine pc_of_get xinstr_get (by simp) _ (by simp) _ ?_
     unfold xinstr_c
     rw [hv]
     simp [Prg.av]
     refine call (xwhose_pc i hb) (by simp) ?_
     simp
     refine call (xasks_pc i.op) (by simp) ?_
     rw [ha, d37]
     simp
     refine call (xsome_pc i.op) (by simp) ?_
     rw [hs]
     simp [d31, hlo]
   . unfold low16 at hlo
     by_cases hw0 : whoX i < 0
     . have hv : xinstrV p i n = 7 := by unfold xinstrV; rw [if_neg (by simp [ha, hs]), if_neg (fun q => hlo q.2), if_pos ⟨⟨ha, h37⟩, .inl hw0⟩]
       obtain ⟨w1, w2⟩ := xinstr_end p i n hn
       refine pc_of_get xinstr_get (by simp) _ (by simp) _ ?_
       unfold xinstr_c
       rw [hv]
       simp [Prg.av]
       refine call (xwhose_pc i hb) (by simp) ?_
       simp
       refine call (xasks_pc i.op) (by simp) ?_
       rw [ha, d37]
       simp
       refine call (xsome_pc i.op) (by simp) ?_
       rw [hs]
       simp [d31, hlo, hw0]
     . by_cases hw1 : (p.as.length : Int) <= whoX i
       . have hv : xinstrV p i n = 7 := by unfold xinstrV; rw [if_neg (by simp [ha, hs]), if_neg (fun q => hlo q.2), if_pos ⟨⟨ha, h37⟩, .inr hw1⟩]
         obtain ⟨w1, w2⟩ := xinstr_end p i n hn
         refine pc_of_get xinstr_get (by simp) _ (by simp) _ ?_
         unfold xinstr_c
         rw [hv]
         simp [Prg.av]
         refine call (xwhose_pc i hb) (by simp) ?_
         simp
         refine call (xasks_pc i.op) (by simp) ?_
         rw [ha, d37]
         simp
         refine call (xsome_pc i.op) (by simp) ?_
         rw [hs]
         simp [d31, hlo, hw0, hw1]
       . have hv : xinstrV p i n = tailV i n := by unfold xinstrV; rw [if_neg (by simp [ha, hs]), if_neg (fun q => hlo q.2), if_neg (fun q => q.2.elim hw0 hw1)]; rfl
         obtain ⟨w1, w2⟩ := xinstr_end p i n hn
         refine pc_of_get xinstr_get (by simp) _ (by simp) _ ?_
         unfold xinstr_c
         rw [hv]
         simp [Prg.av]
         refine call (xwhose_pc i hb) (by simp) ?_
         simp
         refine call (xasks_pc i.op) (by simp) ?_
         rw [ha, d37]
         simp
         refine call (xsome_pc i.op) (by simp) ?_
         rw [hs]
         unfold tailV
         simp [d31, hlo, hw0, hw1]
         refine call (xtakes_pc i.op) (by simp) ?_
         by_cases hlt : n < popsV i.op
         . simp [hlt]
         . simp [hlt]
           refine calld (xtakes_pc i.op) (by simp) ?_
           simp [w1]
           refine calld (xputs_pc i.op) (by simp) ?_
           simp [w1, w2]
           by_cases h8 : 8 < n - popsV i.op + xputsV i.op
           . simp [h8]
           . simp [h8]
             omega
 . have d31 := decide_eq_false h31
   by_cases hw0 : whoX i < 0
   . have hv : xinstrV p i n = 7 := by unfold xinstrV; rw [if_neg (by simp [ha, hs]), if_neg (fun q => h31 q.1), if_pos ⟨⟨ha, h37⟩, .inl hw0⟩]
     obtain ⟨w1, w2⟩ := xinstr_end p i n hn
     refine pc_of_get xinstr_get (by simp) _ (by simp) _ ?_
     unfold xinstr_c
     rw [hv]
     simp [Prg.av]
     refine call (xwhose_pc i hb) (by simp) ?_
     simp
     refine call (xasks_pc i.op) (by simp) ?_
     rw [ha, d37]
     simp
     refine call (xsome_pc i.op) (by simp) ?_
     rw [hs]
     simp [d31, hw0]
   . by_cases hw1 : (p.as.length : Int) <= whoX i
     . have hv : xinstrV p i n = 7 := by unfold xinstrV; rw [if_neg (by simp [ha, hs]), if_neg (fun q => h31 q.1), if_pos ⟨⟨ha, h37⟩, .inr hw1⟩]
       obtain ⟨w1, w2⟩ := xinstr_end p i n hn
       refine pc_of_get xinstr_get (by simp) _ (by simp) _ ?_
       unfold xinstr_c
       rw [hv]
       simp [Prg.av]
       refine call (xwhose_pc i hb) (by simp) ?_
       simp
       refine call (xasks_pc i.op) (by simp) ?_
       rw [ha, d37]
       simp
       refine call (xsome_pc i.op) (by simp) ?_
       rw [hs]
       simp [d31, hw0, hw1]
     . have hv : xinstrV p i n = tailV i n := by unfold xinstrV; rw [if_neg (by simp [ha, hs]), if_neg (fun q => h31 q.1), if_neg (fun q => q.2.elim hw0 hw1)]; rfl
       obtain ⟨w1, w2⟩ := xinstr_end p i n hn
       refine pc_of_get xinstr_get (by simp) _ (by simp) _ ?_
       unfold xinstr_c
       rw [hv]
       simp [Prg.av]
       refine call (xwhose_pc i hb) (by simp) ?_
       simp
       refine call (xasks_pc i.op) (by simp) ?_
       rw [ha, d37]
       simp
       refine call (xsome_pc i.op) (by simp) ?_
       rw [hs]
       unfold tailV
       simp [d31, hw0, hw1]
       refine call (xtakes_pc i.op) (by simp) ?_
       by_cases hlt : n < popsV i.op
       . simp [hlt]
       . simp [hlt]
         refine calld (xtakes_pc i.op) (by simp) ?_
         simp [w1]
         refine calld (xputs_pc i.op) (by simp) ?_
         simp [w1, w2]
         by_cases h8 : 8 < n - popsV i.op + xputsV i.op
         . simp [h8]
         . simp [h8]
           omega
theorem xinstr_37 (p : Prg) (i : Ins) (n : Int) (hb : i.a <= 9223372036854775807) (hn : -1000000 <= n /\ n <= 1000000) (h37 : i.op = 37) : PC Tryz.prog 124 [p.av, i.av, iv n] (iv (xinstrV p i n)) := by
 have ha : asksV i.op = true := by rw [h37]; rfl
 have hs : someV i.op = false := by rw [h37]; rfl
 have d37 := decide_eq_true h37
 have d31 : decide (i.op = 31) = false := decide_eq_false (by omega)
 by_cases h0 : i.a = 0
 . have hv : xinstrV p i n = tailV i n := by unfold xinstrV; rw [if_neg (by simp [ha, h0]), if_neg (fun q => by omega), if_neg (fun q => q.1.2 h37)]; rfl
   obtain ⟨w1, w2⟩ := xinstr_end p i n hn
   refine pc_of_get xinstr_get (by simp) _ (by simp) _ ?_
   unfold xinstr_c
   rw [hv]
   simp [Prg.av]
   refine call (xwhose_pc i hb) (by simp) ?_
   simp
   refine call (xasks_pc i.op) (by simp) ?_
   rw [ha, d37]
   simp
   refine call (xsome_pc i.op) (by simp) ?_
   rw [hs]
   unfold tailV
   simp [h0, d31]
   refine call (xtakes_pc i.op) (by simp) ?_
   by_cases hlt : n < popsV i.op
   . simp [hlt]
   . simp [hlt]
     refine calld (xtakes_pc i.op) (by simp) ?_
     simp [w1]
     refine calld (xputs_pc i.op) (by simp) ?_
     simp [w1, w2]
     by_cases h8 : 8 < n - popsV i.op + xputsV i.op
     . simp [h8]
     . simp [h8]
       omega
 . have hv : xinstrV p i n = 1 := by unfold xinstrV; rw [if_pos (.inr ⟨hs, h0⟩)]
   obtain ⟨w1, w2⟩ := xinstr_end p i n hn
   refine pc_of_get xinstr_get (by simp) _ (by simp) _ ?_
   unfold xinstr_c
   rw [hv]
   simp [Prg.av]
   refine call (xwhose_pc i hb) (by simp) ?_
   simp
   refine call (xasks_pc i.op) (by simp) ?_
   rw [ha, d37]
   simp
   refine call (xsome_pc i.op) (by simp) ?_
   rw [hs]
   simp [h0]
theorem xinstr_B (p : Prg) (i : Ins) (n : Int) (hb : i.a <= 9223372036854775807) (hn : -1000000 <= n /\ n <= 1000000) (ha : asksV i.op = false) : PC Tryz.prog 124 [p.av, i.av, iv n] (iv (xinstrV p i n)) := by
 have d31 : decide (i.op = 31) = false := decide_eq_false (fun q => by rw [q] at ha; cases ha)
 cases hr : reckV i.op with
 | false =>
   have hv : xinstrV p i n = 1 := by unfold xinstrV; rw [if_pos (.inl ⟨ha, hr⟩)]
   obtain ⟨w1, w2⟩ := xinstr_end p i n hn
   refine pc_of_get xinstr_get (by simp) _ (by simp) _ ?_
   unfold xinstr_c
   rw [hv]
   simp [Prg.av]
   refine call (xwhose_pc i hb) (by simp) ?_
   simp
   refine call (xasks_pc i.op) (by simp) ?_
   rw [ha]
   simp
   refine call (xreck_pc i.op) (by simp) ?_
   rw [hr]
   simp
 | true =>
   by_cases h0 : someV i.op = false /\ i.a ≠ 0
   . have hv : xinstrV p i n = 1 := by unfold xinstrV; rw [if_pos (.inr h0)]
     obtain ⟨w1, w2⟩ := xinstr_end p i n hn
     refine pc_of_get xinstr_get (by simp) _ (by simp) _ ?_
     unfold xinstr_c
     rw [hv]
     simp [Prg.av]
     refine call (xwhose_pc i hb) (by simp) ?_
     simp
     refine call (xasks_pc i.op) (by simp) ?_
     rw [ha]
     simp
     refine call (xreck_pc i.op) (by simp) ?_
     rw [hr]
     simp
     refine call (xsome_pc i.op) (by simp) ?_
     rw [h0.1]
     simp [h0.2]
   . have hv : xinstrV p i n = tailV i n := by
       unfold xinstrV
       rw [if_neg (by rintro (q | q)
                      . rw [hr] at q; cases q.2
                      . exact h0 q), if_neg (fun q => by rw [q.1] at ha; cases ha), if_neg (fun q => by rw [ha] at q; cases q.1.1)]
       rfl
     obtain ⟨w1, w2⟩ := xinstr_end p i n hn
     refine pc_of_get xinstr_get (by simp) _ (by simp) _ ?_
     unfold xinstr_c
     rw [hv]
     simp [Prg.av]
     refine call (xwhose_pc i hb) (by simp) ?_
     simp
     refine call (xasks_pc i.op) (by simp) ?_
     rw [ha]
     simp
     refine call (xreck_pc i.op) (by simp) ?_
     rw [hr]
     simp
     refine call (xsome_pc i.op) (by simp) ?_
     unfold tailV
     cases hs : someV i.op with
     | true =>
       simp [d31]
       refine call (xtakes_pc i.op) (by simp) ?_
       by_cases hlt : n < popsV i.op
       . simp [hlt]
       . simp [hlt]
         refine calld (xtakes_pc i.op) (by simp) ?_
         simp [w1]
         refine calld (xputs_pc i.op) (by simp) ?_
         simp [w1, w2]
         by_cases h8 : 8 < n - popsV i.op + xputsV i.op
         . simp [h8]
         . simp [h8]
           omega
     | false =>
       have h1 : i.a = 0 := Classical.byContradiction fun q => h0 ⟨hs, q⟩
       simp [d31, h1]
       refine call (xtakes_pc i.op) (by simp) ?_
       by_cases hlt : n < popsV i.op
       . simp [hlt]
       . simp [hlt]
         refine calld (xtakes_pc i.op) (by simp) ?_
         simp [w1]
         refine calld (xputs_pc i.op) (by simp) ?_
         simp [w1, w2]
         by_cases h8 : 8 < n - popsV i.op + xputsV i.op
         . simp [h8]
         . simp [h8]
           omega
theorem xinstr_pc (p : Prg) (i : Ins) (n : Int) (hb : i.a <= 9223372036854775807) (hn : -1000000 <= n /\ n <= 1000000) : PC Tryz.prog 124 [p.av, i.av, iv n] (iv (xinstrV p i n)) := by
 cases ha : asksV i.op with
 | false => exact xinstr_B p i n hb hn ha
 | true =>
   by_cases h37 : i.op = 37
   . exact xinstr_37 p i n hb hn h37
   . exact xinstr_A p i n hb hn ha h37
def xwalkV (p : Prg) : Int -> List Ins -> Int
 | n, [] => if n ≠ 1 then 5 else 0
 | n, i :: l => if xinstrV p i n ≠ 0 then xinstrV p i n else xwalkV p (n + (xputsV i.op - popsV i.op)) l
def xcheckV (p : Prg) (x : List Ins) : Int := if flowV p ≠ 0 then flowV p else if 64 < x.length then 3 else xwalkV p 0 x
theorem xops_rng (op : Int) : (0 <= popsV op /\ popsV op <= 2) /\ 0 <= xputsV op /\ xputsV op <= 2 := by
 refine ⟨?_, ?_⟩
 . unfold popsV; split <;> (try split) <;> omega
 . unfold xputsV putsV; split <;> (try split) <;> (try split) <;> omega
theorem xcheck_pc (p : Prg) (x : List Ins) (hb : ∀ i ∈ x, i.a <= 9223372036854775807) : PC Tryz.prog 90 [p.av, .lst 2 (x.map Ins.av)] (iv (xcheckV p x)) := by
 have hfc := fcheck_pc p
 refine pc_of_get xcheck_get (by simp) _ (by simp) _ ?_
 unfold xcheck_c
 by_cases hf : flowV p = 0
 case neg =>
   have hv : xcheckV p x = flowV p := by unfold xcheckV; rw [if_pos hf]
   rw [hv]
   simp [Prg.av]
   refine call hfc (by simp [Prg.av]) ?_
   simp [hf]
 rw [hf] at hfc
 by_cases hl : (64 : Int) < x.length
 case pos =>
   have hv : xcheckV p x = 3 := by unfold xcheckV; rw [if_neg (by simp [hf]), if_pos (by omega)]
   rw [hv]
   simp [Prg.av]
   refine call hfc (by simp [Prg.av]) ?_
   simp [hl]
 have hv : xcheckV p x = xwalkV p 0 x := by unfold xcheckV; rw [if_neg (by simp [hf]), if_neg (by omega)]
 rw [hv]
 simp [Prg.av]
 refine call hfc (by simp [Prg.av]) ?_
 simp [hl]
 refine loopN (fun i S => ∃ n : Int, S.t 2 = .ptr 245002 0 4 0 0 /\ S.blk 245002 = some ⟨0, 4, [p.av]⟩ /\ S.t 18 = .lst 2 (x.map Ins.av) /\ S.t 19 = iv x.length /\ S.t 20 = iv i /\ S.t 6 = iv n /\ (-2 * (i : Int) <= n /\ n <= 2 * i) /\ xwalkV p 0 x = xwalkV p n (x.drop i)) x.length ?_ ?_
 . exact ⟨0, by simp, by simp [Prg.av], by simp, by simp, by simp, by simp, by omega, by simp⟩
 . rintro i S hi ⟨n, g2, b2, g18, g19, g20, g6, hn, hx⟩
   by_cases hlt : i < x.length
   . have ws := wrap_succ i _ hlt (by omega)
     rw [List.drop_eq_getElem_cons hlt] at hx
     rw [xwalkV] at hx
     simp [xcheck_l0, g2, b2, g18, g19, g20, g6, hlt]
     refine call (xinstr_pc p x[i] n (hb _ (List.getElem_mem hlt)) (by omega)) (by simp [Prg.av]) ?_
     obtain ⟨a1, a2⟩ := xops_rng x[i].op
     by_cases hz : xinstrV p x[i] n = 0
     . rw [if_neg (by simp [hz])] at hx
       have w1 : IntKind.i64.wrap (xputsV x[i].op - popsV x[i].op) = xputsV x[i].op - popsV x[i].op := wrap_in _ (by omega) (by omega)
       have w2 : IntKind.i64.wrap (n + (xputsV x[i].op - popsV x[i].op)) = n + (xputsV x[i].op - popsV x[i].op) := wrap_in _ (by omega) (by omega)
       simp [hz, g2, b2, g18, g19, g20, g6]
       refine calld (xputs_pc x[i].op) (by simp) ?_
       simp [g2, b2, g18, g19, g20, g6]
       refine calld (xtakes_pc x[i].op) (by simp) ?_
       simp [g2, b2, g18, g19, g20, g6, w1, w2, ws]
       exact ⟨by omega, hx⟩
     . rw [if_pos hz] at hx
       rw [hx]
       simp [hz]
   . have e1 : i = x.length := by omega
     subst e1
     rw [List.drop_length, xwalkV] at hx
     rw [hx]
     simp [xcheck_l0, g18, g19, g20, g6]
     by_cases hz : n = 1 <;> simp [hz]
def wfirst (p : Prg) : List (List Ins) -> Int
 | [] => 0
 | x :: l => if xcheckV p x ≠ 0 then xcheckV p x else wfirst p l
def wcheckV (p : Prg) (l : List (List Ins)) : Int := if 8 < l.length then 3 else if flowV p ≠ 0 then flowV p else wfirst p l
theorem wcheck_pc (p : Prg) (l : List (List Ins)) (hb : ∀ x ∈ l, ∀ i ∈ x, i.a <= 9223372036854775807) : PC Tryz.prog 55 [p.av, .lst 1 (l.map fun x => .lst 2 (x.map Ins.av))] (iv (wcheckV p l)) := by
 have hfc := fcheck_pc p
 refine pc_of_get wcheck_get (by simp) _ (by simp) _ ?_
 unfold wcheck_c
 by_cases hl : (8 : Int) < l.length
 case pos =>
   have hv : wcheckV p l = 3 := by unfold wcheckV; rw [if_pos (by omega)]
   rw [hv]
   simp [Prg.av, hl]
 by_cases hf : flowV p = 0
 case neg =>
   have hv : wcheckV p l = flowV p := by unfold wcheckV; rw [if_neg (by omega), if_pos hf]
   rw [hv]
   simp [Prg.av, hl]
   refine call hfc (by simp [Prg.av]) ?_
   simp [hf]
 rw [hf] at hfc
 have hv : wcheckV p l = wfirst p l := by unfold wcheckV; rw [if_neg (by omega), if_neg (by simp [hf])]
 rw [hv]
 simp [Prg.av, hl]
 refine call hfc (by simp [Prg.av]) ?_
 simp
 refine loopN (fun i S => S.t 2 = .ptr 246002 0 4 0 0 /\ S.blk 246002 = some ⟨0, 4, [p.av]⟩ /\ S.t 17 = .lst 1 (l.map fun x => .lst 2 (x.map Ins.av)) /\ S.t 18 = iv l.length /\ S.t 19 = iv i /\ wfirst p l = wfirst p (l.drop i)) l.length ?_ ?_
 . exact ⟨by simp, by simp [Prg.av], by simp, by simp, by simp, by simp⟩
 . rintro i S hi ⟨g2, b2, g17, g18, g19, hx⟩
   by_cases hlt : i < l.length
   . have ws := wrap_succ i _ hlt (by omega)
     rw [List.drop_eq_getElem_cons hlt, wfirst] at hx
     simp [wcheck_l0, g2, b2, g17, g18, g19, hlt]
     refine call (xcheck_pc p l[i] (hb _ (List.getElem_mem hlt))) (by simp [Prg.av]) ?_
     by_cases hz : xcheckV p l[i] = 0
     . rw [if_neg (by simp [hz])] at hx
       simp [hz, g2, b2, g17, g18, g19, ws]
       exact hx
     . rw [if_pos hz] at hx
       rw [hx]
       simp [hz]
   . have e1 : i = l.length := by omega
     subst e1
     rw [List.drop_length, wfirst] at hx
     rw [hx]
     simp [wcheck_l0, g17, g18, g19]
end Go.Gv
