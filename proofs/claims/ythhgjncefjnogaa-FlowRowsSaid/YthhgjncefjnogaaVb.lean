/- What prog.Check answers, and the parts of the document's answer. No condition. -/
import Derived.Test.YthhgjncefjnogaaProg
import Derived.Test.YthhgjncefjnogaaVa
set_option linter.unusedVariables false
set_option linter.unusedSimpArgs false
namespace Go.Gv
open Go.Proofs

def check_r0 : List AI := [⟨(some 1), none, (.op (.box 21001 4 (.t 0)))⟩, ⟨(some 2), none, (.op (.mv (.c (.int .i64 0))))⟩]
def check_r1 : List AI := [⟨(some 6), none, (.op (.fld 0 (.t 1)))⟩, ⟨(some 7), none, (.op (.load none (.t 6)))⟩, ⟨(some 8), none, (.op (.len (.t 7)))⟩, ⟨(some 9), none, (.op (.ibin .gtr (.t 8) (.c (.int .i64 16))))⟩, ⟨(some 5), none, (.op (.mv (.t 9)))⟩]
def check_r2 : List AI := [⟨(some 10), none, (.op (.fld 1 (.t 1)))⟩, ⟨(some 11), none, (.op (.load none (.t 10)))⟩, ⟨(some 12), none, (.op (.len (.t 11)))⟩, ⟨(some 13), none, (.op (.ibin .gtr (.t 12) (.c (.int .i64 8))))⟩, ⟨(some 5), none, (.op (.mv (.t 13)))⟩]
def check_r3 : List AI := [⟨(some 14), none, (.op (.fld 2 (.t 1)))⟩, ⟨(some 15), none, (.op (.load none (.t 14)))⟩, ⟨(some 16), none, (.op (.len (.t 15)))⟩, ⟨(some 17), none, (.op (.ibin .gtr (.t 16) (.c (.int .i64 16))))⟩, ⟨(some 5), none, (.op (.mv (.t 17)))⟩]
def check_r4 : List AI := [⟨(some 2), none, (.op (.mv (.c (.int .i64 3))))⟩]
def check_r5 : List AI := [⟨(some 19), none, (.op (.fld 1 (.t 1)))⟩, ⟨(some 20), none, (.op (.load none (.t 19)))⟩, ⟨(some 21), none, (.op (.len (.t 20)))⟩, ⟨(some 22), none, (.op (.ibin .eql (.t 21) (.c (.int .i64 0))))⟩, ⟨(some 18), none, (.op (.mv (.t 22)))⟩]
def check_r6 : List AI := [⟨(some 23), none, (.op (.fld 3 (.t 1)))⟩, ⟨(some 24), none, (.op (.load none (.t 23)))⟩, ⟨(some 25), none, (.op (.ibin .lss (.t 24) (.c (.int .i64 1))))⟩, ⟨(some 18), none, (.op (.mv (.t 25)))⟩]
def check_r7 : List AI := [⟨(some 26), none, (.op (.fld 3 (.t 1)))⟩, ⟨(some 27), none, (.op (.load none (.t 26)))⟩, ⟨(some 28), none, (.op (.ibin .gtr (.t 27) (.c (.int .i64 256))))⟩, ⟨(some 18), none, (.op (.mv (.t 28)))⟩]
def check_r8 : List AI := [⟨(some 2), none, (.op (.mv (.c (.int .i64 1))))⟩]
def check_r9 : List AI := [⟨(some 29), none, (.op (.load (some 4) (.t 1)))⟩, ⟨(some 30), none, (.op (.fld 0 (.t 1)))⟩, ⟨(some 31), none, (.op (.load none (.t 30)))⟩, ⟨(some 32), none, (.call (.c (.fn 73 [])) [(.t 29), (.t 31), (.c (.fn 74 []))])⟩, ⟨(some 3), none, (.op (.mv (.t 32)))⟩]
def check_r10 : List AI := [⟨(some 33), none, (.op (.mv (.t 3)))⟩, ⟨(some 34), none, (.op (.ibin .neq (.t 33) (.c (.int .i64 0))))⟩]
def check_r11 : List AI := [⟨(some 35), none, (.op (.mv (.t 3)))⟩, ⟨(some 2), none, (.op (.mv (.t 35)))⟩]
def check_r12 : List AI := [⟨(some 36), none, (.op (.load (some 4) (.t 1)))⟩, ⟨(some 37), none, (.op (.fld 1 (.t 1)))⟩, ⟨(some 38), none, (.op (.load none (.t 37)))⟩, ⟨(some 39), none, (.call (.c (.fn 75 [])) [(.t 36), (.t 38), (.c (.fn 76 []))])⟩, ⟨(some 4), none, (.op (.mv (.t 39)))⟩]
def check_r13 : List AI := [⟨(some 40), none, (.op (.mv (.t 4)))⟩, ⟨(some 41), none, (.op (.ibin .neq (.t 40) (.c (.int .i64 0))))⟩]
def check_r14 : List AI := [⟨(some 42), none, (.op (.mv (.t 4)))⟩, ⟨(some 2), none, (.op (.mv (.t 42)))⟩]
def check_r15 : List AI := [⟨(some 43), none, (.op (.load (some 4) (.t 1)))⟩, ⟨(some 44), none, (.op (.fld 2 (.t 1)))⟩, ⟨(some 45), none, (.op (.load none (.t 44)))⟩, ⟨(some 46), none, (.call (.c (.fn 77 [])) [(.t 43), (.t 45), (.c (.fn 78 []))])⟩, ⟨(some 2), none, (.op (.mv (.t 46)))⟩]
def check_c : AC := (.seq (.reg check_r0) (.seq (.block 0 (.seq (.seq (.reg check_r1) (.cond (.t 5) .skip (.seq (.reg check_r2) (.cond (.t 5) .skip (.reg check_r3))))) (.cond (.t 5) (.seq (.reg check_r4) .ret) (.seq (.seq (.reg check_r5) (.cond (.t 18) .skip (.seq (.reg check_r6) (.cond (.t 18) .skip (.reg check_r7))))) (.cond (.t 18) (.seq (.reg check_r8) .ret) .skip))))) (.seq (.seq (.reg check_r9) (.seq (.reg check_r10) (.cond (.t 34) (.seq (.reg check_r11) .ret) .skip))) (.seq (.seq (.reg check_r12) (.seq (.reg check_r13) (.cond (.t 41) (.seq (.reg check_r14) .ret) .skip))) (.seq (.reg check_r15) .ret)))))
def check_res : List ARes := [(.tmp 2)]
set_option maxRecDepth 100000 in
theorem check_get : getF Try.prog 31 21000 [] = some ("gavotte/prog.Check", 47, check_c, check_res) := by kernel_rfl
def rvalid_r0 : List AI := [⟨(some 2), none, (.op (.mv (.c (.bool false))))⟩]
def rvalid_r1 : List AI := [⟨(some 3), none, (.op (.mv (.t 0)))⟩, ⟨(some 4), none, (.op (.ibin .geq (.t 3) (.c (.int .i64 1))))⟩, ⟨(some 5), none, (.op (.mv (.t 4)))⟩, ⟨(some 6), (some (5, true)), (.op (.mv (.t 0)))⟩, ⟨(some 7), (some (5, true)), (.op (.ibin .leq (.t 6) (.c (.int .i64 25))))⟩, ⟨(some 8), none, (.op (.pick (.t 5) (.t 7) (.c (.bool false))))⟩, ⟨(some 2), none, (.op (.mv (.t 8)))⟩]
def rvalid_c : AC := (.seq (.reg rvalid_r0) (.seq (.reg rvalid_r1) .ret))
def rvalid_res : List ARes := [(.tmp 2)]
set_option maxRecDepth 100000 in
theorem rvalid_get : getF Try.prog 96 54000 [] = some ("gavotte/gavotteref1.Valid", 9, rvalid_c, rvalid_res) := by kernel_rfl
def roperand_r0 : List AI := [⟨(some 2), none, (.op (.mv (.c (.int .i64 0))))⟩]
def roperand_r1 : List AI := [⟨(some 3), none, (.op (.mv (.t 0)))⟩]
def roperand_r2 : List AI := [⟨(some 5), none, (.op (.ibin .eql (.t 3) (.c (.int .i64 1))))⟩, ⟨(some 4), none, (.op (.mv (.t 5)))⟩]
def roperand_r3 : List AI := [⟨(some 2), none, (.op (.mv (.c (.int .i64 1))))⟩]
def roperand_r4 : List AI := [⟨(some 7), none, (.op (.ibin .eql (.t 3) (.c (.int .i64 5))))⟩, ⟨(some 6), none, (.op (.mv (.t 7)))⟩]
def roperand_r5 : List AI := [⟨(some 8), none, (.op (.ibin .eql (.t 3) (.c (.int .i64 6))))⟩, ⟨(some 6), none, (.op (.mv (.t 8)))⟩]
def roperand_r6 : List AI := [⟨(some 2), none, (.op (.mv (.c (.int .i64 2))))⟩]
def roperand_r7 : List AI := [⟨(some 10), none, (.op (.ibin .eql (.t 3) (.c (.int .i64 7))))⟩, ⟨(some 9), none, (.op (.mv (.t 10)))⟩]
def roperand_r8 : List AI := [⟨(some 2), none, (.op (.mv (.c (.int .i64 3))))⟩]
def roperand_r9 : List AI := [⟨(some 12), none, (.op (.ibin .eql (.t 3) (.c (.int .i64 20))))⟩, ⟨(some 11), none, (.op (.mv (.t 12)))⟩]
def roperand_r10 : List AI := [⟨(some 13), none, (.op (.ibin .eql (.t 3) (.c (.int .i64 21))))⟩, ⟨(some 11), none, (.op (.mv (.t 13)))⟩]
def roperand_r11 : List AI := [⟨(some 2), none, (.op (.mv (.c (.int .i64 4))))⟩]
def roperand_r12 : List AI := [⟨(some 15), none, (.op (.ibin .eql (.t 3) (.c (.int .i64 22))))⟩, ⟨(some 14), none, (.op (.mv (.t 15)))⟩]
def roperand_r13 : List AI := [⟨(some 2), none, (.op (.mv (.c (.int .i64 5))))⟩]
def roperand_r14 : List AI := [⟨(some 2), none, (.op (.mv (.c (.int .i64 0))))⟩]
def roperand_c : AC := (.seq (.reg roperand_r0) (.seq (.seq (.reg roperand_r1) (.block 0 (.seq (.reg roperand_r2) (.cond (.t 4) (.seq (.reg roperand_r3) .ret) (.seq (.seq (.reg roperand_r4) (.cond (.t 6) .skip (.reg roperand_r5))) (.cond (.t 6) (.seq (.reg roperand_r6) .ret) (.seq (.reg roperand_r7) (.cond (.t 9) (.seq (.reg roperand_r8) .ret) (.seq (.seq (.reg roperand_r9) (.cond (.t 11) .skip (.reg roperand_r10))) (.cond (.t 11) (.seq (.reg roperand_r11) .ret) (.seq (.reg roperand_r12) (.cond (.t 14) (.seq (.reg roperand_r13) .ret) .skip)))))))))))) (.seq (.reg roperand_r14) .ret)))
def roperand_res : List ARes := [(.tmp 2)]
set_option maxRecDepth 100000 in
theorem roperand_get : getF Try.prog 97 55000 [] = some ("gavotte/gavotteref1.Operand", 16, roperand_c, roperand_res) := by kernel_rfl
def rinstr_r0 : List AI := [⟨(some 4), none, (.op (.box 39004 2 (.t 0)))⟩, ⟨(some 8), none, (.op (.mv (.c (.int .i64 0))))⟩]
def rinstr_r1 : List AI := [⟨(some 9), none, (.op (.fld 0 (.t 4)))⟩, ⟨(some 10), none, (.op (.load none (.t 9)))⟩, ⟨(some 11), none, (.call (.c (.fn 96 [])) [(.t 10)])⟩, ⟨(some 12), none, (.op (.not (.t 11)))⟩]
def rinstr_r2 : List AI := [⟨(some 8), none, (.op (.mv (.c (.int .i64 1))))⟩]
def rinstr_r3 : List AI := [⟨(some 13), none, (.op (.fld 0 (.t 4)))⟩, ⟨(some 14), none, (.op (.load none (.t 13)))⟩, ⟨(some 15), none, (.call (.c (.fn 97 [])) [(.t 14)])⟩]
def rinstr_r4 : List AI := [⟨(some 17), none, (.op (.ibin .eql (.t 15) (.c (.int .i64 0))))⟩, ⟨(some 16), none, (.op (.mv (.t 17)))⟩]
def rinstr_r5 : List AI := [⟨(some 18), none, (.op (.fld 1 (.t 4)))⟩, ⟨(some 19), none, (.op (.load none (.t 18)))⟩, ⟨(some 20), none, (.op (.ibin .neq (.t 19) (.c (.int .i64 0))))⟩]
def rinstr_r6 : List AI := [⟨(some 8), none, (.op (.mv (.c (.int .i64 1))))⟩]
def rinstr_r7 : List AI := [⟨(some 22), none, (.op (.ibin .eql (.t 15) (.c (.int .i64 4))))⟩, ⟨(some 21), none, (.op (.mv (.t 22)))⟩]
def rinstr_r8 : List AI := [⟨(some 23), none, (.op (.fld 1 (.t 4)))⟩, ⟨(some 24), none, (.op (.load none (.t 23)))⟩, ⟨(some 25), none, (.op (.ibin .lss (.t 24) (.c (.int .i64 0))))⟩, ⟨(some 26), none, (.op (.mv (.t 25)))⟩, ⟨(some 27), (some (26, false)), (.op (.fld 1 (.t 4)))⟩, ⟨(some 28), (some (26, false)), (.op (.load none (.t 27)))⟩, ⟨(some 29), (some (26, false)), (.op (.mv (.t 1)))⟩, ⟨(some 30), (some (26, false)), (.op (.ibin .gtr (.t 28) (.t 29)))⟩, ⟨(some 31), none, (.op (.pick (.t 26) (.c (.bool true)) (.t 30)))⟩]
def rinstr_r9 : List AI := [⟨(some 8), none, (.op (.mv (.c (.int .i64 4))))⟩]
def rinstr_r10 : List AI := [⟨(some 33), none, (.op (.ibin .eql (.t 15) (.c (.int .i64 2))))⟩, ⟨(some 32), none, (.op (.mv (.t 33)))⟩]
def rinstr_r11 : List AI := [⟨(some 34), none, (.op (.fld 1 (.t 4)))⟩, ⟨(some 35), none, (.op (.load none (.t 34)))⟩, ⟨(some 36), none, (.op (.ibin .lss (.t 35) (.c (.int .i64 0))))⟩, ⟨(some 37), none, (.op (.mv (.t 36)))⟩, ⟨(some 38), (some (37, false)), (.op (.fld 1 (.t 4)))⟩, ⟨(some 39), (some (37, false)), (.op (.load none (.t 38)))⟩, ⟨(some 40), (some (37, false)), (.op (.ibin .geq (.t 39) (.c (.int .i64 8))))⟩, ⟨(some 41), none, (.op (.pick (.t 37) (.c (.bool true)) (.t 40)))⟩]
def rinstr_r12 : List AI := [⟨(some 8), none, (.op (.mv (.c (.int .i64 6))))⟩]
def rinstr_r13 : List AI := [⟨(some 43), none, (.op (.ibin .eql (.t 15) (.c (.int .i64 3))))⟩, ⟨(some 42), none, (.op (.mv (.t 43)))⟩]
def rinstr_r14 : List AI := [⟨(some 44), none, (.op (.fld 1 (.t 4)))⟩, ⟨(some 45), none, (.op (.load none (.t 44)))⟩, ⟨(some 46), none, (.op (.ibin .lss (.t 45) (.c (.int .i64 0))))⟩, ⟨(some 47), none, (.op (.mv (.t 46)))⟩, ⟨(some 48), (some (47, false)), (.op (.fld 1 (.t 4)))⟩, ⟨(some 49), (some (47, false)), (.op (.load none (.t 48)))⟩, ⟨(some 50), (some (47, false)), (.op (.mv (.t 2)))⟩, ⟨(some 51), (some (47, false)), (.op (.ibin .geq (.t 49) (.t 50)))⟩, ⟨(some 52), none, (.op (.pick (.t 47) (.c (.bool true)) (.t 51)))⟩]
def rinstr_r15 : List AI := [⟨(some 8), none, (.op (.mv (.c (.int .i64 6))))⟩]
def rinstr_r16 : List AI := [⟨(some 54), none, (.op (.ibin .eql (.t 15) (.c (.int .i64 5))))⟩, ⟨(some 53), none, (.op (.mv (.t 54)))⟩]
def rinstr_r17 : List AI := [⟨(some 55), none, (.op (.fld 1 (.t 4)))⟩, ⟨(some 56), none, (.op (.load none (.t 55)))⟩, ⟨(some 57), none, (.op (.ibin .lss (.t 56) (.c (.int .i64 0))))⟩, ⟨(some 58), none, (.op (.mv (.t 57)))⟩, ⟨(some 59), (some (58, false)), (.op (.fld 1 (.t 4)))⟩, ⟨(some 60), (some (58, false)), (.op (.load none (.t 59)))⟩, ⟨(some 61), (some (58, false)), (.op (.mv (.t 3)))⟩, ⟨(some 62), (some (58, false)), (.op (.ibin .geq (.t 60) (.t 61)))⟩, ⟨(some 63), none, (.op (.pick (.t 58) (.c (.bool true)) (.t 62)))⟩]
def rinstr_r18 : List AI := [⟨(some 8), none, (.op (.mv (.c (.int .i64 7))))⟩]
def rinstr_r19 : List AI := [⟨(some 8), none, (.op (.mv (.c (.int .i64 0))))⟩]
def rinstr_c : AC := (.seq (.reg rinstr_r0) (.seq (.seq (.reg rinstr_r1) (.cond (.t 12) (.seq (.reg rinstr_r2) .ret) .skip)) (.seq (.seq (.reg rinstr_r3) (.block 0 (.seq (.reg rinstr_r4) (.cond (.t 16) (.seq (.reg rinstr_r5) (.cond (.t 20) (.seq (.reg rinstr_r6) .ret) .skip)) (.seq (.reg rinstr_r7) (.cond (.t 21) (.seq (.reg rinstr_r8) (.cond (.t 31) (.seq (.reg rinstr_r9) .ret) .skip)) (.seq (.reg rinstr_r10) (.cond (.t 32) (.seq (.reg rinstr_r11) (.cond (.t 41) (.seq (.reg rinstr_r12) .ret) .skip)) (.seq (.reg rinstr_r13) (.cond (.t 42) (.seq (.reg rinstr_r14) (.cond (.t 52) (.seq (.reg rinstr_r15) .ret) .skip)) (.seq (.reg rinstr_r16) (.cond (.t 53) (.seq (.reg rinstr_r17) (.cond (.t 63) (.seq (.reg rinstr_r18) .ret) .skip)) .skip)))))))))))) (.seq (.reg rinstr_r19) .ret))))
def rinstr_res : List ARes := [(.tmp 8)]
set_option maxRecDepth 100000 in
theorem rinstr_get : getF Try.prog 80 39000 [] = some ("gavotte/gavotteref1.CheckInstr", 64, rinstr_c, rinstr_res) := by kernel_rfl
def rnote_r0 : List AI := [⟨(some 2), none, (.op (.box 40002 4 (.t 0)))⟩, ⟨(some 3), none, (.op (.box 40003 3 (.t 1)))⟩, ⟨(some 4), none, (.op (.mv (.c (.int .i64 0))))⟩]
def rnote_r1 : List AI := [⟨(some 6), none, (.op (.fld 0 (.t 3)))⟩, ⟨(some 7), none, (.op (.load none (.t 6)))⟩, ⟨(some 8), none, (.op (.ibin .lss (.t 7) (.c (.int .i64 0))))⟩, ⟨(some 9), none, (.op (.mv (.t 8)))⟩, ⟨(some 10), (some (9, false)), (.op (.fld 0 (.t 3)))⟩, ⟨(some 11), (some (9, false)), (.op (.load none (.t 10)))⟩, ⟨(some 12), (some (9, false)), (.op (.fld 1 (.t 2)))⟩, ⟨(some 13), (some (9, false)), (.op (.load none (.t 12)))⟩, ⟨(some 14), (some (9, false)), (.op (.len (.t 13)))⟩, ⟨(some 15), (some (9, false)), (.op (.ibin .geq (.t 11) (.t 14)))⟩, ⟨(some 16), none, (.op (.pick (.t 9) (.c (.bool true)) (.t 15)))⟩, ⟨(some 17), none, (.op (.mv (.t 16)))⟩, ⟨(some 18), (some (17, false)), (.op (.fld 1 (.t 3)))⟩, ⟨(some 19), (some (17, false)), (.op (.load none (.t 18)))⟩, ⟨(some 20), (some (17, false)), (.op (.ibin .lss (.t 19) (.c (.int .i64 0))))⟩, ⟨(some 21), none, (.op (.pick (.t 17) (.c (.bool true)) (.t 20)))⟩, ⟨(some 22), none, (.op (.mv (.t 21)))⟩, ⟨(some 23), (some (22, false)), (.op (.fld 1 (.t 3)))⟩, ⟨(some 24), (some (22, false)), (.op (.load none (.t 23)))⟩, ⟨(some 25), (some (22, false)), (.op (.fld 0 (.t 2)))⟩, ⟨(some 26), (some (22, false)), (.op (.load none (.t 25)))⟩, ⟨(some 27), (some (22, false)), (.op (.len (.t 26)))⟩, ⟨(some 28), (some (22, false)), (.op (.ibin .geq (.t 24) (.t 27)))⟩, ⟨(some 29), none, (.op (.pick (.t 22) (.c (.bool true)) (.t 28)))⟩, ⟨(some 5), none, (.op (.mv (.t 29)))⟩]
def rnote_r2 : List AI := [⟨(some 4), none, (.op (.mv (.c (.int .i64 7))))⟩]
def rnote_r3 : List AI := [⟨(some 31), none, (.op (.fld 2 (.t 3)))⟩, ⟨(some 32), none, (.op (.load none (.t 31)))⟩, ⟨(some 33), none, (.op (.len (.t 32)))⟩, ⟨(some 34), none, (.op (.fld 0 (.t 2)))⟩, ⟨(some 35), none, (.op (.load none (.t 34)))⟩, ⟨(some 36), none, (.op (.fld 1 (.t 3)))⟩, ⟨(some 37), none, (.op (.load none (.t 36)))⟩, ⟨(some 38), none, (.op (.idx 2 (.t 35) (.t 37)))⟩, ⟨(some 39), none, (.op (.fld 0 (.t 38)))⟩, ⟨(some 40), none, (.op (.load none (.t 39)))⟩, ⟨(some 41), none, (.op (.ibin .neq (.t 33) (.t 40)))⟩, ⟨(some 30), none, (.op (.mv (.t 41)))⟩]
def rnote_p3 : List (List Nat) := [[], [0], [1, 0], [], [3], [], [5], [4, 6, 3, 5], [7, 4, 6, 3, 5], [8, 7, 4, 6, 3, 5], [2, 9, 1, 0, 8, 7, 4, 6, 3, 5], [10, 2, 9, 1, 0, 8, 7, 4, 6, 3, 5]]
def rnote_r4 : List AI := [⟨(some 4), none, (.op (.mv (.c (.int .i64 1))))⟩]
def rnote_r5 : List AI := [⟨(some 4), none, (.op (.mv (.c (.int .i64 0))))⟩]
def rnote_c : AC := (.seq (.reg rnote_r0) (.seq (.block 0 (.seq (.reg rnote_r1) (.cond (.t 5) (.seq (.reg rnote_r2) .ret) (.seq (.regd rnote_r3 rnote_p3) (.cond (.t 30) (.seq (.reg rnote_r4) .ret) .skip))))) (.seq (.reg rnote_r5) .ret)))
def rnote_res : List ARes := [(.tmp 4)]
set_option maxRecDepth 100000 in
theorem rnote_get : getF Try.prog 81 40000 [] = some ("gavotte/gavotteref1.CheckNote", 42, rnote_c, rnote_res) := by kernel_rfl
attribute [simp] check_r0 check_r1 check_r2 check_r3 check_r4 check_r5 check_r6 check_r7 check_r8 check_r9 check_r10 check_r11 check_r12 check_r13 check_r14 check_r15 check_res rvalid_r0 rvalid_r1 rvalid_res roperand_r0 roperand_r1 roperand_r2 roperand_r3 roperand_r4 roperand_r5 roperand_r6 roperand_r7 roperand_r8 roperand_r9 roperand_r10 roperand_r11 roperand_r12 roperand_r13 roperand_r14 roperand_res rinstr_r0 rinstr_r1 rinstr_r2 rinstr_r3 rinstr_r4 rinstr_r5 rinstr_r6 rinstr_r7 rinstr_r8 rinstr_r9 rinstr_r10 rinstr_r11 rinstr_r12 rinstr_r13 rinstr_r14 rinstr_r15 rinstr_r16 rinstr_r17 rinstr_r18 rinstr_r19 rinstr_res rnote_r0 rnote_r1 rnote_r2 rnote_r3 rnote_p3 rnote_r4 rnote_r5 rnote_res

theorem check_pc (p : Prg) : PC Try.prog 31 [p.av] (iv (checkV p)) := by
  refine pc_of_get check_get (by simp) _ (by simp) _ ?_
  unfold check_c
  simp
  refine split (fun h1 => ?_) (fun h1 => ?_) <;> simp [h1]
  · grind [checkV]
  refine split (fun h2 => ?_) (fun h2 => ?_) <;> simp [h2]
  · grind [checkV]
  refine split (fun h3 => ?_) (fun h3 => ?_) <;> simp [h3]
  · grind [checkV]
  refine split (fun h4 => ?_) (fun h4 => ?_) <;> simp [h4]
  · grind [checkV]
  refine split (fun h5 => ?_) (fun h5 => ?_) <;> simp [h5]
  · grind [checkV]
  refine split (fun h6 => ?_) (fun h6 => ?_) <;> simp [h6]
  · grind [checkV]
  refine call (eachH_pc p p.hs 74 (handlerV p.hs.length) (fun h _ => handler_pc p h) (by omega)) (by simp) ?_
  simp
  refine split (fun h7 => ?_) (fun h7 => ?_) <;> simp [h7]
  rotate_left
  · grind [checkV]
  refine call (eachA_pc p p.as 76 (actorV p.hs) (fun h _ => actor_pc p h) (by omega)) (by simp) ?_
  simp
  refine split (fun h8 => ?_) (fun h8 => ?_) <;> simp [h8]
  rotate_left
  · grind [checkV]
  refine call (eachN_pc p p.boot 78 (noteV p.hs p.as.length) (fun h _ => note_pc p h) (by omega)) (by simp) ?_
  simp
  grind [checkV]
theorem rvalid_pc (n : Int) : PC Try.prog 96 [iv n] (.bool (decide (1 ≤ n) && decide (n ≤ 25))) := by
  refine pc_of_get rvalid_get (by simp) _ (by simp) _ ?_
  unfold rvalid_c
  simp
  repeat' (refine split (fun hc => ?_) (fun hc => ?_) <;> simp [*])
theorem roperand_pc (n : Int) : PC Try.prog 97 [iv n] (iv (operandV n)) := by
  refine pc_of_get roperand_get (by simp) _ (by simp) _ ?_
  unfold roperand_c
  simp
  repeat' (refine split (fun hc => ?_) (fun hc => ?_) <;> simp [*])
  all_goals grind [operandV]
theorem rinstr_pc (i : Ins) (n a k : Int) : PC Try.prog 80 [i.av, iv n, iv a, iv k] (iv (instrV k a n i)) := by
  refine pc_of_get rinstr_get (by simp) _ (by simp) _ ?_
  unfold rinstr_c
  simp
  refine call (rvalid_pc i.op) (by simp) ?_
  simp
  by_cases h1 : 1 ≤ i.op
  rotate_left
  · simp [h1]; grind [instrV]
  by_cases h2 : i.op ≤ 25
  rotate_left
  · simp [h1, h2]; grind [instrV]
  simp [h1, h2]
  refine call (roperand_pc i.op) (by simp) ?_
  have hk := operandV_cases i.op
  have hV : instrV k a n i = (if (operandV i.op = 0 ∧ i.a ≠ 0) then 1
    else if operandV i.op = 4 ∧ (i.a < 0 ∨ i.a > n) then 4
    else if (operandV i.op = 2 ∧ (i.a < 0 ∨ i.a ≥ 8)) ∨ (operandV i.op = 3 ∧ (i.a < 0 ∨ i.a ≥ a)) then 6
    else if operandV i.op = 5 ∧ (i.a < 0 ∨ i.a ≥ k) then 7 else 0) := by unfold instrV; grind
  rw [hV]
  generalize operandV i.op = o at hk
  simp
  rcases hk with rfl | rfl | rfl | rfl | rfl | rfl <;> simp
  all_goals
    repeat' (refine split (fun hc => ?_) (fun hc => ?_) <;> simp [*])
  all_goals grind
theorem rnote_pc (p : Prg) (n : Nt) : PC Try.prog 81 [p.av, n.av] (iv (noteV p.hs p.as.length n)) := by
  refine pc_of_get rnote_get (by simp) _ (by simp) _ ?_
  unfold rnote_c
  simp
  refine split (fun h1 => ?_) (fun h1 => ?_) <;> simp [h1]
  · grind [noteV]
  refine split (fun h2 => ?_) (fun h2 => ?_) <;> simp [h2]
  · grind [noteV]
  refine split (fun h3 => ?_) (fun h3 => ?_) <;> simp [h3]
  · grind [noteV]
  refine split (fun h4 => ?_) (fun h4 => ?_) <;> simp only [h4]
  · simp [h4]; grind [noteV]
  obtain ⟨to, hd, args⟩ := n
  obtain ⟨k, rfl⟩ := Int.eq_ofNat_of_zero_le (by simpa using h3 : 0 ≤ hd)
  have hk : k < p.hs.length := by simpa using h4
  simp [hk]
  refine split (fun h5 => ?_) (fun h5 => ?_) <;> simp <;> grind [noteV]


end Go.Gv
