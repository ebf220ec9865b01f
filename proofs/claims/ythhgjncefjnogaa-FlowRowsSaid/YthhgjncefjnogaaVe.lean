/- Whether programs are small, how many instructions they have, and whether two are the same. No condition beyond a list's length below 2^62. -/
import Derived.Test.YthhgjncefjnogaaProg
import Derived.Test.YthhgjncefjnogaaVd
set_option linter.unusedVariables false
set_option linter.unusedSimpArgs false
namespace Go.Gv
open Go.Proofs

def small_r0 : List AI := [⟨(some 1), none, (.op (.box 19001 4 (.t 0)))⟩, ⟨(some 2), none, (.op (.mv (.c (.bool false))))⟩]
def small_r1 : List AI := [⟨(some 6), none, (.op (.fld 0 (.t 1)))⟩, ⟨(some 7), none, (.op (.load none (.t 6)))⟩, ⟨(some 8), none, (.op (.len (.t 7)))⟩, ⟨(some 9), none, (.op (.ibin .gtr (.t 8) (.c (.int .i64 18))))⟩, ⟨(some 10), none, (.op (.mv (.t 9)))⟩, ⟨(some 11), (some (10, false)), (.op (.fld 1 (.t 1)))⟩, ⟨(some 12), (some (10, false)), (.op (.load none (.t 11)))⟩, ⟨(some 13), (some (10, false)), (.op (.len (.t 12)))⟩, ⟨(some 14), (some (10, false)), (.op (.ibin .gtr (.t 13) (.c (.int .i64 10))))⟩, ⟨(some 15), none, (.op (.pick (.t 10) (.c (.bool true)) (.t 14)))⟩, ⟨(some 16), none, (.op (.mv (.t 15)))⟩, ⟨(some 17), (some (16, false)), (.op (.fld 2 (.t 1)))⟩, ⟨(some 18), (some (16, false)), (.op (.load none (.t 17)))⟩, ⟨(some 19), (some (16, false)), (.op (.len (.t 18)))⟩, ⟨(some 20), (some (16, false)), (.op (.ibin .gtr (.t 19) (.c (.int .i64 18))))⟩, ⟨(some 21), none, (.op (.pick (.t 16) (.c (.bool true)) (.t 20)))⟩]
def small_r2 : List AI := [⟨(some 2), none, (.op (.mv (.c (.bool false))))⟩]
def small_r3 : List AI := [⟨(some 3), none, (.op (.mv (.c (.int .i64 0))))⟩]
def small_r4 : List AI := [⟨(some 22), none, (.op (.mv (.t 3)))⟩, ⟨(some 23), none, (.op (.fld 0 (.t 1)))⟩, ⟨(some 24), none, (.op (.load none (.t 23)))⟩, ⟨(some 25), none, (.op (.len (.t 24)))⟩, ⟨(some 26), none, (.op (.ibin .lss (.t 22) (.t 25)))⟩]
def small_r5 : List AI := [⟨(some 29), none, (.op (.fld 0 (.t 1)))⟩, ⟨(some 30), none, (.op (.load none (.t 29)))⟩, ⟨(some 31), none, (.op (.mv (.t 3)))⟩, ⟨(some 32), none, (.op (.idx 2 (.t 30) (.t 31)))⟩, ⟨(some 33), none, (.op (.fld 1 (.t 32)))⟩, ⟨(some 34), none, (.op (.load none (.t 33)))⟩, ⟨(some 35), none, (.op (.len (.t 34)))⟩, ⟨(some 36), none, (.op (.ibin .gtr (.t 35) (.c (.int .i64 70))))⟩]
def small_r6 : List AI := [⟨(some 2), none, (.op (.mv (.c (.bool false))))⟩]
def small_r7 : List AI := [⟨(some 27), none, (.op (.mv (.t 3)))⟩, ⟨(some 28), none, (.op (.ibin .add (.t 27) (.c (.int .i64 1))))⟩, ⟨(some 3), none, (.op (.mv (.t 28)))⟩]
def small_l0 : AC := (.seq (.seq (.reg small_r4) (.cond (.t 26) .skip (.exit 0))) (.seq (.block 1 (.seq (.reg small_r5) (.cond (.t 36) (.seq (.reg small_r6) .ret) .skip))) (.reg small_r7)))
def small_r8 : List AI := [⟨(some 4), none, (.op (.mv (.c (.int .i64 0))))⟩]
def small_r9 : List AI := [⟨(some 37), none, (.op (.mv (.t 4)))⟩, ⟨(some 38), none, (.op (.fld 1 (.t 1)))⟩, ⟨(some 39), none, (.op (.load none (.t 38)))⟩, ⟨(some 40), none, (.op (.len (.t 39)))⟩, ⟨(some 41), none, (.op (.ibin .lss (.t 37) (.t 40)))⟩]
def small_r10 : List AI := [⟨(some 44), none, (.op (.fld 1 (.t 1)))⟩, ⟨(some 45), none, (.op (.load none (.t 44)))⟩, ⟨(some 46), none, (.op (.mv (.t 4)))⟩, ⟨(some 47), none, (.op (.idx 4 (.t 45) (.t 46)))⟩, ⟨(some 48), none, (.op (.fld 0 (.t 47)))⟩, ⟨(some 49), none, (.op (.load none (.t 48)))⟩, ⟨(some 50), none, (.op (.len (.t 49)))⟩, ⟨(some 51), none, (.op (.ibin .gtr (.t 50) (.c (.int .i64 10))))⟩]
def small_r11 : List AI := [⟨(some 2), none, (.op (.mv (.c (.bool false))))⟩]
def small_r12 : List AI := [⟨(some 42), none, (.op (.mv (.t 4)))⟩, ⟨(some 43), none, (.op (.ibin .add (.t 42) (.c (.int .i64 1))))⟩, ⟨(some 4), none, (.op (.mv (.t 43)))⟩]
def small_l1 : AC := (.seq (.seq (.reg small_r9) (.cond (.t 41) .skip (.exit 2))) (.seq (.block 3 (.seq (.reg small_r10) (.cond (.t 51) (.seq (.reg small_r11) .ret) .skip))) (.reg small_r12)))
def small_r13 : List AI := [⟨(some 5), none, (.op (.mv (.c (.int .i64 0))))⟩]
def small_r14 : List AI := [⟨(some 52), none, (.op (.mv (.t 5)))⟩, ⟨(some 53), none, (.op (.fld 2 (.t 1)))⟩, ⟨(some 54), none, (.op (.load none (.t 53)))⟩, ⟨(some 55), none, (.op (.len (.t 54)))⟩, ⟨(some 56), none, (.op (.ibin .lss (.t 52) (.t 55)))⟩]
def small_r15 : List AI := [⟨(some 59), none, (.op (.fld 2 (.t 1)))⟩, ⟨(some 60), none, (.op (.load none (.t 59)))⟩, ⟨(some 61), none, (.op (.mv (.t 5)))⟩, ⟨(some 62), none, (.op (.idx 3 (.t 60) (.t 61)))⟩, ⟨(some 63), none, (.op (.fld 2 (.t 62)))⟩, ⟨(some 64), none, (.op (.load none (.t 63)))⟩, ⟨(some 65), none, (.op (.len (.t 64)))⟩, ⟨(some 66), none, (.op (.ibin .gtr (.t 65) (.c (.int .i64 6))))⟩]
def small_r16 : List AI := [⟨(some 2), none, (.op (.mv (.c (.bool false))))⟩]
def small_r17 : List AI := [⟨(some 57), none, (.op (.mv (.t 5)))⟩, ⟨(some 58), none, (.op (.ibin .add (.t 57) (.c (.int .i64 1))))⟩, ⟨(some 5), none, (.op (.mv (.t 58)))⟩]
def small_l2 : AC := (.seq (.seq (.reg small_r14) (.cond (.t 56) .skip (.exit 4))) (.seq (.block 5 (.seq (.reg small_r15) (.cond (.t 66) (.seq (.reg small_r16) .ret) .skip))) (.reg small_r17)))
def small_r18 : List AI := [⟨(some 2), none, (.op (.mv (.c (.bool true))))⟩]
def small_c : AC := (.seq (.reg small_r0) (.seq (.seq (.reg small_r1) (.cond (.t 21) (.seq (.reg small_r2) .ret) .skip)) (.seq (.seq (.reg small_r3) (.block 0 (.loop small_l0))) (.seq (.seq (.reg small_r8) (.block 2 (.loop small_l1))) (.seq (.seq (.reg small_r13) (.block 4 (.loop small_l2))) (.seq (.reg small_r18) .ret))))))
def small_res : List ARes := [(.tmp 2)]
set_option maxRecDepth 100000 in
theorem small_get : getF Try.prog 24 19000 [] = some ("gavotte/gavottealike.Small", 67, small_c, small_res) := by kernel_rfl
def size_r0 : List AI := [⟨(some 1), none, (.op (.box 25001 4 (.t 0)))⟩, ⟨(some 2), none, (.op (.mv (.c (.int .i64 0))))⟩]
def size_r1 : List AI := [⟨(some 5), none, (.op (.fld 0 (.t 1)))⟩, ⟨(some 6), none, (.op (.load none (.t 5)))⟩, ⟨(some 7), none, (.op (.len (.t 6)))⟩, ⟨(some 8), none, (.op (.mv (.c (.int .i64 0))))⟩]
def size_r2 : List AI := [⟨(some 9), none, (.op (.ibin .lss (.t 8) (.t 7)))⟩]
def size_r3 : List AI := [⟨(some 10), none, (.op (.idx 2 (.t 6) (.t 8)))⟩, ⟨(some 11), none, (.op (.load (some 2) (.t 10)))⟩, ⟨(some 4), none, (.op (.new 25004 2 (.agg [(.int .i64 0), .nils])))⟩, ⟨none, none, (.op (.store 2 (.t 4) (.t 11)))⟩]
def size_r4 : List AI := [⟨(some 12), none, (.op (.mv (.t 2)))⟩, ⟨(some 13), none, (.op (.fld 1 (.t 4)))⟩, ⟨(some 14), none, (.op (.load none (.t 13)))⟩, ⟨(some 15), none, (.op (.len (.t 14)))⟩, ⟨(some 16), none, (.op (.ibin .add (.t 12) (.t 15)))⟩, ⟨(some 2), none, (.op (.mv (.t 16)))⟩]
def size_r5 : List AI := [⟨(some 17), none, (.op (.ibin .add (.t 8) (.c (.int .i64 1))))⟩, ⟨(some 8), none, (.op (.mv (.t 17)))⟩]
def size_l0 : AC := (.seq (.reg size_r2) (.seq (.cond (.t 9) .skip (.exit 0)) (.seq (.block 1 (.seq (.reg size_r3) (.reg size_r4))) (.reg size_r5))))
def size_r6 : List AI := [⟨(some 18), none, (.op (.mv (.t 2)))⟩, ⟨(some 2), none, (.op (.mv (.t 18)))⟩]
def size_c : AC := (.seq (.reg size_r0) (.seq (.seq (.reg size_r1) (.block 0 (.loop size_l0))) (.seq (.reg size_r6) .ret)))
def size_res : List ARes := [(.tmp 2)]
set_option maxRecDepth 100000 in
theorem size_get : getF Try.prog 60 25000 [] = some ("gavotte/prog.Size", 19, size_c, size_res) := by kernel_rfl
def same_r0 : List AI := [⟨(some 2), none, (.op (.box 23002 4 (.t 0)))⟩, ⟨(some 3), none, (.op (.box 23003 4 (.t 1)))⟩, ⟨(some 4), none, (.op (.mv (.c (.bool false))))⟩]
def same_r1 : List AI := [⟨(some 5), none, (.op (.fld 0 (.t 2)))⟩, ⟨(some 6), none, (.op (.load none (.t 5)))⟩, ⟨(some 7), none, (.op (.fld 0 (.t 3)))⟩, ⟨(some 8), none, (.op (.load none (.t 7)))⟩, ⟨(some 9), none, (.call (.c (.fn 68 [])) [(.t 6), (.t 8), (.c (.fn 69 []))])⟩, ⟨(some 10), none, (.op (.mv (.t 9)))⟩, ⟨(some 11), (some (10, true)), (.op (.fld 1 (.t 2)))⟩, ⟨(some 12), (some (10, true)), (.op (.load none (.t 11)))⟩, ⟨(some 13), (some (10, true)), (.op (.fld 1 (.t 3)))⟩, ⟨(some 14), (some (10, true)), (.op (.load none (.t 13)))⟩, ⟨(some 15), (some (10, true)), (.call (.c (.fn 70 [])) [(.t 12), (.t 14), (.c (.fn 71 []))])⟩, ⟨(some 16), none, (.op (.pick (.t 10) (.t 15) (.c (.bool false))))⟩, ⟨(some 17), none, (.op (.mv (.t 16)))⟩, ⟨(some 18), (some (17, true)), (.op (.fld 2 (.t 2)))⟩, ⟨(some 19), (some (17, true)), (.op (.load none (.t 18)))⟩, ⟨(some 20), (some (17, true)), (.op (.fld 2 (.t 3)))⟩, ⟨(some 21), (some (17, true)), (.op (.load none (.t 20)))⟩, ⟨(some 22), (some (17, true)), (.call (.c (.fn 72 [])) [(.t 19), (.t 21), (.c (.fn 61 []))])⟩, ⟨(some 23), none, (.op (.pick (.t 17) (.t 22) (.c (.bool false))))⟩, ⟨(some 24), none, (.op (.mv (.t 23)))⟩, ⟨(some 25), (some (24, true)), (.op (.fld 3 (.t 2)))⟩, ⟨(some 26), (some (24, true)), (.op (.load none (.t 25)))⟩, ⟨(some 27), (some (24, true)), (.op (.fld 3 (.t 3)))⟩, ⟨(some 28), (some (24, true)), (.op (.load none (.t 27)))⟩, ⟨(some 29), (some (24, true)), (.op (.ibin .eql (.t 26) (.t 28)))⟩, ⟨(some 30), none, (.op (.pick (.t 24) (.t 29) (.c (.bool false))))⟩, ⟨(some 4), none, (.op (.mv (.t 30)))⟩]
def same_c : AC := (.seq (.reg same_r0) (.seq (.reg same_r1) .ret))
def same_res : List ARes := [(.tmp 4)]
set_option maxRecDepth 100000 in
theorem same_get : getF Try.prog 28 23000 [] = some ("gavotte/prog.Same", 31, same_c, same_res) := by kernel_rfl
def rsame_r0 : List AI := [⟨(some 2), none, (.op (.box 24002 4 (.t 0)))⟩, ⟨(some 3), none, (.op (.box 24003 4 (.t 1)))⟩, ⟨(some 4), none, (.op (.mv (.c (.bool false))))⟩]
def rsame_r1 : List AI := [⟨(some 9), none, (.op (.fld 0 (.t 2)))⟩, ⟨(some 10), none, (.op (.load none (.t 9)))⟩, ⟨(some 11), none, (.op (.len (.t 10)))⟩, ⟨(some 12), none, (.op (.fld 0 (.t 3)))⟩, ⟨(some 13), none, (.op (.load none (.t 12)))⟩, ⟨(some 14), none, (.op (.len (.t 13)))⟩, ⟨(some 15), none, (.op (.ibin .neq (.t 11) (.t 14)))⟩, ⟨(some 16), none, (.op (.mv (.t 15)))⟩, ⟨(some 17), (some (16, false)), (.op (.fld 1 (.t 2)))⟩, ⟨(some 18), (some (16, false)), (.op (.load none (.t 17)))⟩, ⟨(some 19), (some (16, false)), (.op (.len (.t 18)))⟩, ⟨(some 20), (some (16, false)), (.op (.fld 1 (.t 3)))⟩, ⟨(some 21), (some (16, false)), (.op (.load none (.t 20)))⟩, ⟨(some 22), (some (16, false)), (.op (.len (.t 21)))⟩, ⟨(some 23), (some (16, false)), (.op (.ibin .neq (.t 19) (.t 22)))⟩, ⟨(some 24), none, (.op (.pick (.t 16) (.c (.bool true)) (.t 23)))⟩, ⟨(some 25), none, (.op (.mv (.t 24)))⟩, ⟨(some 26), (some (25, false)), (.op (.fld 3 (.t 2)))⟩, ⟨(some 27), (some (25, false)), (.op (.load none (.t 26)))⟩, ⟨(some 28), (some (25, false)), (.op (.fld 3 (.t 3)))⟩, ⟨(some 29), (some (25, false)), (.op (.load none (.t 28)))⟩, ⟨(some 30), (some (25, false)), (.op (.ibin .neq (.t 27) (.t 29)))⟩, ⟨(some 31), none, (.op (.pick (.t 25) (.c (.bool true)) (.t 30)))⟩, ⟨(some 32), none, (.op (.mv (.t 31)))⟩, ⟨(some 33), (some (32, false)), (.op (.fld 2 (.t 2)))⟩, ⟨(some 34), (some (32, false)), (.op (.load none (.t 33)))⟩, ⟨(some 35), (some (32, false)), (.op (.fld 2 (.t 3)))⟩, ⟨(some 36), (some (32, false)), (.op (.load none (.t 35)))⟩, ⟨(some 37), (some (32, false)), (.call (.c (.fn 65 [])) [(.t 34), (.t 36)])⟩, ⟨(some 38), (some (32, false)), (.op (.not (.t 37)))⟩, ⟨(some 39), none, (.op (.pick (.t 32) (.c (.bool true)) (.t 38)))⟩]
def rsame_r2 : List AI := [⟨(some 4), none, (.op (.mv (.c (.bool false))))⟩]
def rsame_r3 : List AI := [⟨(some 5), none, (.op (.mv (.c (.int .i64 0))))⟩]
def rsame_r4 : List AI := [⟨(some 40), none, (.op (.mv (.t 5)))⟩, ⟨(some 41), none, (.op (.fld 0 (.t 2)))⟩, ⟨(some 42), none, (.op (.load none (.t 41)))⟩, ⟨(some 43), none, (.op (.len (.t 42)))⟩, ⟨(some 44), none, (.op (.ibin .lss (.t 40) (.t 43)))⟩]
def rsame_r5 : List AI := [⟨(some 47), none, (.op (.fld 0 (.t 2)))⟩, ⟨(some 48), none, (.op (.load none (.t 47)))⟩, ⟨(some 49), none, (.op (.mv (.t 5)))⟩, ⟨(some 50), none, (.op (.idx 2 (.t 48) (.t 49)))⟩, ⟨(some 51), none, (.op (.fld 0 (.t 50)))⟩, ⟨(some 52), none, (.op (.load none (.t 51)))⟩, ⟨(some 53), none, (.op (.fld 0 (.t 3)))⟩, ⟨(some 54), none, (.op (.load none (.t 53)))⟩, ⟨(some 55), none, (.op (.mv (.t 5)))⟩, ⟨(some 56), none, (.op (.idx 2 (.t 54) (.t 55)))⟩, ⟨(some 57), none, (.op (.fld 0 (.t 56)))⟩, ⟨(some 58), none, (.op (.load none (.t 57)))⟩, ⟨(some 59), none, (.op (.ibin .neq (.t 52) (.t 58)))⟩, ⟨(some 60), none, (.op (.mv (.t 59)))⟩, ⟨(some 61), (some (60, false)), (.op (.fld 0 (.t 2)))⟩, ⟨(some 62), (some (60, false)), (.op (.load none (.t 61)))⟩, ⟨(some 63), (some (60, false)), (.op (.mv (.t 5)))⟩, ⟨(some 64), (some (60, false)), (.op (.idx 2 (.t 62) (.t 63)))⟩, ⟨(some 65), (some (60, false)), (.op (.fld 1 (.t 64)))⟩, ⟨(some 66), (some (60, false)), (.op (.load none (.t 65)))⟩, ⟨(some 67), (some (60, false)), (.op (.fld 0 (.t 3)))⟩, ⟨(some 68), (some (60, false)), (.op (.load none (.t 67)))⟩, ⟨(some 69), (some (60, false)), (.op (.mv (.t 5)))⟩, ⟨(some 70), (some (60, false)), (.op (.idx 2 (.t 68) (.t 69)))⟩, ⟨(some 71), (some (60, false)), (.op (.fld 1 (.t 70)))⟩, ⟨(some 72), (some (60, false)), (.op (.load none (.t 71)))⟩, ⟨(some 73), (some (60, false)), (.call (.c (.fn 66 [])) [(.t 66), (.t 72)])⟩, ⟨(some 74), (some (60, false)), (.op (.not (.t 73)))⟩, ⟨(some 75), none, (.op (.pick (.t 60) (.c (.bool true)) (.t 74)))⟩]
def rsame_p5 : List (List Nat) := [[], [0], [], [1, 2, 0], [3, 1, 2, 0], [4, 3, 1, 2, 0], [], [6], [], [7, 8, 6], [9, 7, 8, 6], [10, 9, 7, 8, 6], [5, 11, 4, 3, 1, 2, 0, 10, 9, 7, 8, 6], [12, 5, 11, 4, 3, 1, 2, 0, 10, 9, 7, 8, 6], [13, 12, 5, 11, 4, 3, 1, 2, 0, 10, 9, 7, 8, 6], [14, 13, 12, 5, 11, 4, 3, 1, 2, 0, 10, 9, 7, 8, 6], [13, 12, 5, 11, 4, 3, 1, 2, 0, 10, 9, 7, 8, 6], [15, 16, 13, 14, 12, 5, 11, 4, 3, 1, 2, 0, 10, 9, 7, 8, 6], [17, 13, 15, 16, 14, 12, 5, 11, 4, 3, 1, 2, 0, 10, 9, 7, 8, 6], [18, 13, 17, 15, 16, 14, 12, 5, 11, 4, 3, 1, 2, 0, 10, 9, 7, 8, 6], [13, 12, 5, 11, 4, 3, 1, 2, 0, 10, 9, 7, 8, 6], [20, 13, 12, 5, 11, 4, 3, 1, 2, 0, 10, 9, 7, 8, 6], [13, 12, 5, 11, 4, 3, 1, 2, 0, 10, 9, 7, 8, 6], [21, 22, 13, 20, 12, 5, 11, 4, 3, 1, 2, 0, 10, 9, 7, 8, 6], [23, 13, 21, 22, 20, 12, 5, 11, 4, 3, 1, 2, 0, 10, 9, 7, 8, 6], [24, 13, 23, 21, 22, 20, 12, 5, 11, 4, 3, 1, 2, 0, 10, 9, 7, 8, 6], [19, 25, 13, 18, 17, 15, 16, 14, 12, 5, 11, 4, 3, 1, 2, 0, 10, 9, 7, 8, 6, 24, 23, 21, 22, 20], [26, 13, 19, 25, 18, 17, 15, 16, 14, 12, 5, 11, 4, 3, 1, 2, 0, 10, 9, 7, 8, 6, 24, 23, 21, 22, 20], [13, 27, 12, 5, 11, 4, 3, 1, 2, 0, 10, 9, 7, 8, 6, 26, 19, 25, 18, 17, 15, 16, 14, 24, 23, 21, 22, 20]]
def rsame_r6 : List AI := [⟨(some 4), none, (.op (.mv (.c (.bool false))))⟩]
def rsame_r7 : List AI := [⟨(some 45), none, (.op (.mv (.t 5)))⟩, ⟨(some 46), none, (.op (.ibin .add (.t 45) (.c (.int .i64 1))))⟩, ⟨(some 5), none, (.op (.mv (.t 46)))⟩]
def rsame_l0 : AC := (.seq (.seq (.reg rsame_r4) (.cond (.t 44) .skip (.exit 0))) (.seq (.block 1 (.seq (.regd rsame_r5 rsame_p5) (.cond (.t 75) (.seq (.reg rsame_r6) .ret) .skip))) (.reg rsame_r7)))
def rsame_r8 : List AI := [⟨(some 6), none, (.op (.mv (.c (.int .i64 0))))⟩]
def rsame_r9 : List AI := [⟨(some 76), none, (.op (.mv (.t 6)))⟩, ⟨(some 77), none, (.op (.fld 1 (.t 2)))⟩, ⟨(some 78), none, (.op (.load none (.t 77)))⟩, ⟨(some 79), none, (.op (.len (.t 78)))⟩, ⟨(some 80), none, (.op (.ibin .lss (.t 76) (.t 79)))⟩]
def rsame_r10 : List AI := [⟨(some 83), none, (.op (.fld 1 (.t 2)))⟩, ⟨(some 84), none, (.op (.load none (.t 83)))⟩, ⟨(some 85), none, (.op (.mv (.t 6)))⟩, ⟨(some 86), none, (.op (.idx 4 (.t 84) (.t 85)))⟩, ⟨(some 87), none, (.op (.load (some 4) (.t 86)))⟩, ⟨(some 88), none, (.op (.fld 1 (.t 3)))⟩, ⟨(some 89), none, (.op (.load none (.t 88)))⟩, ⟨(some 90), none, (.op (.mv (.t 6)))⟩, ⟨(some 91), none, (.op (.idx 4 (.t 89) (.t 90)))⟩, ⟨(some 92), none, (.op (.load (some 4) (.t 91)))⟩, ⟨(some 7), none, (.op (.new 24007 4 (.agg [.nils, (.int .i64 0), (.int .i64 0), (.bool false)])))⟩, ⟨(some 8), none, (.op (.new 24008 4 (.agg [.nils, (.int .i64 0), (.int .i64 0), (.bool false)])))⟩, ⟨none, none, (.op (.store 4 (.t 7) (.t 87)))⟩, ⟨none, none, (.op (.store 4 (.t 8) (.t 92)))⟩]
def rsame_p10 : List (List Nat) := [[], [0], [], [1, 2, 0], [3, 1, 2, 0], [], [5], [], [6, 7, 5], [8, 6, 7, 5], [], [], [10, 4, 0, 1, 2, 3, 11], [11, 9, 12, 0, 1, 2, 3, 4, 5, 6, 7, 8, 10]]
def rsame_r11 : List AI := [⟨(some 93), none, (.op (.fld 0 (.t 7)))⟩, ⟨(some 94), none, (.op (.load none (.t 93)))⟩, ⟨(some 95), none, (.op (.fld 0 (.t 8)))⟩, ⟨(some 96), none, (.op (.load none (.t 95)))⟩, ⟨(some 97), none, (.call (.c (.fn 67 [])) [(.t 94), (.t 96)])⟩, ⟨(some 98), none, (.op (.not (.t 97)))⟩, ⟨(some 99), none, (.op (.mv (.t 98)))⟩, ⟨(some 100), (some (99, false)), (.op (.fld 1 (.t 7)))⟩, ⟨(some 101), (some (99, false)), (.op (.load none (.t 100)))⟩, ⟨(some 102), (some (99, false)), (.op (.fld 1 (.t 8)))⟩, ⟨(some 103), (some (99, false)), (.op (.load none (.t 102)))⟩, ⟨(some 104), (some (99, false)), (.op (.ibin .neq (.t 101) (.t 103)))⟩, ⟨(some 105), none, (.op (.pick (.t 99) (.c (.bool true)) (.t 104)))⟩, ⟨(some 106), none, (.op (.mv (.t 105)))⟩, ⟨(some 107), (some (106, false)), (.op (.fld 2 (.t 7)))⟩, ⟨(some 108), (some (106, false)), (.op (.load none (.t 107)))⟩, ⟨(some 109), (some (106, false)), (.op (.fld 2 (.t 8)))⟩, ⟨(some 110), (some (106, false)), (.op (.load none (.t 109)))⟩, ⟨(some 111), (some (106, false)), (.op (.ibin .neq (.t 108) (.t 110)))⟩, ⟨(some 112), none, (.op (.pick (.t 106) (.c (.bool true)) (.t 111)))⟩, ⟨(some 113), none, (.op (.mv (.t 112)))⟩, ⟨(some 114), (some (113, false)), (.op (.fld 3 (.t 7)))⟩, ⟨(some 115), (some (113, false)), (.op (.load none (.t 114)))⟩, ⟨(some 116), (some (113, false)), (.op (.fld 3 (.t 8)))⟩, ⟨(some 117), (some (113, false)), (.op (.load none (.t 116)))⟩, ⟨(some 118), (some (113, false)), (.op (.eqv true (.t 115) (.t 117)))⟩, ⟨(some 119), none, (.op (.pick (.t 113) (.c (.bool true)) (.t 118)))⟩]
def rsame_r12 : List AI := [⟨(some 4), none, (.op (.mv (.c (.bool false))))⟩]
def rsame_r13 : List AI := [⟨(some 81), none, (.op (.mv (.t 6)))⟩, ⟨(some 82), none, (.op (.ibin .add (.t 81) (.c (.int .i64 1))))⟩, ⟨(some 6), none, (.op (.mv (.t 82)))⟩]
def rsame_l1 : AC := (.seq (.seq (.reg rsame_r9) (.cond (.t 80) .skip (.exit 2))) (.seq (.block 3 (.seq (.regd rsame_r10 rsame_p10) (.seq (.reg rsame_r11) (.cond (.t 119) (.seq (.reg rsame_r12) .ret) .skip)))) (.reg rsame_r13)))
def rsame_r14 : List AI := [⟨(some 4), none, (.op (.mv (.c (.bool true))))⟩]
def rsame_c : AC := (.seq (.reg rsame_r0) (.seq (.seq (.reg rsame_r1) (.cond (.t 39) (.seq (.reg rsame_r2) .ret) .skip)) (.seq (.seq (.reg rsame_r3) (.block 0 (.loop rsame_l0))) (.seq (.seq (.reg rsame_r8) (.block 2 (.loop rsame_l1))) (.seq (.reg rsame_r14) .ret)))))
def rsame_res : List ARes := [(.tmp 4)]
set_option maxRecDepth 100000 in
theorem rsame_get : getF Try.prog 27 24000 [] = some ("gavotte/gavotteref1.SameProg", 120, rsame_c, rsame_res) := by kernel_rfl
attribute [simp] small_r0 small_r1 small_r2 small_r3 small_r4 small_r5 small_r6 small_r7 small_r8 small_r9 small_r10 small_r11 small_r12 small_r13 small_r14 small_r15 small_r16 small_r17 small_r18 small_res size_r0 size_r1 size_r2 size_r3 size_r4 size_r5 size_r6 size_res same_r0 same_r1 same_res rsame_r0 rsame_r1 rsame_r2 rsame_r3 rsame_r4 rsame_r5 rsame_p5 rsame_r6 rsame_r7 rsame_r8 rsame_r9 rsame_r10 rsame_p10 rsame_r11 rsame_r12 rsame_r13 rsame_r14 rsame_res

def smallV (p : Prg) : Prop := p.hs.length ≤ 18 ∧ p.as.length ≤ 10 ∧ p.boot.length ≤ 18 ∧ (∀ h ∈ p.hs, h.code.length ≤ 70) ∧ (∀ a ∈ p.as, a.regs.length ≤ 10) ∧ (∀ n ∈ p.boot, n.args.length ≤ 6)
instance (p : Prg) : Decidable (smallV p) := inferInstanceAs (Decidable (_ ∧ _))
def okP (p : Prg) : Prop := p.hs.length < 4611686018427387904 ∧ p.as.length < 4611686018427387904 ∧ p.boot.length < 4611686018427387904 ∧ (∀ h ∈ p.hs, h.code.length < 4611686018427387904) ∧ (∀ a ∈ p.as, a.regs.length < 4611686018427387904) ∧ (∀ n ∈ p.boot, n.args.length < 4611686018427387904)
theorem okP_of_small (p : Prg) (h : smallV p) : okP p := by
  obtain ⟨h1, h2, h3, h4, h5, h6⟩ := h
  exact ⟨by omega, by omega, by omega, fun x hx => by have := h4 x hx; omega, fun x hx => by have := h5 x hx; omega, fun x hx => by have := h6 x hx; omega⟩
theorem all_drop {α : Type} (l : List α) (P : α → Prop) (i : Nat) (h : i < l.length) : (∀ x ∈ l.drop i, P x) ↔ P l[i] ∧ ∀ x ∈ l.drop (i + 1), P x := by
  rw [List.drop_eq_getElem_cons h]; simp only [List.mem_cons, forall_eq_or_imp]
theorem small_pc (p : Prg) : PC Try.prog 24 [p.av] (.bool (decide (smallV p))) := by
  refine pc_of_get small_get (by simp) _ (by simp) _ ?_
  unfold small_c
  simp
  refine split (fun h1 => ?_) (fun h1 => ?_) <;> simp [h1]
  · intro h; have := h.1; omega
  refine split (fun h2 => ?_) (fun h2 => ?_) <;> simp [h2]
  · intro h; have := h.2.1; omega
  refine split (fun h3 => ?_) (fun h3 => ?_) <;> simp [h3]
  · intro h; have := h.2.2.1; omega
  have e : smallV p ↔ (∀ h ∈ p.hs, h.code.length ≤ 70) ∧ (∀ a ∈ p.as, a.regs.length ≤ 10) ∧ (∀ n ∈ p.boot, n.args.length ≤ 6) := by
    unfold smallV
    constructor
    · intro h; exact h.2.2.2
    · intro h; exact ⟨by omega, by omega, by omega, h⟩
  refine loopN (fun i S => S.t 3 = iv i ∧ (∃ st, S.t 1 = .ptr 19001 st 4 0 0 ∧ S.blk 19001 = some ⟨st, 4, [p.av]⟩) ∧
    ((∀ h ∈ p.hs, h.code.length ≤ 70) ↔ ∀ h ∈ p.hs.drop i, h.code.length ≤ 70)) p.hs.length ?_ ?_
  · simp
  · rintro i S hi ⟨g1, ⟨st, g2, g3⟩, hh⟩
    by_cases hlt : i < p.hs.length
    · rw [all_drop _ _ _ hlt] at hh
      simp [small_l0, g1, g2, g3, hlt]
      refine split (fun c1 => ?_) (fun c1 => ?_) <;> simp [c1, g1, g2, g3, hlt, wrap_succ i _ hlt (by omega)]
      · intro h; have := (hh.1 (e.1 h).1).1; omega
      · rw [hh]; exact ⟨fun h => h.2, fun h => ⟨by omega, h⟩⟩
    · have e1 : i = p.hs.length := by omega
      subst e1
      simp at hh
      simp [small_l0, g1, g2, g3]
      refine loopN (fun i S => S.t 4 = iv i ∧ (∃ st, S.t 1 = .ptr 19001 st 4 0 0 ∧ S.blk 19001 = some ⟨st, 4, [p.av]⟩) ∧
        ((∀ h ∈ p.as, h.regs.length ≤ 10) ↔ ∀ h ∈ p.as.drop i, h.regs.length ≤ 10)) p.as.length ?_ ?_
      · simp [g2, g3]
      · rintro i S hi ⟨g1, ⟨st, g2, g3⟩, hh2⟩
        by_cases hlt : i < p.as.length
        · rw [all_drop _ _ _ hlt] at hh2
          simp [small_l1, g1, g2, g3, hlt]
          refine split (fun c1 => ?_) (fun c1 => ?_) <;> simp [c1, g1, g2, g3, hlt, wrap_succ i _ hlt (by omega)]
          · intro h; have := (hh2.1 (e.1 h).2.1).1; omega
          · rw [hh2]; exact ⟨fun h => h.2, fun h => ⟨by omega, h⟩⟩
        · have e1 : i = p.as.length := by omega
          subst e1
          simp at hh2
          simp [small_l1, g1, g2, g3]
          refine loopN (fun i S => S.t 5 = iv i ∧ (∃ st, S.t 1 = .ptr 19001 st 4 0 0 ∧ S.blk 19001 = some ⟨st, 4, [p.av]⟩) ∧
            ((∀ h ∈ p.boot, h.args.length ≤ 6) ↔ ∀ h ∈ p.boot.drop i, h.args.length ≤ 6)) p.boot.length ?_ ?_
          · simp [g2, g3]
          · rintro i S hi ⟨g1, ⟨st, g2, g3⟩, hh3⟩
            by_cases hlt : i < p.boot.length
            · rw [all_drop _ _ _ hlt] at hh3
              simp [small_l2, g1, g2, g3, hlt]
              refine split (fun c1 => ?_) (fun c1 => ?_) <;> simp [c1, g1, g2, g3, hlt, wrap_succ i _ hlt (by omega)]
              · intro h; have := (hh3.1 (e.1 h).2.2).1; omega
              · rw [hh3]; exact ⟨fun h => h.2, fun h => ⟨by omega, h⟩⟩
            · have e1 : i = p.boot.length := by omega
              subst e1
              simp at hh3
              simp [small_l2, g1, g2, g3]
              exact e.2 ⟨hh, hh2, hh3⟩
def sizeN : List Hnd → Nat
  | [] => 0
  | h :: l => h.code.length + sizeN l
theorem sizeN_take (l : List Hnd) (i : Nat) (h : i < l.length) : sizeN (l.take (i + 1)) = sizeN (l.take i) + l[i].code.length := by
  induction l generalizing i with
  | nil => simp at h
  | cons a l ih =>
    cases i with
    | zero => simp [sizeN]
    | succ i => simp only [List.take_succ_cons, sizeN, List.getElem_cons_succ]; rw [ih i (by simpa using h)]; omega
theorem sizeN_le (l : List Hnd) (i : Nat) : sizeN (l.take i) ≤ sizeN l := by
  induction l generalizing i with
  | nil => simp
  | cons a l ih =>
    cases i with
    | zero => simp [sizeN]
    | succ i => simp only [List.take_succ_cons, sizeN]; have := ih i; omega
theorem size_pc (p : Prg) (hl : p.hs.length < 4611686018427387904) (hs : sizeN p.hs < 4611686018427387904) : PC Try.prog 60 [p.av] (iv (sizeN p.hs)) := by
  refine pc_of_get size_get (by simp) _ (by simp) _ ?_
  unfold size_c
  simp
  refine loopN (fun i S => S.t 6 = .lst 2 (p.hs.map Hnd.av) ∧ S.t 7 = iv p.hs.length ∧ S.t 8 = iv i ∧ S.t 2 = iv (sizeN (p.hs.take i))) p.hs.length ?_ ?_
  · simp [sizeN]
  · rintro i S hi ⟨g1, g2, g3, g4⟩
    by_cases hlt : i < p.hs.length
    · simp [size_l0, g1, g2, g3, g4, hlt, wrap_succ i _ hlt (by omega)]
      have := sizeN_take p.hs i hlt
      have := sizeN_le p.hs (i + 1)
      rw [wrap_in _ (by omega) (by omega)]
      omega
    · have e1 : i = p.hs.length := by omega
      subst e1
      rw [List.take_length] at g4
      simp [size_l0, g1, g2, g3, g4]
theorem same_pc (p q : Prg) (hp : okP p) : PC Try.prog 28 [p.av, q.av] (.bool (decide (p = q))) := by
  refine pc_of_get same_get (by simp) _ (by simp) _ ?_
  unfold same_c
  have e := Prg.eq_iff p q
  obtain ⟨h1, h2, h3, h4, h5, h6⟩ := hp
  simp
  refine call (eqfH_pc p.hs q.hs 69 (fun a ha b => sameHnd_pc a b (h4 a ha)) h1) (by simp) ?_
  simp
  refine split (fun c1 => ?_) (fun c1 => ?_) <;> simp [c1]
  rotate_left
  · grind
  refine call (eqfA_pc p.as q.as 71 (fun a ha b => sameAct_pc a b (h5 a ha)) h2) (by simp) ?_
  simp
  refine split (fun c2 => ?_) (fun c2 => ?_) <;> simp [c2]
  rotate_left
  · grind
  refine call (eqfN_pc p.boot q.boot 61 (fun a ha b => sameNote_pc a b (h6 a ha)) h3) (by simp) ?_
  simp
  refine split (fun c3 => ?_) (fun c3 => ?_) <;> simp [c3]
  rotate_left
  · grind
  grind
theorem rsame_pc (p q : Prg) (hp : okP p) : PC Try.prog 27 [p.av, q.av] (.bool (decide (p = q))) := by
  refine pc_of_get rsame_get (by simp) _ (by simp) _ ?_
  unfold rsame_c
  have e := Prg.eq_iff p q
  obtain ⟨h1, h2, h3, h4, h5, h6⟩ := hp
  simp
  refine split (fun c1 => ?_) (fun c1 => ?_) <;> simp [c1]
  rotate_left
  · grind
  refine split (fun c2 => ?_) (fun c2 => ?_) <;> simp [c2]
  rotate_left
  · grind
  refine split (fun c3 => ?_) (fun c3 => ?_) <;> simp [c3]
  rotate_left
  · grind
  refine call (rnotes_pc p.boot q.boot h6 h3) (by simp) ?_
  simp
  refine split (fun c4 => ?_) (fun c4 => ?_) <;> simp [c4]
  rotate_left
  · grind
  have hlen : p.hs.length = q.hs.length := by omega
  have hlen2 : p.as.length = q.as.length := by omega
  refine loopN (fun i S => S.t 5 = iv i ∧ (∃ st, S.t 2 = .ptr 24002 st 4 0 0 ∧ S.blk 24002 = some ⟨st, 4, [p.av]⟩) ∧ (∃ st, S.t 3 = .ptr 24003 st 4 0 0 ∧ S.blk 24003 = some ⟨st, 4, [q.av]⟩) ∧
    (p.hs = q.hs ↔ p.hs.drop i = q.hs.drop i)) p.hs.length ?_ ?_
  · simp [c3, c4]
  · rintro i S hi ⟨g1, ⟨st, g2, g3⟩, ⟨st', g4, g5⟩, hh⟩
    by_cases hlt : i < p.hs.length
    · have hlt2 : i < q.hs.length := by omega
      rw [List.drop_eq_getElem_cons hlt, List.drop_eq_getElem_cons hlt2, List.cons.injEq, Hnd.eq_iff] at hh
      simp [rsame_l0, g1, g2, g3, g4, g5, hlt, hlt2]
      refine split (fun c5 => ?_) (fun c5 => ?_) <;> simp [c5, g1, g2, g3, g4, g5, hlt, hlt2]
      rotate_left
      · grind
      refine calld (rcode_pc p.hs[i].code q.hs[i].code (h4 _ (List.getElem_mem hlt))) (by simp) ?_
      simp [c5, g1, g2, g3, g4, g5, hlt, hlt2]
      refine split (fun c6 => ?_) (fun c6 => ?_) <;> simp [c6, g1, g2, g3, g4, g5, hlt, hlt2, wrap_succ i _ hlt h1] <;> grind
    · have e1 : i = p.hs.length := by omega
      subst e1
      have hle : q.hs.length ≤ p.hs.length := by omega
      simp [hle] at hh
      simp [rsame_l0, g1, g2, g3, g4, g5]
      refine loopN (fun i S => S.t 6 = iv i ∧ (∃ st, S.t 2 = .ptr 24002 st 4 0 0 ∧ S.blk 24002 = some ⟨st, 4, [p.av]⟩) ∧ (∃ st, S.t 3 = .ptr 24003 st 4 0 0 ∧ S.blk 24003 = some ⟨st, 4, [q.av]⟩) ∧
        (p.as = q.as ↔ p.as.drop i = q.as.drop i)) p.as.length ?_ ?_
      · simp [g2, g3, g4, g5]
      · rintro i S hi ⟨g1, ⟨st, g2, g3⟩, ⟨st', g4, g5⟩, hh2⟩
        by_cases hlt : i < p.as.length
        · have hlt2 : i < q.as.length := by omega
          rw [List.drop_eq_getElem_cons hlt, List.drop_eq_getElem_cons hlt2, List.cons.injEq, Actr.eq_iff] at hh2
          simp [rsame_l1, g1, g2, g3, g4, g5, hlt, hlt2]
          refine call (rints_pc p.as[i].regs q.as[i].regs (h5 _ (List.getElem_mem hlt))) (by simp) ?_
          simp [g1, g2, g3, g4, g5, hlt, hlt2]
          refine split (fun c5 => ?_) (fun c5 => ?_) <;> simp [c5, g1, g2, g3, g4, g5, hlt, hlt2]
          rotate_left
          · grind
          refine split (fun c6 => ?_) (fun c6 => ?_) <;> simp [c5, c6, g1, g2, g3, g4, g5, hlt, hlt2]
          rotate_left
          · grind
          refine split (fun c7 => ?_) (fun c7 => ?_) <;> simp [c5, c6, c7, g1, g2, g3, g4, g5, hlt, hlt2]
          rotate_left
          · grind
          have ws := wrap_succ i _ hlt h2
          cases ha : p.as[i].armed <;> cases hb : q.as[i].armed <;> simp [ha, hb, c5, c6, c7, g1, g2, g3, g4, g5, hlt, hlt2, ws] <;> grind
        · have e1 : i = p.as.length := by omega
          subst e1
          have hle : q.as.length ≤ p.as.length := by omega
          simp [hle] at hh2
          simp [rsame_l1, g1, g2, g3, g4, g5]
          grind


end Go.Gv
