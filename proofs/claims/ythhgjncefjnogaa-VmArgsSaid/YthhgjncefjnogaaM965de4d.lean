/- Texts of this proof, one behind the other. What is proved, and on which conditions, stands ahead of each. -/
import Derived.Test.YthhgjncefjnogaaProg
import Derived.Test.YthhgjncefjnogaaM8ced705
import Derived.Test.YthhgjncefjnogaaM71decca

/- Whether programs are small, how many instructions they have, and whether two are the same. No condition beyond a list's length below 2^62. -/
set_option linter.unusedVariables false
set_option linter.unusedSimpArgs false
namespace Go.Gv
open Go.Proofs

def small_r0 : List AI := [⟨(some 1), none, (.op (.box 19001 4 (.t 0)))⟩, ⟨(some 2), none, (.op (.mv (.c (.bool false))))⟩]
def small_r1 : List AI := [⟨(some 6), none, (.op (.fld 0 (.t 1)))⟩, ⟨(some 7), none, (.op (.load none (.t 6)))⟩, ⟨(some 8), none, (.op (.len (.t 7)))⟩, ⟨(some 9), none, (.op (.ibin .gtr (.t 8) (.c (.int .i64 18))))⟩, ⟨(some 10), none, (.op (.mv (.t 9)))⟩, ⟨(some 11), (some (10, false)), (.op (.fld 1 (.t 1)))⟩, ⟨(some 12), (some (10, false)), (.op (.load none (.t 11)))⟩, ⟨(some 13), (some (10, false)), (.op (.len (.t 12)))⟩, ⟨(some 14), (some (10, false)), (.op (.ibin .gtr (.t 13) (.c (.int .i64 10))))⟩, ⟨(some 15), none, (.op (.pick (.t 10) (.c (.bool true)) (.t 14)))⟩, ⟨(some 16), none, (.op (.mv (.t 15)))⟩, ⟨(some 17), (some (16, false)), (.op (.fld 2 (.t 1)))⟩, ⟨(some 18), (some (16, false)), (.op (.load none (.t 17)))⟩, ⟨(some 19), (some (16, false)), (.op (.len (.t 18)))⟩, ⟨(some 20), (some (16, false)), (.op (.ibin .gtr (.t 19) (.c (.int .i64 18))))⟩, ⟨(some 21), none, (.op (.pick (.t 16) (.c (.bool true)) (.t 20)))⟩]
def small_r2 : List AI := [⟨(some 2), none, (.op (.mv (.c (.bool false))))⟩]
def small_r3 : List AI := [⟨(some 3), none, (.op (.mv (.c (.int .i64 0))))⟩]
def small_r4 : List AI := [⟨(some 22), none, (.op (.mv (.t 3)))⟩, ⟨(some 23), none, (.op (.fld 0 (.t 1)))⟩, ⟨(some 24), none, (.op (.load none (.t 23)))⟩, ⟨(some 25), none, (.op (.len (.t 24)))⟩, ⟨(some 26), none, (.op (.ibin .lss (.t 22) (.t 25)))⟩]
def small_r5 : List AI := [⟨(some 29), none, (.op (.fld 0 (.t 1)))⟩, ⟨(some 30), none, (.op (.load none (.t 29)))⟩, ⟨(some 31), none, (.op (.mv (.t 3)))⟩, ⟨(some 32), none, (.op (.idx 2 (.t 30) (.t 31)))⟩, ⟨(some 33), none, (.op (.fld 1 (.t 32)))⟩, ⟨(some 34), none, (.op (.load none (.t 33)))⟩, ⟨(some 35), none, (.op (.len (.t 34)))⟩, ⟨(some 36), none, (.op (.ibin .gtr (.t 35) (.c (.int .i64 70))))⟩]
def small_r6 : List AI := [⟨(some 2), none, (.op (.mv (.c (.bool false))))⟩]
def small_r7 : List AI := [⟨(some 27), none, (.op (.mv (.t 3)))⟩, ⟨(some 28), none, (.op (.ibin .add (.t 27) (.c (.int .i64 1))))⟩, ⟨(some 3), none, (.op (.mv (.t 28)))⟩]
def small_l0 : AC := (.seq (.seq (.reg small_r4) (.cond (.t 26) .skip (.exit 0))) (.seq (.block 1 (.seq (.reg small_r5) (.cond (.t 36) (.seq (.reg small_r6) .ret) .skip))) (.reg small_r7)))
def small_r8 : List AI := [⟨(some 4), none, (.op (.mv (.c (.int .i64 0))))⟩]
def small_r9 : List AI := [⟨(some 37), none, (.op (.mv (.t 4)))⟩, ⟨(some 38), none, (.op (.fld 1 (.t 1)))⟩, ⟨(some 39), none, (.op (.load none (.t 38)))⟩, ⟨(some 40), none, (.op (.len (.t 39)))⟩, ⟨(some 41), none, (.op (.ibin .lss (.t 37) (.t 40)))⟩]
def small_r10 : List AI := [⟨(some 44), none, (.op (.fld 1 (.t 1)))⟩, ⟨(some 45), none, (.op (.load none (.t 44)))⟩, ⟨(some 46), none, (.op (.mv (.t 4)))⟩, ⟨(some 47), none, (.op (.idx 4 (.t 45) (.t 46)))⟩, ⟨(some 48), none, (.op (.fld 0 (.t 47)))⟩, ⟨(some 49), none, (.op (.load none (.t 48)))⟩, ⟨(some 50), none, (.op (.len (.t 49)))⟩, ⟨(some 51), none, (.op (.ibin .gtr (.t 50) (.c (.int .i64 10))))⟩]
def small_r11 : List AI := [⟨(some 2), none, (.op (.mv (.c (.bool false))))⟩]
def small_r12 : List AI := [⟨(some 42), none, (.op (.mv (.t 4)))⟩, ⟨(some 43), none, (.op (.ibin .add (.t 42) (.c (.int .i64 1))))⟩, ⟨(some 4), none, (.op (.mv (.t 43)))⟩]
def small_l1 : AC := (.seq (.seq (.reg small_r9) (.cond (.t 41) .skip (.exit 2))) (.seq (.block 3 (.seq (.reg small_r10) (.cond (.t 51) (.seq (.reg small_r11) .ret) .skip))) (.reg small_r12)))
def small_r13 : List AI := [⟨(some 5), none, (.op (.mv (.c (.int .i64 0))))⟩]
def small_r14 : List AI := [⟨(some 52), none, (.op (.mv (.t 5)))⟩, ⟨(some 53), none, (.op (.fld 2 (.t 1)))⟩, ⟨(some 54), none, (.op (.load none (.t 53)))⟩, ⟨(some 55), none, (.op (.len (.t 54)))⟩, ⟨(some 56), none, (.op (.ibin .lss (.t 52) (.t 55)))⟩]
def small_r15 : List AI := [⟨(some 59), none, (.op (.fld 2 (.t 1)))⟩, ⟨(some 60), none, (.op (.load none (.t 59)))⟩, ⟨(some 61), none, (.op (.mv (.t 5)))⟩, ⟨(some 62), none, (.op (.idx 3 (.t 60) (.t 61)))⟩, ⟨(some 63), none, (.op (.fld 2 (.t 62)))⟩, ⟨(some 64), none, (.op (.load none (.t 63)))⟩, ⟨(some 65), none, (.op (.len (.t 64)))⟩, ⟨(some 66), none, (.op (.ibin .gtr (.t 65) (.c (.int .i64 6))))⟩]
def small_r16 : List AI := [⟨(some 2), none, (.op (.mv (.c (.bool false))))⟩]
def small_r17 : List AI := [⟨(some 57), none, (.op (.mv (.t 5)))⟩, ⟨(some 58), none, (.op (.ibin .add (.t 57) (.c (.int .i64 1))))⟩, ⟨(some 5), none, (.op (.mv (.t 58)))⟩]
def small_l2 : AC := (.seq (.seq (.reg small_r14) (.cond (.t 56) .skip (.exit 4))) (.seq (.block 5 (.seq (.reg small_r15) (.cond (.t 66) (.seq (.reg small_r16) .ret) .skip))) (.reg small_r17)))
def small_r18 : List AI := [⟨(some 2), none, (.op (.mv (.c (.bool true))))⟩]
def small_c : AC := (.seq (.reg small_r0) (.seq (.seq (.reg small_r1) (.cond (.t 21) (.seq (.reg small_r2) .ret) .skip)) (.seq (.seq (.reg small_r3) (.block 0 (.loop small_l0))) (.seq (.seq (.reg small_r8) (.block 2 (.loop small_l1))) (.seq (.seq (.reg small_r13) (.block 4 (.loop small_l2))) (.seq (.reg small_r18) .ret))))))
def small_res : List ARes := [(.tmp 2)]
set_option maxRecDepth 100000 in
theorem small_get : getF Try.prog 24 19000 [] = some ("gavotte/gavottealike.Small", 67, small_c, small_res) := by kernel_rfl
def size_r0 : List AI := [⟨(some 1), none, (.op (.box 25001 4 (.t 0)))⟩, ⟨(some 2), none, (.op (.mv (.c (.int .i64 0))))⟩]
def size_r1 : List AI := [⟨(some 5), none, (.op (.fld 0 (.t 1)))⟩, ⟨(some 6), none, (.op (.load none (.t 5)))⟩, ⟨(some 7), none, (.op (.len (.t 6)))⟩, ⟨(some 8), none, (.op (.mv (.c (.int .i64 0))))⟩]
def size_r2 : List AI := [⟨(some 9), none, (.op (.ibin .lss (.t 8) (.t 7)))⟩]
def size_r3 : List AI := [⟨(some 10), none, (.op (.idx 2 (.t 6) (.t 8)))⟩, ⟨(some 11), none, (.op (.load (some 2) (.t 10)))⟩, ⟨(some 4), none, (.op (.new 25004 2 (.agg [(.int .i64 0), .nils])))⟩, ⟨none, none, (.op (.store 2 (.t 4) (.t 11)))⟩]
def size_r4 : List AI := [⟨(some 12), none, (.op (.mv (.t 2)))⟩, ⟨(some 13), none, (.op (.fld 1 (.t 4)))⟩, ⟨(some 14), none, (.op (.load none (.t 13)))⟩, ⟨(some 15), none, (.op (.len (.t 14)))⟩, ⟨(some 16), none, (.op (.ibin .add (.t 12) (.t 15)))⟩, ⟨(some 2), none, (.op (.mv (.t 16)))⟩]
def size_r5 : List AI := [⟨(some 17), none, (.op (.ibin .add (.t 8) (.c (.int .i64 1))))⟩, ⟨(some 8), none, (.op (.mv (.t 17)))⟩]
def size_l0 : AC := (.seq (.reg size_r2) (.seq (.cond (.t 9) .skip (.exit 0)) (.seq (.block 1 (.seq (.reg size_r3) (.reg size_r4))) (.reg size_r5))))
def size_r6 : List AI := [⟨(some 18), none, (.op (.mv (.t 2)))⟩, ⟨(some 2), none, (.op (.mv (.t 18)))⟩]
def size_c : AC := (.seq (.reg size_r0) (.seq (.seq (.reg size_r1) (.block 0 (.loop size_l0))) (.seq (.reg size_r6) .ret)))
def size_res : List ARes := [(.tmp 2)]
set_option maxRecDepth 100000 in
theorem size_get : getF Try.prog 60 25000 [] = some ("gavotte/prog.Size", 19, size_c, size_res) := by kernel_rfl
def same_r0 : List AI := [⟨(some 2), none, (.op (.box 23002 4 (.t 0)))⟩, ⟨(some 3), none, (.op (.box 23003 4 (.t 1)))⟩, ⟨(some 4), none, (.op (.mv (.c (.bool false))))⟩]
def same_r1 : List AI := [⟨(some 5), none, (.op (.fld 0 (.t 2)))⟩, ⟨(some 6), none, (.op (.load none (.t 5)))⟩, ⟨(some 7), none, (.op (.fld 0 (.t 3)))⟩, ⟨(some 8), none, (.op (.load none (.t 7)))⟩, ⟨(some 9), none, (.call (.c (.fn 68 [])) [(.t 6), (.t 8), (.c (.fn 69 []))])⟩, ⟨(some 10), none, (.op (.mv (.t 9)))⟩, ⟨(some 11), (some (10, true)), (.op (.fld 1 (.t 2)))⟩, ⟨(some 12), (some (10, true)), (.op (.load none (.t 11)))⟩, ⟨(some 13), (some (10, true)), (.op (.fld 1 (.t 3)))⟩, ⟨(some 14), (some (10, true)), (.op (.load none (.t 13)))⟩, ⟨(some 15), (some (10, true)), (.call (.c (.fn 70 [])) [(.t 12), (.t 14), (.c (.fn 71 []))])⟩, ⟨(some 16), none, (.op (.pick (.t 10) (.t 15) (.c (.bool false))))⟩, ⟨(some 17), none, (.op (.mv (.t 16)))⟩, ⟨(some 18), (some (17, true)), (.op (.fld 2 (.t 2)))⟩, ⟨(some 19), (some (17, true)), (.op (.load none (.t 18)))⟩, ⟨(some 20), (some (17, true)), (.op (.fld 2 (.t 3)))⟩, ⟨(some 21), (some (17, true)), (.op (.load none (.t 20)))⟩, ⟨(some 22), (some (17, true)), (.call (.c (.fn 72 [])) [(.t 19), (.t 21), (.c (.fn 61 []))])⟩, ⟨(some 23), none, (.op (.pick (.t 17) (.t 22) (.c (.bool false))))⟩, ⟨(some 24), none, (.op (.mv (.t 23)))⟩, ⟨(some 25), (some (24, true)), (.op (.fld 3 (.t 2)))⟩, ⟨(some 26), (some (24, true)), (.op (.load none (.t 25)))⟩, ⟨(some 27), (some (24, true)), (.op (.fld 3 (.t 3)))⟩, ⟨(some 28), (some (24, true)), (.op (.load none (.t 27)))⟩, ⟨(some 29), (some (24, true)), (.op (.ibin .eql (.t 26) (.t 28)))⟩, ⟨(some 30), none, (.op (.pick (.t 24) (.t 29) (.c (.bool false))))⟩, ⟨(some 4), none, (.op (.mv (.t 30)))⟩]
def same_c : AC := (.seq (.reg same_r0) (.seq (.reg same_r1) .ret))
def same_res : List ARes := [(.tmp 4)]
set_option maxRecDepth 100000 in
theorem same_get : getF Try.prog 28 23000 [] = some ("gavotte/prog.Same", 31, same_c, same_res) := by kernel_rfl
def rsame_r0 : List AI := [⟨(some 2), none, (.op (.box 24002 4 (.t 0)))⟩, ⟨(some 3), none, (.op (.box 24003 4 (.t 1)))⟩, ⟨(some 4), none, (.op (.mv (.c (.bool false))))⟩]
def rsame_r1 : List AI := [⟨(some 9), none, (.op (.fld 0 (.t 2)))⟩, ⟨(some 10), none, (.op (.load none (.t 9)))⟩, ⟨(some 11), none, (.op (.len (.t 10)))⟩, ⟨(some 12), none, (.op (.fld 0 (.t 3)))⟩, ⟨(some 13), none, (.op (.load none (.t 12)))⟩, ⟨(some 14), none, (.op (.len (.t 13)))⟩, ⟨(some 15), none, (.op (.ibin .neq (.t 11) (.t 14)))⟩, ⟨(some 16), none, (.op (.mv (.t 15)))⟩, ⟨(some 17), (some (16, false)), (.op (.fld 1 (.t 2)))⟩, ⟨(some 18), (some (16, false)), (.op (.load none (.t 17)))⟩, ⟨(some 19), (some (16, false)), (.op (.len (.t 18)))⟩, ⟨(some 20), (some (16, false)), (.op (.fld 1 (.t 3)))⟩, ⟨(some 21), (some (16, false)), (.op (.load none (.t 20)))⟩, ⟨(some 22), (some (16, false)), (.op (.len (.t 21)))⟩, ⟨(some 23), (some (16, false)), (.op (.ibin .neq (.t 19) (.t 22)))⟩, ⟨(some 24), none, (.op (.pick (.t 16) (.c (.bool true)) (.t 23)))⟩, ⟨(some 25), none, (.op (.mv (.t 24)))⟩, ⟨(some 26), (some (25, false)), (.op (.fld 3 (.t 2)))⟩, ⟨(some 27), (some (25, false)), (.op (.load none (.t 26)))⟩, ⟨(some 28), (some (25, false)), (.op (.fld 3 (.t 3)))⟩, ⟨(some 29), (some (25, false)), (.op (.load none (.t 28)))⟩, ⟨(some 30), (some (25, false)), (.op (.ibin .neq (.t 27) (.t 29)))⟩, ⟨(some 31), none, (.op (.pick (.t 25) (.c (.bool true)) (.t 30)))⟩, ⟨(some 32), none, (.op (.mv (.t 31)))⟩, ⟨(some 33), (some (32, false)), (.op (.fld 2 (.t 2)))⟩, ⟨(some 34), (some (32, false)), (.op (.load none (.t 33)))⟩, ⟨(some 35), (some (32, false)), (.op (.fld 2 (.t 3)))⟩, ⟨(some 36), (some (32, false)), (.op (.load none (.t 35)))⟩, ⟨(some 37), (some (32, false)), (.call (.c (.fn 65 [])) [(.t 34), (.t 36)])⟩, ⟨(some 38), (some (32, false)), (.op (.not (.t 37)))⟩, ⟨(some 39), none, (.op (.pick (.t 32) (.c (.bool true)) (.t 38)))⟩]
def rsame_r2 : List AI := [⟨(some 4), none, (.op (.mv (.c (.bool false))))⟩]
def rsame_r3 : List AI := [⟨(some 5), none, (.op (.mv (.c (.int .i64 0))))⟩]
def rsame_r4 : List AI := [⟨(some 40), none, (.op (.mv (.t 5)))⟩, ⟨(some 41), none, (.op (.fld 0 (.t 2)))⟩, ⟨(some 42), none, (.op (.load none (.t 41)))⟩, ⟨(some 43), none, (.op (.len (.t 42)))⟩, ⟨(some 44), none, (.op (.ibin .lss (.t 40) (.t 43)))⟩]
def rsame_r5 : List AI := [⟨(some 47), none, (.op (.fld 0 (.t 2)))⟩, ⟨(some 48), none, (.op (.load none (.t 47)))⟩, ⟨(some 49), none, (.op (.mv (.t 5)))⟩, ⟨(some 50), none, (.op (.idx 2 (.t 48) (.t 49)))⟩, ⟨(some 51), none, (.op (.fld 0 (.t 50)))⟩, ⟨(some 52), none, (.op (.load none (.t 51)))⟩, ⟨(some 53), none, (.op (.fld 0 (.t 3)))⟩, ⟨(some 54), none, (.op (.load none (.t 53)))⟩, ⟨(some 55), none, (.op (.mv (.t 5)))⟩, ⟨(some 56), none, (.op (.idx 2 (.t 54) (.t 55)))⟩, ⟨(some 57), none, (.op (.fld 0 (.t 56)))⟩, ⟨(some 58), none, (.op (.load none (.t 57)))⟩, ⟨(some 59), none, (.op (.ibin .neq (.t 52) (.t 58)))⟩, ⟨(some 60), none, (.op (.mv (.t 59)))⟩, ⟨(some 61), (some (60, false)), (.op (.fld 0 (.t 2)))⟩, ⟨(some 62), (some (60, false)), (.op (.load none (.t 61)))⟩, ⟨(some 63), (some (60, false)), (.op (.mv (.t 5)))⟩, ⟨(some 64), (some (60, false)), (.op (.idx 2 (.t 62) (.t 63)))⟩, ⟨(some 65), (some (60, false)), (.op (.fld 1 (.t 64)))⟩, ⟨(some 66), (some (60, false)), (.op (.load none (.t 65)))⟩, ⟨(some 67), (some (60, false)), (.op (.fld 0 (.t 3)))⟩, ⟨(some 68), (some (60, false)), (.op (.load none (.t 67)))⟩, ⟨(some 69), (some (60, false)), (.op (.mv (.t 5)))⟩, ⟨(some 70), (some (60, false)), (.op (.idx 2 (.t 68) (.t 69)))⟩, ⟨(some 71), (some (60, false)), (.op (.fld 1 (.t 70)))⟩, ⟨(some 72), (some (60, false)), (.op (.load none (.t 71)))⟩, ⟨(some 73), (some (60, false)), (.call (.c (.fn 66 [])) [(.t 66), (.t 72)])⟩, ⟨(some 74), (some (60, false)), (.op (.not (.t 73)))⟩, ⟨(some 75), none, (.op (.pick (.t 60) (.c (.bool true)) (.t 74)))⟩]
def rsame_p5 : List (List Nat) := [[], [0], [], [1, 2, 0], [3, 1, 2, 0], [4, 3, 1, 2, 0], [], [6], [], [7, 8, 6], [9, 7, 8, 6], [10, 9, 7, 8, 6], [5, 11, 4, 3, 1, 2, 0, 10, 9, 7, 8, 6], [12, 5, 11, 4, 3, 1, 2, 0, 10, 9, 7, 8, 6], [13, 12, 5, 11, 4, 3, 1, 2, 0, 10, 9, 7, 8, 6], [14, 13, 12, 5, 11, 4, 3, 1, 2, 0, 10, 9, 7, 8, 6], [13, 12, 5, 11, 4, 3, 1, 2, 0, 10, 9, 7, 8, 6], [15, 16, 13, 14, 12, 5, 11, 4, 3, 1, 2, 0, 10, 9, 7, 8, 6], [17, 13, 15, 16, 14, 12, 5, 11, 4, 3, 1, 2, 0, 10, 9, 7, 8, 6], [18, 13, 17, 15, 16, 14, 12, 5, 11, 4, 3, 1, 2, 0, 10, 9, 7, 8, 6], [13, 12, 5, 11, 4, 3, 1, 2, 0, 10, 9, 7, 8, 6], [20, 13, 12, 5, 11, 4, 3, 1, 2, 0, 10, 9, 7, 8, 6], [13, 12, 5, 11, 4, 3, 1, 2, 0, 10, 9, 7, 8, 6], [21, 22, 13, 20, 12, 5, 11, 4, 3, 1, 2, 0, 10, 9, 7, 8, 6], [23, 13, 21, 22, 20, 12, 5, 11, 4, 3, 1, 2, 0, 10, 9, 7, 8, 6], [24, 13, 23, 21, 22, 20, 12, 5, 11, 4, 3, 1, 2, 0, 10, 9, 7, 8, 6], [19, 25, 13, 18, 17, 15, 16, 14, 12, 5, 11, 4, 3, 1, 2, 0, 10, 9, 7, 8, 6, 24, 23, 21, 22, 20], [26, 13, 19, 25, 18, 17, 15, 16, 14, 12, 5, 11, 4, 3, 1, 2, 0, 10, 9, 7, 8, 6, 24, 23, 21, 22, 20], [13, 27, 12, 5, 11, 4, 3, 1, 2, 0, 10, 9, 7, 8, 6, 26, 19, 25, 18, 17, 15, 16, 14, 24, 23, 21, 22, 20]]
def rsame_r6 : List AI := [⟨(some 4), none, (.op (.mv (.c (.bool false))))⟩]
def rsame_r7 : List AI := [⟨(some 45), none, (.op (.mv (.t 5)))⟩, ⟨(some 46), none, (.op (.ibin .add (.t 45) (.c (.int .i64 1))))⟩, ⟨(some 5), none, (.op (.mv (.t 46)))⟩]
def rsame_l0 : AC := (.seq (.seq (.reg rsame_r4) (.cond (.t 44) .skip (.exit 0))) (.seq (.block 1 (.seq (.regd rsame_r5 rsame_p5) (.cond (.t 75) (.seq (.reg rsame_r6) .ret) .skip))) (.reg rsame_r7)))
def rsame_r8 : List AI := [⟨(some 6), none, (.op (.mv (.c (.int .i64 0))))⟩]
def rsame_r9 : List AI := [⟨(some 76), none, (.op (.mv (.t 6)))⟩, ⟨(some 77), none, (.op (.fld 1 (.t 2)))⟩, ⟨(some 78), none, (.op (.load none (.t 77)))⟩, ⟨(some 79), none, (.op (.len (.t 78)))⟩, ⟨(some 80), none, (.op (.ibin .lss (.t 76) (.t 79)))⟩]
def rsame_r10 : List AI := [⟨(some 83), none, (.op (.fld 1 (.t 2)))⟩, ⟨(some 84), none, (.op (.load none (.t 83)))⟩, ⟨(some 85), none, (.op (.mv (.t 6)))⟩, ⟨(some 86), none, (.op (.idx 4 (.t 84) (.t 85)))⟩, ⟨(some 87), none, (.op (.load (some 4) (.t 86)))⟩, ⟨(some 88), none, (.op (.fld 1 (.t 3)))⟩, ⟨(some 89), none, (.op (.load none (.t 88)))⟩, ⟨(some 90), none, (.op (.mv (.t 6)))⟩, ⟨(some 91), none, (.op (.idx 4 (.t 89) (.t 90)))⟩, ⟨(some 92), none, (.op (.load (some 4) (.t 91)))⟩, ⟨(some 7), none, (.op (.new 24007 4 (.agg [.nils, (.int .i64 0), (.int .i64 0), (.bool false)])))⟩, ⟨(some 8), none, (.op (.new 24008 4 (.agg [.nils, (.int .i64 0), (.int .i64 0), (.bool false)])))⟩, ⟨none, none, (.op (.store 4 (.t 7) (.t 87)))⟩, ⟨none, none, (.op (.store 4 (.t 8) (.t 92)))⟩]
def rsame_p10 : List (List Nat) := [[], [0], [], [1, 2, 0], [3, 1, 2, 0], [], [5], [], [6, 7, 5], [8, 6, 7, 5], [], [], [10, 4, 0, 1, 2, 3, 11], [11, 9, 12, 0, 1, 2, 3, 4, 5, 6, 7, 8, 10]]
def rsame_r11 : List AI := [⟨(some 93), none, (.op (.fld 0 (.t 7)))⟩, ⟨(some 94), none, (.op (.load none (.t 93)))⟩, ⟨(some 95), none, (.op (.fld 0 (.t 8)))⟩, ⟨(some 96), none, (.op (.load none (.t 95)))⟩, ⟨(some 97), none, (.call (.c (.fn 67 [])) [(.t 94), (.t 96)])⟩, ⟨(some 98), none, (.op (.not (.t 97)))⟩, ⟨(some 99), none, (.op (.mv (.t 98)))⟩, ⟨(some 100), (some (99, false)), (.op (.fld 1 (.t 7)))⟩, ⟨(some 101), (some (99, false)), (.op (.load none (.t 100)))⟩, ⟨(some 102), (some (99, false)), (.op (.fld 1 (.t 8)))⟩, ⟨(some 103), (some (99, false)), (.op (.load none (.t 102)))⟩, ⟨(some 104), (some (99, false)), (.op (.ibin .neq (.t 101) (.t 103)))⟩, ⟨(some 105), none, (.op (.pick (.t 99) (.c (.bool true)) (.t 104)))⟩, ⟨(some 106), none, (.op (.mv (.t 105)))⟩, ⟨(some 107), (some (106, false)), (.op (.fld 2 (.t 7)))⟩, ⟨(some 108), (some (106, false)), (.op (.load none (.t 107)))⟩, ⟨(some 109), (some (106, false)), (.op (.fld 2 (.t 8)))⟩, ⟨(some 110), (some (106, false)), (.op (.load none (.t 109)))⟩, ⟨(some 111), (some (106, false)), (.op (.ibin .neq (.t 108) (.t 110)))⟩, ⟨(some 112), none, (.op (.pick (.t 106) (.c (.bool true)) (.t 111)))⟩, ⟨(some 113), none, (.op (.mv (.t 112)))⟩, ⟨(some 114), (some (113, false)), (.op (.fld 3 (.t 7)))⟩, ⟨(some 115), (some (113, false)), (.op (.load none (.t 114)))⟩, ⟨(some 116), (some (113, false)), (.op (.fld 3 (.t 8)))⟩, ⟨(some 117), (some (113, false)), (.op (.load none (.t 116)))⟩, ⟨(some 118), (some (113, false)), (.op (.eqv true (.t 115) (.t 117)))⟩, ⟨(some 119), none, (.op (.pick (.t 113) (.c (.bool true)) (.t 118)))⟩]
def rsame_r12 : List AI := [⟨(some 4), none, (.op (.mv (.c (.bool false))))⟩]
def rsame_r13 : List AI := [⟨(some 81), none, (.op (.mv (.t 6)))⟩, ⟨(some 82), none, (.op (.ibin .add (.t 81) (.c (.int .i64 1))))⟩, ⟨(some 6), none, (.op (.mv (.t 82)))⟩]
def rsame_l1 : AC := (.seq (.seq (.reg rsame_r9) (.cond (.t 80) .skip (.exit 2))) (.seq (.block 3 (.seq (.regd rsame_r10 rsame_p10) (.seq (.reg rsame_r11) (.cond (.t 119) (.seq (.reg rsame_r12) .ret) .skip)))) (.reg rsame_r13)))
def rsame_r14 : List AI := [⟨(some 4), none, (.op (.mv (.c (.bool true))))⟩]
def rsame_c : AC := (.seq (.reg rsame_r0) (.seq (.seq (.reg rsame_r1) (.cond (.t 39) (.seq (.reg rsame_r2) .ret) .skip)) (.seq (.seq (.reg rsame_r3) (.block 0 (.loop rsame_l0))) (.seq (.seq (.reg rsame_r8) (.block 2 (.loop rsame_l1))) (.seq (.reg rsame_r14) .ret)))))
def rsame_res : List ARes := [(.tmp 4)]
set_option maxRecDepth 100000 in
theorem rsame_get : getF Try.prog 27 24000 [] = some ("gavotte/gavotteref1.SameProg", 120, rsame_c, rsame_res) := by kernel_rfl
attribute [simp] small_r0 small_r1 small_r2 small_r3 small_r4 small_r5 small_r6 small_r7 small_r8 small_r9 small_r10 small_r11 small_r12 small_r13 small_r14 small_r15 small_r16 small_r17 small_r18 small_res size_r0 size_r1 size_r2 size_r3 size_r4 size_r5 size_r6 size_res same_r0 same_r1 same_res rsame_r0 rsame_r1 rsame_r2 rsame_r3 rsame_r4 rsame_r5 rsame_p5 rsame_r6 rsame_r7 rsame_r8 rsame_r9 rsame_r10 rsame_p10 rsame_r11 rsame_r12 rsame_r13 rsame_r14 rsame_res

def smallV (p : Prg) : Prop := p.hs.length ≤ 18 ∧ p.as.length ≤ 10 ∧ p.boot.length ≤ 18 ∧ (∀ h ∈ p.hs, h.code.length ≤ 70) ∧ (∀ a ∈ p.as, a.regs.length ≤ 10) ∧ (∀ n ∈ p.boot, n.args.length ≤ 6)
instance (p : Prg) : Decidable (smallV p) := inferInstanceAs (Decidable (_ ∧ _))
def okP (p : Prg) : Prop := p.hs.length < 4611686018427387904 ∧ p.as.length < 4611686018427387904 ∧ p.boot.length < 4611686018427387904 ∧ (∀ h ∈ p.hs, h.code.length < 4611686018427387904) ∧ (∀ a ∈ p.as, a.regs.length < 4611686018427387904) ∧ (∀ n ∈ p.boot, n.args.length < 4611686018427387904)
theorem okP_of_small (p : Prg) (h : smallV p) : okP p := by
  obtain ⟨h1, h2, h3, h4, h5, h6⟩ := h
  exact ⟨by omega, by omega, by omega, fun x hx => by have := h4 x hx; omega, fun x hx => by have := h5 x hx; omega, fun x hx => by have := h6 x hx; omega⟩
theorem all_drop {α : Type} (l : List α) (P : α → Prop) (i : Nat) (h : i < l.length) : (∀ x ∈ l.drop i, P x) ↔ P l[i] ∧ ∀ x ∈ l.drop (i + 1), P x := by
  rw [List.drop_eq_getElem_cons h]; simp only [List.mem_cons, forall_eq_or_imp]
theorem small_pc (p : Prg) : PC Try.prog 24 [p.av] (.bool (decide (smallV p))) := by
  refine pc_of_get small_get (by simp) _ (by simp) _ ?_
  unfold small_c
  simp
  refine split (fun h1 => ?_) (fun h1 => ?_) <;> simp [h1]
  · intro h; have := h.1; omega
  refine split (fun h2 => ?_) (fun h2 => ?_) <;> simp [h2]
  · intro h; have := h.2.1; omega
  refine split (fun h3 => ?_) (fun h3 => ?_) <;> simp [h3]
  · intro h; have := h.2.2.1; omega
  have e : smallV p ↔ (∀ h ∈ p.hs, h.code.length ≤ 70) ∧ (∀ a ∈ p.as, a.regs.length ≤ 10) ∧ (∀ n ∈ p.boot, n.args.length ≤ 6) := by
    unfold smallV
    constructor
    · intro h; exact h.2.2.2
    · intro h; exact ⟨by omega, by omega, by omega, h⟩
  refine loopN (fun i S => S.t 3 = iv i ∧ (∃ st, S.t 1 = .ptr 19001 st 4 0 0 ∧ S.blk 19001 = some ⟨st, 4, [p.av]⟩) ∧
    ((∀ h ∈ p.hs, h.code.length ≤ 70) ↔ ∀ h ∈ p.hs.drop i, h.code.length ≤ 70)) p.hs.length ?_ ?_
  · simp
  · rintro i S hi ⟨g1, ⟨st, g2, g3⟩, hh⟩
    by_cases hlt : i < p.hs.length
    · rw [all_drop _ _ _ hlt] at hh
      simp [small_l0, g1, g2, g3, hlt]
      refine split (fun c1 => ?_) (fun c1 => ?_) <;> simp [c1, g1, g2, g3, hlt, wrap_succ i _ hlt (by omega)]
      · intro h; have := (hh.1 (e.1 h).1).1; omega
      · rw [hh]; exact ⟨fun h => h.2, fun h => ⟨by omega, h⟩⟩
    · have e1 : i = p.hs.length := by omega
      subst e1
      simp at hh
      simp [small_l0, g1, g2, g3]
      refine loopN (fun i S => S.t 4 = iv i ∧ (∃ st, S.t 1 = .ptr 19001 st 4 0 0 ∧ S.blk 19001 = some ⟨st, 4, [p.av]⟩) ∧
        ((∀ h ∈ p.as, h.regs.length ≤ 10) ↔ ∀ h ∈ p.as.drop i, h.regs.length ≤ 10)) p.as.length ?_ ?_
      · simp [g2, g3]
      · rintro i S hi ⟨g1, ⟨st, g2, g3⟩, hh2⟩
        by_cases hlt : i < p.as.length
        · rw [all_drop _ _ _ hlt] at hh2
          simp [small_l1, g1, g2, g3, hlt]
          refine split (fun c1 => ?_) (fun c1 => ?_) <;> simp [c1, g1, g2, g3, hlt, wrap_succ i _ hlt (by omega)]
          · intro h; have := (hh2.1 (e.1 h).2.1).1; omega
          · rw [hh2]; exact ⟨fun h => h.2, fun h => ⟨by omega, h⟩⟩
        · have e1 : i = p.as.length := by omega
          subst e1
          simp at hh2
          simp [small_l1, g1, g2, g3]
          refine loopN (fun i S => S.t 5 = iv i ∧ (∃ st, S.t 1 = .ptr 19001 st 4 0 0 ∧ S.blk 19001 = some ⟨st, 4, [p.av]⟩) ∧
            ((∀ h ∈ p.boot, h.args.length ≤ 6) ↔ ∀ h ∈ p.boot.drop i, h.args.length ≤ 6)) p.boot.length ?_ ?_
          · simp [g2, g3]
          · rintro i S hi ⟨g1, ⟨st, g2, g3⟩, hh3⟩
            by_cases hlt : i < p.boot.length
            · rw [all_drop _ _ _ hlt] at hh3
              simp [small_l2, g1, g2, g3, hlt]
              refine split (fun c1 => ?_) (fun c1 => ?_) <;> simp [c1, g1, g2, g3, hlt, wrap_succ i _ hlt (by omega)]
              · intro h; have := (hh3.1 (e.1 h).2.2).1; omega
              · rw [hh3]; exact ⟨fun h => h.2, fun h => ⟨by omega, h⟩⟩
            · have e1 : i = p.boot.length := by omega
              subst e1
              simp at hh3
              simp [small_l2, g1, g2, g3]
              exact e.2 ⟨hh, hh2, hh3⟩
def sizeN : List Hnd → Nat
  | [] => 0
  | h :: l => h.code.length + sizeN l
theorem sizeN_take (l : List Hnd) (i : Nat) (h : i < l.length) : sizeN (l.take (i + 1)) = sizeN (l.take i) + l[i].code.length := by
  induction l generalizing i with
  | nil => simp at h
  | cons a l ih =>
    cases i with
    | zero => simp [sizeN]
    | succ i => simp only [List.take_succ_cons, sizeN, List.getElem_cons_succ]; rw [ih i (by simpa using h)]; omega
theorem sizeN_le (l : List Hnd) (i : Nat) : sizeN (l.take i) ≤ sizeN l := by
  induction l generalizing i with
  | nil => simp
  | cons a l ih =>
    cases i with
    | zero => simp [sizeN]
    | succ i => simp only [List.take_succ_cons, sizeN]; have := ih i; omega
theorem size_pc (p : Prg) (hl : p.hs.length < 4611686018427387904) (hs : sizeN p.hs < 4611686018427387904) : PC Try.prog 60 [p.av] (iv (sizeN p.hs)) := by
  refine pc_of_get size_get (by simp) _ (by simp) _ ?_
  unfold size_c
  simp
  refine loopN (fun i S => S.t 6 = .lst 2 (p.hs.map Hnd.av) ∧ S.t 7 = iv p.hs.length ∧ S.t 8 = iv i ∧ S.t 2 = iv (sizeN (p.hs.take i))) p.hs.length ?_ ?_
  · simp [sizeN]
  · rintro i S hi ⟨g1, g2, g3, g4⟩
    by_cases hlt : i < p.hs.length
    · simp [size_l0, g1, g2, g3, g4, hlt, wrap_succ i _ hlt (by omega)]
      have := sizeN_take p.hs i hlt
      have := sizeN_le p.hs (i + 1)
      rw [wrap_in _ (by omega) (by omega)]
      omega
    · have e1 : i = p.hs.length := by omega
      subst e1
      rw [List.take_length] at g4
      simp [size_l0, g1, g2, g3, g4]
theorem same_pc (p q : Prg) (hp : okP p) : PC Try.prog 28 [p.av, q.av] (.bool (decide (p = q))) := by
  refine pc_of_get same_get (by simp) _ (by simp) _ ?_
  unfold same_c
  have e := Prg.eq_iff p q
  obtain ⟨h1, h2, h3, h4, h5, h6⟩ := hp
  simp
  refine call (eqfH_pc p.hs q.hs 69 (fun a ha b => sameHnd_pc a b (h4 a ha)) h1) (by simp) ?_
  simp
  refine split (fun c1 => ?_) (fun c1 => ?_) <;> simp [c1]
  rotate_left
  · grind
  refine call (eqfA_pc p.as q.as 71 (fun a ha b => sameAct_pc a b (h5 a ha)) h2) (by simp) ?_
  simp
  refine split (fun c2 => ?_) (fun c2 => ?_) <;> simp [c2]
  rotate_left
  · grind
  refine call (eqfN_pc p.boot q.boot 61 (fun a ha b => sameNote_pc a b (h6 a ha)) h3) (by simp) ?_
  simp
  refine split (fun c3 => ?_) (fun c3 => ?_) <;> simp [c3]
  rotate_left
  · grind
  grind
theorem rsame_pc (p q : Prg) (hp : okP p) : PC Try.prog 27 [p.av, q.av] (.bool (decide (p = q))) := by
  refine pc_of_get rsame_get (by simp) _ (by simp) _ ?_
  unfold rsame_c
  have e := Prg.eq_iff p q
  obtain ⟨h1, h2, h3, h4, h5, h6⟩ := hp
  simp
  refine split (fun c1 => ?_) (fun c1 => ?_) <;> simp [c1]
  rotate_left
  · grind
  refine split (fun c2 => ?_) (fun c2 => ?_) <;> simp [c2]
  rotate_left
  · grind
  refine split (fun c3 => ?_) (fun c3 => ?_) <;> simp [c3]
  rotate_left
  · grind
  refine call (rnotes_pc p.boot q.boot h6 h3) (by simp) ?_
  simp
  refine split (fun c4 => ?_) (fun c4 => ?_) <;> simp [c4]
  rotate_left
  · grind
  have hlen : p.hs.length = q.hs.length := by omega
  have hlen2 : p.as.length = q.as.length := by omega
  refine loopN (fun i S => S.t 5 = iv i ∧ (∃ st, S.t 2 = .ptr 24002 st 4 0 0 ∧ S.blk 24002 = some ⟨st, 4, [p.av]⟩) ∧ (∃ st, S.t 3 = .ptr 24003 st 4 0 0 ∧ S.blk 24003 = some ⟨st, 4, [q.av]⟩) ∧
    (p.hs = q.hs ↔ p.hs.drop i = q.hs.drop i)) p.hs.length ?_ ?_
  · simp [c3, c4]
  · rintro i S hi ⟨g1, ⟨st, g2, g3⟩, ⟨st', g4, g5⟩, hh⟩
    by_cases hlt : i < p.hs.length
    · have hlt2 : i < q.hs.length := by omega
      rw [List.drop_eq_getElem_cons hlt, List.drop_eq_getElem_cons hlt2, List.cons.injEq, Hnd.eq_iff] at hh
      simp [rsame_l0, g1, g2, g3, g4, g5, hlt, hlt2]
      refine split (fun c5 => ?_) (fun c5 => ?_) <;> simp [c5, g1, g2, g3, g4, g5, hlt, hlt2]
      rotate_left
      · grind
      refine calld (rcode_pc p.hs[i].code q.hs[i].code (h4 _ (List.getElem_mem hlt))) (by simp) ?_
      simp [c5, g1, g2, g3, g4, g5, hlt, hlt2]
      refine split (fun c6 => ?_) (fun c6 => ?_) <;> simp [c6, g1, g2, g3, g4, g5, hlt, hlt2, wrap_succ i _ hlt h1] <;> grind
    · have e1 : i = p.hs.length := by omega
      subst e1
      have hle : q.hs.length ≤ p.hs.length := by omega
      simp [hle] at hh
      simp [rsame_l0, g1, g2, g3, g4, g5]
      refine loopN (fun i S => S.t 6 = iv i ∧ (∃ st, S.t 2 = .ptr 24002 st 4 0 0 ∧ S.blk 24002 = some ⟨st, 4, [p.av]⟩) ∧ (∃ st, S.t 3 = .ptr 24003 st 4 0 0 ∧ S.blk 24003 = some ⟨st, 4, [q.av]⟩) ∧
        (p.as = q.as ↔ p.as.drop i = q.as.drop i)) p.as.length ?_ ?_
      · simp [g2, g3, g4, g5]
      · rintro i S hi ⟨g1, ⟨st, g2, g3⟩, ⟨st', g4, g5⟩, hh2⟩
        by_cases hlt : i < p.as.length
        · have hlt2 : i < q.as.length := by omega
          rw [List.drop_eq_getElem_cons hlt, List.drop_eq_getElem_cons hlt2, List.cons.injEq, Actr.eq_iff] at hh2
          simp [rsame_l1, g1, g2, g3, g4, g5, hlt, hlt2]
          refine call (rints_pc p.as[i].regs q.as[i].regs (h5 _ (List.getElem_mem hlt))) (by simp) ?_
          simp [g1, g2, g3, g4, g5, hlt, hlt2]
          refine split (fun c5 => ?_) (fun c5 => ?_) <;> simp [c5, g1, g2, g3, g4, g5, hlt, hlt2]
          rotate_left
          · grind
          refine split (fun c6 => ?_) (fun c6 => ?_) <;> simp [c5, c6, g1, g2, g3, g4, g5, hlt, hlt2]
          rotate_left
          · grind
          refine split (fun c7 => ?_) (fun c7 => ?_) <;> simp [c5, c6, c7, g1, g2, g3, g4, g5, hlt, hlt2]
          rotate_left
          · grind
          have ws := wrap_succ i _ hlt h2
          cases ha : p.as[i].armed <;> cases hb : q.as[i].armed <;> simp [ha, hb, c5, c6, c7, g1, g2, g3, g4, g5, hlt, hlt2, ws] <;> grind
        · have e1 : i = p.as.length := by omega
          subst e1
          have hle : q.as.length ≤ p.as.length := by omega
          simp [hle] at hh2
          simp [rsame_l1, g1, g2, g3, g4, g5]
          grind


end Go.Gv

/- What slices.Clone, prog.CopyNote and prog.Copy answer. Lists of at most 1000. -/
set_option linter.unusedVariables false
set_option linter.unusedSimpArgs false
namespace Go.Gv
open Go.Proofs

def cloneI_r0 : List AI := [⟨(some 2), none, (.op (.mv (.c .nils)))⟩]
def cloneI_r1 : List AI := [⟨(some 3), none, (.op (.mv (.t 0)))⟩, ⟨(some 4), none, (.nq 0 false (.t 3))⟩]
def cloneI_r2 : List AI := [⟨(some 2), none, (.op (.mv (.c .nils)))⟩]
def cloneI_r3 : List AI := [⟨(some 5), none, (.op (.bsl 63005 1 3 0 (.int .i64 0) []))⟩, ⟨(some 6), none, (.op (.mv (.t 0)))⟩, ⟨(some 7), none, (.op (.app 63007 1 3 8 (.t 5) (.t 6)))⟩, ⟨(some 2), none, (.op (.mv (.t 7)))⟩]
def cloneI_c : AC := (.seq (.reg cloneI_r0) (.seq (.seq (.reg cloneI_r1) (.cond (.t 4) (.seq (.reg cloneI_r2) .ret) .skip)) (.seq (.reg cloneI_r3) .ret)))
def cloneI_res : List ARes := [(.tmp 2)]
set_option maxRecDepth 100000 in
theorem cloneI_get : getF Try.prog 63 63000 [] = some ("slices.Clone[[]int,int]", 8, cloneI_c, cloneI_res) := by kernel_rfl
def cloneC_r0 : List AI := [⟨(some 2), none, (.op (.mv (.c .nils)))⟩]
def cloneC_r1 : List AI := [⟨(some 3), none, (.op (.mv (.t 0)))⟩, ⟨(some 4), none, (.nq 0 false (.t 3))⟩]
def cloneC_r2 : List AI := [⟨(some 2), none, (.op (.mv (.c .nils)))⟩]
def cloneC_r3 : List AI := [⟨(some 5), none, (.op (.bsl 62005 2 35 0 (.agg [(.int .i64 0), (.int .i64 0)]) []))⟩, ⟨(some 6), none, (.op (.mv (.t 0)))⟩, ⟨(some 7), none, (.op (.app 62007 2 35 16 (.t 5) (.t 6)))⟩, ⟨(some 2), none, (.op (.mv (.t 7)))⟩]
def cloneC_c : AC := (.seq (.reg cloneC_r0) (.seq (.seq (.reg cloneC_r1) (.cond (.t 4) (.seq (.reg cloneC_r2) .ret) .skip)) (.seq (.reg cloneC_r3) .ret)))
def cloneC_res : List ARes := [(.tmp 2)]
set_option maxRecDepth 100000 in
theorem cloneC_get : getF Try.prog 62 62000 [] = some ("slices.Clone[[]gavotte/api.Instr,gavotte/api.Instr]", 8, cloneC_c, cloneC_res) := by kernel_rfl
def copyNote_r0 : List AI := [⟨(some 1), none, (.op (.box 51001 3 (.t 0)))⟩, ⟨(some 2), none, (.op (.new 51002 3 (.agg [(.int .i64 0), (.int .i64 0), .nils])))⟩]
def copyNote_r1 : List AI := [⟨(some 3), none, (.op (.fld 2 (.t 1)))⟩, ⟨(some 4), none, (.op (.load none (.t 3)))⟩, ⟨(some 5), none, (.call (.c (.fn 63 [])) [(.t 4)])⟩, ⟨(some 6), none, (.op (.fld 2 (.t 1)))⟩, ⟨none, none, (.op (.store 1 (.t 6) (.t 5)))⟩]
def copyNote_r2 : List AI := [⟨(some 7), none, (.op (.load (some 3) (.t 1)))⟩, ⟨none, none, (.op (.store 3 (.t 2) (.t 7)))⟩]
def copyNote_c : AC := (.seq (.reg copyNote_r0) (.seq (.reg copyNote_r1) (.seq (.reg copyNote_r2) .ret)))
def copyNote_res : List ARes := [(.cell (some 3) 2)]
set_option maxRecDepth 100000 in
theorem copyNote_get : getF Try.prog 64 51000 [] = some ("gavotte/prog.CopyNote", 8, copyNote_c, copyNote_res) := by kernel_rfl
def copyP_r0 : List AI := [⟨(some 1), none, (.op (.box 26001 4 (.t 0)))⟩, ⟨(some 2), none, (.op (.new 26002 4 (.agg [.nils, .nils, .nils, (.int .i64 0)])))⟩]
def copyP_r1 : List AI := [⟨(some 10), none, (.op (.fld 3 (.t 1)))⟩, ⟨(some 11), none, (.op (.load none (.t 10)))⟩, ⟨(some 12), none, (.op (.build [.nils, .nils, .nils, (.int .i64 0)] [(3, (1, (.t 11)))]))⟩, ⟨(some 3), none, (.op (.new 26003 4 (.agg [.nils, .nils, .nils, (.int .i64 0)])))⟩, ⟨none, none, (.op (.store 4 (.t 3) (.t 12)))⟩]
def copyP_r2 : List AI := [⟨(some 13), none, (.op (.fld 0 (.t 1)))⟩, ⟨(some 14), none, (.op (.load none (.t 13)))⟩, ⟨(some 15), none, (.op (.len (.t 14)))⟩, ⟨(some 16), none, (.op (.mv (.c (.int .i64 0))))⟩]
def copyP_r3 : List AI := [⟨(some 17), none, (.op (.ibin .lss (.t 16) (.t 15)))⟩]
def copyP_r4 : List AI := [⟨(some 18), none, (.op (.idx 2 (.t 14) (.t 16)))⟩, ⟨(some 19), none, (.op (.load (some 2) (.t 18)))⟩, ⟨(some 5), none, (.op (.new 26005 2 (.agg [(.int .i64 0), .nils])))⟩, ⟨none, none, (.op (.store 2 (.t 5) (.t 19)))⟩]
def copyP_r5 : List AI := [⟨(some 20), none, (.op (.fld 0 (.t 3)))⟩, ⟨(some 21), none, (.op (.load none (.t 20)))⟩, ⟨(some 22), none, (.op (.fld 0 (.t 5)))⟩, ⟨(some 23), none, (.op (.load none (.t 22)))⟩, ⟨(some 24), none, (.op (.fld 1 (.t 5)))⟩, ⟨(some 25), none, (.op (.load none (.t 24)))⟩, ⟨(some 26), none, (.call (.c (.fn 62 [])) [(.t 25)])⟩, ⟨(some 27), none, (.op (.build [(.int .i64 0), .nils] [(0, (1, (.t 23))), (1, (1, (.t 26)))]))⟩, ⟨(some 28), none, (.op (.bsl 26028 2 33 1 (.agg [(.int .i64 0), .nils]) [(0, (.t 27))]))⟩, ⟨(some 29), none, (.op (.app 26029 2 33 32 (.t 21) (.t 28)))⟩, ⟨(some 30), none, (.op (.fld 0 (.t 3)))⟩, ⟨none, none, (.op (.store 1 (.t 30) (.t 29)))⟩]
def copyP_p5 : List (List Nat) := [[], [0], [], [2], [], [4], [5, 4], [3, 6, 2, 5, 4], [7, 3, 6, 2, 5, 4], [1, 8, 6, 0, 7, 3, 2, 5, 4], [0, 1, 2, 3, 4, 5, 6, 7, 8, 9], [10, 9, 0, 1, 2, 3, 4, 5, 6, 7, 8]]
def copyP_r6 : List AI := [⟨(some 31), none, (.op (.ibin .add (.t 16) (.c (.int .i64 1))))⟩, ⟨(some 16), none, (.op (.mv (.t 31)))⟩]
def copyP_l0 : AC := (.seq (.reg copyP_r3) (.seq (.cond (.t 17) .skip (.exit 0)) (.seq (.block 1 (.seq (.reg copyP_r4) (.regd copyP_r5 copyP_p5))) (.reg copyP_r6))))
def copyP_r7 : List AI := [⟨(some 32), none, (.op (.fld 1 (.t 1)))⟩, ⟨(some 33), none, (.op (.load none (.t 32)))⟩, ⟨(some 34), none, (.op (.len (.t 33)))⟩, ⟨(some 35), none, (.op (.mv (.c (.int .i64 0))))⟩]
def copyP_r8 : List AI := [⟨(some 36), none, (.op (.ibin .lss (.t 35) (.t 34)))⟩]
def copyP_r9 : List AI := [⟨(some 37), none, (.op (.idx 4 (.t 33) (.t 35)))⟩, ⟨(some 38), none, (.op (.load (some 4) (.t 37)))⟩, ⟨(some 7), none, (.op (.new 26007 4 (.agg [.nils, (.int .i64 0), (.int .i64 0), (.bool false)])))⟩, ⟨none, none, (.op (.store 4 (.t 7) (.t 38)))⟩]
def copyP_r10 : List AI := [⟨(some 39), none, (.op (.fld 0 (.t 7)))⟩, ⟨(some 40), none, (.op (.load none (.t 39)))⟩, ⟨(some 41), none, (.call (.c (.fn 63 [])) [(.t 40)])⟩, ⟨(some 42), none, (.op (.fld 0 (.t 7)))⟩, ⟨none, none, (.op (.store 1 (.t 42) (.t 41)))⟩]
def copyP_r11 : List AI := [⟨(some 43), none, (.op (.fld 1 (.t 3)))⟩, ⟨(some 44), none, (.op (.load none (.t 43)))⟩, ⟨(some 45), none, (.op (.load (some 4) (.t 7)))⟩, ⟨(some 46), none, (.op (.bsl 26046 4 38 1 (.agg [.nils, (.int .i64 0), (.int .i64 0), (.bool false)]) [(0, (.t 45))]))⟩, ⟨(some 47), none, (.op (.app 26047 4 38 48 (.t 44) (.t 46)))⟩, ⟨(some 48), none, (.op (.fld 1 (.t 3)))⟩, ⟨none, none, (.op (.store 1 (.t 48) (.t 47)))⟩]
def copyP_r12 : List AI := [⟨(some 49), none, (.op (.ibin .add (.t 35) (.c (.int .i64 1))))⟩, ⟨(some 35), none, (.op (.mv (.t 49)))⟩]
def copyP_l1 : AC := (.seq (.reg copyP_r8) (.seq (.cond (.t 36) .skip (.exit 2)) (.seq (.block 3 (.seq (.reg copyP_r9) (.seq (.reg copyP_r10) (.reg copyP_r11)))) (.reg copyP_r12))))
def copyP_r13 : List AI := [⟨(some 50), none, (.op (.fld 2 (.t 1)))⟩, ⟨(some 51), none, (.op (.load none (.t 50)))⟩, ⟨(some 52), none, (.op (.len (.t 51)))⟩, ⟨(some 53), none, (.op (.mv (.c (.int .i64 0))))⟩]
def copyP_r14 : List AI := [⟨(some 54), none, (.op (.ibin .lss (.t 53) (.t 52)))⟩]
def copyP_r15 : List AI := [⟨(some 55), none, (.op (.idx 3 (.t 51) (.t 53)))⟩, ⟨(some 56), none, (.op (.load (some 3) (.t 55)))⟩, ⟨(some 9), none, (.op (.new 26009 3 (.agg [(.int .i64 0), (.int .i64 0), .nils])))⟩, ⟨none, none, (.op (.store 3 (.t 9) (.t 56)))⟩]
def copyP_r16 : List AI := [⟨(some 57), none, (.op (.fld 2 (.t 3)))⟩, ⟨(some 58), none, (.op (.load none (.t 57)))⟩, ⟨(some 59), none, (.op (.load (some 3) (.t 9)))⟩, ⟨(some 60), none, (.call (.c (.fn 64 [])) [(.t 59)])⟩, ⟨(some 61), none, (.op (.bsl 26061 3 40 1 (.agg [(.int .i64 0), (.int .i64 0), .nils]) [(0, (.t 60))]))⟩, ⟨(some 62), none, (.op (.app 26062 3 40 40 (.t 58) (.t 61)))⟩, ⟨(some 63), none, (.op (.fld 2 (.t 3)))⟩, ⟨none, none, (.op (.store 1 (.t 63) (.t 62)))⟩]
def copyP_p16 : List (List Nat) := [[], [0], [], [2], [3, 2], [1, 4, 3, 0, 2], [0, 1, 2, 3, 4, 5], [6, 5, 0, 1, 2, 3, 4]]
def copyP_r17 : List AI := [⟨(some 64), none, (.op (.ibin .add (.t 53) (.c (.int .i64 1))))⟩, ⟨(some 53), none, (.op (.mv (.t 64)))⟩]
def copyP_l2 : AC := (.seq (.reg copyP_r14) (.seq (.cond (.t 54) .skip (.exit 4)) (.seq (.block 5 (.seq (.reg copyP_r15) (.regd copyP_r16 copyP_p16))) (.reg copyP_r17))))
def copyP_r18 : List AI := [⟨(some 65), none, (.op (.load (some 4) (.t 3)))⟩, ⟨none, none, (.op (.store 4 (.t 2) (.t 65)))⟩]
def copyP_c : AC := (.seq (.reg copyP_r0) (.seq (.reg copyP_r1) (.seq (.seq (.reg copyP_r2) (.block 0 (.loop copyP_l0))) (.seq (.seq (.reg copyP_r7) (.block 2 (.loop copyP_l1))) (.seq (.seq (.reg copyP_r13) (.block 4 (.loop copyP_l2))) (.seq (.reg copyP_r18) .ret))))))
def copyP_res : List ARes := [(.cell (some 4) 2)]
set_option maxRecDepth 100000 in
theorem copyP_get : getF Try.prog 26 26000 [] = some ("gavotte/prog.Copy", 66, copyP_c, copyP_res) := by kernel_rfl
attribute [simp] cloneI_r0 cloneI_r1 cloneI_r2 cloneI_r3 cloneI_res cloneC_r0 cloneC_r1 cloneC_r2 cloneC_r3 cloneC_res copyNote_r0 copyNote_r1 copyNote_r2 copyNote_res copyP_r0 copyP_r1 copyP_r2 copyP_r3 copyP_r4 copyP_r5 copyP_p5 copyP_r6 copyP_r7 copyP_r8 copyP_r9 copyP_r10 copyP_r11 copyP_r12 copyP_r13 copyP_r14 copyP_r15 copyP_r16 copyP_p16 copyP_r17 copyP_r18 copyP_res

theorem cloneIns_pc (l : List Ins) (h : l.length ≤ 1000) : PC Try.prog 62 [.lst 2 (l.map Ins.av)] (.lst 2 (l.map Ins.av)) := by
  refine pc_of_get cloneC_get (by simp) _ (by simp) _ ?_
  unfold cloneC_c
  cases l with
  | nil =>
    simp
    refine opG_none _ _ ?_ ?_ <;> simp
  | cons x l =>
    simp at h
    simp [ints]
    rw [if_pos (by omega)]
    simp
theorem cloneInts_pc (l : List Int) (h : l.length ≤ 1000) : PC Try.prog 63 [ints l] (ints l) := by
  refine pc_of_get cloneI_get (by simp) _ (by simp) _ ?_
  unfold cloneI_c
  cases l with
  | nil =>
    simp
    refine opG_none _ _ ?_ ?_ <;> simp
  | cons x l =>
    simp at h
    simp [ints]
    rw [if_pos (by omega)]
    simp
theorem copyNote_pc (n : Nt) (h : n.args.length ≤ 1000) : PC Try.prog 64 [n.av] n.av := by
  refine pc_of_get copyNote_get (by simp) _ (by simp) _ ?_
  unfold copyNote_c
  simp
  refine call (cloneInts_pc n.args h) (by simp) ?_
  simp
def fitP (p : Prg) : Prop := p.hs.length ≤ 1000 ∧ p.as.length ≤ 1000 ∧ p.boot.length ≤ 1000 ∧ (∀ h ∈ p.hs, h.code.length ≤ 1000) ∧ (∀ a ∈ p.as, a.regs.length ≤ 1000) ∧ (∀ n ∈ p.boot, n.args.length ≤ 1000)
def AccIs (S : St) (v : AV) (nm sz : Nat) (ty : TypeId) (xs : List AV) : Prop := (v = .nils ∧ xs = []) ∨ ∃ st, v = .acc nm st sz xs ∧ S.tok nm = some ⟨st, sz, ty⟩
theorem take_succ_map {α : Type} (f : α → AV) (l : List α) (i : Nat) (h : i < l.length) : (l.map f).take (i + 1) = (l.map f).take i ++ [f l[i]] := by
  rw [List.take_succ_eq_append_getElem (by simpa using h), List.getElem_map]
theorem AccIs.out {S : St} {v : AV} {nm sz : Nat} {ty : TypeId} {xs : List AV} (h : AccIs S v nm sz ty xs) : v.one = true ∧ v.cells = [v] ∧ ∀ B, co1 B v (.lst sz xs) := by
  rcases h with ⟨rfl, rfl⟩ | ⟨st, rfl, _⟩ <;> simp
theorem copy_pc (p : Prg) (hp : fitP p) : PC Try.prog 26 [p.av] p.av := by
  obtain ⟨q1, q2, q3, q4, q5, q6⟩ := hp
  refine pc_of_get copyP_get (by simp) _ (by simp) _ ?_
  unfold copyP_c
  simp
  refine loopN (fun i S => S.t 14 = .lst 2 (p.hs.map Hnd.av) ∧ S.t 15 = iv p.hs.length ∧ S.t 16 = iv i ∧ (∃ st, S.t 1 = .ptr 26001 st 4 0 0 ∧ S.blk 26001 = some ⟨st, 4, [p.av]⟩) ∧
    (∃ st, S.t 2 = .ptr 26002 st 4 0 0 ∧ S.blk 26002 = some ⟨st, 4, [.agg [.nils, .nils, .nils, iv 0]]⟩) ∧
    (∃ st v, S.t 3 = .ptr 26003 st 4 0 0 ∧ S.blk 26003 = some ⟨st, 4, [.agg [v, .nils, .nils, iv p.fuel]]⟩ ∧ AccIs S v 26029 2 33 ((p.hs.map Hnd.av).take i))) p.hs.length ?_ ?_
  · simp [AccIs]
  · rintro i S hi ⟨g1, g2, g3, ⟨s1, g4, g5⟩, ⟨s2, g6, g7⟩, ⟨s3, v, g8, g9, hv⟩⟩
    by_cases hlt : i < p.hs.length
    · simp [copyP_l0, g1, g2, g3, g4, g5, g6, g7, g8, g9, hlt]
      have ws := wrap_succ i _ hlt (by omega)
      have hb : (min i p.hs.length + 1) * 32 ≤ 140737488355328 := by omega
      have ht := take_succ_map Hnd.av p.hs i hlt
      rcases hv with ⟨rfl, hx⟩ | ⟨s4, rfl, hx⟩
      · refine calld (cloneIns_pc p.hs[i].code (q4 _ (List.getElem_mem hlt))) (by simp) ?_
        simp [g1, g2, g3, g4, g5, g6, g7, g8, g9, hlt, ws]
        simp [AccIs, ht, hx]
      · refine calld (cloneIns_pc p.hs[i].code (q4 _ (List.getElem_mem hlt))) (by simp) ?_
        simp [g1, g2, g3, g4, g5, g6, g7, g8, g9, hx, hlt, ws, hb]
        simp [AccIs, ht, hx]
    · have e1 : i = p.hs.length := by omega
      subst e1
      simp [copyP_l0, g1, g2, g3, g4, g5, g6, g7, g8, g9]
      rw [List.take_of_length_le (by simp)] at hv
      obtain ⟨o1, o2, o3⟩ := hv.out
      clear hv
      refine loopN (fun i S => S.t 33 = .lst 4 (p.as.map Actr.av) ∧ S.t 34 = iv p.as.length ∧ S.t 35 = iv i ∧ (∃ st, S.t 1 = .ptr 26001 st 4 0 0 ∧ S.blk 26001 = some ⟨st, 4, [p.av]⟩) ∧
        (∃ st, S.t 2 = .ptr 26002 st 4 0 0 ∧ S.blk 26002 = some ⟨st, 4, [.agg [.nils, .nils, .nils, iv 0]]⟩) ∧
        (∃ st v', S.t 3 = .ptr 26003 st 4 0 0 ∧ S.blk 26003 = some ⟨st, 4, [.agg [v, v', .nils, iv p.fuel]]⟩ ∧ AccIs S v' 26047 4 38 ((p.as.map Actr.av).take i))) p.as.length ?_ ?_
      · simp [AccIs, g4, g5, g6, g7, g8, g9]
      · clear g1 g2 g3 g4 g5 g6 g7 g8 g9 hi hlt S s1 s2 s3
        rintro i S hi ⟨g1, g2, g3, ⟨s1, g4, g5⟩, ⟨s2, g6, g7⟩, ⟨s3, v', g8, g9, hv⟩⟩
        by_cases hlt : i < p.as.length
        · simp [copyP_l1, g1, g2, g3, g4, g5, g6, g7, g8, g9, hlt]
          have ws := wrap_succ i _ hlt (by omega)
          have hb : (min i p.as.length + 1) * 48 ≤ 140737488355328 := by omega
          have ht := take_succ_map Actr.av p.as i hlt
          refine call (cloneInts_pc p.as[i].regs (q5 _ (List.getElem_mem hlt))) (by simp) ?_
          rcases hv with ⟨rfl, hx⟩ | ⟨s4, rfl, hx⟩
          · simp [g1, g2, g3, g4, g5, g6, g7, g8, g9, hlt, ws, o1, o2]
            simp [AccIs, ht, hx]
          · simp [g1, g2, g3, g4, g5, g6, g7, g8, g9, hx, hlt, ws, hb, o1, o2]
            simp [AccIs, ht, hx]
        · have e1 : i = p.as.length := by omega
          subst e1
          simp [copyP_l1, g1, g2, g3, g4, g5, g6, g7, g8, g9]
          rw [List.take_of_length_le (by simp)] at hv
          obtain ⟨r1, r2, r3⟩ := hv.out
          clear hv
          refine loopN (fun i S => S.t 51 = .lst 3 (p.boot.map Nt.av) ∧ S.t 52 = iv p.boot.length ∧ S.t 53 = iv i ∧
            (∃ st, S.t 2 = .ptr 26002 st 4 0 0 ∧ S.blk 26002 = some ⟨st, 4, [.agg [.nils, .nils, .nils, iv 0]]⟩) ∧
            (∃ st v'', S.t 3 = .ptr 26003 st 4 0 0 ∧ S.blk 26003 = some ⟨st, 4, [.agg [v, v', v'', iv p.fuel]]⟩ ∧ AccIs S v'' 26062 3 40 ((p.boot.map Nt.av).take i))) p.boot.length ?_ ?_
          · simp [AccIs, g4, g5, g6, g7, g8, g9]
          · clear g1 g2 g3 g4 g5 g6 g7 g8 g9 hi hlt S s1 s2 s3
            rintro i S hi ⟨g1, g2, g3, ⟨s2, g6, g7⟩, ⟨s3, v'', g8, g9, hv⟩⟩
            by_cases hlt : i < p.boot.length
            · simp [copyP_l2, g1, g2, g3, g6, g7, g8, g9, hlt]
              have ws := wrap_succ i _ hlt (by omega)
              have hb : (min i p.boot.length + 1) * 40 ≤ 140737488355328 := by omega
              have ht := take_succ_map Nt.av p.boot i hlt
              rcases hv with ⟨rfl, hx⟩ | ⟨s4, rfl, hx⟩
              · refine calld (copyNote_pc p.boot[i] (q6 _ (List.getElem_mem hlt))) (by simp) ?_
                simp [g1, g2, g3, g6, g7, g8, g9, hlt, ws, o1, o2, r1, r2]
                simp [AccIs, ht, hx]
              · refine calld (copyNote_pc p.boot[i] (q6 _ (List.getElem_mem hlt))) (by simp) ?_
                simp [g1, g2, g3, g6, g7, g8, g9, hx, hlt, ws, hb, o1, o2, r1, r2]
                simp [AccIs, ht, hx]
            · have e1 : i = p.boot.length := by omega
              subst e1
              rw [List.take_of_length_le (by simp)] at hv
              obtain ⟨t1, t2, t3⟩ := hv.out
              simp [copyP_l2, g1, g2, g3, g6, g7, g8, g9, o1, o2, o3, r1, r2, r3, t1, t2, t3]


end Go.Gv

/- Drawn regions whose last operation waits for all others, and may change memory. No condition beyond those that each law names. -/
set_option linter.unusedVariables false
set_option linter.unusedSimpArgs false
namespace Go.Gv
theorem drawn_step {P : Program} {pre : List (List Nat)} {st0 : Nat} {ais : List AI} {es : List Eff} {S0 : St} {k : St → Prop} (hS : Shown P pre st0 ais es S0 k) (D : Nat → Bool)
    (hcl : ∀ i, D i = true → ∀ p ∈ pre.getD i [], D p = true) (j : Nat) (ai : AI) (hai : ais[j]? = some ai) (hjf : D j = false) (hpreD : ∀ p ∈ pre.getD j [], D p = true) :
    ∃ e : Eff, stepV P (st0 + j) ai (foldS D 0 (ais.zip es) S0) (fun S' => S' = foldS (fun i => (i == j) || D i) 0 (ais.zip es) S0) := by
  have hjl : j < ais.length := (List.getElem?_eq_some_iff.1 hai).1
  obtain ⟨e, he⟩ : ∃ e, es[j]? = some e := ⟨_, List.getElem?_eq_getElem (by rw [hS.len]; omega)⟩
  have hout := hS.out j ai e hai he
  have getz : ∀ (m : Nat) (p : AI × Eff), (ais.zip es)[m]? = some p → ais[m]? = some p.1 ∧ es[m]? = some p.2 := by
    intro m p hp
    rw [List.getElem?_zip_eq_some] at hp
    exact hp
  have apartAt : ∀ (m : Nat) (p : AI × Eff), (ais.zip es)[m]? = some p → m ≠ j → (D m ≠ decide (m < j)) →
      Apart p.1 ai (fpOf (foldS (fun i => decide (i < m)) 0 (ais.zip es) S0).t p.1 p.2) (fpOf (foldS (fun i => decide (i < j)) 0 (ais.zip es) S0).t ai e) ∨
      Apart ai p.1 (fpOf (foldS (fun i => decide (i < j)) 0 (ais.zip es) S0).t ai e) (fpOf (foldS (fun i => decide (i < m)) 0 (ais.zip es) S0).t p.1 p.2) := by
    intro m p hp hne hdiff
    obtain ⟨g1, g2⟩ := getz m p hp
    rcases Nat.lt_or_gt_of_ne hne with hlt | hgt
    · refine .inl (hS.apart m j p.1 ai p.2 e hlt g1 hai g2 he (fun q => ?_))
      rw [hpreD m q] at hdiff
      simp [hlt] at hdiff
    · refine .inr (hS.apart j m ai p.1 e p.2 hgt hai g1 he g2 (fun q => ?_))
      have hm : D m = true := by
        cases hx : D m with
        | true => rfl
        | false => rw [hx] at hdiff; simp at hdiff; omega
      have := hcl m hm j q
      rw [hjf] at this; cases this
  have hdif : ∀ m, m ≠ j → decide (decide (m < j) = D m) = false → D m ≠ decide (m < j) := by
    intro m _ hq
    simp only [decide_eq_false_iff_not] at hq; exact fun q => hq q.symm
  have hout' : Out P (foldS D 0 (ais.zip es) S0) (st0 + j) ai e := by
    refine hout.congr ?_ ?_ ?_
    · intro x hx
      refine agree_t x _ 0 _ _ rfl (fun m p hp hd => ?_)
      simp only [Nat.zero_add]
      by_cases hm : m = j
      · subst hm; rw [hjf]; simp
      · cases hq : decide (decide (m < j) = D m) with
        | true => simpa using hq
        | false =>
          rcases apartAt m p hp hm (hdif m hm hq) with q | q
          · exact absurd hx (q.s1 x hd)
          · exact absurd hx (q.s3 x hd)
    · intro x hx
      refine agree_b x _ 0 _ _ rfl (fun m p hp hd => ?_)
      simp only [Nat.zero_add]
      by_cases hm : m = j
      · subst hm; rw [hjf]; simp
      · cases hq : decide (decide (m < j) = D m) with
        | true => simpa using hq
        | false =>
          rcases apartAt m p hp hm (hdif m hm hq) with q | q
          · exact absurd hx (disj_mem q.b1 hd)
          · exact absurd hd (disj_mem q.b3 hx)
    · intro x hx
      refine agree_k x _ 0 _ _ rfl (fun m p hp hd => ?_)
      simp only [Nat.zero_add]
      by_cases hm : m = j
      · subst hm; rw [hjf]; simp
      · cases hq : decide (decide (m < j) = D m) with
        | true => simpa using hq
        | false =>
          rcases apartAt m p hp hm (hdif m hm hq) with q | q
          · exact absurd hx (disj_mem q.t1 hd)
          · exact absurd hd (disj_mem q.t3 hx)
  have hins : (foldS D 0 (ais.zip es) S0).app ai.dst e = foldS (fun i => (i == j) || D i) 0 (ais.zip es) S0 := by
    refine foldS_insert j ai e hjf (by simp) (fun i hi => by simp [hi]) _ 0 S0 (Nat.zero_le _) ?_ ?_
    · rw [Nat.sub_zero, List.getElem?_zip_eq_some]; exact ⟨hai, he⟩
    · intro m p hm hD hp
      rw [Nat.sub_zero] at hp
      obtain ⟨g1, g2⟩ := getz m p hp
      have hapm := hS.apart j m ai p.1 e p.2 hm hai g1 he g2 (fun q => by have := hcl m hD j q; rw [hjf] at this; cases this)
      exact ⟨hapm.s2, hapm.b2, hapm.t2⟩
  refine ⟨e, ?_⟩
  rw [← hins]
  unfold Out at hout'
  unfold stepV
  split at hout'
  · rename_i b hb
    simp only [hb]
    split at hout'
    · rename_i hbt
      rw [if_pos hbt]
      unfold runV
      cases hk : ai.k with
      | op ao => rw [hk] at hout'; simp only at hout' ⊢; rw [hout']
      | nq kd neg x => rw [hk] at hout'; simp only at hout' ⊢; rw [hout']
      | call fx l =>
        rw [hk] at hout'
        simp only at hout' ⊢
        obtain ⟨r, hr, rfl⟩ := hout'
        refine CallP_of_PCallP hr ?_
        cases ai.dst <;> rfl
    · rename_i hbt
      rw [if_neg hbt, hout']
      cases ai.dst <;> rfl
  · exact hout'.elim

theorem regI_last {P : Program} {pre : List (List Nat)} {st0 : Nat} {ops : List AI} {last : AI} {k : St → Prop} {S0 : St} (hp : ((List.range ops.length).all fun i => (pre.getD ops.length []).contains i) = true)
    (h : regDV P pre st0 0 ops [] (fun S' => stepV P (st0 + ops.length) last S' k) S0) : regI P pre st0 (ops ++ [last]) k S0 := by
  obtain ⟨es, hS⟩ := shown_of P pre st0 S0 _ ops [] [] [] S0 rfl rfl rfl (by simp) (by simp) (by simp) (by simpa using h)
  simp only [List.nil_append] at hS
  have hpn : ∀ i, i < ops.length → i ∈ pre.getD ops.length [] := by
    intro i hi
    have := List.all_eq_true.1 hp i (List.mem_range.2 hi)
    simpa using this
  refine ⟨fun D S => (D ops.length = false ∧ S = foldS D 0 (ops.zip es) S0) ∨ (D ops.length = true ∧ k S), .inl ⟨rfl, (foldS_none _ _ _ (fun _ _ => rfl)).symm⟩, ?_, ?_⟩
  · intro D S' j ai hj hDj hpre hcl hI
    by_cases hjl : j < ops.length
    · rw [List.getElem?_append_left hjl] at hj
      rcases hI with ⟨h1, rfl⟩ | ⟨h1, h2⟩
      · obtain ⟨e, hs⟩ := drawn_step hS D hcl j ai hj hDj hpre
        refine stepV_mono ?_ hs
        rintro S'' rfl
        refine .inl ⟨?_, rfl⟩
        simp [h1]; omega
      · have := hcl _ h1 j (hpn j hjl)
        rw [hDj] at this; cases this
    · have hjn : j = ops.length := by
        have := (List.getElem?_eq_some_iff.1 hj).1
        simp at this; omega
      subst hjn
      rw [List.getElem?_append_right (Nat.le_refl _)] at hj
      simp at hj
      subst hj
      rcases hI with ⟨h1, rfl⟩ | ⟨h1, h2⟩
      · have e : foldS D 0 (ops.zip es) S0 = foldS (fun _ => true) 0 (ops.zip es) S0 := foldS_congr _ _ _ (fun i _ hi => by
          simp [hS.len] at hi
          exact hpre i (hpn i hi))
        rw [e]
        exact stepV_mono (fun S'' q => .inr ⟨by simp, q⟩) hS.fin
      · rw [hDj] at h1; cases h1
  · intro D S' hD hI
    rcases hI with ⟨h1, _⟩ | ⟨_, h2⟩
    · have := hD ops.length (by simp)
      rw [h1] at this; cases this
    · exact h2
/-- The rule, for a walk: the last operation by itself behind the others. -/
theorem regi_last {P : Program} {pre : List (List Nat)} {st0 : Nat} {all : List AI} {S0 : St} {k : St → Prop} {u : Dep k} (ops : List AI) (last : AI) (he : all = ops ++ [last])
    (hp : ((List.range ops.length).all fun i => (pre.getD ops.length []).contains i) = true) (h : regDG P pre st0 0 ops [] S0 (fun S' => regG P (st0 + ops.length) [last] S' k .mk) .mk) : regIG P pre st0 all S0 k u := by
  subst he
  exact regI_last hp h
theorem regi_end {P : Program} {pre : List (List Nat)} {st0 : Nat} {all : List AI} {S0 : St} {k : St → Prop} {u : Dep k} (hne : all ≠ [])
    (hp : ((List.range (all.length - 1)).all fun i => (pre.getD (all.length - 1) []).contains i) = true) (h : regDG P pre st0 0 all.dropLast [] S0 (fun S' => regG P (st0 + (all.length - 1)) [all.getLast hne] S' k .mk) .mk) : regIG P pre st0 all S0 k u :=
  regi_last all.dropLast (all.getLast hne) (List.dropLast_concat_getLast hne).symm (by rw [List.length_dropLast]; exact hp) (by rw [List.length_dropLast]; exact h)

/-! ### Regions by an invariant -/

/-- The slots that are written, each with what it comes to: those of the done ones hold it. -/
def SF (tbl : List (Nat × AV)) (D : Nat → Bool) (S : St) : Prop := ∀ (j d : Nat) (v : AV), tbl[j]? = some (d, v) → D j = true → S.t d = v
theorem SF.start (tbl : List (Nat × AV)) (S : St) : SF tbl (fun _ => false) S := fun _ _ _ _ h => by cases h
theorem SF.ins {tbl : List (Nat × AV)} {D : Nat → Bool} {S S' : St} (h : SF tbl D S) (hn : (tbl.map (·.1)).Nodup) {j d : Nat} {v : AV} (hj : tbl[j]? = some (d, v)) (hd : S'.t d = v) (ho : ∀ x, x ≠ d → S'.t x = S.t x) : SF tbl (fun i => (i == j) || D i) S' := by
  intro j' d' v' h' hD
  by_cases e : j' = j
  · subst e
    rw [hj] at h'; cases h'
    exact hd
  · have hD' : D j' = true := by simpa [e] using hD
    rw [ho d' ?_]
    · exact h j' d' v' h' hD'
    · rintro rfl
      have e1 : (tbl.map (·.1))[j]? = some d' := by rw [List.getElem?_map, hj]; rfl
      have e2 : (tbl.map (·.1))[j']? = some d' := by rw [List.getElem?_map, h']; rfl
      obtain ⟨l1, q1⟩ := List.getElem?_eq_some_iff.1 e1
      obtain ⟨l2, q2⟩ := List.getElem?_eq_some_iff.1 e2
      rcases Nat.lt_or_gt_of_ne e with hlt | hgt
      · exact List.pairwise_iff_getElem.1 hn j' j l2 l1 hlt (by rw [q1, q2])
      · exact List.pairwise_iff_getElem.1 hn j j' l1 l2 hgt (by rw [q1, q2])
theorem SF.keep {tbl : List (Nat × AV)} {D : Nat → Bool} {S S' : St} (h : SF tbl D S) {j : Nat} (hj : tbl[j]? = none) (ho : S'.t = S.t) : SF tbl (fun i => (i == j) || D i) S' := by
  intro j' d' v' h' hD
  by_cases e : j' = j
  · subst e; rw [hj] at h'; cases h'
  · rw [ho]; exact h j' d' v' h' (by simpa [e] using hD)
theorem stepV_op {P : Program} {st : Nat} {d : Option Nat} {op : AOp} {S : St} {k : St → Prop} (e : Eff) (h : ex S.t S.blk S.tok st op = some e) (hk : k (S.app d e)) : stepV P st ⟨d, none, .op op⟩ S k := by
  simp only [stepV, guardV, if_true, runV, h]
  exact hk
theorem stepV_call {P : Program} {st : Nat} {d : Option Nat} {fx : X} {l : List X} {S : St} {k : St → Prop} (h : CallG P (fx.ev S.t) (l.map (·.ev S.t)) S (fun r S' => k (S'.put d r)) .mk) : stepV P st ⟨d, none, .call fx l⟩ S k := by
  simp only [stepV, guardV, if_true, runV]
  exact h
end Go.Gv

/- What the methods of vm's machine do to it. Conditions: those that each law names (what is popped is there). -/
set_option linter.unusedVariables false
set_option linter.unusedSimpArgs false
namespace Go.Gv
open Go.Proofs

def mpop_r0 : List AI := [⟨(some 2), none, (.op (.mv (.c (.int .i64 0))))⟩]
def mpop_r1 : List AI := [⟨(some 4), none, (.op (.mv (.t 0)))⟩, ⟨(some 5), none, (.op (.nilck (.t 4)))⟩, ⟨(some 6), none, (.op (.fld 11 (.t 5)))⟩, ⟨(some 7), none, (.op (.load none (.t 6)))⟩, ⟨(some 8), none, (.op (.mv (.t 0)))⟩, ⟨(some 9), none, (.op (.nilck (.t 8)))⟩, ⟨(some 10), none, (.op (.fld 11 (.t 9)))⟩, ⟨(some 11), none, (.op (.load none (.t 10)))⟩, ⟨(some 12), none, (.op (.len (.t 11)))⟩, ⟨(some 13), none, (.op (.ibin .sub (.t 12) (.c (.int .i64 1))))⟩, ⟨(some 14), none, (.op (.idx 1 (.t 7) (.t 13)))⟩, ⟨(some 15), none, (.op (.load none (.t 14)))⟩, ⟨(some 3), none, (.op (.mv (.t 15)))⟩]
def mpop_p1 : List (List Nat) := [[], [0], [1, 0], [2, 1, 0], [], [4], [5, 4], [6, 5, 4], [7, 6, 5, 4], [8, 7, 6, 5, 4], [3, 9, 2, 1, 0, 8, 7, 6, 5, 4], [10, 3, 9, 2, 1, 0, 8, 7, 6, 5, 4], [11, 0, 1, 2, 3, 4, 5, 6, 7, 8, 9, 10]]
def mpop_r2 : List AI := [⟨(some 16), none, (.op (.mv (.t 0)))⟩, ⟨(some 17), none, (.op (.mv (.t 0)))⟩, ⟨(some 18), none, (.op (.nilck (.t 17)))⟩, ⟨(some 19), none, (.op (.fld 11 (.t 18)))⟩, ⟨(some 20), none, (.op (.load none (.t 19)))⟩, ⟨(some 21), none, (.op (.mv (.t 0)))⟩, ⟨(some 22), none, (.op (.nilck (.t 21)))⟩, ⟨(some 23), none, (.op (.fld 11 (.t 22)))⟩, ⟨(some 24), none, (.op (.load none (.t 23)))⟩, ⟨(some 25), none, (.op (.len (.t 24)))⟩, ⟨(some 26), none, (.op (.ibin .sub (.t 25) (.c (.int .i64 1))))⟩, ⟨(some 27), none, (.op (.slice (some 1) (.t 20) none (some (.t 26))))⟩, ⟨(some 28), none, (.op (.nilck (.t 16)))⟩, ⟨(some 29), none, (.op (.fld 11 (.t 28)))⟩, ⟨none, none, (.op (.store 1 (.t 29) (.t 27)))⟩]
def mpop_p2 : List (List Nat) := [[], [], [1], [2, 1], [3, 2, 1], [], [5], [6, 5], [7, 6, 5], [8, 7, 6, 5], [9, 8, 7, 6, 5], [4, 10, 3, 2, 1, 9, 8, 7, 6, 5], [0, 1, 2, 3, 4, 5, 6, 7, 8, 9, 10, 11], [12, 0, 1, 2, 3, 4, 5, 6, 7, 8, 9, 10, 11], [13, 11, 0, 1, 2, 3, 4, 5, 6, 7, 8, 9, 10, 12]]
def mpop_r3 : List AI := [⟨(some 30), none, (.op (.mv (.t 3)))⟩, ⟨(some 2), none, (.op (.mv (.t 30)))⟩]
def mpop_c : AC := (.seq (.reg mpop_r0) (.seq (.regd mpop_r1 mpop_p1) (.seq (.regd mpop_r2 mpop_p2) (.seq (.reg mpop_r3) .ret))))
def mpop_res : List ARes := [(.tmp 2)]
set_option maxRecDepth 100000 in
theorem mpop_get : getF Try.prog 108 108000 [] = some ("(*gavotte/vm.machine).pop", 31, mpop_c, mpop_res) := by kernel_rfl
def mcount_r0 : List AI := [⟨(some 4), none, (.op (.mv (.c (.int .i64 0))))⟩]
def mcount_r1 : List AI := [⟨(some 10), none, (.op (.mv (.t 0)))⟩, ⟨(some 11), none, (.call (.c (.fn 108 [])) [(.t 10)])⟩, ⟨(some 5), none, (.op (.mv (.t 11)))⟩]
def mcount_r2 : List AI := [⟨(some 13), none, (.op (.mv (.t 1)))⟩, ⟨(some 14), none, (.op (.mv (.t 5)))⟩, ⟨(some 15), none, (.call (.c (.fn 121 [])) [(.t 13), (.t 14)])⟩, ⟨(some 12), none, (.op (.mv (.t 15)))⟩, ⟨(some 16), none, (.op (.ext (.t 12) 0))⟩, ⟨(some 17), none, (.op (.ext (.t 12) 1))⟩, ⟨(some 6), none, (.op (.mv (.t 16)))⟩, ⟨(some 7), none, (.op (.mv (.t 17)))⟩]
def mcount_r3 : List AI := [⟨(some 18), none, (.op (.mv (.t 7)))⟩]
def mcount_r4 : List AI := [⟨(some 19), none, (.op (.mv (.t 0)))⟩, ⟨(some 20), none, (.op (.mv (.t 6)))⟩, ⟨(some 21), none, (.op (.bsl 111021 1 3 1 (.int .i64 0) [(0, (.t 20))]))⟩, ⟨(some 22), none, (.call (.c (.fn 107 [])) [(.t 19), (.t 21)])⟩]
def mcount_r5 : List AI := [⟨(some 4), none, (.op (.mv (.c (.int .i64 0))))⟩]
def mcount_r6 : List AI := [⟨(some 24), none, (.op (.mv (.t 1)))⟩, ⟨(some 25), none, (.op (.mv (.t 0)))⟩, ⟨(some 26), none, (.call (.c (.fn 108 [])) [(.t 25)])⟩, ⟨(some 27), none, (.op (.mv (.t 5)))⟩, ⟨(some 28), none, (.call (.c (.fn 122 [])) [(.t 24), (.t 26), (.t 27)])⟩, ⟨(some 23), none, (.op (.mv (.t 28)))⟩, ⟨(some 29), none, (.op (.ext (.t 23) 0))⟩, ⟨(some 30), none, (.op (.ext (.t 23) 1))⟩, ⟨(some 8), none, (.op (.mv (.t 29)))⟩, ⟨(some 9), none, (.op (.mv (.t 30)))⟩]
def mcount_r7 : List AI := [⟨(some 31), none, (.op (.mv (.t 0)))⟩, ⟨(some 32), none, (.op (.mv (.t 8)))⟩, ⟨(some 33), none, (.op (.bsl 111033 1 3 1 (.int .i64 0) [(0, (.t 32))]))⟩, ⟨(some 34), none, (.call (.c (.fn 107 [])) [(.t 31), (.t 33)])⟩]
def mcount_r8 : List AI := [⟨(some 35), none, (.op (.mv (.t 9)))⟩, ⟨(some 4), none, (.op (.mv (.t 35)))⟩]
def mcount_c : AC := (.seq (.reg mcount_r0) (.seq (.reg mcount_r1) (.seq (.seq (.reg mcount_r2) (.seq (.reg mcount_r3) (.cond (.t 18) (.seq (.reg mcount_r4) (.seq (.reg mcount_r5) .ret)) .skip))) (.seq (.reg mcount_r6) (.seq (.reg mcount_r7) (.seq (.reg mcount_r8) .ret))))))
def mcount_res : List ARes := [(.tmp 4)]
set_option maxRecDepth 100000 in
theorem mcount_get : getF Try.prog 111 111000 [] = some ("(*gavotte/vm.machine).count", 36, mcount_c, mcount_res) := by kernel_rfl
def mpush_r0 : List AI := [⟨(some 4), none, (.op (.mv (.t 0)))⟩, ⟨(some 5), none, (.op (.mv (.t 0)))⟩, ⟨(some 6), none, (.op (.nilck (.t 5)))⟩, ⟨(some 7), none, (.op (.fld 11 (.t 6)))⟩, ⟨(some 8), none, (.op (.load none (.t 7)))⟩, ⟨(some 9), none, (.op (.mv (.t 1)))⟩, ⟨(some 10), none, (.op (.appw 1000107000 1 3 8 (.t 8) (.t 9)))⟩, ⟨(some 11), none, (.op (.nilck (.t 4)))⟩, ⟨(some 12), none, (.op (.fld 11 (.t 11)))⟩, ⟨none, none, (.op (.store 1 (.t 12) (.t 10)))⟩]
def mpush_c : AC := (.reg mpush_r0)
def mpush_res : List ARes := []
set_option maxRecDepth 100000 in
theorem mpush_get : getF Try.prog 107 107000 [(10, 1000000000)] = some ("(*gavotte/vm.machine).push", 13, mpush_c, mpush_res) := by kernel_rfl
attribute [simp] mpop_r0 mpop_r1 mpop_p1 mpop_r2 mpop_p2 mpop_r3 mpop_res mcount_r0 mcount_r1 mcount_r2 mcount_r3 mcount_r4 mcount_r5 mcount_r6 mcount_r7 mcount_r8 mcount_res mpush_r0 mpush_res

structure Fx where
  p : Prg
  who : Int
  args : List Int
  d : Int
  s : Int
  o : Int
  argv : AV
structure Mach where
  pc : Int
  st : List Int
  regs : List Int
  notes : List Nt
  armed : Bool
def StkIs (S : St) (v : AV) (xs : List Int) : Prop := (v = .nils ∧ xs = []) ∨ ∃ st es, v = .sl 1000107000 st 1 0 xs.length ∧ S.blk 1000107000 = some ⟨st, 1, es⟩ ∧ xs.length ≤ es.length ∧ es.take xs.length = xs.map iv
def RegIs (S : St) (v : AV) (xs : List Int) : Prop := (v = .nils ∧ xs = []) ∨ ∃ st, v = .sl 1000163000 st 1 0 xs.length ∧ S.blk 1000163000 = some ⟨st, 1, xs.map iv⟩
def MS (F : Fx) (st : Nat) (m : Mach) (S : St) : Prop := ∃ r sk nt, S.blk 84026 = some ⟨st, 14, [.agg [.lst 2 (F.p.hs.map Hnd.av), .lst 4 (F.p.as.map Actr.av), .lst 3 (F.p.boot.map Nt.av), iv F.p.fuel, iv F.who, F.argv, r, .bool m.armed, iv F.d, iv F.s, iv F.o, sk, nt, iv m.pc]]⟩ ∧
  RegIs S r m.regs ∧ StkIs S sk m.st ∧ AccIs S nt 110052 3 40 (m.notes.map Nt.av)
theorem MS.mk' {F : Fx} {st : Nat} {m : Mach} {t : Nat → AV} {b : Nat → Option Blk} {kk : Nat → Option Tok} {c : Nat} {r sk nt : AV} (hb : b 84026 = some ⟨st, 14, [.agg [.lst 2 (F.p.hs.map Hnd.av), .lst 4 (F.p.as.map Actr.av), .lst 3 (F.p.boot.map Nt.av), iv F.p.fuel, iv F.who, F.argv, r, .bool m.armed, iv F.d, iv F.s, iv F.o, sk, nt, iv m.pc]]⟩)
  (hr : RegIs ⟨t, b, kk, c⟩ r m.regs) (hs : StkIs ⟨t, b, kk, c⟩ sk m.st) (hn : AccIs ⟨t, b, kk, c⟩ nt 110052 3 40 (m.notes.map Nt.av)) : MS F st m ⟨t, b, kk, c⟩ := ⟨r, sk, nt, hb, hr, hs, hn⟩
/-- The names that the machine keeps off: its caller's. -/
def Lm (n : Nat) : Bool := !(decide (84000 ≤ n) && decide (n < 84020) || decide (16000 ≤ n) && decide (n < 16100) || decide (45000 ≤ n) && decide (n < 45020) || decide (n = 1000016008))
theorem ne_of_Lm {n : Nat} (hn : Lm n = false) (i : Nat) (hi : Lm i = true) : (n = i) = False := eq_false (fun e => by rw [← e, hn] at hi; cases hi)
theorem Fr.here {L : Nat → Bool} {S : St} {b : Nat → Option Blk} {k : Nat → Option Tok} {c : Nat} (hb : ∀ n, L n = false → b n = S.blk n) (hk : ∀ n, L n = false → k n = S.tok n) (hc : S.clk ≤ c) : Fr L S ⟨S.t, b, k, c⟩ := ⟨rfl, hb, hk, hc⟩
theorem pop_v (F : Fx) (st : Nat) (m : Mach) (xs : List Int) (x : Int) (hx : m.st = xs ++ [x]) (hl : xs.length < 1000) {S : St} {k : AV → St → Prop} {u : Dep k} (h : MS F st m S)
    (hk : ∀ S', Fr Lm S S' → MS F st { m with st := xs } S' → k (iv x) S') : CallG Try.prog (.fn 108 []) [.ptr 84026 st 14 0 0] S k u := by
  obtain ⟨r, sk, nt, hb, hr, hs, hn⟩ := h
  rw [hx] at hs
  rcases hs with ⟨_, q⟩ | ⟨s1, es, q1, q2, q3, q4⟩
  · simp at q
  have hlen : (xs ++ [x]).length = xs.length + 1 := by simp
  rw [hlen] at q1 q3 q4
  have hget : es[xs.length]? = some (iv x) := by
    have := congrArg (fun l => l[xs.length]?) q4
    simp only [List.getElem?_take_of_lt (Nat.lt_succ_self xs.length)] at this
    rw [this]; simp
  have htk : es.take xs.length = xs.map iv := by
    have := congrArg (List.take xs.length) q4
    rw [List.take_take, Nat.min_eq_left (by omega)] at this
    rw [this]; simp
  have ws : IntKind.i64.wrap (xs.length : Int) = (xs.length : Int) := wrap_in _ (by omega) (by omega)
  refine callV mpop_get (by simp) (by simp) ?_
  unfold mpop_c
  simp [hb, q1, q2, ws, hget]
  refine hk _ (Fr.here (fun n hn => by first | rfl | (repeat rw [upd_out hn rfl])) (fun n hn => by first | rfl | (repeat rw [upd_out hn rfl])) (by omega)) (MS.mk' (upd_same _ _ _) (by simpa [RegIs] using hr) ?_ (by simpa [AccIs] using hn))
  exact .inr ⟨s1, es, rfl, by simp [q2], by simp only []; omega, htk⟩
theorem push_v (F : Fx) (st : Nat) (m : Mach) (ys : List Int) (hy : ys ≠ []) (hl : m.st.length + ys.length ≤ 1000) (nm s0 : Nat) {S : St} {k : AV → St → Prop} {u : Dep k} (h : MS F st m S)
    (hk : ∀ S', Fr Lm S S' → MS F st { m with st := m.st ++ ys } S' → k (.tup []) S') : CallG Try.prog (.fn 107 []) [.ptr 84026 st 14 0 0, .acc nm s0 1 (ys.map iv)] S k u := by
  obtain ⟨r, sk, nt, hb, hr, hs, hn⟩ := h
  have hyl : 0 < ys.length := List.length_pos_iff.2 hy
  refine callV mpush_get (by simp) (by simp) ?_
  unfold mpush_c
  rcases hs with ⟨q1, q⟩ | ⟨s1, es, q1, q2, q3, q4⟩
  · simp [hb, q1, hy, show ys.length * 8 ≤ 140737488355328 by omega]
    refine hk _ (Fr.here (fun n hn => by first | rfl | (repeat rw [upd_out hn rfl])) (fun n hn => by first | rfl | (repeat rw [upd_out hn rfl])) (by omega)) (MS.mk' (upd_same _ _ _) (by simpa [RegIs] using hr) ?_ (by simpa [AccIs] using hn))
    exact .inr ⟨_, ys.map iv, congrArg (AV.sl _ _ _ _) (by simp [q]), by simp, by simp [q], (List.take_of_length_le (by simp [q])).trans (by simp [q])⟩
  · simp [hb, q1, q2, q3, q4, show (m.st.length + ys.length) * 8 ≤ 140737488355328 by omega]
    refine hk _ (Fr.here (fun n hn => by first | rfl | (repeat rw [upd_out hn rfl])) (fun n hn => by first | rfl | (repeat rw [upd_out hn rfl])) (by omega)) (MS.mk' (upd_same _ _ _) (by simpa [RegIs] using hr) ?_ (by simpa [AccIs] using hn))
    exact .inr ⟨_, (m.st ++ ys).map iv, congrArg (AV.sl _ _ _ _) (by simp), by simp, by simp, List.take_of_length_le (by simp)⟩
theorem MS.to {F : Fx} {st : Nat} {m : Mach} {S S' : St} (h : MS F st m S) (b1 : S'.blk 84026 = S.blk 84026 := by first | rfl | simp) (b2 : S'.blk 1000163000 = S.blk 1000163000 := by first | rfl | simp) (b3 : S'.blk 1000107000 = S.blk 1000107000 := by first | rfl | simp)
    (hk : S'.tok 110052 = S.tok 110052 := by first | rfl | simp) : MS F st m S' := by
  obtain ⟨r, sk, nt, h1, h2, h3, h4⟩ := h
  refine ⟨r, sk, nt, by rw [b1]; exact h1, ?_, ?_, ?_⟩
  · unfold RegIs at *; rw [b2]; exact h2
  · unfold StkIs at *; rw [b3]; exact h3
  · unfold AccIs at *; rw [hk]; exact h4
theorem count1_v (F : Fx) (st : Nat) (m : Mach) (op : Int) (xs : List Int) (b : Int) (hx : m.st = xs ++ [b]) (hl : xs.length < 900) (h1 : (oneV op b).2 = true) {S : St} {k : AV → St → Prop} {u : Dep k} (h : MS F st m S)
    (hk : ∀ S', Fr Lm S S' → MS F st { m with st := xs ++ [(oneV op b).1] } S' → k (iv 0) S') : CallG Try.prog (.fn 111 []) [.ptr 84026 st 14 0 0, iv op] S k u := by
  refine callV mcount_get (by simp) (by simp) ?_
  unfold mcount_c
  simp
  refine pop_v F st m xs b hx (by omega) h.to ?_
  rintro S1 ⟨ht1, hb1, hk1, hc1⟩ hM1
  simp [ht1]
  refine call (sone_pc op b) (by simp) ?_
  simp [ht1, h1]
  refine push_v F st { m with st := xs } [(oneV op b).1] (by simp) (by simp; omega) _ _ hM1.to ?_
  rintro S2 ⟨ht2, hb2, hk2, hc2⟩ hM2
  simp [ht2]
  exact hk _ (Fr.here (fun n hn => by simp [hb2 n hn, hb1 n hn, ne_of_Lm hn, Lm]) (fun n hn => by simp [hk2 n hn, hk1 n hn, ne_of_Lm hn, Lm]) (by simp at hc1 hc2 ⊢; omega)) hM2.to
theorem count2_v (F : Fx) (st : Nat) (m : Mach) (op : Int) (xs : List Int) (a b : Int) (hx : m.st = xs ++ [a, b]) (hl : xs.length < 900) (h1 : (oneV op b).2 = false) {S : St} {k : AV → St → Prop} {u : Dep k} (h : MS F st m S)
    (hk : ∀ S', Fr Lm S S' → MS F st { m with st := xs ++ [(twoV op a b).1] } S' → k (iv (twoV op a b).2) S') : CallG Try.prog (.fn 111 []) [.ptr 84026 st 14 0 0, iv op] S k u := by
  refine callV mcount_get (by simp) (by simp) ?_
  unfold mcount_c
  simp
  refine pop_v F st m (xs ++ [a]) b (by simp [hx]) (by simp; omega) h.to ?_
  rintro S1 ⟨ht1, hb1, hk1, hc1⟩ hM1
  simp [ht1]
  refine call (sone_pc op b) (by simp) ?_
  simp [ht1, h1]
  refine pop_v F st { m with st := xs ++ [a] } xs a rfl (by omega) hM1.to ?_
  rintro S2 ⟨ht2, hb2, hk2, hc2⟩ hM2
  simp [ht2]
  refine call (stwo_pc op a b) (by simp) ?_
  simp [ht2]
  refine push_v F st { m with st := xs } [(twoV op a b).1] (by simp) (by simp; omega) _ _ hM2.to ?_
  rintro S3 ⟨ht3, hb3, hk3, hc3⟩ hM3
  simp [ht3]
  exact hk _ (Fr.here (fun n hn => by simp [hb3 n hn, hb2 n hn, hb1 n hn, ne_of_Lm hn, Lm]) (fun n hn => by simp [hk3 n hn, hk2 n hn, hk1 n hn, ne_of_Lm hn, Lm]) (by simp at hc1 hc2 hc3 ⊢; omega)) hM3.to
/-- A pop, to the letter. -/
theorem pop_x {st s1 n : Nat} {x : Int} {es : List AV} {c0 c1 c2 c3 c4 c5 c6 c7 c8 c9 c10 nt c13 : AV} {S : St} {k : AV → St → Prop} {u : Dep k} (hn : n < 1000)
    (hb : S.blk 84026 = some ⟨st, 14, [.agg [c0, c1, c2, c3, c4, c5, c6, c7, c8, c9, c10, .sl 1000107000 s1 1 0 (n + 1), nt, c13]]⟩) (q2 : S.blk 1000107000 = some ⟨s1, 1, es⟩) (hl : n + 1 ≤ es.length) (hget : es[n]? = some (iv x))
    (hk : k (iv x) ⟨S.t, upd S.blk 84026 (some ⟨st, 14, [.agg [c0, c1, c2, c3, c4, c5, c6, c7, c8, c9, c10, .sl 1000107000 s1 1 0 n, nt, c13]]⟩), S.tok, S.clk + 1 + 13 + 15 + 2⟩) : CallG Try.prog (.fn 108 []) [.ptr 84026 st 14 0 0] S k u := by
  have ws : IntKind.i64.wrap (n : Int) = (n : Int) := wrap_in _ (by omega) (by omega)
  refine callV mpop_get (by simp) (by simp) ?_
  unfold mpop_c
  simp [hb, q2, ws, hget]
  exact hk

end Go.Gv

/- What vm's machine does at a register. Conditions: those that the law names. -/
set_option linter.unusedVariables false
set_option linter.unusedSimpArgs false
namespace Go.Gv
open Go.Proofs

def mreg_r0 : List AI := [⟨(some 3), none, (.op (.box 109003 2 (.t 1)))⟩]
def mreg_r1 : List AI := [⟨(some 5), none, (.op (.fld 1 (.t 3)))⟩, ⟨(some 6), none, (.op (.load none (.t 5)))⟩, ⟨(some 7), none, (.op (.mv (.t 0)))⟩, ⟨(some 8), none, (.op (.nilck (.t 7)))⟩, ⟨(some 9), none, (.op (.fld 6 (.t 8)))⟩, ⟨(some 10), none, (.op (.fld 0 (.t 9)))⟩, ⟨(some 11), none, (.op (.load none (.t 10)))⟩, ⟨(some 12), none, (.op (.len (.t 11)))⟩, ⟨(some 13), none, (.op (.ibin .lss (.t 6) (.t 12)))⟩, ⟨(some 4), none, (.op (.mv (.t 13)))⟩]
def mreg_p1 : List (List Nat) := [[], [0], [], [2], [3, 2], [4, 3, 2], [5, 4, 3, 2], [6, 5, 4, 3, 2], [1, 7, 0, 6, 5, 4, 3, 2], [8, 0, 1, 2, 3, 4, 5, 6, 7]]
def mreg_r2 : List AI := [⟨(some 18), none, (.op (.fld 0 (.t 3)))⟩, ⟨(some 19), none, (.op (.load none (.t 18)))⟩, ⟨(some 20), none, (.op (.ibin .eql (.t 19) (.c (.int .i64 6))))⟩, ⟨(some 21), none, (.op (.mv (.t 20)))⟩, ⟨(some 22), (some (21, true)), (.op (.mv (.t 4)))⟩, ⟨(some 23), none, (.op (.pick (.t 21) (.t 22) (.c (.bool false))))⟩, ⟨(some 17), none, (.op (.mv (.t 23)))⟩]
def mreg_r3 : List AI := [⟨(some 24), none, (.op (.mv (.t 0)))⟩, ⟨(some 25), none, (.op (.nilck (.t 24)))⟩, ⟨(some 26), none, (.op (.fld 6 (.t 25)))⟩, ⟨(some 27), none, (.op (.fld 0 (.t 26)))⟩, ⟨(some 28), none, (.op (.load none (.t 27)))⟩, ⟨(some 29), none, (.op (.fld 1 (.t 3)))⟩, ⟨(some 30), none, (.op (.load none (.t 29)))⟩, ⟨(some 31), none, (.op (.mv (.t 0)))⟩, ⟨(some 32), none, (.call (.c (.fn 108 [])) [(.t 31)])⟩, ⟨(some 33), none, (.op (.idx 1 (.t 28) (.t 30)))⟩, ⟨none, none, (.op (.store 1 (.t 33) (.t 32)))⟩]
def mreg_p3 : List (List Nat) := [[], [0], [1, 0], [2, 1, 0], [3, 2, 1, 0], [], [5], [], [7], [4, 6, 0, 1, 2, 3, 5, 7, 8], [9, 8, 0, 1, 2, 3, 4, 5, 6, 7]]
def mreg_r4 : List AI := [⟨(some 35), none, (.op (.fld 0 (.t 3)))⟩, ⟨(some 36), none, (.op (.load none (.t 35)))⟩, ⟨(some 37), none, (.op (.ibin .eql (.t 36) (.c (.int .i64 6))))⟩, ⟨(some 34), none, (.op (.mv (.t 37)))⟩]
def mreg_r5 : List AI := [⟨(some 38), none, (.op (.mv (.t 0)))⟩, ⟨(some 39), none, (.call (.c (.fn 108 [])) [(.t 38)])⟩]
def mreg_r6 : List AI := [⟨(some 41), none, (.op (.mv (.t 4)))⟩, ⟨(some 40), none, (.op (.mv (.t 41)))⟩]
def mreg_r7 : List AI := [⟨(some 42), none, (.op (.mv (.t 0)))⟩, ⟨(some 43), none, (.op (.mv (.t 0)))⟩, ⟨(some 44), none, (.op (.nilck (.t 43)))⟩, ⟨(some 45), none, (.op (.fld 6 (.t 44)))⟩, ⟨(some 46), none, (.op (.fld 0 (.t 45)))⟩, ⟨(some 47), none, (.op (.load none (.t 46)))⟩, ⟨(some 48), none, (.op (.fld 1 (.t 3)))⟩, ⟨(some 49), none, (.op (.load none (.t 48)))⟩, ⟨(some 50), none, (.op (.idx 1 (.t 47) (.t 49)))⟩, ⟨(some 51), none, (.op (.load none (.t 50)))⟩, ⟨(some 52), none, (.op (.bsl 109052 1 3 1 (.int .i64 0) [(0, (.t 51))]))⟩, ⟨(some 53), none, (.call (.c (.fn 107 [])) [(.t 42), (.t 52)])⟩]
def mreg_p7 : List (List Nat) := [[], [], [1], [2, 1], [3, 2, 1], [4, 3, 2, 1], [], [6], [5, 7, 4, 3, 2, 1, 6], [8, 5, 7, 4, 3, 2, 1, 6], [9, 8, 5, 7, 4, 3, 2, 1, 6], [0, 10, 9, 8, 5, 7, 4, 3, 2, 1, 6]]
def mreg_r8 : List AI := [⟨(some 14), none, (.op (.mv (.t 0)))⟩, ⟨(some 15), none, (.op (.bsl 109015 1 3 1 (.int .i64 0) [(0, (.c (.int .i64 0)))]))⟩, ⟨(some 16), none, (.call (.c (.fn 107 [])) [(.t 14), (.t 15)])⟩]
def mreg_c : AC := (.seq (.reg mreg_r0) (.seq (.regd mreg_r1 mreg_p1) (.block 0 (.seq (.reg mreg_r2) (.cond (.t 17) (.regi mreg_r3 mreg_p3) (.seq (.reg mreg_r4) (.cond (.t 34) (.reg mreg_r5) (.seq (.reg mreg_r6) (.cond (.t 40) (.regi mreg_r7 mreg_p7) (.reg mreg_r8))))))))))
def mreg_res : List ARes := []
set_option maxRecDepth 100000 in
theorem mreg_get : getF Try.prog 109 109000 [(2000004, 1), (2000008, 1)] = some ("(*gavotte/vm.machine).register", 54, mreg_c, mreg_res) := by kernel_rfl
attribute [simp] mreg_r0 mreg_r1 mreg_p1 mreg_r2 mreg_r3 mreg_p3 mreg_r4 mreg_r5 mreg_r6 mreg_r7 mreg_p7 mreg_r8 mreg_res

theorem RegIs.len {S : St} {v : AV} {xs : List Int} (h : RegIs S v xs) : lenOf v = some xs.length := by
  rcases h with ⟨rfl, rfl⟩ | ⟨st, rfl, _⟩ <;> rfl
def loadV (m : Mach) (a : Int) : Int := if a < m.regs.length then (m.regs[a.toNat]?).getD 0 else 0
theorem regload_v (F : Fx) (st : Nat) (m : Mach) (i : Ins) (h6 : i.op ≠ 6) (ha : 0 ≤ i.a) (hr8 : m.regs.length ≤ 1000) (hl : m.st.length < 900) {S : St} {k : AV → St → Prop} {u : Dep k} (h : MS F st m S)
    (hk : ∀ S', Fr Lm S S' → MS F st { m with st := m.st ++ [loadV m i.a] } S' → k (.tup []) S') : CallG Try.prog (.fn 109 []) [.ptr 84026 st 14 0 0, i.av] S k u := by
  refine callV mreg_get (by simp) (by simp) ?_
  unfold mreg_c
  obtain ⟨r, sk, nt, hb, hr, hs, hn⟩ := h
  have hrl := hr.len
  simp [hb, hrl]
  by_cases h1 : i.a < m.regs.length
  · simp [h1, h6, hb, hrl]
    have hM : MS F st m S := ⟨r, sk, nt, hb, hr, hs, hn⟩
    rcases hr with ⟨rfl, q⟩ | ⟨s1, rfl, q2⟩
    · rw [q] at h1; simp at h1; omega
    have hat : i.a.toNat < m.regs.length := by omega
    have hget : m.regs[i.a.toNat]? = some m.regs[i.a.toNat] := List.getElem?_eq_getElem hat
    have hld : loadV m i.a = m.regs[i.a.toNat] := by unfold loadV; rw [if_pos h1, hget]; rfl
    refine regi_end (by simp) (by rfl) ?_
    simp [hb, q2, ha, hat]
    refine push_v F st m [m.regs[i.a.toNat]] (by simp) (by simp; omega) _ _ hM.to ?_
    rintro S1 ⟨ht1, hb1, hk1, hc1⟩ hM1
    simp [ht1]
    exact hk _ (Fr.here (fun n hn => by simp [hb1 n hn, ne_of_Lm hn, Lm]) (fun n hn => by simp [hk1 n hn, ne_of_Lm hn, Lm]) (by simp at hc1 ⊢; omega)) (by rw [hld]; exact hM1.to)
  · simp [h1, h6, hb, hrl]
    have hM : MS F st m S := ⟨r, sk, nt, hb, hr, hs, hn⟩
    have hld : loadV m i.a = 0 := by unfold loadV; rw [if_neg h1]
    refine push_v F st m [0] (by simp) (by simp; omega) _ _ hM.to ?_
    rintro S1 ⟨ht1, hb1, hk1, hc1⟩ hM1
    simp [ht1]
    exact hk _ (Fr.here (fun n hn => by simp [hb1 n hn, ne_of_Lm hn, Lm]) (fun n hn => by simp [hk1 n hn, ne_of_Lm hn, Lm]) (by simp at hc1 ⊢; omega)) (by rw [hld]; exact hM1.to)
theorem regstore_v (F : Fx) (st : Nat) (m : Mach) (i : Ins) (h6 : i.op = 6) (xs : List Int) (x : Int) (hx : m.st = xs ++ [x]) (ha : 0 ≤ i.a) (h1 : i.a < m.regs.length) (hr8 : m.regs.length ≤ 1000) (hl : xs.length < 900) {S : St} {k : AV → St → Prop} {u : Dep k} (h : MS F st m S)
    (hk : ∀ S', Fr Lm S S' → MS F st { m with st := xs, regs := m.regs.set i.a.toNat x } S' → k (.tup []) S') : CallG Try.prog (.fn 109 []) [.ptr 84026 st 14 0 0, i.av] S k u := by
  refine callV mreg_get (by simp) (by simp) ?_
  unfold mreg_c
  obtain ⟨r, sk, nt, hb, hr, hs, hn⟩ := h
  rcases hr with ⟨rfl, q⟩ | ⟨s1, rfl, q2⟩
  · rw [q] at h1; simp at h1; omega
  rw [hx] at hs
  rcases hs with ⟨_, q⟩ | ⟨s2, es, rfl, p2, p3, p4⟩
  · simp at q
  have hlen : (xs ++ [x]).length = xs.length + 1 := by simp
  rw [hlen] at hb p3 p4
  have hget : es[xs.length]? = some (iv x) := by
    have := congrArg (fun l => l[xs.length]?) p4
    simp only [List.getElem?_take_of_lt (Nat.lt_succ_self xs.length)] at this
    rw [this]; simp
  have htk : es.take xs.length = xs.map iv := by
    have := congrArg (List.take xs.length) p4
    rw [List.take_take, Nat.min_eq_left (by omega)] at this
    rw [this]; simp
  have hat : i.a.toNat < m.regs.length := by omega
  simp [hb, h1, h6]
  generalize hB : upd S.blk 109003 (some ⟨S.clk, 2, [.agg [iv 6, iv i.a]]⟩) = Bq
  generalize hc0 : S.clk + 1 + 10 + 7 + 11 = c0
  have hB1 : Bq 84026 = S.blk 84026 := by rw [← hB]; simp
  have hB2 : Bq 1000107000 = S.blk 1000107000 := by rw [← hB]; simp
  have hB3 : Bq 1000163000 = S.blk 1000163000 := by rw [← hB]; simp
  have hB4 : Bq 109003 = some ⟨S.clk, 2, [.agg [iv 6, iv i.a]]⟩ := by rw [← hB]; simp
  let tbl : List (Nat × AV) := [(24, .ptr 84026 st 14 0 0), (25, .ptr 84026 st 14 0 0), (26, .ptr 84026 st 14 0 6), (27, .ptr 84026 st 14 0 6), (28, .sl 1000163000 s1 1 0 m.regs.length), (29, .ptr 109003 S.clk 2 0 1), (30, iv i.a), (31, .ptr 84026 st 14 0 0), (32, iv x), (33, .ptr 1000163000 s1 1 i.a.toNat 0)]
  let M : Nat → Option Blk := fun q => some ⟨st, 14, [.agg [.lst 2 (F.p.hs.map Hnd.av), .lst 4 (F.p.as.map Actr.av), .lst 3 (F.p.boot.map Nt.av), iv F.p.fuel, iv F.who, F.argv, .sl 1000163000 s1 1 0 m.regs.length, .bool m.armed, iv F.d, iv F.s, iv F.o, .sl 1000107000 s2 1 0 q, nt, iv m.pc]]⟩
  have hnd : (tbl.map (·.1)).Nodup := by simp [tbl]
  obtain ⟨I, hI⟩ : ∃ I : (Nat → Bool) → St → Prop, ∀ D S', I D S' ↔ (SF tbl D S' ∧ S'.t 0 = .ptr 84026 st 14 0 0 ∧ S'.t 3 = .ptr 109003 S.clk 2 0 0 ∧ c0 ≤ S'.clk ∧ S'.tok = S.tok ∧ S'.blk = (if D 10 = true then upd (upd Bq 84026 (M xs.length)) 1000163000 (some ⟨s1, 1, (m.regs.set i.a.toNat x).map iv⟩) else if D 8 = true then upd Bq 84026 (M xs.length) else Bq)) := ⟨_, fun _ _ => Iff.rfl⟩
  have stp : ∀ (D : Nat → Bool) (S' : St) (j d : Nat) (v : AV) (op : AOp) (st' : Nat), tbl[j]? = some (d, v) → j ≠ 8 → j ≠ 10 → d ≠ 0 → d ≠ 3 → I D S' → ex S'.t S'.blk S'.tok st' op = some { v := v } → stepV Try.prog st' ⟨some d, none, .op op⟩ S' (I (fun i => (i == j) || D i)) := by
    intro D S' j d v op st' hj n8 n10 d0 d3 hi he
    obtain ⟨hsf, h0, h3, hc, ht, hbk⟩ := (hI _ _).1 hi
    refine stepV_op _ he ((hI _ _).2 ⟨hsf.ins hnd hj (upd_same _ _ _) (fun y hy => upd_ne _ _ _ _ hy), (upd_ne _ _ _ _ (Ne.symm d0)).trans h0, (upd_ne _ _ _ _ (Ne.symm d3)).trans h3, hc, ht, hbk.trans ?_⟩)
    simp [show (10 == j) = false by simp; omega, show (8 == j) = false by simp; omega]
  show regI _ _ _ _ _ _
  refine ⟨I, (hI _ _).2 ⟨SF.start _ _, by simp, by simp, Nat.le_refl _, rfl, by simp⟩, ?_, ?_⟩
  · rintro D S' j ai hj hDj hpre hcl hi
    obtain ⟨hsf, h0, h3, hc, ht, hbk⟩ := (hI _ _).1 hi
    have hM4 : D 4 = false → ∃ sk, S'.blk 84026 = some ⟨st, 14, [.agg [.lst 2 (F.p.hs.map Hnd.av), .lst 4 (F.p.as.map Actr.av), .lst 3 (F.p.boot.map Nt.av), iv F.p.fuel, iv F.who, F.argv, .sl 1000163000 s1 1 0 m.regs.length, .bool m.armed, iv F.d, iv F.s, iv F.o, sk, nt, iv m.pc]]⟩ := by
      intro h4
      have d10 : D 10 = false := by
        cases hx : D 10 with
        | false => rfl
        | true => have := hcl 10 hx 4 (by simp); rw [h4] at this; cases this
      rw [hbk]
      by_cases d8 : D 8 = true
      · exact ⟨_, by simp [d10, d8, M]; rfl⟩
      · exact ⟨_, by simp [d10, d8, hB1, hb]; rfl⟩
    match j, hj, hDj, hpre with
    | 0, hj, hDj, hpre =>
      simp at hj; subst hj
      exact stp D S' 0 24 _ _ _ rfl (by simp) (by simp) (by simp) (by simp) hi (by simp [h0])
    | 1, hj, hDj, hpre =>
      simp at hj hpre; subst hj
      exact stp D S' 1 25 _ _ _ rfl (by simp) (by simp) (by simp) (by simp) hi (by simp [hsf 0 24 _ rfl hpre])
    | 2, hj, hDj, hpre =>
      simp at hj hpre; subst hj
      exact stp D S' 2 26 _ _ _ rfl (by simp) (by simp) (by simp) (by simp) hi (by simp [hsf 1 25 _ rfl hpre.1])
    | 3, hj, hDj, hpre =>
      simp at hj hpre; subst hj
      exact stp D S' 3 27 _ _ _ rfl (by simp) (by simp) (by simp) (by simp) hi (by simp [hsf 2 26 _ rfl hpre.1])
    | 4, hj, hDj, hpre =>
      simp at hj hpre; subst hj
      obtain ⟨sk, hsk⟩ := hM4 hDj
      exact stp D S' 4 28 _ _ _ rfl (by simp) (by simp) (by simp) (by simp) hi (by simp [hsf 3 27 _ rfl hpre.1, hsk])
    | 5, hj, hDj, hpre =>
      simp at hj hpre; subst hj
      exact stp D S' 5 29 _ _ _ rfl (by simp) (by simp) (by simp) (by simp) hi (by simp [h3])
    | 6, hj, hDj, hpre =>
      simp at hj hpre; subst hj
      have h9 : S'.blk 109003 = some ⟨S.clk, 2, [.agg [iv 6, iv i.a]]⟩ := by
        rw [hbk]; split <;> (try split) <;> simp [hB4]
      exact stp D S' 6 30 _ _ _ rfl (by simp) (by simp) (by simp) (by simp) hi (by simp [hsf 5 29 _ rfl hpre, h9])
    | 7, hj, hDj, hpre =>
      simp at hj hpre; subst hj
      exact stp D S' 7 31 _ _ _ rfl (by simp) (by simp) (by simp) (by simp) hi (by simp [h0])
    | 8, hj, hDj, hpre =>
      simp at hj hpre; subst hj
      have d10 : D 10 = false := by
        cases hx : D 10 with
        | false => rfl
        | true => have := hcl 10 hx 8 (by simp); rw [hDj] at this; cases this
      rw [if_neg (by rw [d10]; simp), if_neg (by rw [hDj]; simp)] at hbk
      refine stepV_call ?_
      simp [hsf 7 31 _ rfl hpre]
      refine pop_x (by omega) (by rw [hbk, hB1]; exact hb) (by rw [hbk, hB2]; exact p2) p3 hget ?_
      refine (hI _ _).2 ⟨hsf.ins hnd (j := 8) (d := 32) (v := iv x) rfl (by simp) (fun y hy => by simp [hy]), by simp [h0], by simp [h3], by simp; omega, by simp [ht], ?_⟩
      simp [d10, hbk, M]
    | 9, hj, hDj, hpre =>
      simp at hj hpre; subst hj
      exact stp D S' 9 33 _ _ _ rfl (by simp) (by simp) (by simp) (by simp) hi (by simp [hsf 4 28 _ rfl hpre.1, hsf 6 30 _ rfl hpre.2.1, ha, hat])
    | 10, hj, hDj, hpre =>
      simp at hj hpre; subst hj
      have d8 : D 8 = true := hpre.2.1
      rw [if_neg (by rw [hDj]; simp), if_pos d8] at hbk
      have hr' : S'.blk 1000163000 = some ⟨s1, 1, m.regs.map iv⟩ := by rw [hbk]; simp [hB3, q2]
      refine stepV_op { v := .junk, wb := [(1000163000, some ⟨s1, 1, (m.regs.set i.a.toNat x).map iv⟩)] } (by simp [hsf 9 33 _ rfl hpre.1, hsf 8 32 _ rfl hpre.2.1, hr', hat]) ?_
      refine (hI _ _).2 ⟨hsf.keep (j := 10) rfl rfl, h0, h3, hc, ht, ?_⟩
      simp [St.app, appB, hbk]
    | j + 11, hj, hDj, hpre => simp at hj
  · rintro D S' hD hi
    obtain ⟨hsf, h0, h3, hc, ht, hbk⟩ := (hI _ _).1 hi
    rw [if_pos (hD 10 (by simp))] at hbk
    simp
    have m1 : S'.blk 84026 = M xs.length := by rw [hbk]; simp
    have m2 : S'.blk 1000163000 = some ⟨s1, 1, (m.regs.set i.a.toNat x).map iv⟩ := by rw [hbk]; simp
    have m3 : S'.blk 1000107000 = some ⟨s2, 1, es⟩ := by rw [hbk]; simp [hB2, p2]
    refine hk _ ⟨rfl, fun n hn => ?_, fun n hn => by rw [ht], by simp only []; omega⟩ (MS.mk' m1 (.inr ⟨s1, congrArg (AV.sl _ _ _ _) (by simp), m2⟩) (.inr ⟨s2, es, rfl, m3, by simp only []; omega, htk⟩) (by simpa [AccIs, ht] using hn))
    rw [hbk, ← hB]
    simp [ne_of_Lm hn, Lm]

end Go.Gv
