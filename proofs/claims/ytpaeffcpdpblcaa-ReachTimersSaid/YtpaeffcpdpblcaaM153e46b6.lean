/- Texts of this proof, one behind the other. What is proved, and on which conditions, stands ahead of each. -/
import Derived.Test.YtpaeffcpdpblcaaProg
import Derived.Test.YtpaeffcpdpblcaaM145ed2fb
import Derived.Test.YtpaeffcpdpblcaaM100a9d8d

/- Whether programs are small, how many instructions they have, and whether two are the same. No condition beyond a list's length below 2^62. -/
set_option linter.unusedVariables false
set_option linter.unusedSimpArgs false
namespace Go.Gv
open Go.Proofs

def small_r0 : List AI := [⟨(some 1), none, (.op (.box 19001 4 (.t 0)))⟩, ⟨(some 2), none, (.op (.mv (.c (.bool false))))⟩]
def small_r1 : List AI := [⟨(some 6), none, (.op (.fld 0 (.t 1)))⟩, ⟨(some 7), none, (.op (.load none (.t 6)))⟩, ⟨(some 8), none, (.op (.len (.t 7)))⟩, ⟨(some 9), none, (.op (.ibin .gtr (.t 8) (.c (.int .i64 18))))⟩, ⟨(some 10), none, (.op (.mv (.t 9)))⟩, ⟨(some 11), (some (10, false)), (.op (.fld 1 (.t 1)))⟩, ⟨(some 12), (some (10, false)), (.op (.load none (.t 11)))⟩, ⟨(some 13), (some (10, false)), (.op (.len (.t 12)))⟩, ⟨(some 14), (some (10, false)), (.op (.ibin .gtr (.t 13) (.c (.int .i64 10))))⟩, ⟨(some 15), none, (.op (.pick (.t 10) (.c (.bool true)) (.t 14)))⟩, ⟨(some 16), none, (.op (.mv (.t 15)))⟩, ⟨(some 17), (some (16, false)), (.op (.fld 2 (.t 1)))⟩, ⟨(some 18), (some (16, false)), (.op (.load none (.t 17)))⟩, ⟨(some 19), (some (16, false)), (.op (.len (.t 18)))⟩, ⟨(some 20), (some (16, false)), (.op (.ibin .gtr (.t 19) (.c (.int .i64 18))))⟩, ⟨(some 21), none, (.op (.pick (.t 16) (.c (.bool true)) (.t 20)))⟩]
def small_r2 : List AI := [⟨(some 2), none, (.op (.mv (.c (.bool false))))⟩]
def small_r3 : List AI := [⟨(some 3), none, (.op (.mv (.c (.int .i64 0))))⟩]
def small_r4 : List AI := [⟨(some 22), none, (.op (.mv (.t 3)))⟩, ⟨(some 23), none, (.op (.fld 0 (.t 1)))⟩, ⟨(some 24), none, (.op (.load none (.t 23)))⟩, ⟨(some 25), none, (.op (.len (.t 24)))⟩, ⟨(some 26), none, (.op (.ibin .lss (.t 22) (.t 25)))⟩]
def small_r5 : List AI := [⟨(some 29), none, (.op (.fld 0 (.t 1)))⟩, ⟨(some 30), none, (.op (.load none (.t 29)))⟩, ⟨(some 31), none, (.op (.mv (.t 3)))⟩, ⟨(some 32), none, (.op (.idx 2 (.t 30) (.t 31)))⟩, ⟨(some 33), none, (.op (.fld 1 (.t 32)))⟩, ⟨(some 34), none, (.op (.load none (.t 33)))⟩, ⟨(some 35), none, (.op (.len (.t 34)))⟩, ⟨(some 36), none, (.op (.ibin .gtr (.t 35) (.c (.int .i64 70))))⟩]
def small_r6 : List AI := [⟨(some 2), none, (.op (.mv (.c (.bool false))))⟩]
def small_r7 : List AI := [⟨(some 27), none, (.op (.mv (.t 3)))⟩, ⟨(some 28), none, (.op (.ibin .add (.t 27) (.c (.int .i64 1))))⟩, ⟨(some 3), none, (.op (.mv (.t 28)))⟩]
def small_l0 : AC := (.seq (.seq (.reg small_r4) (.cond (.t 26) .skip (.exit 0))) (.seq (.block 1 (.seq (.reg small_r5) (.cond (.t 36) (.seq (.reg small_r6) .ret) .skip))) (.reg small_r7)))
def small_r8 : List AI := [⟨(some 4), none, (.op (.mv (.c (.int .i64 0))))⟩]
def small_r9 : List AI := [⟨(some 37), none, (.op (.mv (.t 4)))⟩, ⟨(some 38), none, (.op (.fld 1 (.t 1)))⟩, ⟨(some 39), none, (.op (.load none (.t 38)))⟩, ⟨(some 40), none, (.op (.len (.t 39)))⟩, ⟨(some 41), none, (.op (.ibin .lss (.t 37) (.t 40)))⟩]
def small_r10 : List AI := [⟨(some 44), none, (.op (.fld 1 (.t 1)))⟩, ⟨(some 45), none, (.op (.load none (.t 44)))⟩, ⟨(some 46), none, (.op (.mv (.t 4)))⟩, ⟨(some 47), none, (.op (.idx 4 (.t 45) (.t 46)))⟩, ⟨(some 48), none, (.op (.fld 0 (.t 47)))⟩, ⟨(some 49), none, (.op (.load none (.t 48)))⟩, ⟨(some 50), none, (.op (.len (.t 49)))⟩, ⟨(some 51), none, (.op (.ibin .gtr (.t 50) (.c (.int .i64 10))))⟩]
def small_r11 : List AI := [⟨(some 2), none, (.op (.mv (.c (.bool false))))⟩]
def small_r12 : List AI := [⟨(some 42), none, (.op (.mv (.t 4)))⟩, ⟨(some 43), none, (.op (.ibin .add (.t 42) (.c (.int .i64 1))))⟩, ⟨(some 4), none, (.op (.mv (.t 43)))⟩]
def small_l1 : AC := (.seq (.seq (.reg small_r9) (.cond (.t 41) .skip (.exit 2))) (.seq (.block 3 (.seq (.reg small_r10) (.cond (.t 51) (.seq (.reg small_r11) .ret) .skip))) (.reg small_r12)))
def small_r13 : List AI := [⟨(some 5), none, (.op (.mv (.c (.int .i64 0))))⟩]
def small_r14 : List AI := [⟨(some 52), none, (.op (.mv (.t 5)))⟩, ⟨(some 53), none, (.op (.fld 2 (.t 1)))⟩, ⟨(some 54), none, (.op (.load none (.t 53)))⟩, ⟨(some 55), none, (.op (.len (.t 54)))⟩, ⟨(some 56), none, (.op (.ibin .lss (.t 52) (.t 55)))⟩]
def small_r15 : List AI := [⟨(some 59), none, (.op (.fld 2 (.t 1)))⟩, ⟨(some 60), none, (.op (.load none (.t 59)))⟩, ⟨(some 61), none, (.op (.mv (.t 5)))⟩, ⟨(some 62), none, (.op (.idx 3 (.t 60) (.t 61)))⟩, ⟨(some 63), none, (.op (.fld 2 (.t 62)))⟩, ⟨(some 64), none, (.op (.load none (.t 63)))⟩, ⟨(some 65), none, (.op (.len (.t 64)))⟩, ⟨(some 66), none, (.op (.ibin .gtr (.t 65) (.c (.int .i64 6))))⟩]
def small_r16 : List AI := [⟨(some 2), none, (.op (.mv (.c (.bool false))))⟩]
def small_r17 : List AI := [⟨(some 57), none, (.op (.mv (.t 5)))⟩, ⟨(some 58), none, (.op (.ibin .add (.t 57) (.c (.int .i64 1))))⟩, ⟨(some 5), none, (.op (.mv (.t 58)))⟩]
def small_l2 : AC := (.seq (.seq (.reg small_r14) (.cond (.t 56) .skip (.exit 4))) (.seq (.block 5 (.seq (.reg small_r15) (.cond (.t 66) (.seq (.reg small_r16) .ret) .skip))) (.reg small_r17)))
def small_r18 : List AI := [⟨(some 2), none, (.op (.mv (.c (.bool true))))⟩]
def small_c : AC := (.seq (.reg small_r0) (.seq (.seq (.reg small_r1) (.cond (.t 21) (.seq (.reg small_r2) .ret) .skip)) (.seq (.seq (.reg small_r3) (.block 0 (.loop small_l0))) (.seq (.seq (.reg small_r8) (.block 2 (.loop small_l1))) (.seq (.seq (.reg small_r13) (.block 4 (.loop small_l2))) (.seq (.reg small_r18) .ret))))))
def small_res : List ARes := [(.tmp 2)]
set_option maxRecDepth 100000 in
theorem small_get : getF Try.prog 7 19000 [] = some ("gavotte/gavottealike.Small", 67, small_c, small_res) := by kernel_rfl
def size_r0 : List AI := [⟨(some 1), none, (.op (.box 25001 4 (.t 0)))⟩, ⟨(some 2), none, (.op (.mv (.c (.int .i64 0))))⟩]
def size_r1 : List AI := [⟨(some 5), none, (.op (.fld 0 (.t 1)))⟩, ⟨(some 6), none, (.op (.load none (.t 5)))⟩, ⟨(some 7), none, (.op (.len (.t 6)))⟩, ⟨(some 8), none, (.op (.mv (.c (.int .i64 0))))⟩]
def size_r2 : List AI := [⟨(some 9), none, (.op (.ibin .lss (.t 8) (.t 7)))⟩]
def size_r3 : List AI := [⟨(some 10), none, (.op (.idx 2 (.t 6) (.t 8)))⟩, ⟨(some 11), none, (.op (.load (some 2) (.t 10)))⟩, ⟨(some 4), none, (.op (.new 25004 2 (.agg [(.int .i64 0), .nils])))⟩, ⟨none, none, (.op (.store 2 (.t 4) (.t 11)))⟩]
def size_r4 : List AI := [⟨(some 12), none, (.op (.mv (.t 2)))⟩, ⟨(some 13), none, (.op (.fld 1 (.t 4)))⟩, ⟨(some 14), none, (.op (.load none (.t 13)))⟩, ⟨(some 15), none, (.op (.len (.t 14)))⟩, ⟨(some 16), none, (.op (.ibin .add (.t 12) (.t 15)))⟩, ⟨(some 2), none, (.op (.mv (.t 16)))⟩]
def size_r5 : List AI := [⟨(some 17), none, (.op (.ibin .add (.t 8) (.c (.int .i64 1))))⟩, ⟨(some 8), none, (.op (.mv (.t 17)))⟩]
def size_l0 : AC := (.seq (.reg size_r2) (.seq (.cond (.t 9) .skip (.exit 0)) (.seq (.block 1 (.seq (.reg size_r3) (.reg size_r4))) (.reg size_r5))))
def size_r6 : List AI := [⟨(some 18), none, (.op (.mv (.t 2)))⟩, ⟨(some 2), none, (.op (.mv (.t 18)))⟩]
def size_c : AC := (.seq (.reg size_r0) (.seq (.seq (.reg size_r1) (.block 0 (.loop size_l0))) (.seq (.reg size_r6) .ret)))
def size_res : List ARes := [(.tmp 2)]
set_option maxRecDepth 100000 in
theorem size_get : getF Try.prog 26 25000 [] = some ("gavotte/prog.Size", 19, size_c, size_res) := by kernel_rfl
def same_r0 : List AI := [⟨(some 2), none, (.op (.box 23002 4 (.t 0)))⟩, ⟨(some 3), none, (.op (.box 23003 4 (.t 1)))⟩, ⟨(some 4), none, (.op (.mv (.c (.bool false))))⟩]
def same_r1 : List AI := [⟨(some 5), none, (.op (.fld 0 (.t 2)))⟩, ⟨(some 6), none, (.op (.load none (.t 5)))⟩, ⟨(some 7), none, (.op (.fld 0 (.t 3)))⟩, ⟨(some 8), none, (.op (.load none (.t 7)))⟩, ⟨(some 9), none, (.call (.c (.fn 34 [])) [(.t 6), (.t 8), (.c (.fn 35 []))])⟩, ⟨(some 10), none, (.op (.mv (.t 9)))⟩, ⟨(some 11), (some (10, true)), (.op (.fld 1 (.t 2)))⟩, ⟨(some 12), (some (10, true)), (.op (.load none (.t 11)))⟩, ⟨(some 13), (some (10, true)), (.op (.fld 1 (.t 3)))⟩, ⟨(some 14), (some (10, true)), (.op (.load none (.t 13)))⟩, ⟨(some 15), (some (10, true)), (.call (.c (.fn 36 [])) [(.t 12), (.t 14), (.c (.fn 37 []))])⟩, ⟨(some 16), none, (.op (.pick (.t 10) (.t 15) (.c (.bool false))))⟩, ⟨(some 17), none, (.op (.mv (.t 16)))⟩, ⟨(some 18), (some (17, true)), (.op (.fld 2 (.t 2)))⟩, ⟨(some 19), (some (17, true)), (.op (.load none (.t 18)))⟩, ⟨(some 20), (some (17, true)), (.op (.fld 2 (.t 3)))⟩, ⟨(some 21), (some (17, true)), (.op (.load none (.t 20)))⟩, ⟨(some 22), (some (17, true)), (.call (.c (.fn 38 [])) [(.t 19), (.t 21), (.c (.fn 27 []))])⟩, ⟨(some 23), none, (.op (.pick (.t 17) (.t 22) (.c (.bool false))))⟩, ⟨(some 24), none, (.op (.mv (.t 23)))⟩, ⟨(some 25), (some (24, true)), (.op (.fld 3 (.t 2)))⟩, ⟨(some 26), (some (24, true)), (.op (.load none (.t 25)))⟩, ⟨(some 27), (some (24, true)), (.op (.fld 3 (.t 3)))⟩, ⟨(some 28), (some (24, true)), (.op (.load none (.t 27)))⟩, ⟨(some 29), (some (24, true)), (.op (.ibin .eql (.t 26) (.t 28)))⟩, ⟨(some 30), none, (.op (.pick (.t 24) (.t 29) (.c (.bool false))))⟩, ⟨(some 4), none, (.op (.mv (.t 30)))⟩]
def same_c : AC := (.seq (.reg same_r0) (.seq (.reg same_r1) .ret))
def same_res : List ARes := [(.tmp 4)]
set_option maxRecDepth 100000 in
theorem same_get : getF Try.prog 11 23000 [] = some ("gavotte/prog.Same", 31, same_c, same_res) := by kernel_rfl
def rsame_r0 : List AI := [⟨(some 2), none, (.op (.box 24002 4 (.t 0)))⟩, ⟨(some 3), none, (.op (.box 24003 4 (.t 1)))⟩, ⟨(some 4), none, (.op (.mv (.c (.bool false))))⟩]
def rsame_r1 : List AI := [⟨(some 9), none, (.op (.fld 0 (.t 2)))⟩, ⟨(some 10), none, (.op (.load none (.t 9)))⟩, ⟨(some 11), none, (.op (.len (.t 10)))⟩, ⟨(some 12), none, (.op (.fld 0 (.t 3)))⟩, ⟨(some 13), none, (.op (.load none (.t 12)))⟩, ⟨(some 14), none, (.op (.len (.t 13)))⟩, ⟨(some 15), none, (.op (.ibin .neq (.t 11) (.t 14)))⟩, ⟨(some 16), none, (.op (.mv (.t 15)))⟩, ⟨(some 17), (some (16, false)), (.op (.fld 1 (.t 2)))⟩, ⟨(some 18), (some (16, false)), (.op (.load none (.t 17)))⟩, ⟨(some 19), (some (16, false)), (.op (.len (.t 18)))⟩, ⟨(some 20), (some (16, false)), (.op (.fld 1 (.t 3)))⟩, ⟨(some 21), (some (16, false)), (.op (.load none (.t 20)))⟩, ⟨(some 22), (some (16, false)), (.op (.len (.t 21)))⟩, ⟨(some 23), (some (16, false)), (.op (.ibin .neq (.t 19) (.t 22)))⟩, ⟨(some 24), none, (.op (.pick (.t 16) (.c (.bool true)) (.t 23)))⟩, ⟨(some 25), none, (.op (.mv (.t 24)))⟩, ⟨(some 26), (some (25, false)), (.op (.fld 3 (.t 2)))⟩, ⟨(some 27), (some (25, false)), (.op (.load none (.t 26)))⟩, ⟨(some 28), (some (25, false)), (.op (.fld 3 (.t 3)))⟩, ⟨(some 29), (some (25, false)), (.op (.load none (.t 28)))⟩, ⟨(some 30), (some (25, false)), (.op (.ibin .neq (.t 27) (.t 29)))⟩, ⟨(some 31), none, (.op (.pick (.t 25) (.c (.bool true)) (.t 30)))⟩, ⟨(some 32), none, (.op (.mv (.t 31)))⟩, ⟨(some 33), (some (32, false)), (.op (.fld 2 (.t 2)))⟩, ⟨(some 34), (some (32, false)), (.op (.load none (.t 33)))⟩, ⟨(some 35), (some (32, false)), (.op (.fld 2 (.t 3)))⟩, ⟨(some 36), (some (32, false)), (.op (.load none (.t 35)))⟩, ⟨(some 37), (some (32, false)), (.call (.c (.fn 31 [])) [(.t 34), (.t 36)])⟩, ⟨(some 38), (some (32, false)), (.op (.not (.t 37)))⟩, ⟨(some 39), none, (.op (.pick (.t 32) (.c (.bool true)) (.t 38)))⟩]
def rsame_r2 : List AI := [⟨(some 4), none, (.op (.mv (.c (.bool false))))⟩]
def rsame_r3 : List AI := [⟨(some 5), none, (.op (.mv (.c (.int .i64 0))))⟩]
def rsame_r4 : List AI := [⟨(some 40), none, (.op (.mv (.t 5)))⟩, ⟨(some 41), none, (.op (.fld 0 (.t 2)))⟩, ⟨(some 42), none, (.op (.load none (.t 41)))⟩, ⟨(some 43), none, (.op (.len (.t 42)))⟩, ⟨(some 44), none, (.op (.ibin .lss (.t 40) (.t 43)))⟩]
def rsame_r5 : List AI := [⟨(some 47), none, (.op (.fld 0 (.t 2)))⟩, ⟨(some 48), none, (.op (.load none (.t 47)))⟩, ⟨(some 49), none, (.op (.mv (.t 5)))⟩, ⟨(some 50), none, (.op (.idx 2 (.t 48) (.t 49)))⟩, ⟨(some 51), none, (.op (.fld 0 (.t 50)))⟩, ⟨(some 52), none, (.op (.load none (.t 51)))⟩, ⟨(some 53), none, (.op (.fld 0 (.t 3)))⟩, ⟨(some 54), none, (.op (.load none (.t 53)))⟩, ⟨(some 55), none, (.op (.mv (.t 5)))⟩, ⟨(some 56), none, (.op (.idx 2 (.t 54) (.t 55)))⟩, ⟨(some 57), none, (.op (.fld 0 (.t 56)))⟩, ⟨(some 58), none, (.op (.load none (.t 57)))⟩, ⟨(some 59), none, (.op (.ibin .neq (.t 52) (.t 58)))⟩, ⟨(some 60), none, (.op (.mv (.t 59)))⟩, ⟨(some 61), (some (60, false)), (.op (.fld 0 (.t 2)))⟩, ⟨(some 62), (some (60, false)), (.op (.load none (.t 61)))⟩, ⟨(some 63), (some (60, false)), (.op (.mv (.t 5)))⟩, ⟨(some 64), (some (60, false)), (.op (.idx 2 (.t 62) (.t 63)))⟩, ⟨(some 65), (some (60, false)), (.op (.fld 1 (.t 64)))⟩, ⟨(some 66), (some (60, false)), (.op (.load none (.t 65)))⟩, ⟨(some 67), (some (60, false)), (.op (.fld 0 (.t 3)))⟩, ⟨(some 68), (some (60, false)), (.op (.load none (.t 67)))⟩, ⟨(some 69), (some (60, false)), (.op (.mv (.t 5)))⟩, ⟨(some 70), (some (60, false)), (.op (.idx 2 (.t 68) (.t 69)))⟩, ⟨(some 71), (some (60, false)), (.op (.fld 1 (.t 70)))⟩, ⟨(some 72), (some (60, false)), (.op (.load none (.t 71)))⟩, ⟨(some 73), (some (60, false)), (.call (.c (.fn 32 [])) [(.t 66), (.t 72)])⟩, ⟨(some 74), (some (60, false)), (.op (.not (.t 73)))⟩, ⟨(some 75), none, (.op (.pick (.t 60) (.c (.bool true)) (.t 74)))⟩]
def rsame_p5 : List (List Nat) := [[], [0], [], [1, 2, 0], [3, 1, 2, 0], [4, 3, 1, 2, 0], [], [6], [], [7, 8, 6], [9, 7, 8, 6], [10, 9, 7, 8, 6], [5, 11, 4, 3, 1, 2, 0, 10, 9, 7, 8, 6], [12, 5, 11, 4, 3, 1, 2, 0, 10, 9, 7, 8, 6], [13, 12, 5, 11, 4, 3, 1, 2, 0, 10, 9, 7, 8, 6], [14, 13, 12, 5, 11, 4, 3, 1, 2, 0, 10, 9, 7, 8, 6], [13, 12, 5, 11, 4, 3, 1, 2, 0, 10, 9, 7, 8, 6], [15, 16, 13, 14, 12, 5, 11, 4, 3, 1, 2, 0, 10, 9, 7, 8, 6], [17, 13, 15, 16, 14, 12, 5, 11, 4, 3, 1, 2, 0, 10, 9, 7, 8, 6], [18, 13, 17, 15, 16, 14, 12, 5, 11, 4, 3, 1, 2, 0, 10, 9, 7, 8, 6], [13, 12, 5, 11, 4, 3, 1, 2, 0, 10, 9, 7, 8, 6], [20, 13, 12, 5, 11, 4, 3, 1, 2, 0, 10, 9, 7, 8, 6], [13, 12, 5, 11, 4, 3, 1, 2, 0, 10, 9, 7, 8, 6], [21, 22, 13, 20, 12, 5, 11, 4, 3, 1, 2, 0, 10, 9, 7, 8, 6], [23, 13, 21, 22, 20, 12, 5, 11, 4, 3, 1, 2, 0, 10, 9, 7, 8, 6], [24, 13, 23, 21, 22, 20, 12, 5, 11, 4, 3, 1, 2, 0, 10, 9, 7, 8, 6], [19, 25, 13, 18, 17, 15, 16, 14, 12, 5, 11, 4, 3, 1, 2, 0, 10, 9, 7, 8, 6, 24, 23, 21, 22, 20], [26, 13, 19, 25, 18, 17, 15, 16, 14, 12, 5, 11, 4, 3, 1, 2, 0, 10, 9, 7, 8, 6, 24, 23, 21, 22, 20], [13, 27, 12, 5, 11, 4, 3, 1, 2, 0, 10, 9, 7, 8, 6, 26, 19, 25, 18, 17, 15, 16, 14, 24, 23, 21, 22, 20]]
def rsame_r6 : List AI := [⟨(some 4), none, (.op (.mv (.c (.bool false))))⟩]
def rsame_r7 : List AI := [⟨(some 45), none, (.op (.mv (.t 5)))⟩, ⟨(some 46), none, (.op (.ibin .add (.t 45) (.c (.int .i64 1))))⟩, ⟨(some 5), none, (.op (.mv (.t 46)))⟩]
def rsame_l0 : AC := (.seq (.seq (.reg rsame_r4) (.cond (.t 44) .skip (.exit 0))) (.seq (.block 1 (.seq (.regd rsame_r5 rsame_p5) (.cond (.t 75) (.seq (.reg rsame_r6) .ret) .skip))) (.reg rsame_r7)))
def rsame_r8 : List AI := [⟨(some 6), none, (.op (.mv (.c (.int .i64 0))))⟩]
def rsame_r9 : List AI := [⟨(some 76), none, (.op (.mv (.t 6)))⟩, ⟨(some 77), none, (.op (.fld 1 (.t 2)))⟩, ⟨(some 78), none, (.op (.load none (.t 77)))⟩, ⟨(some 79), none, (.op (.len (.t 78)))⟩, ⟨(some 80), none, (.op (.ibin .lss (.t 76) (.t 79)))⟩]
def rsame_r10 : List AI := [⟨(some 83), none, (.op (.fld 1 (.t 2)))⟩, ⟨(some 84), none, (.op (.load none (.t 83)))⟩, ⟨(some 85), none, (.op (.mv (.t 6)))⟩, ⟨(some 86), none, (.op (.idx 4 (.t 84) (.t 85)))⟩, ⟨(some 87), none, (.op (.load (some 4) (.t 86)))⟩, ⟨(some 88), none, (.op (.fld 1 (.t 3)))⟩, ⟨(some 89), none, (.op (.load none (.t 88)))⟩, ⟨(some 90), none, (.op (.mv (.t 6)))⟩, ⟨(some 91), none, (.op (.idx 4 (.t 89) (.t 90)))⟩, ⟨(some 92), none, (.op (.load (some 4) (.t 91)))⟩, ⟨(some 7), none, (.op (.new 24007 4 (.agg [.nils, (.int .i64 0), (.int .i64 0), (.bool false)])))⟩, ⟨(some 8), none, (.op (.new 24008 4 (.agg [.nils, (.int .i64 0), (.int .i64 0), (.bool false)])))⟩, ⟨none, none, (.op (.store 4 (.t 7) (.t 87)))⟩, ⟨none, none, (.op (.store 4 (.t 8) (.t 92)))⟩]
def rsame_p10 : List (List Nat) := [[], [0], [], [1, 2, 0], [3, 1, 2, 0], [], [5], [], [6, 7, 5], [8, 6, 7, 5], [], [], [10, 4, 0, 1, 2, 3, 11], [11, 9, 12, 0, 1, 2, 3, 4, 5, 6, 7, 8, 10]]
def rsame_r11 : List AI := [⟨(some 93), none, (.op (.fld 0 (.t 7)))⟩, ⟨(some 94), none, (.op (.load none (.t 93)))⟩, ⟨(some 95), none, (.op (.fld 0 (.t 8)))⟩, ⟨(some 96), none, (.op (.load none (.t 95)))⟩, ⟨(some 97), none, (.call (.c (.fn 33 [])) [(.t 94), (.t 96)])⟩, ⟨(some 98), none, (.op (.not (.t 97)))⟩, ⟨(some 99), none, (.op (.mv (.t 98)))⟩, ⟨(some 100), (some (99, false)), (.op (.fld 1 (.t 7)))⟩, ⟨(some 101), (some (99, false)), (.op (.load none (.t 100)))⟩, ⟨(some 102), (some (99, false)), (.op (.fld 1 (.t 8)))⟩, ⟨(some 103), (some (99, false)), (.op (.load none (.t 102)))⟩, ⟨(some 104), (some (99, false)), (.op (.ibin .neq (.t 101) (.t 103)))⟩, ⟨(some 105), none, (.op (.pick (.t 99) (.c (.bool true)) (.t 104)))⟩, ⟨(some 106), none, (.op (.mv (.t 105)))⟩, ⟨(some 107), (some (106, false)), (.op (.fld 2 (.t 7)))⟩, ⟨(some 108), (some (106, false)), (.op (.load none (.t 107)))⟩, ⟨(some 109), (some (106, false)), (.op (.fld 2 (.t 8)))⟩, ⟨(some 110), (some (106, false)), (.op (.load none (.t 109)))⟩, ⟨(some 111), (some (106, false)), (.op (.ibin .neq (.t 108) (.t 110)))⟩, ⟨(some 112), none, (.op (.pick (.t 106) (.c (.bool true)) (.t 111)))⟩, ⟨(some 113), none, (.op (.mv (.t 112)))⟩, ⟨(some 114), (some (113, false)), (.op (.fld 3 (.t 7)))⟩, ⟨(some 115), (some (113, false)), (.op (.load none (.t 114)))⟩, ⟨(some 116), (some (113, false)), (.op (.fld 3 (.t 8)))⟩, ⟨(some 117), (some (113, false)), (.op (.load none (.t 116)))⟩, ⟨(some 118), (some (113, false)), (.op (.eqv true (.t 115) (.t 117)))⟩, ⟨(some 119), none, (.op (.pick (.t 113) (.c (.bool true)) (.t 118)))⟩]
def rsame_r12 : List AI := [⟨(some 4), none, (.op (.mv (.c (.bool false))))⟩]
def rsame_r13 : List AI := [⟨(some 81), none, (.op (.mv (.t 6)))⟩, ⟨(some 82), none, (.op (.ibin .add (.t 81) (.c (.int .i64 1))))⟩, ⟨(some 6), none, (.op (.mv (.t 82)))⟩]
def rsame_l1 : AC := (.seq (.seq (.reg rsame_r9) (.cond (.t 80) .skip (.exit 2))) (.seq (.block 3 (.seq (.regd rsame_r10 rsame_p10) (.seq (.reg rsame_r11) (.cond (.t 119) (.seq (.reg rsame_r12) .ret) .skip)))) (.reg rsame_r13)))
def rsame_r14 : List AI := [⟨(some 4), none, (.op (.mv (.c (.bool true))))⟩]
def rsame_c : AC := (.seq (.reg rsame_r0) (.seq (.seq (.reg rsame_r1) (.cond (.t 39) (.seq (.reg rsame_r2) .ret) .skip)) (.seq (.seq (.reg rsame_r3) (.block 0 (.loop rsame_l0))) (.seq (.seq (.reg rsame_r8) (.block 2 (.loop rsame_l1))) (.seq (.reg rsame_r14) .ret)))))
def rsame_res : List ARes := [(.tmp 4)]
set_option maxRecDepth 100000 in
theorem rsame_get : getF Try.prog 10 24000 [] = some ("gavotte/gavotteref1.SameProg", 120, rsame_c, rsame_res) := by kernel_rfl
attribute [simp] small_r0 small_r1 small_r2 small_r3 small_r4 small_r5 small_r6 small_r7 small_r8 small_r9 small_r10 small_r11 small_r12 small_r13 small_r14 small_r15 small_r16 small_r17 small_r18 small_res size_r0 size_r1 size_r2 size_r3 size_r4 size_r5 size_r6 size_res same_r0 same_r1 same_res rsame_r0 rsame_r1 rsame_r2 rsame_r3 rsame_r4 rsame_r5 rsame_p5 rsame_r6 rsame_r7 rsame_r8 rsame_r9 rsame_r10 rsame_p10 rsame_r11 rsame_r12 rsame_r13 rsame_r14 rsame_res


def smallV (p : Prg) : Prop := p.hs.length ≤ 18 ∧ p.as.length ≤ 10 ∧ p.boot.length ≤ 18 ∧ (∀ h ∈ p.hs, h.code.length ≤ 70) ∧ (∀ a ∈ p.as, a.regs.length ≤ 10) ∧ (∀ n ∈ p.boot, n.args.length ≤ 6)
instance (p : Prg) : Decidable (smallV p) := inferInstanceAs (Decidable (_ ∧ _))
def okP (p : Prg) : Prop := p.hs.length < 4611686018427387904 ∧ p.as.length < 4611686018427387904 ∧ p.boot.length < 4611686018427387904 ∧ (∀ h ∈ p.hs, h.code.length < 4611686018427387904) ∧ (∀ a ∈ p.as, a.regs.length < 4611686018427387904) ∧ (∀ n ∈ p.boot, n.args.length < 4611686018427387904)
theorem okP_of_small (p : Prg) (h : smallV p) : okP p := by
  obtain ⟨h1, h2, h3, h4, h5, h6⟩ := h
  exact ⟨by omega, by omega, by omega, fun x hx => by have := h4 x hx; omega, fun x hx => by have := h5 x hx; omega, fun x hx => by have := h6 x hx; omega⟩
theorem all_drop {α : Type} (l : List α) (P : α → Prop) (i : Nat) (h : i < l.length) : (∀ x ∈ l.drop i, P x) ↔ P l[i] ∧ ∀ x ∈ l.drop (i + 1), P x := by
  rw [List.drop_eq_getElem_cons h]; simp only [List.mem_cons, forall_eq_or_imp]
theorem small_pc (p : Prg) : PC Try.prog 7 [p.av] (.bool (decide (smallV p))) := by
  refine pc_of_get small_get (by simp) _ (by simp) _ ?_
  unfold small_c
  simp
  refine split (fun h1 => ?_) (fun h1 => ?_) <;> simp [h1]
  · intro h; have := h.1; omega
  refine split (fun h2 => ?_) (fun h2 => ?_) <;> simp [h2]
  · intro h; have := h.2.1; omega
  refine split (fun h3 => ?_) (fun h3 => ?_) <;> simp [h3]
  · intro h; have := h.2.2.1; omega
  have e : smallV p ↔ (∀ h ∈ p.hs, h.code.length ≤ 70) ∧ (∀ a ∈ p.as, a.regs.length ≤ 10) ∧ (∀ n ∈ p.boot, n.args.length ≤ 6) := by
    unfold smallV
    constructor
    · intro h; exact h.2.2.2
    · intro h; exact ⟨by omega, by omega, by omega, h⟩
  refine loopN (fun i S => S.t 3 = iv i ∧ (∃ st, S.t 1 = .ptr 19001 st 4 0 0 ∧ S.blk 19001 = some ⟨st, 4, [p.av]⟩) ∧
    ((∀ h ∈ p.hs, h.code.length ≤ 70) ↔ ∀ h ∈ p.hs.drop i, h.code.length ≤ 70)) p.hs.length ?_ ?_
  · simp
  · rintro i S hi ⟨g1, ⟨st, g2, g3⟩, hh⟩
    by_cases hlt : i < p.hs.length
    · rw [all_drop _ _ _ hlt] at hh
      simp [small_l0, g1, g2, g3, hlt]
      refine split (fun c1 => ?_) (fun c1 => ?_) <;> simp [c1, g1, g2, g3, hlt, wrap_succ i _ hlt (by omega)]
      · intro h; have := (hh.1 (e.1 h).1).1; omega
      · rw [hh]; exact ⟨fun h => h.2, fun h => ⟨by omega, h⟩⟩
    · have e1 : i = p.hs.length := by omega
      subst e1
      simp at hh
      simp [small_l0, g1, g2, g3]
      refine loopN (fun i S => S.t 4 = iv i ∧ (∃ st, S.t 1 = .ptr 19001 st 4 0 0 ∧ S.blk 19001 = some ⟨st, 4, [p.av]⟩) ∧
        ((∀ h ∈ p.as, h.regs.length ≤ 10) ↔ ∀ h ∈ p.as.drop i, h.regs.length ≤ 10)) p.as.length ?_ ?_
      · simp [g2, g3]
      · rintro i S hi ⟨g1, ⟨st, g2, g3⟩, hh2⟩
        by_cases hlt : i < p.as.length
        · rw [all_drop _ _ _ hlt] at hh2
          simp [small_l1, g1, g2, g3, hlt]
          refine split (fun c1 => ?_) (fun c1 => ?_) <;> simp [c1, g1, g2, g3, hlt, wrap_succ i _ hlt (by omega)]
          · intro h; have := (hh2.1 (e.1 h).2.1).1; omega
          · rw [hh2]; exact ⟨fun h => h.2, fun h => ⟨by omega, h⟩⟩
        · have e1 : i = p.as.length := by omega
          subst e1
          simp at hh2
          simp [small_l1, g1, g2, g3]
          refine loopN (fun i S => S.t 5 = iv i ∧ (∃ st, S.t 1 = .ptr 19001 st 4 0 0 ∧ S.blk 19001 = some ⟨st, 4, [p.av]⟩) ∧
            ((∀ h ∈ p.boot, h.args.length ≤ 6) ↔ ∀ h ∈ p.boot.drop i, h.args.length ≤ 6)) p.boot.length ?_ ?_
          · simp [g2, g3]
          · rintro i S hi ⟨g1, ⟨st, g2, g3⟩, hh3⟩
            by_cases hlt : i < p.boot.length
            · rw [all_drop _ _ _ hlt] at hh3
              simp [small_l2, g1, g2, g3, hlt]
              refine split (fun c1 => ?_) (fun c1 => ?_) <;> simp [c1, g1, g2, g3, hlt, wrap_succ i _ hlt (by omega)]
              · intro h; have := (hh3.1 (e.1 h).2.2).1; omega
              · rw [hh3]; exact ⟨fun h => h.2, fun h => ⟨by omega, h⟩⟩
            · have e1 : i = p.boot.length := by omega
              subst e1
              simp at hh3
              simp [small_l2, g1, g2, g3]
              exact e.2 ⟨hh, hh2, hh3⟩
def sizeN : List Hnd → Nat
  | [] => 0
  | h :: l => h.code.length + sizeN l
theorem sizeN_take (l : List Hnd) (i : Nat) (h : i < l.length) : sizeN (l.take (i + 1)) = sizeN (l.take i) + l[i].code.length := by
  induction l generalizing i with
  | nil => simp at h
  | cons a l ih =>
    cases i with
    | zero => simp [sizeN]
    | succ i => simp only [List.take_succ_cons, sizeN, List.getElem_cons_succ]; rw [ih i (by simpa using h)]; omega
theorem sizeN_le (l : List Hnd) (i : Nat) : sizeN (l.take i) ≤ sizeN l := by
  induction l generalizing i with
  | nil => simp
  | cons a l ih =>
    cases i with
    | zero => simp [sizeN]
    | succ i => simp only [List.take_succ_cons, sizeN]; have := ih i; omega
theorem size_pc (p : Prg) (hl : p.hs.length < 4611686018427387904) (hs : sizeN p.hs < 4611686018427387904) : PC Try.prog 26 [p.av] (iv (sizeN p.hs)) := by
  refine pc_of_get size_get (by simp) _ (by simp) _ ?_
  unfold size_c
  simp
  refine loopN (fun i S => S.t 6 = .lst 2 (p.hs.map Hnd.av) ∧ S.t 7 = iv p.hs.length ∧ S.t 8 = iv i ∧ S.t 2 = iv (sizeN (p.hs.take i))) p.hs.length ?_ ?_
  · simp [sizeN]
  · rintro i S hi ⟨g1, g2, g3, g4⟩
    by_cases hlt : i < p.hs.length
    · simp [size_l0, g1, g2, g3, g4, hlt, wrap_succ i _ hlt (by omega)]
      have := sizeN_take p.hs i hlt
      have := sizeN_le p.hs (i + 1)
      rw [wrap_in _ (by omega) (by omega)]
      omega
    · have e1 : i = p.hs.length := by omega
      subst e1
      rw [List.take_length] at g4
      simp [size_l0, g1, g2, g3, g4]
theorem same_pc (p q : Prg) (hp : okP p) : PC Try.prog 11 [p.av, q.av] (.bool (decide (p = q))) := by
  refine pc_of_get same_get (by simp) _ (by simp) _ ?_
  unfold same_c
  have e := Prg.eq_iff p q
  obtain ⟨h1, h2, h3, h4, h5, h6⟩ := hp
  simp
  refine call (eqfH_pc p.hs q.hs 35 (fun a ha b => sameHnd_pc a b (h4 a ha)) h1) (by simp) ?_
  simp
  refine split (fun c1 => ?_) (fun c1 => ?_) <;> simp [c1]
  rotate_left
  · grind
  refine call (eqfA_pc p.as q.as 37 (fun a ha b => sameAct_pc a b (h5 a ha)) h2) (by simp) ?_
  simp
  refine split (fun c2 => ?_) (fun c2 => ?_) <;> simp [c2]
  rotate_left
  · grind
  refine call (eqfN_pc p.boot q.boot 27 (fun a ha b => sameNote_pc a b (h6 a ha)) h3) (by simp) ?_
  simp
  refine split (fun c3 => ?_) (fun c3 => ?_) <;> simp [c3]
  rotate_left
  · grind
  grind
theorem rsame_pc (p q : Prg) (hp : okP p) : PC Try.prog 10 [p.av, q.av] (.bool (decide (p = q))) := by
  refine pc_of_get rsame_get (by simp) _ (by simp) _ ?_
  unfold rsame_c
  have e := Prg.eq_iff p q
  obtain ⟨h1, h2, h3, h4, h5, h6⟩ := hp
  simp
  refine split (fun c1 => ?_) (fun c1 => ?_) <;> simp [c1]
  rotate_left
  · grind
  refine split (fun c2 => ?_) (fun c2 => ?_) <;> simp [c2]
  rotate_left
  · grind
  refine split (fun c3 => ?_) (fun c3 => ?_) <;> simp [c3]
  rotate_left
  · grind
  refine call (rnotes_pc p.boot q.boot h6 h3) (by simp) ?_
  simp
  refine split (fun c4 => ?_) (fun c4 => ?_) <;> simp [c4]
  rotate_left
  · grind
  have hlen : p.hs.length = q.hs.length := by omega
  have hlen2 : p.as.length = q.as.length := by omega
  refine loopN (fun i S => S.t 5 = iv i ∧ (∃ st, S.t 2 = .ptr 24002 st 4 0 0 ∧ S.blk 24002 = some ⟨st, 4, [p.av]⟩) ∧ (∃ st, S.t 3 = .ptr 24003 st 4 0 0 ∧ S.blk 24003 = some ⟨st, 4, [q.av]⟩) ∧
    (p.hs = q.hs ↔ p.hs.drop i = q.hs.drop i)) p.hs.length ?_ ?_
  · simp [c3, c4]
  · rintro i S hi ⟨g1, ⟨st, g2, g3⟩, ⟨st', g4, g5⟩, hh⟩
    by_cases hlt : i < p.hs.length
    · have hlt2 : i < q.hs.length := by omega
      rw [List.drop_eq_getElem_cons hlt, List.drop_eq_getElem_cons hlt2, List.cons.injEq, Hnd.eq_iff] at hh
      simp [rsame_l0, g1, g2, g3, g4, g5, hlt, hlt2]
      refine split (fun c5 => ?_) (fun c5 => ?_) <;> simp [c5, g1, g2, g3, g4, g5, hlt, hlt2]
      rotate_left
      · grind
      refine calld (rcode_pc p.hs[i].code q.hs[i].code (h4 _ (List.getElem_mem hlt))) (by simp) ?_
      simp [c5, g1, g2, g3, g4, g5, hlt, hlt2]
      refine split (fun c6 => ?_) (fun c6 => ?_) <;> simp [c6, g1, g2, g3, g4, g5, hlt, hlt2, wrap_succ i _ hlt h1] <;> grind
    · have e1 : i = p.hs.length := by omega
      subst e1
      have hle : q.hs.length ≤ p.hs.length := by omega
      simp [hle] at hh
      simp [rsame_l0, g1, g2, g3, g4, g5]
      refine loopN (fun i S => S.t 6 = iv i ∧ (∃ st, S.t 2 = .ptr 24002 st 4 0 0 ∧ S.blk 24002 = some ⟨st, 4, [p.av]⟩) ∧ (∃ st, S.t 3 = .ptr 24003 st 4 0 0 ∧ S.blk 24003 = some ⟨st, 4, [q.av]⟩) ∧
        (p.as = q.as ↔ p.as.drop i = q.as.drop i)) p.as.length ?_ ?_
      · simp [g2, g3, g4, g5]
      · rintro i S hi ⟨g1, ⟨st, g2, g3⟩, ⟨st', g4, g5⟩, hh2⟩
        by_cases hlt : i < p.as.length
        · have hlt2 : i < q.as.length := by omega
          rw [List.drop_eq_getElem_cons hlt, List.drop_eq_getElem_cons hlt2, List.cons.injEq, Actr.eq_iff] at hh2
          simp [rsame_l1, g1, g2, g3, g4, g5, hlt, hlt2]
          refine call (rints_pc p.as[i].regs q.as[i].regs (h5 _ (List.getElem_mem hlt))) (by simp) ?_
          simp [g1, g2, g3, g4, g5, hlt, hlt2]
          refine split (fun c5 => ?_) (fun c5 => ?_) <;> simp [c5, g1, g2, g3, g4, g5, hlt, hlt2]
          rotate_left
          · grind
          refine split (fun c6 => ?_) (fun c6 => ?_) <;> simp [c5, c6, g1, g2, g3, g4, g5, hlt, hlt2]
          rotate_left
          · grind
          refine split (fun c7 => ?_) (fun c7 => ?_) <;> simp [c5, c6, c7, g1, g2, g3, g4, g5, hlt, hlt2]
          rotate_left
          · grind
          have ws := wrap_succ i _ hlt h2
          cases ha : p.as[i].armed <;> cases hb : q.as[i].armed <;> simp [ha, hb, c5, c6, c7, g1, g2, g3, g4, g5, hlt, hlt2, ws] <;> grind
        · have e1 : i = p.as.length := by omega
          subst e1
          have hle : q.as.length ≤ p.as.length := by omega
          simp [hle] at hh2
          simp [rsame_l1, g1, g2, g3, g4, g5]
          grind


end Go.Gv

/- What slices.Clone, prog.CopyNote and prog.Copy answer. Lists of at most 1000. -/
set_option linter.unusedVariables false
set_option linter.unusedSimpArgs false
namespace Go.Gv
open Go.Proofs

def cloneI_r0 : List AI := [⟨(some 2), none, (.op (.mv (.c .nils)))⟩]
def cloneI_r1 : List AI := [⟨(some 3), none, (.op (.mv (.t 0)))⟩, ⟨(some 4), none, (.nq 0 false (.t 3))⟩]
def cloneI_r2 : List AI := [⟨(some 2), none, (.op (.mv (.c .nils)))⟩]
def cloneI_r3 : List AI := [⟨(some 5), none, (.op (.bsl 63005 1 3 0 (.int .i64 0) []))⟩, ⟨(some 6), none, (.op (.mv (.t 0)))⟩, ⟨(some 7), none, (.op (.app 63007 1 3 8 (.t 5) (.t 6)))⟩, ⟨(some 2), none, (.op (.mv (.t 7)))⟩]
def cloneI_c : AC := (.seq (.reg cloneI_r0) (.seq (.seq (.reg cloneI_r1) (.cond (.t 4) (.seq (.reg cloneI_r2) .ret) .skip)) (.seq (.reg cloneI_r3) .ret)))
def cloneI_res : List ARes := [(.tmp 2)]
set_option maxRecDepth 100000 in
theorem cloneI_get : getF Try.prog 29 63000 [] = some ("slices.Clone[[]int,int]", 8, cloneI_c, cloneI_res) := by kernel_rfl
def cloneC_r0 : List AI := [⟨(some 2), none, (.op (.mv (.c .nils)))⟩]
def cloneC_r1 : List AI := [⟨(some 3), none, (.op (.mv (.t 0)))⟩, ⟨(some 4), none, (.nq 0 false (.t 3))⟩]
def cloneC_r2 : List AI := [⟨(some 2), none, (.op (.mv (.c .nils)))⟩]
def cloneC_r3 : List AI := [⟨(some 5), none, (.op (.bsl 62005 2 35 0 (.agg [(.int .i64 0), (.int .i64 0)]) []))⟩, ⟨(some 6), none, (.op (.mv (.t 0)))⟩, ⟨(some 7), none, (.op (.app 62007 2 35 16 (.t 5) (.t 6)))⟩, ⟨(some 2), none, (.op (.mv (.t 7)))⟩]
def cloneC_c : AC := (.seq (.reg cloneC_r0) (.seq (.seq (.reg cloneC_r1) (.cond (.t 4) (.seq (.reg cloneC_r2) .ret) .skip)) (.seq (.reg cloneC_r3) .ret)))
def cloneC_res : List ARes := [(.tmp 2)]
set_option maxRecDepth 100000 in
theorem cloneC_get : getF Try.prog 28 62000 [] = some ("slices.Clone[[]gavotte/api.Instr,gavotte/api.Instr]", 8, cloneC_c, cloneC_res) := by kernel_rfl
def copyNote_r0 : List AI := [⟨(some 1), none, (.op (.box 51001 3 (.t 0)))⟩, ⟨(some 2), none, (.op (.new 51002 3 (.agg [(.int .i64 0), (.int .i64 0), .nils])))⟩]
def copyNote_r1 : List AI := [⟨(some 3), none, (.op (.fld 2 (.t 1)))⟩, ⟨(some 4), none, (.op (.load none (.t 3)))⟩, ⟨(some 5), none, (.call (.c (.fn 29 [])) [(.t 4)])⟩, ⟨(some 6), none, (.op (.fld 2 (.t 1)))⟩, ⟨none, none, (.op (.store 1 (.t 6) (.t 5)))⟩]
def copyNote_r2 : List AI := [⟨(some 7), none, (.op (.load (some 3) (.t 1)))⟩, ⟨none, none, (.op (.store 3 (.t 2) (.t 7)))⟩]
def copyNote_c : AC := (.seq (.reg copyNote_r0) (.seq (.reg copyNote_r1) (.seq (.reg copyNote_r2) .ret)))
def copyNote_res : List ARes := [(.cell (some 3) 2)]
set_option maxRecDepth 100000 in
theorem copyNote_get : getF Try.prog 30 51000 [] = some ("gavotte/prog.CopyNote", 8, copyNote_c, copyNote_res) := by kernel_rfl
def copyP_r0 : List AI := [⟨(some 1), none, (.op (.box 26001 4 (.t 0)))⟩, ⟨(some 2), none, (.op (.new 26002 4 (.agg [.nils, .nils, .nils, (.int .i64 0)])))⟩]
def copyP_r1 : List AI := [⟨(some 10), none, (.op (.fld 3 (.t 1)))⟩, ⟨(some 11), none, (.op (.load none (.t 10)))⟩, ⟨(some 12), none, (.op (.build [.nils, .nils, .nils, (.int .i64 0)] [(3, (1, (.t 11)))]))⟩, ⟨(some 3), none, (.op (.new 26003 4 (.agg [.nils, .nils, .nils, (.int .i64 0)])))⟩, ⟨none, none, (.op (.store 4 (.t 3) (.t 12)))⟩]
def copyP_r2 : List AI := [⟨(some 13), none, (.op (.fld 0 (.t 1)))⟩, ⟨(some 14), none, (.op (.load none (.t 13)))⟩, ⟨(some 15), none, (.op (.len (.t 14)))⟩, ⟨(some 16), none, (.op (.mv (.c (.int .i64 0))))⟩]
def copyP_r3 : List AI := [⟨(some 17), none, (.op (.ibin .lss (.t 16) (.t 15)))⟩]
def copyP_r4 : List AI := [⟨(some 18), none, (.op (.idx 2 (.t 14) (.t 16)))⟩, ⟨(some 19), none, (.op (.load (some 2) (.t 18)))⟩, ⟨(some 5), none, (.op (.new 26005 2 (.agg [(.int .i64 0), .nils])))⟩, ⟨none, none, (.op (.store 2 (.t 5) (.t 19)))⟩]
def copyP_r5 : List AI := [⟨(some 20), none, (.op (.fld 0 (.t 3)))⟩, ⟨(some 21), none, (.op (.load none (.t 20)))⟩, ⟨(some 22), none, (.op (.fld 0 (.t 5)))⟩, ⟨(some 23), none, (.op (.load none (.t 22)))⟩, ⟨(some 24), none, (.op (.fld 1 (.t 5)))⟩, ⟨(some 25), none, (.op (.load none (.t 24)))⟩, ⟨(some 26), none, (.call (.c (.fn 28 [])) [(.t 25)])⟩, ⟨(some 27), none, (.op (.build [(.int .i64 0), .nils] [(0, (1, (.t 23))), (1, (1, (.t 26)))]))⟩, ⟨(some 28), none, (.op (.bsl 26028 2 33 1 (.agg [(.int .i64 0), .nils]) [(0, (.t 27))]))⟩, ⟨(some 29), none, (.op (.app 26029 2 33 32 (.t 21) (.t 28)))⟩, ⟨(some 30), none, (.op (.fld 0 (.t 3)))⟩, ⟨none, none, (.op (.store 1 (.t 30) (.t 29)))⟩]
def copyP_p5 : List (List Nat) := [[], [0], [], [2], [], [4], [5, 4], [3, 6, 2, 5, 4], [7, 3, 6, 2, 5, 4], [1, 8, 6, 0, 7, 3, 2, 5, 4], [0, 1, 2, 3, 4, 5, 6, 7, 8, 9], [10, 9, 0, 1, 2, 3, 4, 5, 6, 7, 8]]
def copyP_r6 : List AI := [⟨(some 31), none, (.op (.ibin .add (.t 16) (.c (.int .i64 1))))⟩, ⟨(some 16), none, (.op (.mv (.t 31)))⟩]
def copyP_l0 : AC := (.seq (.reg copyP_r3) (.seq (.cond (.t 17) .skip (.exit 0)) (.seq (.block 1 (.seq (.reg copyP_r4) (.regd copyP_r5 copyP_p5))) (.reg copyP_r6))))
def copyP_r7 : List AI := [⟨(some 32), none, (.op (.fld 1 (.t 1)))⟩, ⟨(some 33), none, (.op (.load none (.t 32)))⟩, ⟨(some 34), none, (.op (.len (.t 33)))⟩, ⟨(some 35), none, (.op (.mv (.c (.int .i64 0))))⟩]
def copyP_r8 : List AI := [⟨(some 36), none, (.op (.ibin .lss (.t 35) (.t 34)))⟩]
def copyP_r9 : List AI := [⟨(some 37), none, (.op (.idx 4 (.t 33) (.t 35)))⟩, ⟨(some 38), none, (.op (.load (some 4) (.t 37)))⟩, ⟨(some 7), none, (.op (.new 26007 4 (.agg [.nils, (.int .i64 0), (.int .i64 0), (.bool false)])))⟩, ⟨none, none, (.op (.store 4 (.t 7) (.t 38)))⟩]
def copyP_r10 : List AI := [⟨(some 39), none, (.op (.fld 0 (.t 7)))⟩, ⟨(some 40), none, (.op (.load none (.t 39)))⟩, ⟨(some 41), none, (.call (.c (.fn 29 [])) [(.t 40)])⟩, ⟨(some 42), none, (.op (.fld 0 (.t 7)))⟩, ⟨none, none, (.op (.store 1 (.t 42) (.t 41)))⟩]
def copyP_r11 : List AI := [⟨(some 43), none, (.op (.fld 1 (.t 3)))⟩, ⟨(some 44), none, (.op (.load none (.t 43)))⟩, ⟨(some 45), none, (.op (.load (some 4) (.t 7)))⟩, ⟨(some 46), none, (.op (.bsl 26046 4 38 1 (.agg [.nils, (.int .i64 0), (.int .i64 0), (.bool false)]) [(0, (.t 45))]))⟩, ⟨(some 47), none, (.op (.app 26047 4 38 48 (.t 44) (.t 46)))⟩, ⟨(some 48), none, (.op (.fld 1 (.t 3)))⟩, ⟨none, none, (.op (.store 1 (.t 48) (.t 47)))⟩]
def copyP_r12 : List AI := [⟨(some 49), none, (.op (.ibin .add (.t 35) (.c (.int .i64 1))))⟩, ⟨(some 35), none, (.op (.mv (.t 49)))⟩]
def copyP_l1 : AC := (.seq (.reg copyP_r8) (.seq (.cond (.t 36) .skip (.exit 2)) (.seq (.block 3 (.seq (.reg copyP_r9) (.seq (.reg copyP_r10) (.reg copyP_r11)))) (.reg copyP_r12))))
def copyP_r13 : List AI := [⟨(some 50), none, (.op (.fld 2 (.t 1)))⟩, ⟨(some 51), none, (.op (.load none (.t 50)))⟩, ⟨(some 52), none, (.op (.len (.t 51)))⟩, ⟨(some 53), none, (.op (.mv (.c (.int .i64 0))))⟩]
def copyP_r14 : List AI := [⟨(some 54), none, (.op (.ibin .lss (.t 53) (.t 52)))⟩]
def copyP_r15 : List AI := [⟨(some 55), none, (.op (.idx 3 (.t 51) (.t 53)))⟩, ⟨(some 56), none, (.op (.load (some 3) (.t 55)))⟩, ⟨(some 9), none, (.op (.new 26009 3 (.agg [(.int .i64 0), (.int .i64 0), .nils])))⟩, ⟨none, none, (.op (.store 3 (.t 9) (.t 56)))⟩]
def copyP_r16 : List AI := [⟨(some 57), none, (.op (.fld 2 (.t 3)))⟩, ⟨(some 58), none, (.op (.load none (.t 57)))⟩, ⟨(some 59), none, (.op (.load (some 3) (.t 9)))⟩, ⟨(some 60), none, (.call (.c (.fn 30 [])) [(.t 59)])⟩, ⟨(some 61), none, (.op (.bsl 26061 3 40 1 (.agg [(.int .i64 0), (.int .i64 0), .nils]) [(0, (.t 60))]))⟩, ⟨(some 62), none, (.op (.app 26062 3 40 40 (.t 58) (.t 61)))⟩, ⟨(some 63), none, (.op (.fld 2 (.t 3)))⟩, ⟨none, none, (.op (.store 1 (.t 63) (.t 62)))⟩]
def copyP_p16 : List (List Nat) := [[], [0], [], [2], [3, 2], [1, 4, 3, 0, 2], [0, 1, 2, 3, 4, 5], [6, 5, 0, 1, 2, 3, 4]]
def copyP_r17 : List AI := [⟨(some 64), none, (.op (.ibin .add (.t 53) (.c (.int .i64 1))))⟩, ⟨(some 53), none, (.op (.mv (.t 64)))⟩]
def copyP_l2 : AC := (.seq (.reg copyP_r14) (.seq (.cond (.t 54) .skip (.exit 4)) (.seq (.block 5 (.seq (.reg copyP_r15) (.regd copyP_r16 copyP_p16))) (.reg copyP_r17))))
def copyP_r18 : List AI := [⟨(some 65), none, (.op (.load (some 4) (.t 3)))⟩, ⟨none, none, (.op (.store 4 (.t 2) (.t 65)))⟩]
def copyP_c : AC := (.seq (.reg copyP_r0) (.seq (.reg copyP_r1) (.seq (.seq (.reg copyP_r2) (.block 0 (.loop copyP_l0))) (.seq (.seq (.reg copyP_r7) (.block 2 (.loop copyP_l1))) (.seq (.seq (.reg copyP_r13) (.block 4 (.loop copyP_l2))) (.seq (.reg copyP_r18) .ret))))))
def copyP_res : List ARes := [(.cell (some 4) 2)]
set_option maxRecDepth 100000 in
theorem copyP_get : getF Try.prog 9 26000 [] = some ("gavotte/prog.Copy", 66, copyP_c, copyP_res) := by kernel_rfl
attribute [simp] cloneI_r0 cloneI_r1 cloneI_r2 cloneI_r3 cloneI_res cloneC_r0 cloneC_r1 cloneC_r2 cloneC_r3 cloneC_res copyNote_r0 copyNote_r1 copyNote_r2 copyNote_res copyP_r0 copyP_r1 copyP_r2 copyP_r3 copyP_r4 copyP_r5 copyP_p5 copyP_r6 copyP_r7 copyP_r8 copyP_r9 copyP_r10 copyP_r11 copyP_r12 copyP_r13 copyP_r14 copyP_r15 copyP_r16 copyP_p16 copyP_r17 copyP_r18 copyP_res


theorem cloneIns_pc (l : List Ins) (h : l.length ≤ 1000) : PC Try.prog 28 [.lst 2 (l.map Ins.av)] (.lst 2 (l.map Ins.av)) := by
  refine pc_of_get cloneC_get (by simp) _ (by simp) _ ?_
  unfold cloneC_c
  cases l with
  | nil =>
    simp
    refine opG_none _ _ ?_ ?_ <;> simp
  | cons x l =>
    simp at h
    simp [ints]
    rw [if_pos (by omega)]
    simp
theorem cloneInts_pc (l : List Int) (h : l.length ≤ 1000) : PC Try.prog 29 [ints l] (ints l) := by
  refine pc_of_get cloneI_get (by simp) _ (by simp) _ ?_
  unfold cloneI_c
  cases l with
  | nil =>
    simp
    refine opG_none _ _ ?_ ?_ <;> simp
  | cons x l =>
    simp at h
    simp [ints]
    rw [if_pos (by omega)]
    simp
theorem copyNote_pc (n : Nt) (h : n.args.length ≤ 1000) : PC Try.prog 30 [n.av] n.av := by
  refine pc_of_get copyNote_get (by simp) _ (by simp) _ ?_
  unfold copyNote_c
  simp
  refine call (cloneInts_pc n.args h) (by simp) ?_
  simp
def fitP (p : Prg) : Prop := p.hs.length ≤ 1000 ∧ p.as.length ≤ 1000 ∧ p.boot.length ≤ 1000 ∧ (∀ h ∈ p.hs, h.code.length ≤ 1000) ∧ (∀ a ∈ p.as, a.regs.length ≤ 1000) ∧ (∀ n ∈ p.boot, n.args.length ≤ 1000)
def AccIs (S : St) (v : AV) (nm sz : Nat) (ty : TypeId) (xs : List AV) : Prop := (v = .nils ∧ xs = []) ∨ ∃ st, v = .acc nm st sz xs ∧ S.tok nm = some ⟨st, sz, ty⟩
theorem take_succ_map {α : Type} (f : α → AV) (l : List α) (i : Nat) (h : i < l.length) : (l.map f).take (i + 1) = (l.map f).take i ++ [f l[i]] := by
  rw [List.take_succ_eq_append_getElem (by simpa using h), List.getElem_map]
theorem AccIs.out {S : St} {v : AV} {nm sz : Nat} {ty : TypeId} {xs : List AV} (h : AccIs S v nm sz ty xs) : v.one = true ∧ v.cells = [v] ∧ ∀ B, co1 B v (.lst sz xs) := by
  rcases h with ⟨rfl, rfl⟩ | ⟨st, rfl, _⟩ <;> simp
theorem copy_pc (p : Prg) (hp : fitP p) : PC Try.prog 9 [p.av] p.av := by
  obtain ⟨q1, q2, q3, q4, q5, q6⟩ := hp
  refine pc_of_get copyP_get (by simp) _ (by simp) _ ?_
  unfold copyP_c
  simp
  refine loopN (fun i S => S.t 14 = .lst 2 (p.hs.map Hnd.av) ∧ S.t 15 = iv p.hs.length ∧ S.t 16 = iv i ∧ (∃ st, S.t 1 = .ptr 26001 st 4 0 0 ∧ S.blk 26001 = some ⟨st, 4, [p.av]⟩) ∧
    (∃ st, S.t 2 = .ptr 26002 st 4 0 0 ∧ S.blk 26002 = some ⟨st, 4, [.agg [.nils, .nils, .nils, iv 0]]⟩) ∧
    (∃ st v, S.t 3 = .ptr 26003 st 4 0 0 ∧ S.blk 26003 = some ⟨st, 4, [.agg [v, .nils, .nils, iv p.fuel]]⟩ ∧ AccIs S v 26029 2 33 ((p.hs.map Hnd.av).take i))) p.hs.length ?_ ?_
  · simp [AccIs]
  · rintro i S hi ⟨g1, g2, g3, ⟨s1, g4, g5⟩, ⟨s2, g6, g7⟩, ⟨s3, v, g8, g9, hv⟩⟩
    by_cases hlt : i < p.hs.length
    · simp [copyP_l0, g1, g2, g3, g4, g5, g6, g7, g8, g9, hlt]
      have ws := wrap_succ i _ hlt (by omega)
      have hb : (min i p.hs.length + 1) * 32 ≤ 140737488355328 := by omega
      have ht := take_succ_map Hnd.av p.hs i hlt
      rcases hv with ⟨rfl, hx⟩ | ⟨s4, rfl, hx⟩
      · refine calld (cloneIns_pc p.hs[i].code (q4 _ (List.getElem_mem hlt))) (by simp) ?_
        simp [g1, g2, g3, g4, g5, g6, g7, g8, g9, hlt, ws]
        simp [AccIs, ht, hx]
      · refine calld (cloneIns_pc p.hs[i].code (q4 _ (List.getElem_mem hlt))) (by simp) ?_
        simp [g1, g2, g3, g4, g5, g6, g7, g8, g9, hx, hlt, ws, hb]
        simp [AccIs, ht, hx]
    · have e1 : i = p.hs.length := by omega
      subst e1
      simp [copyP_l0, g1, g2, g3, g4, g5, g6, g7, g8, g9]
      rw [List.take_of_length_le (by simp)] at hv
      obtain ⟨o1, o2, o3⟩ := hv.out
      clear hv
      refine loopN (fun i S => S.t 33 = .lst 4 (p.as.map Actr.av) ∧ S.t 34 = iv p.as.length ∧ S.t 35 = iv i ∧ (∃ st, S.t 1 = .ptr 26001 st 4 0 0 ∧ S.blk 26001 = some ⟨st, 4, [p.av]⟩) ∧
        (∃ st, S.t 2 = .ptr 26002 st 4 0 0 ∧ S.blk 26002 = some ⟨st, 4, [.agg [.nils, .nils, .nils, iv 0]]⟩) ∧
        (∃ st v', S.t 3 = .ptr 26003 st 4 0 0 ∧ S.blk 26003 = some ⟨st, 4, [.agg [v, v', .nils, iv p.fuel]]⟩ ∧ AccIs S v' 26047 4 38 ((p.as.map Actr.av).take i))) p.as.length ?_ ?_
      · simp [AccIs, g4, g5, g6, g7, g8, g9]
      · clear g1 g2 g3 g4 g5 g6 g7 g8 g9 hi hlt S s1 s2 s3
        rintro i S hi ⟨g1, g2, g3, ⟨s1, g4, g5⟩, ⟨s2, g6, g7⟩, ⟨s3, v', g8, g9, hv⟩⟩
        by_cases hlt : i < p.as.length
        · simp [copyP_l1, g1, g2, g3, g4, g5, g6, g7, g8, g9, hlt]
          have ws := wrap_succ i _ hlt (by omega)
          have hb : (min i p.as.length + 1) * 48 ≤ 140737488355328 := by omega
          have ht := take_succ_map Actr.av p.as i hlt
          refine call (cloneInts_pc p.as[i].regs (q5 _ (List.getElem_mem hlt))) (by simp) ?_
          rcases hv with ⟨rfl, hx⟩ | ⟨s4, rfl, hx⟩
          · simp [g1, g2, g3, g4, g5, g6, g7, g8, g9, hlt, ws, o1, o2]
            simp [AccIs, ht, hx]
          · simp [g1, g2, g3, g4, g5, g6, g7, g8, g9, hx, hlt, ws, hb, o1, o2]
            simp [AccIs, ht, hx]
        · have e1 : i = p.as.length := by omega
          subst e1
          simp [copyP_l1, g1, g2, g3, g4, g5, g6, g7, g8, g9]
          rw [List.take_of_length_le (by simp)] at hv
          obtain ⟨r1, r2, r3⟩ := hv.out
          clear hv
          refine loopN (fun i S => S.t 51 = .lst 3 (p.boot.map Nt.av) ∧ S.t 52 = iv p.boot.length ∧ S.t 53 = iv i ∧
            (∃ st, S.t 2 = .ptr 26002 st 4 0 0 ∧ S.blk 26002 = some ⟨st, 4, [.agg [.nils, .nils, .nils, iv 0]]⟩) ∧
            (∃ st v'', S.t 3 = .ptr 26003 st 4 0 0 ∧ S.blk 26003 = some ⟨st, 4, [.agg [v, v', v'', iv p.fuel]]⟩ ∧ AccIs S v'' 26062 3 40 ((p.boot.map Nt.av).take i))) p.boot.length ?_ ?_
          · simp [AccIs, g4, g5, g6, g7, g8, g9]
          · clear g1 g2 g3 g4 g5 g6 g7 g8 g9 hi hlt S s1 s2 s3
            rintro i S hi ⟨g1, g2, g3, ⟨s2, g6, g7⟩, ⟨s3, v'', g8, g9, hv⟩⟩
            by_cases hlt : i < p.boot.length
            · simp [copyP_l2, g1, g2, g3, g6, g7, g8, g9, hlt]
              have ws := wrap_succ i _ hlt (by omega)
              have hb : (min i p.boot.length + 1) * 40 ≤ 140737488355328 := by omega
              have ht := take_succ_map Nt.av p.boot i hlt
              rcases hv with ⟨rfl, hx⟩ | ⟨s4, rfl, hx⟩
              · refine calld (copyNote_pc p.boot[i] (q6 _ (List.getElem_mem hlt))) (by simp) ?_
                simp [g1, g2, g3, g6, g7, g8, g9, hlt, ws, o1, o2, r1, r2]
                simp [AccIs, ht, hx]
              · refine calld (copyNote_pc p.boot[i] (q6 _ (List.getElem_mem hlt))) (by simp) ?_
                simp [g1, g2, g3, g6, g7, g8, g9, hx, hlt, ws, hb, o1, o2, r1, r2]
                simp [AccIs, ht, hx]
            · have e1 : i = p.boot.length := by omega
              subst e1
              rw [List.take_of_length_le (by simp)] at hv
              obtain ⟨t1, t2, t3⟩ := hv.out
              simp [copyP_l2, g1, g2, g3, g6, g7, g8, g9, o1, o2, o3, r1, r2, r3, t1, t2, t3]


end Go.Gv
