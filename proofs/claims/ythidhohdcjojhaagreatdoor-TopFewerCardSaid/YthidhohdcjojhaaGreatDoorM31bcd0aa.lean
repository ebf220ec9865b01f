/- Texts of this proof, one behind the other. What is proved, and on which conditions, stands ahead of each. -/
import Derived.Test.YthidhohdcjojhaaGreatDoorProg
import Derived.Test.YthidhohdcjojhaaGreatDoorM305deb75

set_option linter.unusedVariables false
set_option linter.unusedSimpArgs false
namespace Go.Gv
open Go.Proofs
def fnew_r0 : List AI := [⟨(some 4), none, (.op (.box 268004 4 (.t 0)))⟩, ⟨(some 5), none, (.op (.box 268005 4 (.t 1)))⟩, ⟨(some 7), none, (.op (.box 268007 2 (.t 3)))⟩, ⟨(some 8), none, (.op (.mv (.c .nilp)))⟩, ⟨(some 9), none, (.op (.new 268009 6 (.agg [.nils, .nils, (.int .i64 0), (.int .i64 0), (.int .i64 0), (.int .i64 0)])))⟩, ⟨(some 10), none, (.op (.mv (.c (.int .i64 0))))⟩]
def fnew_r1 : List AI := [⟨(some 14), none, (.op (.load (some 4) (.t 4)))⟩, ⟨(some 15), none, (.op (.mv (.t 2)))⟩, ⟨(some 16), none, (.call (.c (.fn 55 [])) [(.t 14), (.t 15)])⟩, ⟨(some 11), none, (.op (.mv (.t 16)))⟩]
def fnew_r2 : List AI := [⟨(some 17), none, (.op (.mv (.t 11)))⟩, ⟨(some 18), none, (.op (.ibin .neq (.t 17) (.c (.int .i64 0))))⟩]
def fnew_r3 : List AI := [⟨(some 19), none, (.op (.build [.nils, .nils, (.int .i64 0), (.int .i64 0), (.int .i64 0), (.int .i64 0)] []))⟩, ⟨(some 20), none, (.op (.mv (.t 11)))⟩, ⟨(some 8), none, (.op (.mv (.c .nilp)))⟩, ⟨none, none, (.op (.store 6 (.t 9) (.t 19)))⟩, ⟨(some 10), none, (.op (.mv (.t 20)))⟩]
def fnew_r4 : List AI := [⟨(some 21), none, (.op (.load (some 4) (.t 5)))⟩, ⟨(some 22), none, (.call (.c (.fn 56 [])) [(.t 21)])⟩, ⟨(some 23), none, (.op (.not (.t 22)))⟩, ⟨(some 24), none, (.op (.mv (.t 23)))⟩, ⟨(some 25), (some (24, false)), (.op (.load (some 2) (.t 7)))⟩, ⟨(some 26), (some (24, false)), (.call (.c (.fn 57 [])) [(.t 25)])⟩, ⟨(some 27), (some (24, false)), (.op (.not (.t 26)))⟩, ⟨(some 28), none, (.op (.pick (.t 24) (.c (.bool true)) (.t 27)))⟩]
def fnew_r5 : List AI := [⟨(some 29), none, (.op (.build [.nils, .nils, (.int .i64 0), (.int .i64 0), (.int .i64 0), (.int .i64 0)] []))⟩, ⟨(some 8), none, (.op (.mv (.c .nilp)))⟩, ⟨none, none, (.op (.store 6 (.t 9) (.t 29)))⟩, ⟨(some 10), none, (.op (.mv (.c (.int .i64 1))))⟩]
def fnew_r6 : List AI := [⟨(some 31), none, (.op (.load (some 4) (.t 4)))⟩, ⟨(some 32), none, (.call (.c (.fn 58 [])) [(.t 31)])⟩, ⟨(some 30), none, (.op (.mv (.t 32)))⟩, ⟨(some 33), none, (.op (.ext (.t 30) 0))⟩, ⟨(some 34), none, (.op (.ext (.t 30) 1))⟩, ⟨(some 12), none, (.op (.new 268012 6 (.agg [.nils, .nils, (.int .i64 0), (.int .i64 0), (.int .i64 0), (.int .i64 0)])))⟩, ⟨none, none, (.op (.store 6 (.t 12) (.t 33)))⟩, ⟨(some 13), none, (.op (.mv (.t 34)))⟩]
def fnew_r7 : List AI := [⟨(some 35), none, (.op (.load (some 4) (.t 4)))⟩, ⟨(some 36), none, (.op (.load (some 4) (.t 5)))⟩, ⟨(some 37), none, (.op (.load (some 2) (.t 7)))⟩, ⟨(some 38), none, (.op (.mv (.t 2)))⟩, ⟨(some 39), none, (.op (.build [(.bool false), (.int .i64 0), (.int .i64 0), .nils, .nils, .nils, .nils, (.int .i64 0), (.int .i64 0), (.int .i64 0), (.int .i64 0), (.int .i64 0), (.int .i64 0), (.int .i64 0), .nils, .nils, (.bool false)] [(4, (4, (.t 35))), (8, (4, (.t 36))), (12, (2, (.t 37))), (15, (1, (.t 38)))]))⟩, ⟨(some 40), none, (.op (.box 268040 17 (.t 39)))⟩, ⟨(some 41), none, (.op (.load (some 6) (.t 12)))⟩, ⟨(some 42), none, (.op (.mv (.t 13)))⟩, ⟨(some 8), none, (.op (.mv (.t 40)))⟩, ⟨none, none, (.op (.store 6 (.t 9) (.t 41)))⟩, ⟨(some 10), none, (.op (.mv (.t 42)))⟩]
def fnew_p7 : List (List Nat) := [[], [], [], [], [0, 1, 2, 3], [4, 0, 1, 2, 3], [], [], [5, 0, 1, 2, 3, 4], [6, 8, 0, 1, 2, 3, 4, 5], [7, 9, 0, 1, 2, 3, 4, 5, 6, 8]]
def fnew_c : AC := (.seq (.reg fnew_r0) (.seq (.seq (.reg fnew_r1) (.seq (.reg fnew_r2) (.cond (.t 18) (.seq (.reg fnew_r3) .ret) .skip))) (.seq (.seq (.reg fnew_r4) (.cond (.t 28) (.seq (.reg fnew_r5) .ret) .skip)) (.seq (.reg fnew_r6) (.seq (.regd fnew_r7 fnew_p7) .ret)))))
def fnew_res : List ARes := [(.tmp 8), (.cell (some 6) 9), (.tmp 10)]
set_option maxRecDepth 100000 in
theorem fnew_get : getF Tryz.prog 29 268000 [] = some ("gavotte/naive.New", 43, fnew_c, fnew_res) := by kernel_rfl
def watched_r0 : List AI := [⟨(some 5), none, (.op (.box 269005 4 (.t 0)))⟩, ⟨(some 6), none, (.op (.box 269006 4 (.t 1)))⟩, ⟨(some 8), none, (.op (.box 269008 2 (.t 3)))⟩, ⟨(some 9), none, (.op (.box 269009 2 (.t 4)))⟩, ⟨(some 10), none, (.op (.new 269010 4 (.agg [(.bool false), (.int .i64 0), (.int .i64 0), .nils])))⟩, ⟨(some 11), none, (.op (.new 269011 2 (.agg [(.int .i64 0), (.int .i64 0)])))⟩, ⟨(some 12), none, (.op (.mv (.c (.int .i64 0))))⟩]
def watched_r1 : List AI := [⟨(some 18), none, (.op (.load (some 4) (.t 5)))⟩, ⟨(some 19), none, (.op (.load (some 4) (.t 6)))⟩, ⟨(some 20), none, (.op (.mv (.t 2)))⟩, ⟨(some 21), none, (.op (.load (some 2) (.t 8)))⟩, ⟨(some 22), none, (.call (.c (.fn 29 [])) [(.t 18), (.t 19), (.t 20), (.t 21)])⟩, ⟨(some 17), none, (.op (.mv (.t 22)))⟩, ⟨(some 23), none, (.op (.ext (.t 17) 0))⟩, ⟨(some 24), none, (.op (.ext (.t 17) 1))⟩, ⟨(some 25), none, (.op (.ext (.t 17) 2))⟩, ⟨(some 14), none, (.op (.new 269014 6 (.agg [.nils, .nils, (.int .i64 0), (.int .i64 0), (.int .i64 0), (.int .i64 0)])))⟩, ⟨(some 13), none, (.op (.mv (.t 23)))⟩, ⟨none, none, (.op (.store 6 (.t 14) (.t 24)))⟩, ⟨(some 15), none, (.op (.mv (.t 25)))⟩]
def watched_r2 : List AI := [⟨(some 26), none, (.op (.mv (.t 15)))⟩, ⟨(some 27), none, (.op (.ibin .neq (.t 26) (.c (.int .i64 0))))⟩]
def watched_r3 : List AI := [⟨(some 28), none, (.op (.build [(.bool false), (.int .i64 0), (.int .i64 0), .nils] []))⟩, ⟨(some 29), none, (.op (.build [(.int .i64 0), (.int .i64 0)] []))⟩, ⟨(some 30), none, (.op (.mv (.t 15)))⟩, ⟨none, none, (.op (.store 4 (.t 10) (.t 28)))⟩, ⟨none, none, (.op (.store 2 (.t 11) (.t 29)))⟩, ⟨(some 12), none, (.op (.mv (.t 30)))⟩]
def watched_r4 : List AI := [⟨(some 31), none, (.op (.mv (.t 13)))⟩, ⟨(some 32), none, (.op (.load (some 2) (.t 9)))⟩, ⟨(some 33), none, (.op (.build [.nilp, (.int .i64 0), (.int .i64 0), .nilf, .nilf] [(0, (1, (.t 31))), (3, (2, (.t 32)))]))⟩, ⟨(some 34), none, (.op (.box 269034 5 (.t 33)))⟩, ⟨(some 16), none, (.op (.mv (.t 34)))⟩]
def watched_r5 : List AI := [⟨(some 35), none, (.op (.mv (.t 16)))⟩, ⟨(some 36), none, (.op (.load (some 6) (.t 14)))⟩, ⟨(some 37), none, (.call (.c (.fn 54 [])) [(.t 35), (.t 36), (.c .nils)])⟩]
def watched_r6 : List AI := [⟨(some 38), none, (.op (.mv (.t 16)))⟩, ⟨(some 39), none, (.op (.nilck (.t 38)))⟩, ⟨(some 40), none, (.op (.fld 0 (.t 39)))⟩, ⟨(some 41), none, (.op (.load none (.t 40)))⟩, ⟨(some 42), none, (.call (.c (.fn 31 [])) [(.t 41)])⟩, ⟨(some 43), none, (.op (.mv (.t 16)))⟩, ⟨(some 44), none, (.op (.nilck (.t 43)))⟩, ⟨(some 45), none, (.op (.fld 1 (.t 44)))⟩, ⟨(some 46), none, (.op (.load (some 2) (.t 45)))⟩, ⟨none, none, (.op (.store 4 (.t 10) (.t 42)))⟩, ⟨none, none, (.op (.store 2 (.t 11) (.t 46)))⟩, ⟨(some 12), none, (.op (.mv (.c (.int .i64 0))))⟩]
def watched_p6 : List (List Nat) := [[], [0], [1, 0], [2, 1, 0], [3, 2, 1, 0], [], [5], [6, 5], [7, 6, 5], [4, 0, 1, 2, 3], [8, 9, 0, 1, 2, 3, 4, 5, 6, 7], [10, 0, 1, 2, 3, 4, 5, 6, 7, 8, 9]]
def watched_c : AC := (.seq (.reg watched_r0) (.seq (.reg watched_r1) (.seq (.seq (.reg watched_r2) (.cond (.t 27) (.seq (.reg watched_r3) .ret) .skip)) (.seq (.reg watched_r4) (.seq (.reg watched_r5) (.seq (.regd watched_r6 watched_p6) .ret))))))
def watched_res : List ARes := [(.cell (some 4) 10), (.cell (some 2) 11), (.tmp 12)]
set_option maxRecDepth 100000 in
theorem watched_get : getF Tryz.prog 26 269000 [] = some ("gavotte/sleep.Watched", 47, watched_c, watched_res) := by kernel_rfl
def sexplore_r0 : List AI := [⟨(some 4), none, (.op (.box 270004 4 (.t 0)))⟩, ⟨(some 5), none, (.op (.box 270005 4 (.t 1)))⟩, ⟨(some 7), none, (.op (.box 270007 2 (.t 3)))⟩, ⟨(some 8), none, (.op (.new 270008 4 (.agg [(.bool false), (.int .i64 0), (.int .i64 0), .nils])))⟩, ⟨(some 9), none, (.op (.new 270009 2 (.agg [(.int .i64 0), (.int .i64 0)])))⟩, ⟨(some 10), none, (.op (.mv (.c (.int .i64 0))))⟩]
def sexplore_r1 : List AI := [⟨(some 11), none, (.op (.load (some 4) (.t 4)))⟩, ⟨(some 12), none, (.op (.load (some 4) (.t 5)))⟩, ⟨(some 13), none, (.op (.mv (.t 2)))⟩, ⟨(some 14), none, (.op (.load (some 2) (.t 7)))⟩, ⟨(some 15), none, (.op (.build [.nilf, .nilf] [(0, (1, (.c (.fn 27 [])))), (1, (1, (.c (.fn 28 []))))]))⟩, ⟨(some 16), none, (.call (.c (.fn 26 [])) [(.t 11), (.t 12), (.t 13), (.t 14), (.t 15)])⟩, ⟨(some 17), none, (.op (.ext (.t 16) 0))⟩, ⟨(some 18), none, (.op (.ext (.t 16) 1))⟩, ⟨(some 19), none, (.op (.ext (.t 16) 2))⟩, ⟨none, none, (.op (.store 4 (.t 8) (.t 17)))⟩, ⟨none, none, (.op (.store 2 (.t 9) (.t 18)))⟩, ⟨(some 10), none, (.op (.mv (.t 19)))⟩]
def sexplore_c : AC := (.seq (.reg sexplore_r0) (.seq (.reg sexplore_r1) .ret))
def sexplore_res : List ARes := [(.cell (some 4) 8), (.cell (some 2) 9), (.tmp 10)]
set_option maxRecDepth 100000 in
theorem sexplore_get : getF Tryz.prog 19 270000 [] = some ("gavotte/sleep.Explore", 20, sexplore_c, sexplore_res) := by kernel_rfl
def nexplore_r0 : List AI := [⟨(some 4), none, (.op (.box 271004 4 (.t 0)))⟩, ⟨(some 5), none, (.op (.box 271005 4 (.t 1)))⟩, ⟨(some 7), none, (.op (.box 271007 2 (.t 3)))⟩, ⟨(some 8), none, (.op (.new 271008 4 (.agg [(.bool false), (.int .i64 0), (.int .i64 0), .nils])))⟩, ⟨(some 9), none, (.op (.mv (.c (.int .i64 0))))⟩]
def nexplore_r1 : List AI := [⟨(some 14), none, (.op (.load (some 4) (.t 4)))⟩, ⟨(some 15), none, (.op (.load (some 4) (.t 5)))⟩, ⟨(some 16), none, (.op (.mv (.t 2)))⟩, ⟨(some 17), none, (.op (.load (some 2) (.t 7)))⟩, ⟨(some 18), none, (.call (.c (.fn 29 [])) [(.t 14), (.t 15), (.t 16), (.t 17)])⟩, ⟨(some 13), none, (.op (.mv (.t 18)))⟩, ⟨(some 19), none, (.op (.ext (.t 13) 0))⟩, ⟨(some 20), none, (.op (.ext (.t 13) 1))⟩, ⟨(some 21), none, (.op (.ext (.t 13) 2))⟩, ⟨(some 11), none, (.op (.new 271011 6 (.agg [.nils, .nils, (.int .i64 0), (.int .i64 0), (.int .i64 0), (.int .i64 0)])))⟩, ⟨(some 10), none, (.op (.mv (.t 19)))⟩, ⟨none, none, (.op (.store 6 (.t 11) (.t 20)))⟩, ⟨(some 12), none, (.op (.mv (.t 21)))⟩]
def nexplore_r2 : List AI := [⟨(some 22), none, (.op (.mv (.t 12)))⟩, ⟨(some 23), none, (.op (.ibin .neq (.t 22) (.c (.int .i64 0))))⟩]
def nexplore_r3 : List AI := [⟨(some 24), none, (.op (.build [(.bool false), (.int .i64 0), (.int .i64 0), .nils] []))⟩, ⟨(some 25), none, (.op (.mv (.t 12)))⟩, ⟨none, none, (.op (.store 4 (.t 8) (.t 24)))⟩, ⟨(some 9), none, (.op (.mv (.t 25)))⟩]
def nexplore_r4 : List AI := [⟨(some 26), none, (.op (.mv (.t 10)))⟩, ⟨(some 27), none, (.op (.load (some 6) (.t 11)))⟩, ⟨(some 28), none, (.call (.c (.fn 30 [])) [(.t 26), (.t 27)])⟩]
def nexplore_r5 : List AI := [⟨(some 29), none, (.op (.mv (.t 10)))⟩, ⟨(some 30), none, (.call (.c (.fn 31 [])) [(.t 29)])⟩, ⟨none, none, (.op (.store 4 (.t 8) (.t 30)))⟩, ⟨(some 9), none, (.op (.mv (.c (.int .i64 0))))⟩]
def nexplore_c : AC := (.seq (.reg nexplore_r0) (.seq (.reg nexplore_r1) (.seq (.seq (.reg nexplore_r2) (.cond (.t 23) (.seq (.reg nexplore_r3) .ret) .skip)) (.seq (.reg nexplore_r4) (.seq (.reg nexplore_r5) .ret)))))
def nexplore_res : List ARes := [(.cell (some 4) 8), (.tmp 9)]
set_option maxRecDepth 100000 in
theorem nexplore_get : getF Tryz.prog 20 271000 [] = some ("gavotte/naive.Explore", 31, nexplore_c, nexplore_res) := by kernel_rfl
def told_r0 : List AI := [⟨(some 3), none, (.op (.box 272003 4 (.t 0)))⟩, ⟨(some 4), none, (.op (.box 272004 2 (.t 1)))⟩, ⟨(some 6), none, (.op (.new 272006 7 (.agg [(.int .i64 0), (.int .i64 0), (.int .i64 0), (.int .i64 0), (.int .i64 0), (.int .i64 0), .nils])))⟩]
def told_r1 : List AI := [⟨(some 8), none, (.op (.mv (.t 2)))⟩, ⟨(some 9), none, (.op (.ibin .neq (.t 8) (.c (.int .i64 0))))⟩]
def told_r2 : List AI := [⟨(some 10), none, (.op (.mv (.t 2)))⟩, ⟨(some 11), none, (.op (.build [(.int .i64 0), (.int .i64 0), (.int .i64 0), (.int .i64 0), (.int .i64 0), (.int .i64 0), .nils] [(0, (1, (.c (.int .i64 2)))), (1, (1, (.t 10)))]))⟩, ⟨none, none, (.op (.store 7 (.t 6) (.t 11)))⟩]
def told_r3 : List AI := [⟨(some 12), none, (.op (.fld 1 (.t 3)))⟩, ⟨(some 13), none, (.op (.load none (.t 12)))⟩, ⟨(some 14), none, (.op (.fld 2 (.t 3)))⟩, ⟨(some 15), none, (.op (.load none (.t 14)))⟩, ⟨(some 16), none, (.op (.fld 1 (.t 4)))⟩, ⟨(some 17), none, (.op (.load none (.t 16)))⟩, ⟨(some 18), none, (.op (.fld 0 (.t 4)))⟩, ⟨(some 19), none, (.op (.load none (.t 18)))⟩, ⟨(some 20), none, (.op (.fld 3 (.t 3)))⟩, ⟨(some 21), none, (.op (.load none (.t 20)))⟩, ⟨(some 22), none, (.op (.build [(.int .i64 0), (.int .i64 0), (.int .i64 0), (.int .i64 0), (.int .i64 0), (.int .i64 0), .nils] [(0, (1, (.c (.int .i64 3)))), (2, (1, (.t 13))), (3, (1, (.t 15))), (4, (1, (.t 17))), (5, (1, (.t 19))), (6, (1, (.t 21)))]))⟩, ⟨(some 7), none, (.op (.new 272007 7 (.agg [(.int .i64 0), (.int .i64 0), (.int .i64 0), (.int .i64 0), (.int .i64 0), (.int .i64 0), .nils])))⟩, ⟨none, none, (.op (.store 7 (.t 7) (.t 22)))⟩]
def told_r4 : List AI := [⟨(some 23), none, (.op (.fld 0 (.t 3)))⟩, ⟨(some 24), none, (.op (.load none (.t 23)))⟩, ⟨(some 25), none, (.op (.not (.t 24)))⟩]
def told_r5 : List AI := [⟨(some 26), none, (.op (.fld 0 (.t 7)))⟩, ⟨none, none, (.op (.store 1 (.t 26) (.c (.int .i64 4))))⟩]
def told_r6 : List AI := [⟨(some 27), none, (.op (.load (some 7) (.t 7)))⟩, ⟨none, none, (.op (.store 7 (.t 6) (.t 27)))⟩]
def told_c : AC := (.seq (.reg told_r0) (.seq (.seq (.reg told_r1) (.cond (.t 9) (.seq (.reg told_r2) .ret) .skip)) (.seq (.reg told_r3) (.seq (.seq (.reg told_r4) (.cond (.t 25) (.reg told_r5) .skip)) (.seq (.reg told_r6) .ret)))))
def told_res : List ARes := [(.cell (some 7) 6)]
set_option maxRecDepth 100000 in
theorem told_get : getF Tryz.prog 18 272000 [] = some ("gavotte/check.told", 28, told_c, told_res) := by kernel_rfl
def task_r0 : List AI := [⟨(some 1), none, (.op (.box 273001 11 (.t 0)))⟩, ⟨(some 2), none, (.op (.new 273002 7 (.agg [(.int .i64 0), (.int .i64 0), (.int .i64 0), (.int .i64 0), (.int .i64 0), (.int .i64 0), .nils])))⟩]
def task_r1 : List AI := [⟨(some 3), none, (.op (.fld 0 (.t 1)))⟩, ⟨(some 4), none, (.op (.load (some 4) (.t 3)))⟩, ⟨(some 5), none, (.op (.fld 5 (.t 1)))⟩, ⟨(some 6), none, (.op (.load (some 4) (.t 5)))⟩, ⟨(some 7), none, (.op (.fld 4 (.t 1)))⟩, ⟨(some 8), none, (.op (.load none (.t 7)))⟩, ⟨(some 9), none, (.op (.fld 9 (.t 1)))⟩, ⟨(some 10), none, (.op (.load (some 2) (.t 9)))⟩, ⟨(some 11), none, (.call (.c (.fn 19 [])) [(.t 4), (.t 6), (.t 8), (.t 10)])⟩, ⟨(some 12), none, (.op (.ext (.t 11) 0))⟩, ⟨(some 13), none, (.op (.ext (.t 11) 1))⟩, ⟨(some 14), none, (.op (.ext (.t 11) 2))⟩, ⟨(some 15), none, (.call (.c (.fn 18 [])) [(.t 12), (.t 13), (.t 14)])⟩, ⟨none, none, (.op (.store 7 (.t 2) (.t 15)))⟩]
def task_c : AC := (.seq (.reg task_r0) (.seq (.reg task_r1) .ret))
def task_res : List ARes := [(.cell (some 7) 2)]
set_option maxRecDepth 100000 in
theorem task_get : getF Tryz.prog 9 273000 [] = some ("gavotte/check.Task", 16, task_c, task_res) := by kernel_rfl
def cnaive_r0 : List AI := [⟨(some 1), none, (.op (.box 274001 11 (.t 0)))⟩, ⟨(some 2), none, (.op (.new 274002 7 (.agg [(.int .i64 0), (.int .i64 0), (.int .i64 0), (.int .i64 0), (.int .i64 0), (.int .i64 0), .nils])))⟩]
def cnaive_r1 : List AI := [⟨(some 6), none, (.op (.fld 0 (.t 1)))⟩, ⟨(some 7), none, (.op (.load (some 4) (.t 6)))⟩, ⟨(some 8), none, (.op (.fld 5 (.t 1)))⟩, ⟨(some 9), none, (.op (.load (some 4) (.t 8)))⟩, ⟨(some 10), none, (.op (.fld 4 (.t 1)))⟩, ⟨(some 11), none, (.op (.load none (.t 10)))⟩, ⟨(some 12), none, (.op (.fld 9 (.t 1)))⟩, ⟨(some 13), none, (.op (.load (some 2) (.t 12)))⟩, ⟨(some 14), none, (.call (.c (.fn 20 [])) [(.t 7), (.t 9), (.t 11), (.t 13)])⟩, ⟨(some 5), none, (.op (.mv (.t 14)))⟩, ⟨(some 15), none, (.op (.ext (.t 5) 0))⟩, ⟨(some 16), none, (.op (.ext (.t 5) 1))⟩, ⟨(some 3), none, (.op (.new 274003 4 (.agg [(.bool false), (.int .i64 0), (.int .i64 0), .nils])))⟩, ⟨none, none, (.op (.store 4 (.t 3) (.t 15)))⟩, ⟨(some 4), none, (.op (.mv (.t 16)))⟩]
def cnaive_r2 : List AI := [⟨(some 17), none, (.op (.load (some 4) (.t 3)))⟩, ⟨(some 18), none, (.op (.build [(.int .i64 0), (.int .i64 0)] []))⟩, ⟨(some 19), none, (.op (.mv (.t 4)))⟩, ⟨(some 20), none, (.call (.c (.fn 18 [])) [(.t 17), (.t 18), (.t 19)])⟩, ⟨none, none, (.op (.store 7 (.t 2) (.t 20)))⟩]
def cnaive_c : AC := (.seq (.reg cnaive_r0) (.seq (.reg cnaive_r1) (.seq (.reg cnaive_r2) .ret)))
def cnaive_res : List ARes := [(.cell (some 7) 2)]
set_option maxRecDepth 100000 in
theorem cnaive_get : getF Tryz.prog 13 274000 [] = some ("gavotte/check.Naive", 21, cnaive_c, cnaive_res) := by kernel_rfl
attribute [simp] fnew_r0 fnew_r1 fnew_r2 fnew_r3 fnew_r4 fnew_r5 fnew_r6 fnew_r7 fnew_p7 fnew_res watched_r0 watched_r1 watched_r2 watched_r3 watched_r4 watched_r5 watched_r6 watched_p6 watched_res sexplore_r0 sexplore_r1 sexplore_res nexplore_r0 nexplore_r1 nexplore_r2 nexplore_r3 nexplore_r4 nexplore_r5 nexplore_res told_r0 told_r1 told_r2 told_r3 told_r4 told_r5 told_r6 told_res task_r0 task_r1 task_res cnaive_r0 cnaive_r1 cnaive_r2 cnaive_res
structure COk (c : Cfg) : Prop where
 wc : wcheckV c.p c.l = 0
 fl : flowV c.p = 0
 bu : budOk c.b = true
 li : limOk c.depth c.most = true
 im : ∀ x ∈ c.l, ∀ i ∈ x, i.a <= 9223372036854775807
 aa : c.p.as.length <= 1000
 rg : ∀ a ∈ c.p.as, a.regs.length <= 1000
 bo : c.p.boot.length <= 900
 ba : ∀ n ∈ c.p.boot, n.args.length <= 1000
def limAv (c : Cfg) : AV := .agg [iv c.depth, iv c.most]
theorem fnew_v (hput : PutAll) (c : Cfg) (h : COk c) {S : St} {k : AV -> St -> Prop} {u : Dep k}
   (hk : ∀ S' st, S'.t = S.t -> S.clk <= S'.clk -> (∀ n, n < 268000 \/ 269000 <= n -> S'.blk n = S.blk n) -> (∀ n, n < 268000 \/ 269000 <= n -> S'.tok n = S.tok n) -> S'.blk 268040 = some ⟨st, 17, [.agg (SrC c .nils .nils sr0)]⟩ -> k (.tup [.ptr 268040 st 17 0 0, (startV c.p).av, iv 0]) S') :
   CallG Tryz.prog (.fn 29 []) [c.p.av, c.b.av, watchesAv c.l, limAv c] S k u := by
 have hw := wcheck_pc c.p c.l h.im
 rw [h.wc] at hw
 have hb := emay_pc c.b
 rw [h.bu] at hb
 have hn := ncheck_pc c.depth c.most
 rw [h.li] at hn
 have hs := start_pc hput c.p h.fl h.aa h.rg h.bo h.ba
 refine callV fnew_get (by simp) (by simp) ?_
 unfold fnew_c
 simp [Prg.av, Bud.av, watchesAv, limAv]
 refine call hw (by simp [Prg.av]) ?_
 simp
 refine call hb (by simp [Bud.av]) ?_
 simp
 refine call hn (by simp) ?_
 simp
 refine call hs (by simp [Prg.av]) ?_
 simp [Wld.av]
 refine hk _ _ rfl (by simp only []; omega) (fun n hn => ?_) (fun n _ => rfl) (by simp [SrC, watchesAv, sr0])
 have n1 : n ≠ 268004 := by omega
 have n2 : n ≠ 268005 := by omega
 have n3 : n ≠ 268007 := by omega
 have n4 : n ≠ 268009 := by omega
 have n5 : n ≠ 268012 := by omega
 have n6 : n ≠ 268040 := by omega
 simp [n1, n2, n3, n4, n5, n6]
theorem COk.depth {c : Cfg} (h : COk c) : 0 <= c.depth := by
 have := h.li
 simp [limOk] at this
 omega
theorem nexplore_pc (hput : PutAll) (c : Cfg) (h : COk c) (I : Nat -> Wld -> Prop) (hV : VOk c I) (hI : I c.depth.toNat (startV c.p)) : PC Tryz.prog 20 [c.p.av, c.b.av, watchesAv c.l, limAv c] (.tup [(exploreN c).res, iv 0]) := by
 refine pc_of_get nexplore_get (by simp) _ (by simp) _ ?_
 unfold nexplore_c
 simp [Prg.av, Bud.av, watchesAv, limAv]
 refine fnew_v hput c h (fun S1 st q1 q2 q3 q4 q5 => ?_)
 have b8 := q3 271008 (by simp)
 simp at b8
 simp [q1, Wld.av, b8]
 refine callUp LIM ?_
 have h0 := h.depth
 refine visitN_v c I hV c.depth.toNat (startV c.p) sr0 (268040 + LIM) (5 + LIM) (6 + LIM) st (Nat.le_add_left _ _) (Nat.le_add_left _ _) (Nat.le_add_left _ _) (by omega) (by simp [sr0]; omega) hI ⟨by simp [sr0], by simp [sr0]⟩ _ _ _ (SrIs.up ⟨.nils, .nils, by simp [q5], .inl ⟨rfl, by simp [sr0]⟩, .inl ⟨rfl, by simp [sr0]⟩⟩) (fun S2 r1 r2 r3 r4 r5 => ?_)
 have r6 := SrIs.dn (t := fun _ => .nils) (clk := 0) r5
 have b9 := dn_frame 271008 (r3 (271008 + LIM) (Nat.le_add_left _ _) (by omega) (by omega))
 have hE : visitN c (c.depth.toNat + 1) sr0 (startV c.p) = exploreN c := rfl
 rw [hE] at r6
 simp [b8] at b9
 simp [b9]
 obtain ⟨vf, vp, g1, g2, g3⟩ := r6
 obtain ⟨o1, o2, o3⟩ := g2.fnd.out
 refine fend_v c 268040 st (by omega) (exploreN c) vf vp g2.fnd g1 (fun S3 t1 t2 t3 t4 => ?_)
 have b10 := t2 271008 (by simp)
 simp [b9] at b10
 simp [t1, b10, o1, o2, Sr.res]
 exact o3 _
theorem watched_pc (hput : PutAll) (c : Cfg) (h : COk c) (I : Nat -> Wld -> Prop) (T : Evt -> Prop) (hV : SOk c I T) (hI : I c.depth.toNat (startV c.p)) :
   PC Tryz.prog 26 [c.p.av, c.b.av, watchesAv c.l, limAv c, .agg [.fn 27 [], .fn 28 []]] (.tup [(exploreS c).res, .agg [iv (exploreS c).cut, iv (exploreS c).slept], iv 0]) := by
 refine pc_of_get watched_get (by simp) _ (by simp) _ ?_
 unfold watched_c
 simp [Prg.av, Bud.av, watchesAv, limAv]
 refine fnew_v hput c h (fun S1 st q1 q2 q3 q4 q5 => ?_)
 have b9 := q3 269009 (by simp)
 have b10 := q3 269010 (by simp)
 have b11 := q3 269011 (by simp)
 simp at b9 b10 b11
 simp [q1, Wld.av, b9]
 refine callUp LIM ?_
 have h0 := h.depth
 refine call_coarse 0 (vals' := [.ptr (269034 + LIM) (S1.clk + 2 + 1 + 1 + 1) 5 0 0, (startV c.p).av, evts []]) rfl (fun j x y hx hy => ?_) ?_
 . match j, hx, hy with
   | 0, hx, hy => simp at hx hy; subst hx hy; exact .inl rfl
   | 1, hx, hy => simp at hx hy; subst hx hy; exact .inl rfl
   | 2, hx, hy => simp at hx hy; subst hx hy; exact .inr (by simp [elemR, dco, evts])
   | j + 3, hx, _ => simp at hx
 refine visitS_v c I T hV c.depth.toNat (startV c.p) [] sr0 (269034 + LIM) _ (268040 + LIM) (5 + LIM) (6 + LIM) st (Nat.le_add_left _ _) (Nat.le_add_left _ _) (Nat.le_add_left _ _) (Nat.le_add_left _ _) (by omega) (by omega) (by omega) (by simp [sr0]; omega) hI ⟨by simp [sr0], by simp [sr0]⟩ (by simp) (by simp) _ _ _ (SxIs.up ⟨by simp [sr0], .nils, .nils, by simp [q5], .inl ⟨rfl, by simp [sr0]⟩, .inl ⟨rfl, by simp [sr0]⟩⟩) (fun S2 r1 r2 r3 r4 r5 => ?_)
 have r6 := SxIs.dn (t := fun _ => .nils) (clk := 0) r5
 have c9 := dn_frame 269009 (r3 (269009 + LIM) (Nat.le_add_left _ _) (by omega) (by omega) (by omega))
 have c10 := dn_frame 269010 (r3 (269010 + LIM) (Nat.le_add_left _ _) (by omega) (by omega) (by omega))
 have c11 := dn_frame 269011 (r3 (269011 + LIM) (Nat.le_add_left _ _) (by omega) (by omega) (by omega))
 have hE : visitS c (c.depth.toNat + 1) sr0 (startV c.p) [] = exploreS c := rfl
 rw [hE] at r6
 simp [b10] at c10
 simp [b11] at c11
 obtain ⟨hx, vf, vp, g1, g2, g3⟩ := r6
 simp at hx g1
 simp [c10, c11, hx]
 refine callL (LCallP.of [268040, 261002] [] (exploreS c).res rfl (fun T hT => ?_)) ?_
 . refine fend_v (u := .mk) c 268040 st (by omega) (exploreS c) vf vp g2.fnd ((hT 268040 (by simp [rdV])).trans g1) (fun S' t1 t2 t3 t4 => ⟨fun E v h => res_rel _ _ g2.fnd E v h, ?_⟩)
   exact ⟨fun n hn => t2 n (by simpa using hn), fun n _ => by rw [t3]⟩
 simp [c10, c11, hx, Sr.res]
def Sr.rep (sr : Sr) (cut slept : Int) : AV := .agg [iv (if sr.ended = true then 4 else 3), iv 0, iv sr.runs, iv sr.worlds, iv slept, iv cut, .lst 2 (sr.found.map Fnd.av)]
theorem sexplore_pc (hput : PutAll) (c : Cfg) (h : COk c) (I : Nat -> Wld -> Prop) (T : Evt -> Prop) (hV : SOk c I T) (hI : I c.depth.toNat (startV c.p)) :
   PC Tryz.prog 19 [c.p.av, c.b.av, watchesAv c.l, limAv c] (.tup [(exploreS c).res, .agg [iv (exploreS c).cut, iv (exploreS c).slept], iv 0]) := by
 refine pc_of_get sexplore_get (by simp) _ (by simp) _ ?_
 unfold sexplore_c
 simp [Prg.av, Bud.av, watchesAv, limAv]
 refine call (watched_pc hput c h I T hV hI) (by simp [Prg.av, Bud.av, watchesAv, limAv]) ?_
 simp [Sr.res]
theorem told_pc (sr : Sr) (cut slept : Int) : PC Tryz.prog 18 [sr.res, .agg [iv cut, iv slept], iv 0] (sr.rep cut slept) := by
 refine pc_of_get told_get (by simp) _ (by simp) _ ?_
 unfold told_c
 cases he : sr.ended <;> simp [Sr.res, Sr.rep, he]
def Cfg.av (c : Cfg) : AV := .agg [.lst 2 (c.p.hs.map Hnd.av), .lst 4 (c.p.as.map Actr.av), .lst 3 (c.p.boot.map Nt.av), iv c.p.fuel, watchesAv c.l, iv c.b.drop, iv c.b.dup, iv c.b.time, iv c.b.crash, iv c.depth, iv c.most]
theorem task_pc (hput : PutAll) (c : Cfg) (h : COk c) (I : Nat -> Wld -> Prop) (T : Evt -> Prop) (hV : SOk c I T) (hI : I c.depth.toNat (startV c.p)) :
   PC Tryz.prog 9 [c.av] ((exploreS c).rep (exploreS c).cut (exploreS c).slept) := by
 refine pc_of_get task_get (by simp) _ (by simp) _ ?_
 unfold task_c
 simp [Cfg.av, watchesAv]
 refine call (sexplore_pc hput c h I T hV hI) (by simp [Prg.av, Bud.av, watchesAv, limAv]) ?_
 simp [Sr.res]
 refine call (told_pc (exploreS c) (exploreS c).cut (exploreS c).slept) (by simp [Sr.res]) ?_
 simp [Sr.rep]
theorem cnaive_pc (hput : PutAll) (c : Cfg) (h : COk c) (I : Nat -> Wld -> Prop) (hV : VOk c I) (hI : I c.depth.toNat (startV c.p)) :
   PC Tryz.prog 13 [c.av] ((exploreN c).rep 0 0) := by
 refine pc_of_get cnaive_get (by simp) _ (by simp) _ ?_
 unfold cnaive_c
 simp [Cfg.av, watchesAv]
 refine call (nexplore_pc hput c h I hV hI) (by simp [Prg.av, Bud.av, watchesAv, limAv]) ?_
 simp [Sr.res]
 refine call (told_pc (exploreN c) 0 0) (by simp [Sr.res]) ?_
 simp [Sr.rep]
end Go.Gv

namespace Go.Gv
open Go.Proofs
def DoP (F : Fx) (i : Ins) (m : Mach) : Prop :=
 (1 <= i.op /\ i.op <= 25) /\ takesV F.p.hs i <= m.st.length /\ (i.op = 5 \/ i.op = 6 -> 0 <= i.a) /\ (i.op = 7 -> 0 <= i.a /\ i.a.toNat < F.args.length) /\ (i.op = 22 -> 0 <= i.a /\ i.a.toNat < F.p.hs.length /\ 0 <= argsOf F.p.hs i.a) /\
 (0 <= F.who /\ F.who.toNat < F.p.as.length) /\ m.regs.length <= 1000 /\ m.notes.length < 1000 /\ (0 <= m.pc /\ m.pc < 1000) /\ m.st.length < 900
instance (F : Fx) (i : Ins) (m : Mach) : Decidable (DoP F i m) := by unfold DoP; infer_instance
theorem DoP.ok {F : Fx} {i : Ins} {m : Mach} (h : DoP F i m) : DoOk F i m := by
 obtain ⟨a, b, c, d, e, f, g, h, i, j⟩ := h
 exact ⟨a, b, c, d, e, f, g, h, i, j⟩
def runB (F : Fx) (code : List Ins) : Nat -> Mach -> Int -> Bool
 | 0, _, _ => true
 | f + 1, m, s => if (0 <= m.pc /\ m.pc < code.length) /\ s < F.p.fuel then
     (match code[m.pc.toNat]? with
      | some i => decide (DoP F i m) && (if (doV F i m).2 = 0 then runB F code f (doV F i m).1 (s + 1) else true)
      | none => true)
   else true
theorem runB_ok (F : Fx) (code : List Ins) : ∀ (f : Nat) (m : Mach) (s : Int), runB F code f m s = true -> RunOk F code f m s
 | 0, _, _, _ => trivial
 | f + 1, m, s, h => by
   intro h1 h2 i hi
   unfold runB at h
   rw [if_pos ⟨h1, h2⟩, hi] at h
   simp only [Bool.and_eq_true, decide_eq_true_eq] at h
   refine ⟨h.1.ok, fun hz => ?_⟩
   have := h.2
   rw [if_pos hz] at this
   exact runB_ok F code f _ _ this
def goB (p : Prg) (who : Int) (l : Lcl) (h : Int) (args : List Int) : Bool :=
 match p.hs[h.toNat]? with
 | some x => decide (0 <= h) && decide (0 <= p.fuel) && decide (p.fuel <= 1000) && decide (l.regs.length <= 1000) && runB (fxOf p who l args) x.code (p.fuel.toNat + 1) (m0Of l) 0
 | none => false
theorem goB_ok {p : Prg} {who : Int} {l : Lcl} {h : Int} {args : List Int} (hb : goB p who l h args = true) : GoOk p who l h args := by
 unfold goB at hb
 split at hb
 . rename_i x hx
   simp only [Bool.and_eq_true, decide_eq_true_eq] at hb
   exact ⟨x, hb.1.1.1.1, hx, ⟨hb.1.1.1.2, hb.1.1.2⟩, hb.1.2, runB_ok _ _ _ _ _ hb.2⟩
 . cases hb
def AskP (w : Wld) (i : Ins) : Prop := asksV i.op = true /\ 0 <= whoX i /\ whoX i < w.acts.length /\ (i.op = 31 -> 0 <= i.a) /\ i.a <= 9223372036854775807
instance (w : Wld) (i : Ins) : Decidable (AskP w i) := by unfold AskP; infer_instance
def XP (w : Wld) (s : List Int) (i : Ins) : Prop :=
 (asksV i.op = true -> AskP w i) /\ s.length < 900 /\ (asksV i.op = true \/ i.op = 1 \/ 1 <= s.length) /\ (asksV i.op = true \/ i.op = 1 \/ i.op = 2 \/ i.op = 3 \/ i.op = 14 \/ i.op = 19 \/ 2 <= s.length)
instance (w : Wld) (s : List Int) (i : Ins) : Decidable (XP w s i) := by unfold XP; infer_instance
def exB (w : Wld) : List Ins -> List Int -> Bool
 | [], s => decide (1 <= s.length)
 | i :: l, s => decide (XP w s i) && exB w l (exV w [i] s)
theorem exV_cons (w : Wld) (i : Ins) (l : List Ins) (s : List Int) : exV w (i :: l) s = exV w l (exV w [i] s) := rfl
theorem exB_ok (w : Wld) : ∀ (l : List Ins) (s : List Int), exB w l s = true -> (∀ (i : Nat) (h : i < l.length), XOk w (exV w (l.take i) s) l[i]) /\ 1 <= (exV w l s).length
 | [], s, h => ⟨fun i h => by simp at h, by simpa [exB, exV] using h⟩
 | x :: l, s, h => by
   unfold exB at h
   simp only [Bool.and_eq_true, decide_eq_true_eq] at h
   obtain ⟨q1, q2⟩ := exB_ok w l _ h.2
   refine ⟨fun i hi => ?_, by rw [exV_cons]; exact q2⟩
   cases i with
   | zero =>
     obtain ⟨a, b, c, d⟩ := h.1
     refine ⟨a, b, fun h1 h2 => ?_, fun h1 h2 h3 h4 h5 h6 => ?_⟩
     . rcases c with q | q | q
       . exact absurd (h1.symm.trans q) (by decide)
       . exact absurd q h2
       . exact q
     . rcases d with q | q | q | q | q | q | q
       . exact absurd (h1.symm.trans q) (by decide)
       . exact absurd q h2
       . exact absurd q h3
       . exact absurd q h4
       . exact absurd q h5
       . exact absurd q h6
       . exact q
   | succ i =>
     have := q1 i (by simpa using hi)
     rw [List.take_succ_cons, exV_cons]
     exact this
def okW (c : Cfg) (w : Wld) : Bool :=
 decide (w.mail.length <= 500) && decide (w.acts.length = c.p.as.length) && decide (w.acts.length <= 1000) && w.acts.all (fun l => decide (l.regs.length <= 1000)) &&
 w.mail.all (fun m => decide (0 <= m.note.to) && decide (m.note.to < w.acts.length) && decide (m.note.args.length <= 1000) && goB c.p m.note.to (lclV w m.note.to) m.note.hd m.note.args &&
   decide ((goV c.p m.note.to (lclV w m.note.to) m.note.hd m.note.args).notes.length <= 300) && (goV c.p m.note.to (lclV w m.note.to) m.note.hd m.note.args).notes.all (fun x => decide (x.args.length <= 1000))) &&
 (List.range w.acts.length).all (fun i => !armedV w i || goB c.p i { lclV w i with armed := false } (timerV c.p i) []) &&
 c.l.all (fun x => decide (x.length <= 1000) && exB w x []) &&
 decide ((allV c.b w).length <= 5000) && (allV c.b w).all (fun e => decide (e.kind = 1))
structure OkW (c : Cfg) (w : Wld) : Prop where
 wk : WK c.p w 500
 rg : ∀ l ∈ w.acts, l.regs.length <= 1000
 go : WGo c.p w
 nn : ∀ m ∈ w.mail, (goV c.p m.note.to (lclV w m.note.to) m.note.hd m.note.args).notes.length <= 300 /\ ∀ x ∈ (goV c.p m.note.to (lclV w m.note.to) m.note.hd m.note.args).notes, x.args.length <= 1000
 ex : ∀ x ∈ c.l, ExOk w x
 al : (allV c.b w).length <= 5000
 k1 : ∀ e ∈ allV c.b w, e.kind = 1
theorem okW_ok {c : Cfg} {w : Wld} (h : okW c w = true) : OkW c w := by
 unfold okW at h
 simp only [Bool.and_eq_true, decide_eq_true_eq, List.all_eq_true] at h
 obtain ⟨⟨⟨⟨⟨⟨⟨⟨a1, a2⟩, a3⟩, a4⟩, a5⟩, a6⟩, a7⟩, a8⟩, a9⟩ := h
 refine ⟨⟨a1, a2, a3, fun m hm => ⟨(a5 m hm).1.1.1.1.1, (a5 m hm).1.1.1.1.2⟩, fun m hm => (a5 m hm).1.1.1.2⟩, a4, ⟨fun m hm => goB_ok (a5 m hm).1.1.2, fun i hi ha => ?_, a2⟩, fun m hm => ⟨(a5 m hm).1.2, (a5 m hm).2⟩, fun x hx => ?_, a8, a9⟩
 . have := a6 i (List.mem_range.2 hi)
   rw [ha] at this
   exact goB_ok (by simpa using this)
 . obtain ⟨q1, q2⟩ := a7 x hx
   obtain ⟨r1, r2⟩ := exB_ok w x [] q2
   exact ⟨q1, r1, r2⟩
def treeB (c : Cfg) : Nat -> Wld -> Bool
 | 0, w => okW c w
 | f + 1, w => okW c w && (allV c.b w).all fun e => treeB c f (applyV c.p w e)
theorem treeB_ok {c : Cfg} {f : Nat} {w : Wld} (h : treeB c f w = true) : OkW c w := by
 cases f with
 | zero => exact okW_ok h
 | succ f =>
   unfold treeB at h
   rw [Bool.and_eq_true] at h
   exact okW_ok h.1
theorem sortI_len' (l : List Int) : (sortI l).length = l.length := (sortI_perm l).length_eq
theorem would_len {c : Cfg} {w : Wld} (h : OkW c w) (e : Evt) (hk : e.kind = 1) : (wouldV c.p w e).length <= 300 := by
 unfold wouldV
 rw [if_pos hk]
 split
 . split
   . rename_i n hn
     unfold ntAt at hn
     rw [Option.bind_eq_some_iff] at hn
     obtain ⟨i, _, hi⟩ := hn
     rw [Option.map_eq_some_iff] at hi
     obtain ⟨m, hm, rfl⟩ := hi
     exact (h.nn m (List.mem_of_getElem? hm)).1
   . simp
 . simp
theorem touch_len {c : Cfg} {w : Wld} (h : OkW c w) (e : Evt) (hk : e.kind = 1) : (touchV c.p w e).length <= 1000 := by
 unfold touchV
 rw [if_pos (.inl hk)]
 split
 . have h1 := compI_len (sortI ((‹Nt›).to :: (wouldV c.p w e).map Nt.to))
   have h2 := would_len h e hk
   rw [sortI_len'] at h1
   simp at h1
   omega
 . simp
theorem sok (hput : PutAll) (c : Cfg) (hl : c.l.length <= 1000) (hd : c.depth <= 64) : SOk c (fun f w => treeB c f w = true) (fun e => e.kind = 1) where
 hl := hl
 hd := hd
 ok := fun f w h => by
   have h := treeB_ok h
   exact ⟨h.wk.ok (by decide), h.ex, h.al⟩
 ap := fun f w h e he => by
   have hok := treeB_ok h
   have hk := hok.k1 e he
   have ht : treeB c f (applyV c.p w e) = true := by
     unfold treeB at h
     rw [Bool.and_eq_true, List.all_eq_true] at h
     exact h.2 e he
   refine ⟨?_, ht⟩
   have hcan : canV w e = true := by
     unfold allV at he
     have := (List.mem_filter.1 he).2
     rw [Bool.and_eq_true] at this
     exact this.2
   obtain ⟨i, hi⟩ := canV_1 hcan hk
   obtain ⟨hlt, _⟩ := idxV_some hi
   have hm : w.mail[i] ∈ w.mail := List.getElem_mem hlt
   exact sapply_1 hput c.p w 500 hok.wk (by decide) hok.rg e hk i hi hlt (hok.go.nt _ hm) (hok.nn _ hm).1 (hok.nn _ hm).2
 tk := fun f w h e hk => by
   have hok := treeB_ok h
   exact ⟨touch1_pc c.p w (hok.wk.ok (by decide)) hok.go e (Nat.le_trans (would_len hok e hk) (by decide)) hk, touch_len hok e hk⟩
 al := fun f w h e he => (treeB_ok h).k1 e he
end Go.Gv

namespace Go.Gv
open Go.Proofs
def bitV (k : Int) (i : Nat) : Int := bitAnd IntKind.i64 (shiftI false IntKind.i64 k i) 1
def fActs (n : Nat) : List Actr := List.replicate n ⟨[0], 1, -1, false⟩
def fBoot (n : Nat) : List Nt := (List.range n).map fun (i : Nat) => ⟨(i : Int), 0, []⟩
def fWat (k : Int) : Nat -> List Ins
 | 0 => []
 | i + 1 => fWat k i ++ [⟨31, 16 * (i : Int)⟩, ⟨1, bitV k i⟩, ⟨15, 0⟩] ++ if 0 < i then [⟨17, 0⟩] else []
def fP (n : Nat) : Prg := ⟨[⟨0, [⟨1, 1⟩, ⟨6, 0⟩]⟩], fActs n, fBoot n, 9⟩
def fC (n : Nat) (k : Int) : Cfg := ⟨fP n, ⟨0, 0, 0, 0⟩, [fWat k n ++ [⟨19, 0⟩]], 6, 1000⟩
def xlen (i : Ins) (d : Nat) : Nat :=
 if 31 <= i.op /\ i.op <= 37 then d + 1
 else if i.op = 1 then d + 1
 else if i.op = 2 then d - 1
 else if i.op = 3 then d + 1
 else if i.op = 4 then d - 1 - 1 + 2
 else if i.op = 14 \/ i.op = 19 then d - 1 + 1
 else d - 1 - 1 + 1
def StP (na : Nat) (d : Nat) (i : Ins) : Prop :=
 (asksV i.op = true -> 0 <= whoX i /\ whoX i < na /\ (i.op = 31 -> 0 <= i.a) /\ i.a <= 9223372036854775807) /\ d < 900 /\ (asksV i.op = true \/ i.op = 1 \/ 1 <= d) /\ (asksV i.op = true \/ i.op = 1 \/ i.op = 2 \/ i.op = 3 \/ i.op = 14 \/ i.op = 19 \/ 2 <= d)
instance (na d : Nat) (i : Ins) : Decidable (StP na d i) := by unfold StP; infer_instance
def stB (na : Nat) : List Ins -> Nat -> Bool
 | [], d => decide (1 <= d)
 | i :: l, d => decide (StP na d i) && stB na l (xlen i d)
theorem xlen_ok (w : Wld) (i : Ins) (s : List Int) : (exV w [i] s).length = xlen i s.length := by
 unfold exV exV xlen
 by_cases h1 : 31 <= i.op /\ i.op <= 37
 . simp [h1]
 by_cases h2 : i.op = 1
 . simp [h2]
 by_cases h3 : i.op = 2
 . simp [h3]
 by_cases h4 : i.op = 3
 . simp [h4]
 by_cases h5 : i.op = 4
 . simp [h5]
 by_cases h6 : i.op = 14
 . simp [h6, oneV]
 by_cases h7 : i.op = 19
 . simp [h7, oneV]
 . simp [h1, h2, h3, h4, h5, h6, h7, oneV]
theorem stB_ok (w : Wld) (na : Nat) (hw : w.acts.length = na) : ∀ (l : List Ins) (s : List Int), stB na l s.length = true -> exB w l s = true
 | [], s, h => h
 | i :: l, s, h => by
   unfold stB at h
   simp only [Bool.and_eq_true, decide_eq_true_eq] at h
   unfold exB
   simp only [Bool.and_eq_true, decide_eq_true_eq]
   refine ⟨?_, stB_ok w na hw l _ (by rw [xlen_ok]; exact h.2)⟩
   obtain ⟨a, b, c, d⟩ := h.1
   exact ⟨fun q => by rw [<- hw] at a; exact ⟨q, a q⟩, b, c, d⟩
theorem okW_lift {p : Prg} {b : Bud} {d m : Int} {l : List (List Ins)} (hl : ∀ x ∈ l, x.length <= 1000 /\ stB p.as.length x 0 = true) {w : Wld} (h : okW ⟨p, b, [], d, m⟩ w = true) : okW ⟨p, b, l, d, m⟩ w = true := by
 unfold okW at h ⊢
 simp only [Bool.and_eq_true, decide_eq_true_eq, List.all_eq_true] at h ⊢
 obtain ⟨⟨⟨⟨⟨⟨⟨⟨a1, a2⟩, a3⟩, a4⟩, a5⟩, a6⟩, a7⟩, a8⟩, a9⟩ := h
 exact ⟨⟨⟨⟨⟨⟨⟨⟨a1, a2⟩, a3⟩, a4⟩, a5⟩, a6⟩, fun x hx => ⟨(hl x hx).1, stB_ok w _ a2 x [] (hl x hx).2⟩⟩, a8⟩, a9⟩
theorem treeB_lift {p : Prg} {b : Bud} {d m : Int} {l : List (List Ins)} (hl : ∀ x ∈ l, x.length <= 1000 /\ stB p.as.length x 0 = true) : ∀ (f : Nat) (w : Wld), treeB ⟨p, b, [], d, m⟩ f w = true -> treeB ⟨p, b, l, d, m⟩ f w = true
 | 0, w, h => okW_lift hl h
 | f + 1, w, h => by
   unfold treeB at h ⊢
   rw [Bool.and_eq_true, List.all_eq_true] at h ⊢
   exact ⟨okW_lift hl h.1, fun e he => treeB_lift hl f _ (h.2 e he)⟩
theorem ftree (n : Nat) (h1 : 1 <= n) (h5 : n <= 5) : treeB ⟨fP n, ⟨0, 0, 0, 0⟩, [], 6, 1000⟩ 6 (startV (fP n)) = true := by
 have h : n = 1 \/ n = 2 \/ n = 3 \/ n = 4 \/ n = 5 := by omega
 rcases h with rfl | rfl | rfl | rfl | rfl <;> decide +kernel
theorem fst (n : Nat) (h1 : 1 <= n) (h5 : n <= 5) (k : Int) : (fWat k n ++ ([⟨19, 0⟩] : List Ins)).length <= 1000 /\ stB (fP n).as.length (fWat k n ++ [⟨19, 0⟩]) 0 = true := by
 have h : n = 1 \/ n = 2 \/ n = 3 \/ n = 4 \/ n = 5 := by omega
 rcases h with rfl | rfl | rfl | rfl | rfl <;> exact ⟨by simp [fWat], rfl⟩
def fewB (n : Nat) (k : Int) : Bool :=
 let c := fC n k
 let r := exploreS c
 let q := exploreN c
 decide (wcheckV c.p c.l = 0) && decide (flowV c.p = 0) &&
 !r.ended && !q.ended && decide (r.worlds = 2 ^ n) && decide (r.runs = 2 ^ (n - 1)) && r.found.any (fun f => decide (f.watch = 0)) && q.found.any (fun f => decide (f.watch = 0)) &&
 (match r.found, q.found with
  | f :: _, g :: _ => decide (f.path.length = g.path.length)
  | _, _ => false)
theorem few1 : ∀ k : Fin 2, fewB 1 ((k : Nat) : Int) = true := by decide +kernel
theorem few2 : ∀ k : Fin 4, fewB 2 ((k : Nat) : Int) = true := by decide +kernel
theorem few3 : ∀ k : Fin 8, fewB 3 ((k : Nat) : Int) = true := by decide +kernel
theorem few4 : ∀ k : Fin 16, fewB 4 ((k : Nat) : Int) = true := by decide +kernel
end Go.Gv

namespace Go.Gv
open Go.Proofs
theorem few5a : ∀ k : Fin 8, fewB 5 ((k : Nat) : Int) = true := by decide +kernel
theorem few5b : ∀ k : Fin 8, fewB 5 (((k : Nat) : Int) + 8) = true := by decide +kernel
end Go.Gv

namespace Go.Gv
open Go.Proofs
theorem few5c : ∀ k : Fin 8, fewB 5 (((k : Nat) : Int) + 16) = true := by decide +kernel
theorem few5d : ∀ k : Fin 8, fewB 5 (((k : Nat) : Int) + 24) = true := by decide +kernel
end Go.Gv
