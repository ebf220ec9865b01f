/- Texts of this proof, one behind the other. What is proved, and on which conditions, stands ahead of each. -/
import Derived.Test.YtpaeffcpdpblcaaProg
import Derived.Test.YtpaeffcpdpblcaaM6508f07
import Derived.Test.YtpaeffcpdpblcaaM585e3bd

/- When lists, and what stands in them, are the same. No condition beyond a list's length below 2^62. -/
set_option linter.unusedVariables false
set_option linter.unusedSimpArgs false
namespace Go.Gv
open Go.Proofs

def aints_r0 : List AI := [⟨(some 4), none, (.op (.mv (.c (.bool false))))⟩]
def aints_r1 : List AI := [⟨(some 6), none, (.op (.mv (.t 0)))⟩, ⟨(some 7), none, (.op (.len (.t 6)))⟩, ⟨(some 8), none, (.op (.mv (.t 1)))⟩, ⟨(some 9), none, (.op (.len (.t 8)))⟩, ⟨(some 10), none, (.op (.ibin .neq (.t 7) (.t 9)))⟩]
def aints_r2 : List AI := [⟨(some 4), none, (.op (.mv (.c (.bool false))))⟩]
def aints_r3 : List AI := [⟨(some 5), none, (.op (.mv (.c (.int .i64 0))))⟩]
def aints_r4 : List AI := [⟨(some 11), none, (.op (.mv (.t 5)))⟩, ⟨(some 12), none, (.op (.mv (.t 0)))⟩, ⟨(some 13), none, (.op (.len (.t 12)))⟩, ⟨(some 14), none, (.op (.ibin .lss (.t 11) (.t 13)))⟩]
def aints_r5 : List AI := [⟨(some 17), none, (.op (.mv (.t 0)))⟩, ⟨(some 18), none, (.op (.mv (.t 5)))⟩, ⟨(some 19), none, (.op (.idx 1 (.t 17) (.t 18)))⟩, ⟨(some 20), none, (.op (.load none (.t 19)))⟩, ⟨(some 21), none, (.op (.mv (.t 1)))⟩, ⟨(some 22), none, (.op (.mv (.t 5)))⟩, ⟨(some 23), none, (.op (.idx 1 (.t 21) (.t 22)))⟩, ⟨(some 24), none, (.op (.load none (.t 23)))⟩, ⟨(some 25), none, (.op (.ibin .neq (.t 20) (.t 24)))⟩]
def aints_p5 : List (List Nat) := [[], [], [0, 1], [2, 0, 1], [], [], [4, 5], [6, 4, 5], [3, 7, 2, 0, 1, 6, 4, 5]]
def aints_r6 : List AI := [⟨(some 4), none, (.op (.mv (.c (.bool false))))⟩]
def aints_r7 : List AI := [⟨(some 15), none, (.op (.mv (.t 5)))⟩, ⟨(some 16), none, (.op (.ibin .add (.t 15) (.c (.int .i64 1))))⟩, ⟨(some 5), none, (.op (.mv (.t 16)))⟩]
def aints_l0 : AC := (.seq (.seq (.reg aints_r4) (.cond (.t 14) .skip (.exit 0))) (.seq (.block 1 (.seq (.regd aints_r5 aints_p5) (.cond (.t 25) (.seq (.reg aints_r6) .ret) .skip))) (.reg aints_r7)))
def aints_r8 : List AI := [⟨(some 4), none, (.op (.mv (.c (.bool true))))⟩]
def aints_c : AC := (.seq (.reg aints_r0) (.seq (.seq (.reg aints_r1) (.cond (.t 10) (.seq (.reg aints_r2) .ret) .skip)) (.seq (.seq (.reg aints_r3) (.block 0 (.loop aints_l0))) (.seq (.reg aints_r8) .ret))))
def aints_res : List ARes := [(.tmp 4)]
set_option maxRecDepth 100000 in
theorem aints_get : getF Try.prog 19 29000 [] = some ("gavotte/gavottealike.Ints", 26, aints_c, aints_res) := by kernel_rfl
def rints_r0 : List AI := [⟨(some 4), none, (.op (.mv (.c (.bool false))))⟩]
def rints_r1 : List AI := [⟨(some 6), none, (.op (.mv (.t 0)))⟩, ⟨(some 7), none, (.op (.len (.t 6)))⟩, ⟨(some 8), none, (.op (.mv (.t 1)))⟩, ⟨(some 9), none, (.op (.len (.t 8)))⟩, ⟨(some 10), none, (.op (.ibin .neq (.t 7) (.t 9)))⟩]
def rints_r2 : List AI := [⟨(some 4), none, (.op (.mv (.c (.bool false))))⟩]
def rints_r3 : List AI := [⟨(some 5), none, (.op (.mv (.c (.int .i64 0))))⟩]
def rints_r4 : List AI := [⟨(some 11), none, (.op (.mv (.t 5)))⟩, ⟨(some 12), none, (.op (.mv (.t 0)))⟩, ⟨(some 13), none, (.op (.len (.t 12)))⟩, ⟨(some 14), none, (.op (.ibin .lss (.t 11) (.t 13)))⟩]
def rints_r5 : List AI := [⟨(some 17), none, (.op (.mv (.t 0)))⟩, ⟨(some 18), none, (.op (.mv (.t 5)))⟩, ⟨(some 19), none, (.op (.idx 1 (.t 17) (.t 18)))⟩, ⟨(some 20), none, (.op (.load none (.t 19)))⟩, ⟨(some 21), none, (.op (.mv (.t 1)))⟩, ⟨(some 22), none, (.op (.mv (.t 5)))⟩, ⟨(some 23), none, (.op (.idx 1 (.t 21) (.t 22)))⟩, ⟨(some 24), none, (.op (.load none (.t 23)))⟩, ⟨(some 25), none, (.op (.ibin .neq (.t 20) (.t 24)))⟩]
def rints_p5 : List (List Nat) := [[], [], [0, 1], [2, 0, 1], [], [], [4, 5], [6, 4, 5], [3, 7, 2, 0, 1, 6, 4, 5]]
def rints_r6 : List AI := [⟨(some 4), none, (.op (.mv (.c (.bool false))))⟩]
def rints_r7 : List AI := [⟨(some 15), none, (.op (.mv (.t 5)))⟩, ⟨(some 16), none, (.op (.ibin .add (.t 15) (.c (.int .i64 1))))⟩, ⟨(some 5), none, (.op (.mv (.t 16)))⟩]
def rints_l0 : AC := (.seq (.seq (.reg rints_r4) (.cond (.t 14) .skip (.exit 0))) (.seq (.block 1 (.seq (.regd rints_r5 rints_p5) (.cond (.t 25) (.seq (.reg rints_r6) .ret) .skip))) (.reg rints_r7)))
def rints_r8 : List AI := [⟨(some 4), none, (.op (.mv (.c (.bool true))))⟩]
def rints_c : AC := (.seq (.reg rints_r0) (.seq (.seq (.reg rints_r1) (.cond (.t 10) (.seq (.reg rints_r2) .ret) .skip)) (.seq (.seq (.reg rints_r3) (.block 0 (.loop rints_l0))) (.seq (.reg rints_r8) .ret))))
def rints_res : List ARes := [(.tmp 4)]
set_option maxRecDepth 100000 in
theorem rints_get : getF Try.prog 33 48000 [] = some ("gavotte/gavotteref1.Ints", 26, rints_c, rints_res) := by kernel_rfl
def sints_r0 : List AI := [⟨(some 4), none, (.op (.mv (.c (.bool false))))⟩]
def sints_r1 : List AI := [⟨(some 6), none, (.op (.mv (.t 0)))⟩, ⟨(some 7), none, (.op (.len (.t 6)))⟩, ⟨(some 8), none, (.op (.mv (.t 1)))⟩, ⟨(some 9), none, (.op (.len (.t 8)))⟩, ⟨(some 10), none, (.op (.ibin .neq (.t 7) (.t 9)))⟩]
def sints_r2 : List AI := [⟨(some 4), none, (.op (.mv (.c (.bool false))))⟩]
def sints_r3 : List AI := [⟨(some 11), none, (.op (.mv (.t 0)))⟩, ⟨(some 12), none, (.op (.len (.t 11)))⟩, ⟨(some 13), none, (.op (.mv (.c (.int .i64 0))))⟩]
def sints_r4 : List AI := [⟨(some 14), none, (.op (.ibin .lss (.t 13) (.t 12)))⟩]
def sints_r5 : List AI := [⟨(some 15), none, (.op (.mv (.t 13)))⟩, ⟨(some 5), none, (.op (.mv (.t 15)))⟩]
def sints_r6 : List AI := [⟨(some 16), none, (.op (.mv (.t 0)))⟩, ⟨(some 17), none, (.op (.mv (.t 5)))⟩, ⟨(some 18), none, (.op (.idx 1 (.t 16) (.t 17)))⟩, ⟨(some 19), none, (.op (.load none (.t 18)))⟩, ⟨(some 20), none, (.op (.mv (.t 1)))⟩, ⟨(some 21), none, (.op (.mv (.t 5)))⟩, ⟨(some 22), none, (.op (.idx 1 (.t 20) (.t 21)))⟩, ⟨(some 23), none, (.op (.load none (.t 22)))⟩, ⟨(some 24), none, (.op (.ibin .neq (.t 19) (.t 23)))⟩]
def sints_p6 : List (List Nat) := [[], [], [0, 1], [2, 0, 1], [], [], [4, 5], [6, 4, 5], [3, 7, 2, 0, 1, 6, 4, 5]]
def sints_r7 : List AI := [⟨(some 4), none, (.op (.mv (.c (.bool false))))⟩]
def sints_r8 : List AI := [⟨(some 25), none, (.op (.ibin .add (.t 13) (.c (.int .i64 1))))⟩, ⟨(some 13), none, (.op (.mv (.t 25)))⟩]
def sints_l0 : AC := (.seq (.reg sints_r4) (.seq (.cond (.t 14) .skip (.exit 0)) (.seq (.block 1 (.seq (.reg sints_r5) (.seq (.regd sints_r6 sints_p6) (.cond (.t 24) (.seq (.reg sints_r7) .ret) .skip)))) (.reg sints_r8))))
def sints_r9 : List AI := [⟨(some 4), none, (.op (.mv (.c (.bool true))))⟩]
def sints_c : AC := (.seq (.reg sints_r0) (.seq (.seq (.reg sints_r1) (.cond (.t 10) (.seq (.reg sints_r2) .ret) .skip)) (.seq (.seq (.reg sints_r3) (.block 0 (.loop sints_l0))) (.seq (.reg sints_r9) .ret))))
def sints_res : List ARes := [(.tmp 4)]
set_option maxRecDepth 100000 in
theorem sints_get : getF Try.prog 48 52000 [] = some ("slices.Equal[[]int,int]", 26, sints_c, sints_res) := by kernel_rfl
def rcode_r0 : List AI := [⟨(some 4), none, (.op (.mv (.c (.bool false))))⟩]
def rcode_r1 : List AI := [⟨(some 6), none, (.op (.mv (.t 0)))⟩, ⟨(some 7), none, (.op (.len (.t 6)))⟩, ⟨(some 8), none, (.op (.mv (.t 1)))⟩, ⟨(some 9), none, (.op (.len (.t 8)))⟩, ⟨(some 10), none, (.op (.ibin .neq (.t 7) (.t 9)))⟩]
def rcode_r2 : List AI := [⟨(some 4), none, (.op (.mv (.c (.bool false))))⟩]
def rcode_r3 : List AI := [⟨(some 5), none, (.op (.mv (.c (.int .i64 0))))⟩]
def rcode_r4 : List AI := [⟨(some 11), none, (.op (.mv (.t 5)))⟩, ⟨(some 12), none, (.op (.mv (.t 0)))⟩, ⟨(some 13), none, (.op (.len (.t 12)))⟩, ⟨(some 14), none, (.op (.ibin .lss (.t 11) (.t 13)))⟩]
def rcode_r5 : List AI := [⟨(some 17), none, (.op (.mv (.t 0)))⟩, ⟨(some 18), none, (.op (.mv (.t 5)))⟩, ⟨(some 19), none, (.op (.idx 2 (.t 17) (.t 18)))⟩, ⟨(some 20), none, (.op (.load (some 2) (.t 19)))⟩, ⟨(some 21), none, (.op (.mv (.t 1)))⟩, ⟨(some 22), none, (.op (.mv (.t 5)))⟩, ⟨(some 23), none, (.op (.idx 2 (.t 21) (.t 22)))⟩, ⟨(some 24), none, (.op (.load (some 2) (.t 23)))⟩, ⟨(some 25), none, (.op (.eqs [false, false] true (.t 20) (.t 24)))⟩]
def rcode_p5 : List (List Nat) := [[], [], [0, 1], [2, 0, 1], [], [], [4, 5], [6, 4, 5], [3, 7, 2, 0, 1, 6, 4, 5]]
def rcode_r6 : List AI := [⟨(some 4), none, (.op (.mv (.c (.bool false))))⟩]
def rcode_r7 : List AI := [⟨(some 15), none, (.op (.mv (.t 5)))⟩, ⟨(some 16), none, (.op (.ibin .add (.t 15) (.c (.int .i64 1))))⟩, ⟨(some 5), none, (.op (.mv (.t 16)))⟩]
def rcode_l0 : AC := (.seq (.seq (.reg rcode_r4) (.cond (.t 14) .skip (.exit 0))) (.seq (.block 1 (.seq (.regd rcode_r5 rcode_p5) (.cond (.t 25) (.seq (.reg rcode_r6) .ret) .skip))) (.reg rcode_r7)))
def rcode_r8 : List AI := [⟨(some 4), none, (.op (.mv (.c (.bool true))))⟩]
def rcode_c : AC := (.seq (.reg rcode_r0) (.seq (.seq (.reg rcode_r1) (.cond (.t 10) (.seq (.reg rcode_r2) .ret) .skip)) (.seq (.seq (.reg rcode_r3) (.block 0 (.loop rcode_l0))) (.seq (.reg rcode_r8) .ret))))
def rcode_res : List ARes := [(.tmp 4)]
set_option maxRecDepth 100000 in
theorem rcode_get : getF Try.prog 32 47000 [] = some ("gavotte/gavotteref1.Code", 26, rcode_c, rcode_res) := by kernel_rfl
def sinss_r0 : List AI := [⟨(some 4), none, (.op (.mv (.c (.bool false))))⟩]
def sinss_r1 : List AI := [⟨(some 6), none, (.op (.mv (.t 0)))⟩, ⟨(some 7), none, (.op (.len (.t 6)))⟩, ⟨(some 8), none, (.op (.mv (.t 1)))⟩, ⟨(some 9), none, (.op (.len (.t 8)))⟩, ⟨(some 10), none, (.op (.ibin .neq (.t 7) (.t 9)))⟩]
def sinss_r2 : List AI := [⟨(some 4), none, (.op (.mv (.c (.bool false))))⟩]
def sinss_r3 : List AI := [⟨(some 11), none, (.op (.mv (.t 0)))⟩, ⟨(some 12), none, (.op (.len (.t 11)))⟩, ⟨(some 13), none, (.op (.mv (.c (.int .i64 0))))⟩]
def sinss_r4 : List AI := [⟨(some 14), none, (.op (.ibin .lss (.t 13) (.t 12)))⟩]
def sinss_r5 : List AI := [⟨(some 15), none, (.op (.mv (.t 13)))⟩, ⟨(some 5), none, (.op (.mv (.t 15)))⟩]
def sinss_r6 : List AI := [⟨(some 16), none, (.op (.mv (.t 0)))⟩, ⟨(some 17), none, (.op (.mv (.t 5)))⟩, ⟨(some 18), none, (.op (.idx 2 (.t 16) (.t 17)))⟩, ⟨(some 19), none, (.op (.load (some 2) (.t 18)))⟩, ⟨(some 20), none, (.op (.mv (.t 1)))⟩, ⟨(some 21), none, (.op (.mv (.t 5)))⟩, ⟨(some 22), none, (.op (.idx 2 (.t 20) (.t 21)))⟩, ⟨(some 23), none, (.op (.load (some 2) (.t 22)))⟩, ⟨(some 24), none, (.op (.eqs [false, false] true (.t 19) (.t 23)))⟩]
def sinss_p6 : List (List Nat) := [[], [], [0, 1], [2, 0, 1], [], [], [4, 5], [6, 4, 5], [3, 7, 2, 0, 1, 6, 4, 5]]
def sinss_r7 : List AI := [⟨(some 4), none, (.op (.mv (.c (.bool false))))⟩]
def sinss_r8 : List AI := [⟨(some 25), none, (.op (.ibin .add (.t 13) (.c (.int .i64 1))))⟩, ⟨(some 13), none, (.op (.mv (.t 25)))⟩]
def sinss_l0 : AC := (.seq (.reg sinss_r4) (.seq (.cond (.t 14) .skip (.exit 0)) (.seq (.block 1 (.seq (.reg sinss_r5) (.seq (.regd sinss_r6 sinss_p6) (.cond (.t 24) (.seq (.reg sinss_r7) .ret) .skip)))) (.reg sinss_r8))))
def sinss_r9 : List AI := [⟨(some 4), none, (.op (.mv (.c (.bool true))))⟩]
def sinss_c : AC := (.seq (.reg sinss_r0) (.seq (.seq (.reg sinss_r1) (.cond (.t 10) (.seq (.reg sinss_r2) .ret) .skip)) (.seq (.seq (.reg sinss_r3) (.block 0 (.loop sinss_l0))) (.seq (.reg sinss_r9) .ret))))
def sinss_res : List ARes := [(.tmp 4)]
set_option maxRecDepth 100000 in
theorem sinss_get : getF Try.prog 50 56000 [] = some ("slices.Equal[[]gavotte/api.Instr,gavotte/api.Instr]", 26, sinss_c, sinss_res) := by kernel_rfl
def sameNote_r0 : List AI := [⟨(some 2), none, (.op (.box 30002 3 (.t 0)))⟩, ⟨(some 3), none, (.op (.box 30003 3 (.t 1)))⟩, ⟨(some 4), none, (.op (.mv (.c (.bool false))))⟩]
def sameNote_r1 : List AI := [⟨(some 5), none, (.op (.fld 0 (.t 2)))⟩, ⟨(some 6), none, (.op (.load none (.t 5)))⟩, ⟨(some 7), none, (.op (.fld 0 (.t 3)))⟩, ⟨(some 8), none, (.op (.load none (.t 7)))⟩, ⟨(some 9), none, (.op (.ibin .eql (.t 6) (.t 8)))⟩, ⟨(some 10), none, (.op (.mv (.t 9)))⟩, ⟨(some 11), (some (10, true)), (.op (.fld 1 (.t 2)))⟩, ⟨(some 12), (some (10, true)), (.op (.load none (.t 11)))⟩, ⟨(some 13), (some (10, true)), (.op (.fld 1 (.t 3)))⟩, ⟨(some 14), (some (10, true)), (.op (.load none (.t 13)))⟩, ⟨(some 15), (some (10, true)), (.op (.ibin .eql (.t 12) (.t 14)))⟩, ⟨(some 16), none, (.op (.pick (.t 10) (.t 15) (.c (.bool false))))⟩, ⟨(some 17), none, (.op (.mv (.t 16)))⟩, ⟨(some 18), (some (17, true)), (.op (.fld 2 (.t 2)))⟩, ⟨(some 19), (some (17, true)), (.op (.load none (.t 18)))⟩, ⟨(some 20), (some (17, true)), (.op (.fld 2 (.t 3)))⟩, ⟨(some 21), (some (17, true)), (.op (.load none (.t 20)))⟩, ⟨(some 22), (some (17, true)), (.call (.c (.fn 48 [])) [(.t 19), (.t 21)])⟩, ⟨(some 23), none, (.op (.pick (.t 17) (.t 22) (.c (.bool false))))⟩, ⟨(some 4), none, (.op (.mv (.t 23)))⟩]
def sameNote_c : AC := (.seq (.reg sameNote_r0) (.seq (.reg sameNote_r1) .ret))
def sameNote_res : List ARes := [(.tmp 4)]
set_option maxRecDepth 100000 in
theorem sameNote_get : getF Try.prog 27 30000 [] = some ("gavotte/prog.SameNote", 24, sameNote_c, sameNote_res) := by kernel_rfl
def rsameNote_r0 : List AI := [⟨(some 2), none, (.op (.box 57002 3 (.t 0)))⟩, ⟨(some 3), none, (.op (.box 57003 3 (.t 1)))⟩, ⟨(some 4), none, (.op (.mv (.c (.bool false))))⟩]
def rsameNote_r1 : List AI := [⟨(some 5), none, (.op (.fld 0 (.t 2)))⟩, ⟨(some 6), none, (.op (.load none (.t 5)))⟩, ⟨(some 7), none, (.op (.fld 0 (.t 3)))⟩, ⟨(some 8), none, (.op (.load none (.t 7)))⟩, ⟨(some 9), none, (.op (.ibin .eql (.t 6) (.t 8)))⟩, ⟨(some 10), none, (.op (.mv (.t 9)))⟩, ⟨(some 11), (some (10, true)), (.op (.fld 1 (.t 2)))⟩, ⟨(some 12), (some (10, true)), (.op (.load none (.t 11)))⟩, ⟨(some 13), (some (10, true)), (.op (.fld 1 (.t 3)))⟩, ⟨(some 14), (some (10, true)), (.op (.load none (.t 13)))⟩, ⟨(some 15), (some (10, true)), (.op (.ibin .eql (.t 12) (.t 14)))⟩, ⟨(some 16), none, (.op (.pick (.t 10) (.t 15) (.c (.bool false))))⟩, ⟨(some 17), none, (.op (.mv (.t 16)))⟩, ⟨(some 18), (some (17, true)), (.op (.fld 2 (.t 2)))⟩, ⟨(some 19), (some (17, true)), (.op (.load none (.t 18)))⟩, ⟨(some 20), (some (17, true)), (.op (.fld 2 (.t 3)))⟩, ⟨(some 21), (some (17, true)), (.op (.load none (.t 20)))⟩, ⟨(some 22), (some (17, true)), (.call (.c (.fn 33 [])) [(.t 19), (.t 21)])⟩, ⟨(some 23), none, (.op (.pick (.t 17) (.t 22) (.c (.bool false))))⟩, ⟨(some 4), none, (.op (.mv (.t 23)))⟩]
def rsameNote_c : AC := (.seq (.reg rsameNote_r0) (.seq (.reg rsameNote_r1) .ret))
def rsameNote_res : List ARes := [(.tmp 4)]
set_option maxRecDepth 100000 in
theorem rsameNote_get : getF Try.prog 49 57000 [] = some ("gavotte/gavotteref1.SameNote", 24, rsameNote_c, rsameNote_res) := by kernel_rfl
def sameHnd_r0 : List AI := [⟨(some 2), none, (.op (.box 42002 2 (.t 0)))⟩, ⟨(some 3), none, (.op (.box 42003 2 (.t 1)))⟩, ⟨(some 4), none, (.op (.mv (.c (.bool false))))⟩]
def sameHnd_r1 : List AI := [⟨(some 5), none, (.op (.fld 0 (.t 2)))⟩, ⟨(some 6), none, (.op (.load none (.t 5)))⟩, ⟨(some 7), none, (.op (.fld 0 (.t 3)))⟩, ⟨(some 8), none, (.op (.load none (.t 7)))⟩, ⟨(some 9), none, (.op (.ibin .eql (.t 6) (.t 8)))⟩, ⟨(some 10), none, (.op (.mv (.t 9)))⟩, ⟨(some 11), (some (10, true)), (.op (.fld 1 (.t 2)))⟩, ⟨(some 12), (some (10, true)), (.op (.load none (.t 11)))⟩, ⟨(some 13), (some (10, true)), (.op (.fld 1 (.t 3)))⟩, ⟨(some 14), (some (10, true)), (.op (.load none (.t 13)))⟩, ⟨(some 15), (some (10, true)), (.call (.c (.fn 50 [])) [(.t 12), (.t 14)])⟩, ⟨(some 16), none, (.op (.pick (.t 10) (.t 15) (.c (.bool false))))⟩, ⟨(some 4), none, (.op (.mv (.t 16)))⟩]
def sameHnd_c : AC := (.seq (.reg sameHnd_r0) (.seq (.reg sameHnd_r1) .ret))
def sameHnd_res : List ARes := [(.tmp 4)]
set_option maxRecDepth 100000 in
theorem sameHnd_get : getF Try.prog 35 42000 [] = some ("gavotte/prog.sameHandler", 17, sameHnd_c, sameHnd_res) := by kernel_rfl
def sameAct_r0 : List AI := [⟨(some 2), none, (.op (.box 44002 4 (.t 0)))⟩, ⟨(some 3), none, (.op (.box 44003 4 (.t 1)))⟩, ⟨(some 4), none, (.op (.mv (.c (.bool false))))⟩]
def sameAct_r1 : List AI := [⟨(some 5), none, (.op (.fld 0 (.t 2)))⟩, ⟨(some 6), none, (.op (.load none (.t 5)))⟩, ⟨(some 7), none, (.op (.fld 0 (.t 3)))⟩, ⟨(some 8), none, (.op (.load none (.t 7)))⟩, ⟨(some 9), none, (.call (.c (.fn 48 [])) [(.t 6), (.t 8)])⟩, ⟨(some 10), none, (.op (.mv (.t 9)))⟩, ⟨(some 11), (some (10, true)), (.op (.fld 1 (.t 2)))⟩, ⟨(some 12), (some (10, true)), (.op (.load none (.t 11)))⟩, ⟨(some 13), (some (10, true)), (.op (.fld 1 (.t 3)))⟩, ⟨(some 14), (some (10, true)), (.op (.load none (.t 13)))⟩, ⟨(some 15), (some (10, true)), (.op (.ibin .eql (.t 12) (.t 14)))⟩, ⟨(some 16), none, (.op (.pick (.t 10) (.t 15) (.c (.bool false))))⟩, ⟨(some 17), none, (.op (.mv (.t 16)))⟩, ⟨(some 18), (some (17, true)), (.op (.fld 2 (.t 2)))⟩, ⟨(some 19), (some (17, true)), (.op (.load none (.t 18)))⟩, ⟨(some 20), (some (17, true)), (.op (.fld 2 (.t 3)))⟩, ⟨(some 21), (some (17, true)), (.op (.load none (.t 20)))⟩, ⟨(some 22), (some (17, true)), (.op (.ibin .eql (.t 19) (.t 21)))⟩, ⟨(some 23), none, (.op (.pick (.t 17) (.t 22) (.c (.bool false))))⟩, ⟨(some 24), none, (.op (.mv (.t 23)))⟩, ⟨(some 25), (some (24, true)), (.op (.fld 3 (.t 2)))⟩, ⟨(some 26), (some (24, true)), (.op (.load none (.t 25)))⟩, ⟨(some 27), (some (24, true)), (.op (.fld 3 (.t 3)))⟩, ⟨(some 28), (some (24, true)), (.op (.load none (.t 27)))⟩, ⟨(some 29), (some (24, true)), (.op (.eqv false (.t 26) (.t 28)))⟩, ⟨(some 30), none, (.op (.pick (.t 24) (.t 29) (.c (.bool false))))⟩, ⟨(some 4), none, (.op (.mv (.t 30)))⟩]
def sameAct_c : AC := (.seq (.reg sameAct_r0) (.seq (.reg sameAct_r1) .ret))
def sameAct_res : List ARes := [(.tmp 4)]
set_option maxRecDepth 100000 in
theorem sameAct_get : getF Try.prog 37 44000 [] = some ("gavotte/prog.sameActor", 31, sameAct_c, sameAct_res) := by kernel_rfl
def eqfH_r0 : List AI := [⟨(some 6), none, (.op (.mv (.c (.bool false))))⟩]
def eqfH_r1 : List AI := [⟨(some 10), none, (.op (.mv (.t 0)))⟩, ⟨(some 11), none, (.op (.len (.t 10)))⟩, ⟨(some 12), none, (.op (.mv (.t 1)))⟩, ⟨(some 13), none, (.op (.len (.t 12)))⟩, ⟨(some 14), none, (.op (.ibin .neq (.t 11) (.t 13)))⟩]
def eqfH_r2 : List AI := [⟨(some 6), none, (.op (.mv (.c (.bool false))))⟩]
def eqfH_r3 : List AI := [⟨(some 15), none, (.op (.mv (.t 0)))⟩, ⟨(some 16), none, (.op (.len (.t 15)))⟩, ⟨(some 17), none, (.op (.mv (.c (.int .i64 0))))⟩]
def eqfH_r4 : List AI := [⟨(some 18), none, (.op (.ibin .lss (.t 17) (.t 16)))⟩]
def eqfH_r5 : List AI := [⟨(some 19), none, (.op (.mv (.t 17)))⟩, ⟨(some 20), none, (.op (.idx 2 (.t 15) (.t 17)))⟩, ⟨(some 21), none, (.op (.load (some 2) (.t 20)))⟩, ⟨(some 8), none, (.op (.new 41008 2 (.agg [(.int .i64 0), .nils])))⟩, ⟨(some 7), none, (.op (.mv (.t 19)))⟩, ⟨none, none, (.op (.store 2 (.t 8) (.t 21)))⟩]
def eqfH_r6 : List AI := [⟨(some 22), none, (.op (.mv (.t 1)))⟩, ⟨(some 23), none, (.op (.mv (.t 7)))⟩, ⟨(some 24), none, (.op (.idx 2 (.t 22) (.t 23)))⟩, ⟨(some 25), none, (.op (.load (some 2) (.t 24)))⟩, ⟨(some 9), none, (.op (.new 41009 2 (.agg [(.int .i64 0), .nils])))⟩, ⟨none, none, (.op (.store 2 (.t 9) (.t 25)))⟩]
def eqfH_r7 : List AI := [⟨(some 26), none, (.op (.mv (.t 2)))⟩, ⟨(some 27), none, (.op (.load (some 2) (.t 8)))⟩, ⟨(some 28), none, (.op (.load (some 2) (.t 9)))⟩, ⟨(some 29), none, (.call (.t 26) [(.t 27), (.t 28)])⟩, ⟨(some 30), none, (.op (.not (.t 29)))⟩]
def eqfH_r8 : List AI := [⟨(some 6), none, (.op (.mv (.c (.bool false))))⟩]
def eqfH_r9 : List AI := [⟨(some 31), none, (.op (.ibin .add (.t 17) (.c (.int .i64 1))))⟩, ⟨(some 17), none, (.op (.mv (.t 31)))⟩]
def eqfH_l0 : AC := (.seq (.reg eqfH_r4) (.seq (.cond (.t 18) .skip (.exit 0)) (.seq (.block 1 (.seq (.reg eqfH_r5) (.seq (.reg eqfH_r6) (.seq (.reg eqfH_r7) (.cond (.t 30) (.seq (.reg eqfH_r8) .ret) .skip))))) (.reg eqfH_r9))))
def eqfH_r10 : List AI := [⟨(some 6), none, (.op (.mv (.c (.bool true))))⟩]
def eqfH_c : AC := (.seq (.reg eqfH_r0) (.seq (.seq (.reg eqfH_r1) (.cond (.t 14) (.seq (.reg eqfH_r2) .ret) .skip)) (.seq (.seq (.reg eqfH_r3) (.block 0 (.loop eqfH_l0))) (.seq (.reg eqfH_r10) .ret))))
def eqfH_res : List ARes := [(.tmp 6)]
set_option maxRecDepth 100000 in
theorem eqfH_get : getF Try.prog 34 41000 [] = some ("slices.EqualFunc[[]gavotte/api.Handler,[]gavotte/api.Handler,gavotte/api.Handler,gavotte/api.Handler]", 32, eqfH_c, eqfH_res) := by kernel_rfl
def eqfA_r0 : List AI := [⟨(some 6), none, (.op (.mv (.c (.bool false))))⟩]
def eqfA_r1 : List AI := [⟨(some 10), none, (.op (.mv (.t 0)))⟩, ⟨(some 11), none, (.op (.len (.t 10)))⟩, ⟨(some 12), none, (.op (.mv (.t 1)))⟩, ⟨(some 13), none, (.op (.len (.t 12)))⟩, ⟨(some 14), none, (.op (.ibin .neq (.t 11) (.t 13)))⟩]
def eqfA_r2 : List AI := [⟨(some 6), none, (.op (.mv (.c (.bool false))))⟩]
def eqfA_r3 : List AI := [⟨(some 15), none, (.op (.mv (.t 0)))⟩, ⟨(some 16), none, (.op (.len (.t 15)))⟩, ⟨(some 17), none, (.op (.mv (.c (.int .i64 0))))⟩]
def eqfA_r4 : List AI := [⟨(some 18), none, (.op (.ibin .lss (.t 17) (.t 16)))⟩]
def eqfA_r5 : List AI := [⟨(some 19), none, (.op (.mv (.t 17)))⟩, ⟨(some 20), none, (.op (.idx 4 (.t 15) (.t 17)))⟩, ⟨(some 21), none, (.op (.load (some 4) (.t 20)))⟩, ⟨(some 8), none, (.op (.new 43008 4 (.agg [.nils, (.int .i64 0), (.int .i64 0), (.bool false)])))⟩, ⟨(some 7), none, (.op (.mv (.t 19)))⟩, ⟨none, none, (.op (.store 4 (.t 8) (.t 21)))⟩]
def eqfA_r6 : List AI := [⟨(some 22), none, (.op (.mv (.t 1)))⟩, ⟨(some 23), none, (.op (.mv (.t 7)))⟩, ⟨(some 24), none, (.op (.idx 4 (.t 22) (.t 23)))⟩, ⟨(some 25), none, (.op (.load (some 4) (.t 24)))⟩, ⟨(some 9), none, (.op (.new 43009 4 (.agg [.nils, (.int .i64 0), (.int .i64 0), (.bool false)])))⟩, ⟨none, none, (.op (.store 4 (.t 9) (.t 25)))⟩]
def eqfA_r7 : List AI := [⟨(some 26), none, (.op (.mv (.t 2)))⟩, ⟨(some 27), none, (.op (.load (some 4) (.t 8)))⟩, ⟨(some 28), none, (.op (.load (some 4) (.t 9)))⟩, ⟨(some 29), none, (.call (.t 26) [(.t 27), (.t 28)])⟩, ⟨(some 30), none, (.op (.not (.t 29)))⟩]
def eqfA_r8 : List AI := [⟨(some 6), none, (.op (.mv (.c (.bool false))))⟩]
def eqfA_r9 : List AI := [⟨(some 31), none, (.op (.ibin .add (.t 17) (.c (.int .i64 1))))⟩, ⟨(some 17), none, (.op (.mv (.t 31)))⟩]
def eqfA_l0 : AC := (.seq (.reg eqfA_r4) (.seq (.cond (.t 18) .skip (.exit 0)) (.seq (.block 1 (.seq (.reg eqfA_r5) (.seq (.reg eqfA_r6) (.seq (.reg eqfA_r7) (.cond (.t 30) (.seq (.reg eqfA_r8) .ret) .skip))))) (.reg eqfA_r9))))
def eqfA_r10 : List AI := [⟨(some 6), none, (.op (.mv (.c (.bool true))))⟩]
def eqfA_c : AC := (.seq (.reg eqfA_r0) (.seq (.seq (.reg eqfA_r1) (.cond (.t 14) (.seq (.reg eqfA_r2) .ret) .skip)) (.seq (.seq (.reg eqfA_r3) (.block 0 (.loop eqfA_l0))) (.seq (.reg eqfA_r10) .ret))))
def eqfA_res : List ARes := [(.tmp 6)]
set_option maxRecDepth 100000 in
theorem eqfA_get : getF Try.prog 36 43000 [] = some ("slices.EqualFunc[[]gavotte/api.Actor,[]gavotte/api.Actor,gavotte/api.Actor,gavotte/api.Actor]", 32, eqfA_c, eqfA_res) := by kernel_rfl
def eqfN_r0 : List AI := [⟨(some 6), none, (.op (.mv (.c (.bool false))))⟩]
def eqfN_r1 : List AI := [⟨(some 10), none, (.op (.mv (.t 0)))⟩, ⟨(some 11), none, (.op (.len (.t 10)))⟩, ⟨(some 12), none, (.op (.mv (.t 1)))⟩, ⟨(some 13), none, (.op (.len (.t 12)))⟩, ⟨(some 14), none, (.op (.ibin .neq (.t 11) (.t 13)))⟩]
def eqfN_r2 : List AI := [⟨(some 6), none, (.op (.mv (.c (.bool false))))⟩]
def eqfN_r3 : List AI := [⟨(some 15), none, (.op (.mv (.t 0)))⟩, ⟨(some 16), none, (.op (.len (.t 15)))⟩, ⟨(some 17), none, (.op (.mv (.c (.int .i64 0))))⟩]
def eqfN_r4 : List AI := [⟨(some 18), none, (.op (.ibin .lss (.t 17) (.t 16)))⟩]
def eqfN_r5 : List AI := [⟨(some 19), none, (.op (.mv (.t 17)))⟩, ⟨(some 20), none, (.op (.idx 3 (.t 15) (.t 17)))⟩, ⟨(some 21), none, (.op (.load (some 3) (.t 20)))⟩, ⟨(some 8), none, (.op (.new 45008 3 (.agg [(.int .i64 0), (.int .i64 0), .nils])))⟩, ⟨(some 7), none, (.op (.mv (.t 19)))⟩, ⟨none, none, (.op (.store 3 (.t 8) (.t 21)))⟩]
def eqfN_r6 : List AI := [⟨(some 22), none, (.op (.mv (.t 1)))⟩, ⟨(some 23), none, (.op (.mv (.t 7)))⟩, ⟨(some 24), none, (.op (.idx 3 (.t 22) (.t 23)))⟩, ⟨(some 25), none, (.op (.load (some 3) (.t 24)))⟩, ⟨(some 9), none, (.op (.new 45009 3 (.agg [(.int .i64 0), (.int .i64 0), .nils])))⟩, ⟨none, none, (.op (.store 3 (.t 9) (.t 25)))⟩]
def eqfN_r7 : List AI := [⟨(some 26), none, (.op (.mv (.t 2)))⟩, ⟨(some 27), none, (.op (.load (some 3) (.t 8)))⟩, ⟨(some 28), none, (.op (.load (some 3) (.t 9)))⟩, ⟨(some 29), none, (.call (.t 26) [(.t 27), (.t 28)])⟩, ⟨(some 30), none, (.op (.not (.t 29)))⟩]
def eqfN_r8 : List AI := [⟨(some 6), none, (.op (.mv (.c (.bool false))))⟩]
def eqfN_r9 : List AI := [⟨(some 31), none, (.op (.ibin .add (.t 17) (.c (.int .i64 1))))⟩, ⟨(some 17), none, (.op (.mv (.t 31)))⟩]
def eqfN_l0 : AC := (.seq (.reg eqfN_r4) (.seq (.cond (.t 18) .skip (.exit 0)) (.seq (.block 1 (.seq (.reg eqfN_r5) (.seq (.reg eqfN_r6) (.seq (.reg eqfN_r7) (.cond (.t 30) (.seq (.reg eqfN_r8) .ret) .skip))))) (.reg eqfN_r9))))
def eqfN_r10 : List AI := [⟨(some 6), none, (.op (.mv (.c (.bool true))))⟩]
def eqfN_c : AC := (.seq (.reg eqfN_r0) (.seq (.seq (.reg eqfN_r1) (.cond (.t 14) (.seq (.reg eqfN_r2) .ret) .skip)) (.seq (.seq (.reg eqfN_r3) (.block 0 (.loop eqfN_l0))) (.seq (.reg eqfN_r10) .ret))))
def eqfN_res : List ARes := [(.tmp 6)]
set_option maxRecDepth 100000 in
theorem eqfN_get : getF Try.prog 38 45000 [] = some ("slices.EqualFunc[[]gavotte/api.Note,[]gavotte/api.Note,gavotte/api.Note,gavotte/api.Note]", 32, eqfN_c, eqfN_res) := by kernel_rfl
def rnotes_r0 : List AI := [⟨(some 4), none, (.op (.mv (.c (.bool false))))⟩]
def rnotes_r1 : List AI := [⟨(some 6), none, (.op (.mv (.t 0)))⟩, ⟨(some 7), none, (.op (.len (.t 6)))⟩, ⟨(some 8), none, (.op (.mv (.t 1)))⟩, ⟨(some 9), none, (.op (.len (.t 8)))⟩, ⟨(some 10), none, (.op (.ibin .neq (.t 7) (.t 9)))⟩]
def rnotes_r2 : List AI := [⟨(some 4), none, (.op (.mv (.c (.bool false))))⟩]
def rnotes_r3 : List AI := [⟨(some 5), none, (.op (.mv (.c (.int .i64 0))))⟩]
def rnotes_r4 : List AI := [⟨(some 11), none, (.op (.mv (.t 5)))⟩, ⟨(some 12), none, (.op (.mv (.t 0)))⟩, ⟨(some 13), none, (.op (.len (.t 12)))⟩, ⟨(some 14), none, (.op (.ibin .lss (.t 11) (.t 13)))⟩]
def rnotes_r5 : List AI := [⟨(some 17), none, (.op (.mv (.t 0)))⟩, ⟨(some 18), none, (.op (.mv (.t 5)))⟩, ⟨(some 19), none, (.op (.idx 3 (.t 17) (.t 18)))⟩, ⟨(some 20), none, (.op (.load (some 3) (.t 19)))⟩, ⟨(some 21), none, (.op (.mv (.t 1)))⟩, ⟨(some 22), none, (.op (.mv (.t 5)))⟩, ⟨(some 23), none, (.op (.idx 3 (.t 21) (.t 22)))⟩, ⟨(some 24), none, (.op (.load (some 3) (.t 23)))⟩, ⟨(some 25), none, (.call (.c (.fn 49 [])) [(.t 20), (.t 24)])⟩, ⟨(some 26), none, (.op (.not (.t 25)))⟩]
def rnotes_p5 : List (List Nat) := [[], [], [0, 1], [2, 0, 1], [], [], [4, 5], [6, 4, 5], [3, 7, 2, 0, 1, 6, 4, 5], [8, 3, 7, 2, 0, 1, 6, 4, 5]]
def rnotes_r6 : List AI := [⟨(some 4), none, (.op (.mv (.c (.bool false))))⟩]
def rnotes_r7 : List AI := [⟨(some 15), none, (.op (.mv (.t 5)))⟩, ⟨(some 16), none, (.op (.ibin .add (.t 15) (.c (.int .i64 1))))⟩, ⟨(some 5), none, (.op (.mv (.t 16)))⟩]
def rnotes_l0 : AC := (.seq (.seq (.reg rnotes_r4) (.cond (.t 14) .skip (.exit 0))) (.seq (.block 1 (.seq (.regd rnotes_r5 rnotes_p5) (.cond (.t 26) (.seq (.reg rnotes_r6) .ret) .skip))) (.reg rnotes_r7)))
def rnotes_r8 : List AI := [⟨(some 4), none, (.op (.mv (.c (.bool true))))⟩]
def rnotes_c : AC := (.seq (.reg rnotes_r0) (.seq (.seq (.reg rnotes_r1) (.cond (.t 10) (.seq (.reg rnotes_r2) .ret) .skip)) (.seq (.seq (.reg rnotes_r3) (.block 0 (.loop rnotes_l0))) (.seq (.reg rnotes_r8) .ret))))
def rnotes_res : List ARes := [(.tmp 4)]
set_option maxRecDepth 100000 in
theorem rnotes_get : getF Try.prog 31 46000 [] = some ("gavotte/gavotteref1.SameNotes", 27, rnotes_c, rnotes_res) := by kernel_rfl
attribute [simp] aints_r0 aints_r1 aints_r2 aints_r3 aints_r4 aints_r5 aints_p5 aints_r6 aints_r7 aints_r8 aints_res rints_r0 rints_r1 rints_r2 rints_r3 rints_r4 rints_r5 rints_p5 rints_r6 rints_r7 rints_r8 rints_res sints_r0 sints_r1 sints_r2 sints_r3 sints_r4 sints_r5 sints_r6 sints_p6 sints_r7 sints_r8 sints_r9 sints_res rcode_r0 rcode_r1 rcode_r2 rcode_r3 rcode_r4 rcode_r5 rcode_p5 rcode_r6 rcode_r7 rcode_r8 rcode_res sinss_r0 sinss_r1 sinss_r2 sinss_r3 sinss_r4 sinss_r5 sinss_r6 sinss_p6 sinss_r7 sinss_r8 sinss_r9 sinss_res sameNote_r0 sameNote_r1 sameNote_res rsameNote_r0 rsameNote_r1 rsameNote_res sameHnd_r0 sameHnd_r1 sameHnd_res sameAct_r0 sameAct_r1 sameAct_res eqfH_r0 eqfH_r1 eqfH_r2 eqfH_r3 eqfH_r4 eqfH_r5 eqfH_r6 eqfH_r7 eqfH_r8 eqfH_r9 eqfH_r10 eqfH_res eqfA_r0 eqfA_r1 eqfA_r2 eqfA_r3 eqfA_r4 eqfA_r5 eqfA_r6 eqfA_r7 eqfA_r8 eqfA_r9 eqfA_r10 eqfA_res eqfN_r0 eqfN_r1 eqfN_r2 eqfN_r3 eqfN_r4 eqfN_r5 eqfN_r6 eqfN_r7 eqfN_r8 eqfN_r9 eqfN_r10 eqfN_res rnotes_r0 rnotes_r1 rnotes_r2 rnotes_r3 rnotes_r4 rnotes_r5 rnotes_p5 rnotes_r6 rnotes_r7 rnotes_r8 rnotes_res


theorem Ins.eq_iff (a b : Ins) : a = b ↔ a.op = b.op ∧ a.a = b.a := by cases a; cases b; simp
theorem Hnd.eq_iff (a b : Hnd) : a = b ↔ a.args = b.args ∧ a.code = b.code := by cases a; cases b; simp
theorem Actr.eq_iff (a b : Actr) : a = b ↔ a.regs = b.regs ∧ a.cap = b.cap ∧ a.timer = b.timer ∧ a.armed = b.armed := by cases a; cases b; simp
theorem Nt.eq_iff (a b : Nt) : a = b ↔ a.to = b.to ∧ a.hd = b.hd ∧ a.args = b.args := by cases a; cases b; simp
theorem Prg.eq_iff (a b : Prg) : a = b ↔ a.hs = b.hs ∧ a.as = b.as ∧ a.boot = b.boot ∧ a.fuel = b.fuel := by cases a; cases b; simp
theorem aints_pc (l m : List Int) (hl : l.length < 4611686018427387904) : PC Try.prog 19 [ints l, ints m ] (.bool (decide (l = m))) := by
  refine pc_of_get aints_get (by simp) _ (by simp) _ ?_
  unfold aints_c
  simp
  refine split (fun hlen => ?_) (fun hlen => ?_) <;> simp [hlen]
  rotate_left
  · intro e; exact hlen (by rw [e])
  have hlen : l.length = m.length := by omega
  refine loopN (fun i S => S.t 0 = ints l ∧ S.t 1 = ints m ∧ S.t 5 = iv i ∧ (l = m ↔ l.drop i = m.drop i)) l.length ?_ ?_
  · simp [hlen]
  · rintro i S hi ⟨h0, h1, h2, h4⟩
    by_cases hlt : i < l.length
    · have hlt2 : i < m.length := by omega
      rw [List.drop_eq_getElem_cons hlt, List.drop_eq_getElem_cons hlt2, List.cons.injEq] at h4
      simp [aints_l0, h0, h1, h2, hlt, hlt2]
      repeat' (refine split (fun hc => ?_) (fun hc => ?_) <;> simp [hc, h0, h1, h2, hlt, hlt2, h4, wrap_succ i _ hlt hl])
      all_goals grind
    · have e : i = l.length := by omega
      subst e
      have hle : m.length ≤ l.length := by omega
      simp [hle] at h4
      simp [aints_l0, h0, h1, h2,  h4]
theorem rints_pc (l m : List Int) (hl : l.length < 4611686018427387904) : PC Try.prog 33 [ints l, ints m ] (.bool (decide (l = m))) := by
  refine pc_of_get rints_get (by simp) _ (by simp) _ ?_
  unfold rints_c
  simp
  refine split (fun hlen => ?_) (fun hlen => ?_) <;> simp [hlen]
  rotate_left
  · intro e; exact hlen (by rw [e])
  have hlen : l.length = m.length := by omega
  refine loopN (fun i S => S.t 0 = ints l ∧ S.t 1 = ints m ∧ S.t 5 = iv i ∧ (l = m ↔ l.drop i = m.drop i)) l.length ?_ ?_
  · simp [hlen]
  · rintro i S hi ⟨h0, h1, h2, h4⟩
    by_cases hlt : i < l.length
    · have hlt2 : i < m.length := by omega
      rw [List.drop_eq_getElem_cons hlt, List.drop_eq_getElem_cons hlt2, List.cons.injEq] at h4
      simp [rints_l0, h0, h1, h2, hlt, hlt2]
      repeat' (refine split (fun hc => ?_) (fun hc => ?_) <;> simp [hc, h0, h1, h2, hlt, hlt2, h4, wrap_succ i _ hlt hl])
      all_goals grind
    · have e : i = l.length := by omega
      subst e
      have hle : m.length ≤ l.length := by omega
      simp [hle] at h4
      simp [rints_l0, h0, h1, h2,  h4]
theorem sints_pc (l m : List Int) (hl : l.length < 4611686018427387904) : PC Try.prog 48 [ints l, ints m ] (.bool (decide (l = m))) := by
  refine pc_of_get sints_get (by simp) _ (by simp) _ ?_
  unfold sints_c
  simp
  refine split (fun hlen => ?_) (fun hlen => ?_) <;> simp [hlen]
  rotate_left
  · intro e; exact hlen (by rw [e])
  have hlen : l.length = m.length := by omega
  refine loopN (fun i S => S.t 0 = ints l ∧ S.t 1 = ints m ∧ S.t 13 = iv i ∧ S.t 12 = iv l.length ∧ (l = m ↔ l.drop i = m.drop i)) l.length ?_ ?_
  · simp [hlen]
  · rintro i S hi ⟨h0, h1, h2, h3, h4⟩
    by_cases hlt : i < l.length
    · have hlt2 : i < m.length := by omega
      rw [List.drop_eq_getElem_cons hlt, List.drop_eq_getElem_cons hlt2, List.cons.injEq] at h4
      simp [sints_l0, h0, h1, h2, h3, hlt, hlt2]
      repeat' (refine split (fun hc => ?_) (fun hc => ?_) <;> simp [hc, h0, h1, h2, h3, hlt, hlt2, h4, wrap_succ i _ hlt hl])
      all_goals grind
    · have e : i = l.length := by omega
      subst e
      have hle : m.length ≤ l.length := by omega
      simp [hle] at h4
      simp [sints_l0, h0, h1, h2, h3,  h4]
theorem rcode_pc (l m : List Ins) (hl : l.length < 4611686018427387904) : PC Try.prog 32 [.lst 2 (l.map Ins.av), .lst 2 (m.map Ins.av) ] (.bool (decide (l = m))) := by
  refine pc_of_get rcode_get (by simp) _ (by simp) _ ?_
  unfold rcode_c
  simp
  refine split (fun hlen => ?_) (fun hlen => ?_) <;> simp [hlen]
  rotate_left
  · intro e; exact hlen (by rw [e])
  have hlen : l.length = m.length := by omega
  refine loopN (fun i S => S.t 0 = .lst 2 (l.map Ins.av) ∧ S.t 1 = .lst 2 (m.map Ins.av) ∧ S.t 5 = iv i ∧ (l = m ↔ l.drop i = m.drop i)) l.length ?_ ?_
  · simp [hlen]
  · rintro i S hi ⟨h0, h1, h2, h4⟩
    by_cases hlt : i < l.length
    · have hlt2 : i < m.length := by omega
      rw [List.drop_eq_getElem_cons hlt, List.drop_eq_getElem_cons hlt2, List.cons.injEq] at h4
      rw [Ins.eq_iff] at h4
      simp [rcode_l0, h0, h1, h2, hlt, hlt2]
      repeat' (refine split (fun hc => ?_) (fun hc => ?_) <;> simp [hc, h0, h1, h2, hlt, hlt2, h4, wrap_succ i _ hlt hl])
      all_goals grind
    · have e : i = l.length := by omega
      subst e
      have hle : m.length ≤ l.length := by omega
      simp [hle] at h4
      simp [rcode_l0, h0, h1, h2,  h4]
theorem sinss_pc (l m : List Ins) (hl : l.length < 4611686018427387904) : PC Try.prog 50 [.lst 2 (l.map Ins.av), .lst 2 (m.map Ins.av) ] (.bool (decide (l = m))) := by
  refine pc_of_get sinss_get (by simp) _ (by simp) _ ?_
  unfold sinss_c
  simp
  refine split (fun hlen => ?_) (fun hlen => ?_) <;> simp [hlen]
  rotate_left
  · intro e; exact hlen (by rw [e])
  have hlen : l.length = m.length := by omega
  refine loopN (fun i S => S.t 0 = .lst 2 (l.map Ins.av) ∧ S.t 1 = .lst 2 (m.map Ins.av) ∧ S.t 13 = iv i ∧ S.t 12 = iv l.length ∧ (l = m ↔ l.drop i = m.drop i)) l.length ?_ ?_
  · simp [hlen]
  · rintro i S hi ⟨h0, h1, h2, h3, h4⟩
    by_cases hlt : i < l.length
    · have hlt2 : i < m.length := by omega
      rw [List.drop_eq_getElem_cons hlt, List.drop_eq_getElem_cons hlt2, List.cons.injEq] at h4
      rw [Ins.eq_iff] at h4
      simp [sinss_l0, h0, h1, h2, h3, hlt, hlt2]
      repeat' (refine split (fun hc => ?_) (fun hc => ?_) <;> simp [hc, h0, h1, h2, h3, hlt, hlt2, h4, wrap_succ i _ hlt hl])
      all_goals grind
    · have e : i = l.length := by omega
      subst e
      have hle : m.length ≤ l.length := by omega
      simp [hle] at h4
      simp [sinss_l0, h0, h1, h2, h3,  h4]
theorem sameNote_pc (a b : Nt) (hl : a.args.length < 4611686018427387904) : PC Try.prog 27 [a.av, b.av] (.bool (decide (a = b))) := by
  refine pc_of_get sameNote_get (by simp) _ (by simp) _ ?_
  unfold sameNote_c
  have e := Nt.eq_iff a b
  simp
  refine split (fun h1 => ?_) (fun h1 => ?_) <;> simp [h1]
  rotate_left
  · grind
  refine split (fun h2 => ?_) (fun h2 => ?_) <;> simp [h2]
  rotate_left
  · grind
  refine call (sints_pc a.args b.args hl) (by simp) ?_
  simp [h1, h2, e]
theorem rsameNote_pc (a b : Nt) (hl : a.args.length < 4611686018427387904) : PC Try.prog 49 [a.av, b.av] (.bool (decide (a = b))) := by
  refine pc_of_get rsameNote_get (by simp) _ (by simp) _ ?_
  unfold rsameNote_c
  have e := Nt.eq_iff a b
  simp
  refine split (fun h1 => ?_) (fun h1 => ?_) <;> simp [h1]
  rotate_left
  · grind
  refine split (fun h2 => ?_) (fun h2 => ?_) <;> simp [h2]
  rotate_left
  · grind
  refine call (rints_pc a.args b.args hl) (by simp) ?_
  simp [h1, h2, e]
theorem sameHnd_pc (a b : Hnd) (hl : a.code.length < 4611686018427387904) : PC Try.prog 35 [a.av, b.av] (.bool (decide (a = b))) := by
  refine pc_of_get sameHnd_get (by simp) _ (by simp) _ ?_
  unfold sameHnd_c
  have e := Hnd.eq_iff a b
  simp
  refine split (fun h1 => ?_) (fun h1 => ?_) <;> simp [h1]
  rotate_left
  · grind
  refine call (sinss_pc a.code b.code hl) (by simp) ?_
  simp [h1, e]
theorem sameAct_pc (a b : Actr) (hl : a.regs.length < 4611686018427387904) : PC Try.prog 37 [a.av, b.av] (.bool (decide (a = b))) := by
  refine pc_of_get sameAct_get (by simp) _ (by simp) _ ?_
  unfold sameAct_c
  have e := Actr.eq_iff a b
  simp
  refine call (sints_pc a.regs b.regs hl) (by simp) ?_
  simp
  refine split (fun h1 => ?_) (fun h1 => ?_) <;> simp [h1]
  rotate_left
  · grind
  refine split (fun h2 => ?_) (fun h2 => ?_) <;> simp [h2]
  rotate_left
  · grind
  refine split (fun h3 => ?_) (fun h3 => ?_) <;> simp [h3]
  rotate_left
  · grind
  cases ha : a.armed <;> cases hb : b.armed <;> simp [h1, h2, h3, e, ha, hb]
theorem eqfH_pc (l m : List Hnd) (f : FuncId) (hf : ∀ a ∈ l, ∀ b, PC Try.prog f [a.av, b.av] (.bool (decide (a = b)))) (hl : l.length < 4611686018427387904) : PC Try.prog 34 [.lst 2 (l.map Hnd.av), .lst 2 (m.map Hnd.av) , .fn f []] (.bool (decide (l = m))) := by
  refine pc_of_get eqfH_get (by simp) _ (by simp) _ ?_
  unfold eqfH_c
  simp
  refine split (fun hlen => ?_) (fun hlen => ?_) <;> simp [hlen]
  rotate_left
  · intro e; exact hlen (by rw [e])
  have hlen : l.length = m.length := by omega
  refine loopN (fun i S => S.t 0 = .lst 2 (l.map Hnd.av) ∧ S.t 1 = .lst 2 (m.map Hnd.av) ∧ S.t 17 = iv i ∧ S.t 15 = .lst 2 (l.map Hnd.av) ∧ S.t 16 = iv l.length ∧ S.t 2 = .fn f [] ∧ (l = m ↔ l.drop i = m.drop i)) l.length ?_ ?_
  · simp [hlen]
  · rintro i S hi ⟨h0, h1, h2, h3, h5, h6, h4⟩
    by_cases hlt : i < l.length
    · have hlt2 : i < m.length := by omega
      rw [List.drop_eq_getElem_cons hlt, List.drop_eq_getElem_cons hlt2, List.cons.injEq] at h4
      simp [eqfH_l0, h0, h1, h2, h3, h5, h6, hlt, hlt2]
      refine call (hf l[i] (List.getElem_mem hlt) m[i]) (by simp) ?_
      simp [h0, h1, h2, h3, h5, h6, hlt, hlt2]
      repeat' (refine split (fun hc => ?_) (fun hc => ?_) <;> simp [hc, h0, h1, h2, h3, h5, h6, hlt, hlt2, h4, wrap_succ i _ hlt hl])
      all_goals grind
    · have e : i = l.length := by omega
      subst e
      have hle : m.length ≤ l.length := by omega
      simp [hle] at h4
      simp [eqfH_l0, h0, h1, h2, h3, h5, h6,  h4]
theorem eqfA_pc (l m : List Actr) (f : FuncId) (hf : ∀ a ∈ l, ∀ b, PC Try.prog f [a.av, b.av] (.bool (decide (a = b)))) (hl : l.length < 4611686018427387904) : PC Try.prog 36 [.lst 4 (l.map Actr.av), .lst 4 (m.map Actr.av) , .fn f []] (.bool (decide (l = m))) := by
  refine pc_of_get eqfA_get (by simp) _ (by simp) _ ?_
  unfold eqfA_c
  simp
  refine split (fun hlen => ?_) (fun hlen => ?_) <;> simp [hlen]
  rotate_left
  · intro e; exact hlen (by rw [e])
  have hlen : l.length = m.length := by omega
  refine loopN (fun i S => S.t 0 = .lst 4 (l.map Actr.av) ∧ S.t 1 = .lst 4 (m.map Actr.av) ∧ S.t 17 = iv i ∧ S.t 15 = .lst 4 (l.map Actr.av) ∧ S.t 16 = iv l.length ∧ S.t 2 = .fn f [] ∧ (l = m ↔ l.drop i = m.drop i)) l.length ?_ ?_
  · simp [hlen]
  · rintro i S hi ⟨h0, h1, h2, h3, h5, h6, h4⟩
    by_cases hlt : i < l.length
    · have hlt2 : i < m.length := by omega
      rw [List.drop_eq_getElem_cons hlt, List.drop_eq_getElem_cons hlt2, List.cons.injEq] at h4
      simp [eqfA_l0, h0, h1, h2, h3, h5, h6, hlt, hlt2]
      refine call (hf l[i] (List.getElem_mem hlt) m[i]) (by simp) ?_
      simp [h0, h1, h2, h3, h5, h6, hlt, hlt2]
      repeat' (refine split (fun hc => ?_) (fun hc => ?_) <;> simp [hc, h0, h1, h2, h3, h5, h6, hlt, hlt2, h4, wrap_succ i _ hlt hl])
      all_goals grind
    · have e : i = l.length := by omega
      subst e
      have hle : m.length ≤ l.length := by omega
      simp [hle] at h4
      simp [eqfA_l0, h0, h1, h2, h3, h5, h6,  h4]
theorem eqfN_pc (l m : List Nt) (f : FuncId) (hf : ∀ a ∈ l, ∀ b, PC Try.prog f [a.av, b.av] (.bool (decide (a = b)))) (hl : l.length < 4611686018427387904) : PC Try.prog 38 [.lst 3 (l.map Nt.av), .lst 3 (m.map Nt.av) , .fn f []] (.bool (decide (l = m))) := by
  refine pc_of_get eqfN_get (by simp) _ (by simp) _ ?_
  unfold eqfN_c
  simp
  refine split (fun hlen => ?_) (fun hlen => ?_) <;> simp [hlen]
  rotate_left
  · intro e; exact hlen (by rw [e])
  have hlen : l.length = m.length := by omega
  refine loopN (fun i S => S.t 0 = .lst 3 (l.map Nt.av) ∧ S.t 1 = .lst 3 (m.map Nt.av) ∧ S.t 17 = iv i ∧ S.t 15 = .lst 3 (l.map Nt.av) ∧ S.t 16 = iv l.length ∧ S.t 2 = .fn f [] ∧ (l = m ↔ l.drop i = m.drop i)) l.length ?_ ?_
  · simp [hlen]
  · rintro i S hi ⟨h0, h1, h2, h3, h5, h6, h4⟩
    by_cases hlt : i < l.length
    · have hlt2 : i < m.length := by omega
      rw [List.drop_eq_getElem_cons hlt, List.drop_eq_getElem_cons hlt2, List.cons.injEq] at h4
      simp [eqfN_l0, h0, h1, h2, h3, h5, h6, hlt, hlt2]
      refine call (hf l[i] (List.getElem_mem hlt) m[i]) (by simp) ?_
      simp [h0, h1, h2, h3, h5, h6, hlt, hlt2]
      repeat' (refine split (fun hc => ?_) (fun hc => ?_) <;> simp [hc, h0, h1, h2, h3, h5, h6, hlt, hlt2, h4, wrap_succ i _ hlt hl])
      all_goals grind
    · have e : i = l.length := by omega
      subst e
      have hle : m.length ≤ l.length := by omega
      simp [hle] at h4
      simp [eqfN_l0, h0, h1, h2, h3, h5, h6,  h4]
theorem rnotes_pc (l m : List Nt) (hf : ∀ a ∈ l, a.args.length < 4611686018427387904) (hl : l.length < 4611686018427387904) : PC Try.prog 31 [.lst 3 (l.map Nt.av), .lst 3 (m.map Nt.av) ] (.bool (decide (l = m))) := by
  refine pc_of_get rnotes_get (by simp) _ (by simp) _ ?_
  unfold rnotes_c
  simp
  refine split (fun hlen => ?_) (fun hlen => ?_) <;> simp [hlen]
  rotate_left
  · intro e; exact hlen (by rw [e])
  have hlen : l.length = m.length := by omega
  refine loopN (fun i S => S.t 0 = .lst 3 (l.map Nt.av) ∧ S.t 1 = .lst 3 (m.map Nt.av) ∧ S.t 5 = iv i ∧ (l = m ↔ l.drop i = m.drop i)) l.length ?_ ?_
  · simp [hlen]
  · rintro i S hi ⟨h0, h1, h2, h4⟩
    by_cases hlt : i < l.length
    · have hlt2 : i < m.length := by omega
      rw [List.drop_eq_getElem_cons hlt, List.drop_eq_getElem_cons hlt2, List.cons.injEq] at h4
      simp [rnotes_l0, h0, h1, h2, hlt, hlt2]
      refine calld (rsameNote_pc l[i] m[i] (hf _ (List.getElem_mem hlt))) (by simp) ?_
      simp [h0, h1, h2, hlt, hlt2]
      repeat' (refine split (fun hc => ?_) (fun hc => ?_) <;> simp [hc, h0, h1, h2, hlt, hlt2, h4, wrap_succ i _ hlt hl])
      all_goals grind
    · have e : i = l.length := by omega
      subst e
      have hle : m.length ≤ l.length := by omega
      simp [hle] at h4
      simp [rnotes_l0, h0, h1, h2,  h4]


end Go.Gv

/- Whether programs are small, how many instructions they have, and whether two are the same. No condition beyond a list's length below 2^62. -/
set_option linter.unusedVariables false
set_option linter.unusedSimpArgs false
namespace Go.Gv
open Go.Proofs

def small_r0 : List AI := [⟨(some 1), none, (.op (.box 19001 4 (.t 0)))⟩, ⟨(some 2), none, (.op (.mv (.c (.bool false))))⟩]
def small_r1 : List AI := [⟨(some 6), none, (.op (.fld 0 (.t 1)))⟩, ⟨(some 7), none, (.op (.load none (.t 6)))⟩, ⟨(some 8), none, (.op (.len (.t 7)))⟩, ⟨(some 9), none, (.op (.ibin .gtr (.t 8) (.c (.int .i64 18))))⟩, ⟨(some 10), none, (.op (.mv (.t 9)))⟩, ⟨(some 11), (some (10, false)), (.op (.fld 1 (.t 1)))⟩, ⟨(some 12), (some (10, false)), (.op (.load none (.t 11)))⟩, ⟨(some 13), (some (10, false)), (.op (.len (.t 12)))⟩, ⟨(some 14), (some (10, false)), (.op (.ibin .gtr (.t 13) (.c (.int .i64 10))))⟩, ⟨(some 15), none, (.op (.pick (.t 10) (.c (.bool true)) (.t 14)))⟩, ⟨(some 16), none, (.op (.mv (.t 15)))⟩, ⟨(some 17), (some (16, false)), (.op (.fld 2 (.t 1)))⟩, ⟨(some 18), (some (16, false)), (.op (.load none (.t 17)))⟩, ⟨(some 19), (some (16, false)), (.op (.len (.t 18)))⟩, ⟨(some 20), (some (16, false)), (.op (.ibin .gtr (.t 19) (.c (.int .i64 18))))⟩, ⟨(some 21), none, (.op (.pick (.t 16) (.c (.bool true)) (.t 20)))⟩]
def small_r2 : List AI := [⟨(some 2), none, (.op (.mv (.c (.bool false))))⟩]
def small_r3 : List AI := [⟨(some 3), none, (.op (.mv (.c (.int .i64 0))))⟩]
def small_r4 : List AI := [⟨(some 22), none, (.op (.mv (.t 3)))⟩, ⟨(some 23), none, (.op (.fld 0 (.t 1)))⟩, ⟨(some 24), none, (.op (.load none (.t 23)))⟩, ⟨(some 25), none, (.op (.len (.t 24)))⟩, ⟨(some 26), none, (.op (.ibin .lss (.t 22) (.t 25)))⟩]
def small_r5 : List AI := [⟨(some 29), none, (.op (.fld 0 (.t 1)))⟩, ⟨(some 30), none, (.op (.load none (.t 29)))⟩, ⟨(some 31), none, (.op (.mv (.t 3)))⟩, ⟨(some 32), none, (.op (.idx 2 (.t 30) (.t 31)))⟩, ⟨(some 33), none, (.op (.fld 1 (.t 32)))⟩, ⟨(some 34), none, (.op (.load none (.t 33)))⟩, ⟨(some 35), none, (.op (.len (.t 34)))⟩, ⟨(some 36), none, (.op (.ibin .gtr (.t 35) (.c (.int .i64 70))))⟩]
def small_r6 : List AI := [⟨(some 2), none, (.op (.mv (.c (.bool false))))⟩]
def small_r7 : List AI := [⟨(some 27), none, (.op (.mv (.t 3)))⟩, ⟨(some 28), none, (.op (.ibin .add (.t 27) (.c (.int .i64 1))))⟩, ⟨(some 3), none, (.op (.mv (.t 28)))⟩]
def small_l0 : AC := (.seq (.seq (.reg small_r4) (.cond (.t 26) .skip (.exit 0))) (.seq (.block 1 (.seq (.reg small_r5) (.cond (.t 36) (.seq (.reg small_r6) .ret) .skip))) (.reg small_r7)))
def small_r8 : List AI := [⟨(some 4), none, (.op (.mv (.c (.int .i64 0))))⟩]
def small_r9 : List AI := [⟨(some 37), none, (.op (.mv (.t 4)))⟩, ⟨(some 38), none, (.op (.fld 1 (.t 1)))⟩, ⟨(some 39), none, (.op (.load none (.t 38)))⟩, ⟨(some 40), none, (.op (.len (.t 39)))⟩, ⟨(some 41), none, (.op (.ibin .lss (.t 37) (.t 40)))⟩]
def small_r10 : List AI := [⟨(some 44), none, (.op (.fld 1 (.t 1)))⟩, ⟨(some 45), none, (.op (.load none (.t 44)))⟩, ⟨(some 46), none, (.op (.mv (.t 4)))⟩, ⟨(some 47), none, (.op (.idx 4 (.t 45) (.t 46)))⟩, ⟨(some 48), none, (.op (.fld 0 (.t 47)))⟩, ⟨(some 49), none, (.op (.load none (.t 48)))⟩, ⟨(some 50), none, (.op (.len (.t 49)))⟩, ⟨(some 51), none, (.op (.ibin .gtr (.t 50) (.c (.int .i64 10))))⟩]
def small_r11 : List AI := [⟨(some 2), none, (.op (.mv (.c (.bool false))))⟩]
def small_r12 : List AI := [⟨(some 42), none, (.op (.mv (.t 4)))⟩, ⟨(some 43), none, (.op (.ibin .add (.t 42) (.c (.int .i64 1))))⟩, ⟨(some 4), none, (.op (.mv (.t 43)))⟩]
def small_l1 : AC := (.seq (.seq (.reg small_r9) (.cond (.t 41) .skip (.exit 2))) (.seq (.block 3 (.seq (.reg small_r10) (.cond (.t 51) (.seq (.reg small_r11) .ret) .skip))) (.reg small_r12)))
def small_r13 : List AI := [⟨(some 5), none, (.op (.mv (.c (.int .i64 0))))⟩]
def small_r14 : List AI := [⟨(some 52), none, (.op (.mv (.t 5)))⟩, ⟨(some 53), none, (.op (.fld 2 (.t 1)))⟩, ⟨(some 54), none, (.op (.load none (.t 53)))⟩, ⟨(some 55), none, (.op (.len (.t 54)))⟩, ⟨(some 56), none, (.op (.ibin .lss (.t 52) (.t 55)))⟩]
def small_r15 : List AI := [⟨(some 59), none, (.op (.fld 2 (.t 1)))⟩, ⟨(some 60), none, (.op (.load none (.t 59)))⟩, ⟨(some 61), none, (.op (.mv (.t 5)))⟩, ⟨(some 62), none, (.op (.idx 3 (.t 60) (.t 61)))⟩, ⟨(some 63), none, (.op (.fld 2 (.t 62)))⟩, ⟨(some 64), none, (.op (.load none (.t 63)))⟩, ⟨(some 65), none, (.op (.len (.t 64)))⟩, ⟨(some 66), none, (.op (.ibin .gtr (.t 65) (.c (.int .i64 6))))⟩]
def small_r16 : List AI := [⟨(some 2), none, (.op (.mv (.c (.bool false))))⟩]
def small_r17 : List AI := [⟨(some 57), none, (.op (.mv (.t 5)))⟩, ⟨(some 58), none, (.op (.ibin .add (.t 57) (.c (.int .i64 1))))⟩, ⟨(some 5), none, (.op (.mv (.t 58)))⟩]
def small_l2 : AC := (.seq (.seq (.reg small_r14) (.cond (.t 56) .skip (.exit 4))) (.seq (.block 5 (.seq (.reg small_r15) (.cond (.t 66) (.seq (.reg small_r16) .ret) .skip))) (.reg small_r17)))
def small_r18 : List AI := [⟨(some 2), none, (.op (.mv (.c (.bool true))))⟩]
def small_c : AC := (.seq (.reg small_r0) (.seq (.seq (.reg small_r1) (.cond (.t 21) (.seq (.reg small_r2) .ret) .skip)) (.seq (.seq (.reg small_r3) (.block 0 (.loop small_l0))) (.seq (.seq (.reg small_r8) (.block 2 (.loop small_l1))) (.seq (.seq (.reg small_r13) (.block 4 (.loop small_l2))) (.seq (.reg small_r18) .ret))))))
def small_res : List ARes := [(.tmp 2)]
set_option maxRecDepth 100000 in
theorem small_get : getF Try.prog 7 19000 [] = some ("gavotte/gavottealike.Small", 67, small_c, small_res) := by kernel_rfl
def size_r0 : List AI := [⟨(some 1), none, (.op (.box 25001 4 (.t 0)))⟩, ⟨(some 2), none, (.op (.mv (.c (.int .i64 0))))⟩]
def size_r1 : List AI := [⟨(some 5), none, (.op (.fld 0 (.t 1)))⟩, ⟨(some 6), none, (.op (.load none (.t 5)))⟩, ⟨(some 7), none, (.op (.len (.t 6)))⟩, ⟨(some 8), none, (.op (.mv (.c (.int .i64 0))))⟩]
def size_r2 : List AI := [⟨(some 9), none, (.op (.ibin .lss (.t 8) (.t 7)))⟩]
def size_r3 : List AI := [⟨(some 10), none, (.op (.idx 2 (.t 6) (.t 8)))⟩, ⟨(some 11), none, (.op (.load (some 2) (.t 10)))⟩, ⟨(some 4), none, (.op (.new 25004 2 (.agg [(.int .i64 0), .nils])))⟩, ⟨none, none, (.op (.store 2 (.t 4) (.t 11)))⟩]
def size_r4 : List AI := [⟨(some 12), none, (.op (.mv (.t 2)))⟩, ⟨(some 13), none, (.op (.fld 1 (.t 4)))⟩, ⟨(some 14), none, (.op (.load none (.t 13)))⟩, ⟨(some 15), none, (.op (.len (.t 14)))⟩, ⟨(some 16), none, (.op (.ibin .add (.t 12) (.t 15)))⟩, ⟨(some 2), none, (.op (.mv (.t 16)))⟩]
def size_r5 : List AI := [⟨(some 17), none, (.op (.ibin .add (.t 8) (.c (.int .i64 1))))⟩, ⟨(some 8), none, (.op (.mv (.t 17)))⟩]
def size_l0 : AC := (.seq (.reg size_r2) (.seq (.cond (.t 9) .skip (.exit 0)) (.seq (.block 1 (.seq (.reg size_r3) (.reg size_r4))) (.reg size_r5))))
def size_r6 : List AI := [⟨(some 18), none, (.op (.mv (.t 2)))⟩, ⟨(some 2), none, (.op (.mv (.t 18)))⟩]
def size_c : AC := (.seq (.reg size_r0) (.seq (.seq (.reg size_r1) (.block 0 (.loop size_l0))) (.seq (.reg size_r6) .ret)))
def size_res : List ARes := [(.tmp 2)]
set_option maxRecDepth 100000 in
theorem size_get : getF Try.prog 26 25000 [] = some ("gavotte/prog.Size", 19, size_c, size_res) := by kernel_rfl
def same_r0 : List AI := [⟨(some 2), none, (.op (.box 23002 4 (.t 0)))⟩, ⟨(some 3), none, (.op (.box 23003 4 (.t 1)))⟩, ⟨(some 4), none, (.op (.mv (.c (.bool false))))⟩]
def same_r1 : List AI := [⟨(some 5), none, (.op (.fld 0 (.t 2)))⟩, ⟨(some 6), none, (.op (.load none (.t 5)))⟩, ⟨(some 7), none, (.op (.fld 0 (.t 3)))⟩, ⟨(some 8), none, (.op (.load none (.t 7)))⟩, ⟨(some 9), none, (.call (.c (.fn 34 [])) [(.t 6), (.t 8), (.c (.fn 35 []))])⟩, ⟨(some 10), none, (.op (.mv (.t 9)))⟩, ⟨(some 11), (some (10, true)), (.op (.fld 1 (.t 2)))⟩, ⟨(some 12), (some (10, true)), (.op (.load none (.t 11)))⟩, ⟨(some 13), (some (10, true)), (.op (.fld 1 (.t 3)))⟩, ⟨(some 14), (some (10, true)), (.op (.load none (.t 13)))⟩, ⟨(some 15), (some (10, true)), (.call (.c (.fn 36 [])) [(.t 12), (.t 14), (.c (.fn 37 []))])⟩, ⟨(some 16), none, (.op (.pick (.t 10) (.t 15) (.c (.bool false))))⟩, ⟨(some 17), none, (.op (.mv (.t 16)))⟩, ⟨(some 18), (some (17, true)), (.op (.fld 2 (.t 2)))⟩, ⟨(some 19), (some (17, true)), (.op (.load none (.t 18)))⟩, ⟨(some 20), (some (17, true)), (.op (.fld 2 (.t 3)))⟩, ⟨(some 21), (some (17, true)), (.op (.load none (.t 20)))⟩, ⟨(some 22), (some (17, true)), (.call (.c (.fn 38 [])) [(.t 19), (.t 21), (.c (.fn 27 []))])⟩, ⟨(some 23), none, (.op (.pick (.t 17) (.t 22) (.c (.bool false))))⟩, ⟨(some 24), none, (.op (.mv (.t 23)))⟩, ⟨(some 25), (some (24, true)), (.op (.fld 3 (.t 2)))⟩, ⟨(some 26), (some (24, true)), (.op (.load none (.t 25)))⟩, ⟨(some 27), (some (24, true)), (.op (.fld 3 (.t 3)))⟩, ⟨(some 28), (some (24, true)), (.op (.load none (.t 27)))⟩, ⟨(some 29), (some (24, true)), (.op (.ibin .eql (.t 26) (.t 28)))⟩, ⟨(some 30), none, (.op (.pick (.t 24) (.t 29) (.c (.bool false))))⟩, ⟨(some 4), none, (.op (.mv (.t 30)))⟩]
def same_c : AC := (.seq (.reg same_r0) (.seq (.reg same_r1) .ret))
def same_res : List ARes := [(.tmp 4)]
set_option maxRecDepth 100000 in
theorem same_get : getF Try.prog 11 23000 [] = some ("gavotte/prog.Same", 31, same_c, same_res) := by kernel_rfl
def rsame_r0 : List AI := [⟨(some 2), none, (.op (.box 24002 4 (.t 0)))⟩, ⟨(some 3), none, (.op (.box 24003 4 (.t 1)))⟩, ⟨(some 4), none, (.op (.mv (.c (.bool false))))⟩]
def rsame_r1 : List AI := [⟨(some 9), none, (.op (.fld 0 (.t 2)))⟩, ⟨(some 10), none, (.op (.load none (.t 9)))⟩, ⟨(some 11), none, (.op (.len (.t 10)))⟩, ⟨(some 12), none, (.op (.fld 0 (.t 3)))⟩, ⟨(some 13), none, (.op (.load none (.t 12)))⟩, ⟨(some 14), none, (.op (.len (.t 13)))⟩, ⟨(some 15), none, (.op (.ibin .neq (.t 11) (.t 14)))⟩, ⟨(some 16), none, (.op (.mv (.t 15)))⟩, ⟨(some 17), (some (16, false)), (.op (.fld 1 (.t 2)))⟩, ⟨(some 18), (some (16, false)), (.op (.load none (.t 17)))⟩, ⟨(some 19), (some (16, false)), (.op (.len (.t 18)))⟩, ⟨(some 20), (some (16, false)), (.op (.fld 1 (.t 3)))⟩, ⟨(some 21), (some (16, false)), (.op (.load none (.t 20)))⟩, ⟨(some 22), (some (16, false)), (.op (.len (.t 21)))⟩, ⟨(some 23), (some (16, false)), (.op (.ibin .neq (.t 19) (.t 22)))⟩, ⟨(some 24), none, (.op (.pick (.t 16) (.c (.bool true)) (.t 23)))⟩, ⟨(some 25), none, (.op (.mv (.t 24)))⟩, ⟨(some 26), (some (25, false)), (.op (.fld 3 (.t 2)))⟩, ⟨(some 27), (some (25, false)), (.op (.load none (.t 26)))⟩, ⟨(some 28), (some (25, false)), (.op (.fld 3 (.t 3)))⟩, ⟨(some 29), (some (25, false)), (.op (.load none (.t 28)))⟩, ⟨(some 30), (some (25, false)), (.op (.ibin .neq (.t 27) (.t 29)))⟩, ⟨(some 31), none, (.op (.pick (.t 25) (.c (.bool true)) (.t 30)))⟩, ⟨(some 32), none, (.op (.mv (.t 31)))⟩, ⟨(some 33), (some (32, false)), (.op (.fld 2 (.t 2)))⟩, ⟨(some 34), (some (32, false)), (.op (.load none (.t 33)))⟩, ⟨(some 35), (some (32, false)), (.op (.fld 2 (.t 3)))⟩, ⟨(some 36), (some (32, false)), (.op (.load none (.t 35)))⟩, ⟨(some 37), (some (32, false)), (.call (.c (.fn 31 [])) [(.t 34), (.t 36)])⟩, ⟨(some 38), (some (32, false)), (.op (.not (.t 37)))⟩, ⟨(some 39), none, (.op (.pick (.t 32) (.c (.bool true)) (.t 38)))⟩]
def rsame_r2 : List AI := [⟨(some 4), none, (.op (.mv (.c (.bool false))))⟩]
def rsame_r3 : List AI := [⟨(some 5), none, (.op (.mv (.c (.int .i64 0))))⟩]
def rsame_r4 : List AI := [⟨(some 40), none, (.op (.mv (.t 5)))⟩, ⟨(some 41), none, (.op (.fld 0 (.t 2)))⟩, ⟨(some 42), none, (.op (.load none (.t 41)))⟩, ⟨(some 43), none, (.op (.len (.t 42)))⟩, ⟨(some 44), none, (.op (.ibin .lss (.t 40) (.t 43)))⟩]
def rsame_r5 : List AI := [⟨(some 47), none, (.op (.fld 0 (.t 2)))⟩, ⟨(some 48), none, (.op (.load none (.t 47)))⟩, ⟨(some 49), none, (.op (.mv (.t 5)))⟩, ⟨(some 50), none, (.op (.idx 2 (.t 48) (.t 49)))⟩, ⟨(some 51), none, (.op (.fld 0 (.t 50)))⟩, ⟨(some 52), none, (.op (.load none (.t 51)))⟩, ⟨(some 53), none, (.op (.fld 0 (.t 3)))⟩, ⟨(some 54), none, (.op (.load none (.t 53)))⟩, ⟨(some 55), none, (.op (.mv (.t 5)))⟩, ⟨(some 56), none, (.op (.idx 2 (.t 54) (.t 55)))⟩, ⟨(some 57), none, (.op (.fld 0 (.t 56)))⟩, ⟨(some 58), none, (.op (.load none (.t 57)))⟩, ⟨(some 59), none, (.op (.ibin .neq (.t 52) (.t 58)))⟩, ⟨(some 60), none, (.op (.mv (.t 59)))⟩, ⟨(some 61), (some (60, false)), (.op (.fld 0 (.t 2)))⟩, ⟨(some 62), (some (60, false)), (.op (.load none (.t 61)))⟩, ⟨(some 63), (some (60, false)), (.op (.mv (.t 5)))⟩, ⟨(some 64), (some (60, false)), (.op (.idx 2 (.t 62) (.t 63)))⟩, ⟨(some 65), (some (60, false)), (.op (.fld 1 (.t 64)))⟩, ⟨(some 66), (some (60, false)), (.op (.load none (.t 65)))⟩, ⟨(some 67), (some (60, false)), (.op (.fld 0 (.t 3)))⟩, ⟨(some 68), (some (60, false)), (.op (.load none (.t 67)))⟩, ⟨(some 69), (some (60, false)), (.op (.mv (.t 5)))⟩, ⟨(some 70), (some (60, false)), (.op (.idx 2 (.t 68) (.t 69)))⟩, ⟨(some 71), (some (60, false)), (.op (.fld 1 (.t 70)))⟩, ⟨(some 72), (some (60, false)), (.op (.load none (.t 71)))⟩, ⟨(some 73), (some (60, false)), (.call (.c (.fn 32 [])) [(.t 66), (.t 72)])⟩, ⟨(some 74), (some (60, false)), (.op (.not (.t 73)))⟩, ⟨(some 75), none, (.op (.pick (.t 60) (.c (.bool true)) (.t 74)))⟩]
def rsame_p5 : List (List Nat) := [[], [0], [], [1, 2, 0], [3, 1, 2, 0], [4, 3, 1, 2, 0], [], [6], [], [7, 8, 6], [9, 7, 8, 6], [10, 9, 7, 8, 6], [5, 11, 4, 3, 1, 2, 0, 10, 9, 7, 8, 6], [12, 5, 11, 4, 3, 1, 2, 0, 10, 9, 7, 8, 6], [13, 12, 5, 11, 4, 3, 1, 2, 0, 10, 9, 7, 8, 6], [14, 13, 12, 5, 11, 4, 3, 1, 2, 0, 10, 9, 7, 8, 6], [13, 12, 5, 11, 4, 3, 1, 2, 0, 10, 9, 7, 8, 6], [15, 16, 13, 14, 12, 5, 11, 4, 3, 1, 2, 0, 10, 9, 7, 8, 6], [17, 13, 15, 16, 14, 12, 5, 11, 4, 3, 1, 2, 0, 10, 9, 7, 8, 6], [18, 13, 17, 15, 16, 14, 12, 5, 11, 4, 3, 1, 2, 0, 10, 9, 7, 8, 6], [13, 12, 5, 11, 4, 3, 1, 2, 0, 10, 9, 7, 8, 6], [20, 13, 12, 5, 11, 4, 3, 1, 2, 0, 10, 9, 7, 8, 6], [13, 12, 5, 11, 4, 3, 1, 2, 0, 10, 9, 7, 8, 6], [21, 22, 13, 20, 12, 5, 11, 4, 3, 1, 2, 0, 10, 9, 7, 8, 6], [23, 13, 21, 22, 20, 12, 5, 11, 4, 3, 1, 2, 0, 10, 9, 7, 8, 6], [24, 13, 23, 21, 22, 20, 12, 5, 11, 4, 3, 1, 2, 0, 10, 9, 7, 8, 6], [19, 25, 13, 18, 17, 15, 16, 14, 12, 5, 11, 4, 3, 1, 2, 0, 10, 9, 7, 8, 6, 24, 23, 21, 22, 20], [26, 13, 19, 25, 18, 17, 15, 16, 14, 12, 5, 11, 4, 3, 1, 2, 0, 10, 9, 7, 8, 6, 24, 23, 21, 22, 20], [13, 27, 12, 5, 11, 4, 3, 1, 2, 0, 10, 9, 7, 8, 6, 26, 19, 25, 18, 17, 15, 16, 14, 24, 23, 21, 22, 20]]
def rsame_r6 : List AI := [⟨(some 4), none, (.op (.mv (.c (.bool false))))⟩]
def rsame_r7 : List AI := [⟨(some 45), none, (.op (.mv (.t 5)))⟩, ⟨(some 46), none, (.op (.ibin .add (.t 45) (.c (.int .i64 1))))⟩, ⟨(some 5), none, (.op (.mv (.t 46)))⟩]
def rsame_l0 : AC := (.seq (.seq (.reg rsame_r4) (.cond (.t 44) .skip (.exit 0))) (.seq (.block 1 (.seq (.regd rsame_r5 rsame_p5) (.cond (.t 75) (.seq (.reg rsame_r6) .ret) .skip))) (.reg rsame_r7)))
def rsame_r8 : List AI := [⟨(some 6), none, (.op (.mv (.c (.int .i64 0))))⟩]
def rsame_r9 : List AI := [⟨(some 76), none, (.op (.mv (.t 6)))⟩, ⟨(some 77), none, (.op (.fld 1 (.t 2)))⟩, ⟨(some 78), none, (.op (.load none (.t 77)))⟩, ⟨(some 79), none, (.op (.len (.t 78)))⟩, ⟨(some 80), none, (.op (.ibin .lss (.t 76) (.t 79)))⟩]
def rsame_r10 : List AI := [⟨(some 83), none, (.op (.fld 1 (.t 2)))⟩, ⟨(some 84), none, (.op (.load none (.t 83)))⟩, ⟨(some 85), none, (.op (.mv (.t 6)))⟩, ⟨(some 86), none, (.op (.idx 4 (.t 84) (.t 85)))⟩, ⟨(some 87), none, (.op (.load (some 4) (.t 86)))⟩, ⟨(some 88), none, (.op (.fld 1 (.t 3)))⟩, ⟨(some 89), none, (.op (.load none (.t 88)))⟩, ⟨(some 90), none, (.op (.mv (.t 6)))⟩, ⟨(some 91), none, (.op (.idx 4 (.t 89) (.t 90)))⟩, ⟨(some 92), none, (.op (.load (some 4) (.t 91)))⟩, ⟨(some 7), none, (.op (.new 24007 4 (.agg [.nils, (.int .i64 0), (.int .i64 0), (.bool false)])))⟩, ⟨(some 8), none, (.op (.new 24008 4 (.agg [.nils, (.int .i64 0), (.int .i64 0), (.bool false)])))⟩, ⟨none, none, (.op (.store 4 (.t 7) (.t 87)))⟩, ⟨none, none, (.op (.store 4 (.t 8) (.t 92)))⟩]
def rsame_p10 : List (List Nat) := [[], [0], [], [1, 2, 0], [3, 1, 2, 0], [], [5], [], [6, 7, 5], [8, 6, 7, 5], [], [], [10, 4, 0, 1, 2, 3, 11], [11, 9, 12, 0, 1, 2, 3, 4, 5, 6, 7, 8, 10]]
def rsame_r11 : List AI := [⟨(some 93), none, (.op (.fld 0 (.t 7)))⟩, ⟨(some 94), none, (.op (.load none (.t 93)))⟩, ⟨(some 95), none, (.op (.fld 0 (.t 8)))⟩, ⟨(some 96), none, (.op (.load none (.t 95)))⟩, ⟨(some 97), none, (.call (.c (.fn 33 [])) [(.t 94), (.t 96)])⟩, ⟨(some 98), none, (.op (.not (.t 97)))⟩, ⟨(some 99), none, (.op (.mv (.t 98)))⟩, ⟨(some 100), (some (99, false)), (.op (.fld 1 (.t 7)))⟩, ⟨(some 101), (some (99, false)), (.op (.load none (.t 100)))⟩, ⟨(some 102), (some (99, false)), (.op (.fld 1 (.t 8)))⟩, ⟨(some 103), (some (99, false)), (.op (.load none (.t 102)))⟩, ⟨(some 104), (some (99, false)), (.op (.ibin .neq (.t 101) (.t 103)))⟩, ⟨(some 105), none, (.op (.pick (.t 99) (.c (.bool true)) (.t 104)))⟩, ⟨(some 106), none, (.op (.mv (.t 105)))⟩, ⟨(some 107), (some (106, false)), (.op (.fld 2 (.t 7)))⟩, ⟨(some 108), (some (106, false)), (.op (.load none (.t 107)))⟩, ⟨(some 109), (some (106, false)), (.op (.fld 2 (.t 8)))⟩, ⟨(some 110), (some (106, false)), (.op (.load none (.t 109)))⟩, ⟨(some 111), (some (106, false)), (.op (.ibin .neq (.t 108) (.t 110)))⟩, ⟨(some 112), none, (.op (.pick (.t 106) (.c (.bool true)) (.t 111)))⟩, ⟨(some 113), none, (.op (.mv (.t 112)))⟩, ⟨(some 114), (some (113, false)), (.op (.fld 3 (.t 7)))⟩, ⟨(some 115), (some (113, false)), (.op (.load none (.t 114)))⟩, ⟨(some 116), (some (113, false)), (.op (.fld 3 (.t 8)))⟩, ⟨(some 117), (some (113, false)), (.op (.load none (.t 116)))⟩, ⟨(some 118), (some (113, false)), (.op (.eqv true (.t 115) (.t 117)))⟩, ⟨(some 119), none, (.op (.pick (.t 113) (.c (.bool true)) (.t 118)))⟩]
def rsame_r12 : List AI := [⟨(some 4), none, (.op (.mv (.c (.bool false))))⟩]
def rsame_r13 : List AI := [⟨(some 81), none, (.op (.mv (.t 6)))⟩, ⟨(some 82), none, (.op (.ibin .add (.t 81) (.c (.int .i64 1))))⟩, ⟨(some 6), none, (.op (.mv (.t 82)))⟩]
def rsame_l1 : AC := (.seq (.seq (.reg rsame_r9) (.cond (.t 80) .skip (.exit 2))) (.seq (.block 3 (.seq (.regd rsame_r10 rsame_p10) (.seq (.reg rsame_r11) (.cond (.t 119) (.seq (.reg rsame_r12) .ret) .skip)))) (.reg rsame_r13)))
def rsame_r14 : List AI := [⟨(some 4), none, (.op (.mv (.c (.bool true))))⟩]
def rsame_c : AC := (.seq (.reg rsame_r0) (.seq (.seq (.reg rsame_r1) (.cond (.t 39) (.seq (.reg rsame_r2) .ret) .skip)) (.seq (.seq (.reg rsame_r3) (.block 0 (.loop rsame_l0))) (.seq (.seq (.reg rsame_r8) (.block 2 (.loop rsame_l1))) (.seq (.reg rsame_r14) .ret)))))
def rsame_res : List ARes := [(.tmp 4)]
set_option maxRecDepth 100000 in
theorem rsame_get : getF Try.prog 10 24000 [] = some ("gavotte/gavotteref1.SameProg", 120, rsame_c, rsame_res) := by kernel_rfl
attribute [simp] small_r0 small_r1 small_r2 small_r3 small_r4 small_r5 small_r6 small_r7 small_r8 small_r9 small_r10 small_r11 small_r12 small_r13 small_r14 small_r15 small_r16 small_r17 small_r18 small_res size_r0 size_r1 size_r2 size_r3 size_r4 size_r5 size_r6 size_res same_r0 same_r1 same_res rsame_r0 rsame_r1 rsame_r2 rsame_r3 rsame_r4 rsame_r5 rsame_p5 rsame_r6 rsame_r7 rsame_r8 rsame_r9 rsame_r10 rsame_p10 rsame_r11 rsame_r12 rsame_r13 rsame_r14 rsame_res


def smallV (p : Prg) : Prop := p.hs.length ≤ 18 ∧ p.as.length ≤ 10 ∧ p.boot.length ≤ 18 ∧ (∀ h ∈ p.hs, h.code.length ≤ 70) ∧ (∀ a ∈ p.as, a.regs.length ≤ 10) ∧ (∀ n ∈ p.boot, n.args.length ≤ 6)
instance (p : Prg) : Decidable (smallV p) := inferInstanceAs (Decidable (_ ∧ _))
def okP (p : Prg) : Prop := p.hs.length < 4611686018427387904 ∧ p.as.length < 4611686018427387904 ∧ p.boot.length < 4611686018427387904 ∧ (∀ h ∈ p.hs, h.code.length < 4611686018427387904) ∧ (∀ a ∈ p.as, a.regs.length < 4611686018427387904) ∧ (∀ n ∈ p.boot, n.args.length < 4611686018427387904)
theorem okP_of_small (p : Prg) (h : smallV p) : okP p := by
  obtain ⟨h1, h2, h3, h4, h5, h6⟩ := h
  exact ⟨by omega, by omega, by omega, fun x hx => by have := h4 x hx; omega, fun x hx => by have := h5 x hx; omega, fun x hx => by have := h6 x hx; omega⟩
theorem all_drop {α : Type} (l : List α) (P : α → Prop) (i : Nat) (h : i < l.length) : (∀ x ∈ l.drop i, P x) ↔ P l[i] ∧ ∀ x ∈ l.drop (i + 1), P x := by
  rw [List.drop_eq_getElem_cons h]; simp only [List.mem_cons, forall_eq_or_imp]
theorem small_pc (p : Prg) : PC Try.prog 7 [p.av] (.bool (decide (smallV p))) := by
  refine pc_of_get small_get (by simp) _ (by simp) _ ?_
  unfold small_c
  simp
  refine split (fun h1 => ?_) (fun h1 => ?_) <;> simp [h1]
  · intro h; have := h.1; omega
  refine split (fun h2 => ?_) (fun h2 => ?_) <;> simp [h2]
  · intro h; have := h.2.1; omega
  refine split (fun h3 => ?_) (fun h3 => ?_) <;> simp [h3]
  · intro h; have := h.2.2.1; omega
  have e : smallV p ↔ (∀ h ∈ p.hs, h.code.length ≤ 70) ∧ (∀ a ∈ p.as, a.regs.length ≤ 10) ∧ (∀ n ∈ p.boot, n.args.length ≤ 6) := by
    unfold smallV
    constructor
    · intro h; exact h.2.2.2
    · intro h; exact ⟨by omega, by omega, by omega, h⟩
  refine loopN (fun i S => S.t 3 = iv i ∧ (∃ st, S.t 1 = .ptr 19001 st 4 0 0 ∧ S.blk 19001 = some ⟨st, 4, [p.av]⟩) ∧
    ((∀ h ∈ p.hs, h.code.length ≤ 70) ↔ ∀ h ∈ p.hs.drop i, h.code.length ≤ 70)) p.hs.length ?_ ?_
  · simp
  · rintro i S hi ⟨g1, ⟨st, g2, g3⟩, hh⟩
    by_cases hlt : i < p.hs.length
    · rw [all_drop _ _ _ hlt] at hh
      simp [small_l0, g1, g2, g3, hlt]
      refine split (fun c1 => ?_) (fun c1 => ?_) <;> simp [c1, g1, g2, g3, hlt, wrap_succ i _ hlt (by omega)]
      · intro h; have := (hh.1 (e.1 h).1).1; omega
      · rw [hh]; exact ⟨fun h => h.2, fun h => ⟨by omega, h⟩⟩
    · have e1 : i = p.hs.length := by omega
      subst e1
      simp at hh
      simp [small_l0, g1, g2, g3]
      refine loopN (fun i S => S.t 4 = iv i ∧ (∃ st, S.t 1 = .ptr 19001 st 4 0 0 ∧ S.blk 19001 = some ⟨st, 4, [p.av]⟩) ∧
        ((∀ h ∈ p.as, h.regs.length ≤ 10) ↔ ∀ h ∈ p.as.drop i, h.regs.length ≤ 10)) p.as.length ?_ ?_
      · simp [g2, g3]
      · rintro i S hi ⟨g1, ⟨st, g2, g3⟩, hh2⟩
        by_cases hlt : i < p.as.length
        · rw [all_drop _ _ _ hlt] at hh2
          simp [small_l1, g1, g2, g3, hlt]
          refine split (fun c1 => ?_) (fun c1 => ?_) <;> simp [c1, g1, g2, g3, hlt, wrap_succ i _ hlt (by omega)]
          · intro h; have := (hh2.1 (e.1 h).2.1).1; omega
          · rw [hh2]; exact ⟨fun h => h.2, fun h => ⟨by omega, h⟩⟩
        · have e1 : i = p.as.length := by omega
          subst e1
          simp at hh2
          simp [small_l1, g1, g2, g3]
          refine loopN (fun i S => S.t 5 = iv i ∧ (∃ st, S.t 1 = .ptr 19001 st 4 0 0 ∧ S.blk 19001 = some ⟨st, 4, [p.av]⟩) ∧
            ((∀ h ∈ p.boot, h.args.length ≤ 6) ↔ ∀ h ∈ p.boot.drop i, h.args.length ≤ 6)) p.boot.length ?_ ?_
          · simp [g2, g3]
          · rintro i S hi ⟨g1, ⟨st, g2, g3⟩, hh3⟩
            by_cases hlt : i < p.boot.length
            · rw [all_drop _ _ _ hlt] at hh3
              simp [small_l2, g1, g2, g3, hlt]
              refine split (fun c1 => ?_) (fun c1 => ?_) <;> simp [c1, g1, g2, g3, hlt, wrap_succ i _ hlt (by omega)]
              · intro h; have := (hh3.1 (e.1 h).2.2).1; omega
              · rw [hh3]; exact ⟨fun h => h.2, fun h => ⟨by omega, h⟩⟩
            · have e1 : i = p.boot.length := by omega
              subst e1
              simp at hh3
              simp [small_l2, g1, g2, g3]
              exact e.2 ⟨hh, hh2, hh3⟩
def sizeN : List Hnd → Nat
  | [] => 0
  | h :: l => h.code.length + sizeN l
theorem sizeN_take (l : List Hnd) (i : Nat) (h : i < l.length) : sizeN (l.take (i + 1)) = sizeN (l.take i) + l[i].code.length := by
  induction l generalizing i with
  | nil => simp at h
  | cons a l ih =>
    cases i with
    | zero => simp [sizeN]
    | succ i => simp only [List.take_succ_cons, sizeN, List.getElem_cons_succ]; rw [ih i (by simpa using h)]; omega
theorem sizeN_le (l : List Hnd) (i : Nat) : sizeN (l.take i) ≤ sizeN l := by
  induction l generalizing i with
  | nil => simp
  | cons a l ih =>
    cases i with
    | zero => simp [sizeN]
    | succ i => simp only [List.take_succ_cons, sizeN]; have := ih i; omega
theorem size_pc (p : Prg) (hl : p.hs.length < 4611686018427387904) (hs : sizeN p.hs < 4611686018427387904) : PC Try.prog 26 [p.av] (iv (sizeN p.hs)) := by
  refine pc_of_get size_get (by simp) _ (by simp) _ ?_
  unfold size_c
  simp
  refine loopN (fun i S => S.t 6 = .lst 2 (p.hs.map Hnd.av) ∧ S.t 7 = iv p.hs.length ∧ S.t 8 = iv i ∧ S.t 2 = iv (sizeN (p.hs.take i))) p.hs.length ?_ ?_
  · simp [sizeN]
  · rintro i S hi ⟨g1, g2, g3, g4⟩
    by_cases hlt : i < p.hs.length
    · simp [size_l0, g1, g2, g3, g4, hlt, wrap_succ i _ hlt (by omega)]
      have := sizeN_take p.hs i hlt
      have := sizeN_le p.hs (i + 1)
      rw [wrap_in _ (by omega) (by omega)]
      omega
    · have e1 : i = p.hs.length := by omega
      subst e1
      rw [List.take_length] at g4
      simp [size_l0, g1, g2, g3, g4]
theorem same_pc (p q : Prg) (hp : okP p) : PC Try.prog 11 [p.av, q.av] (.bool (decide (p = q))) := by
  refine pc_of_get same_get (by simp) _ (by simp) _ ?_
  unfold same_c
  have e := Prg.eq_iff p q
  obtain ⟨h1, h2, h3, h4, h5, h6⟩ := hp
  simp
  refine call (eqfH_pc p.hs q.hs 35 (fun a ha b => sameHnd_pc a b (h4 a ha)) h1) (by simp) ?_
  simp
  refine split (fun c1 => ?_) (fun c1 => ?_) <;> simp [c1]
  rotate_left
  · grind
  refine call (eqfA_pc p.as q.as 37 (fun a ha b => sameAct_pc a b (h5 a ha)) h2) (by simp) ?_
  simp
  refine split (fun c2 => ?_) (fun c2 => ?_) <;> simp [c2]
  rotate_left
  · grind
  refine call (eqfN_pc p.boot q.boot 27 (fun a ha b => sameNote_pc a b (h6 a ha)) h3) (by simp) ?_
  simp
  refine split (fun c3 => ?_) (fun c3 => ?_) <;> simp [c3]
  rotate_left
  · grind
  grind
theorem rsame_pc (p q : Prg) (hp : okP p) : PC Try.prog 10 [p.av, q.av] (.bool (decide (p = q))) := by
  refine pc_of_get rsame_get (by simp) _ (by simp) _ ?_
  unfold rsame_c
  have e := Prg.eq_iff p q
  obtain ⟨h1, h2, h3, h4, h5, h6⟩ := hp
  simp
  refine split (fun c1 => ?_) (fun c1 => ?_) <;> simp [c1]
  rotate_left
  · grind
  refine split (fun c2 => ?_) (fun c2 => ?_) <;> simp [c2]
  rotate_left
  · grind
  refine split (fun c3 => ?_) (fun c3 => ?_) <;> simp [c3]
  rotate_left
  · grind
  refine call (rnotes_pc p.boot q.boot h6 h3) (by simp) ?_
  simp
  refine split (fun c4 => ?_) (fun c4 => ?_) <;> simp [c4]
  rotate_left
  · grind
  have hlen : p.hs.length = q.hs.length := by omega
  have hlen2 : p.as.length = q.as.length := by omega
  refine loopN (fun i S => S.t 5 = iv i ∧ (∃ st, S.t 2 = .ptr 24002 st 4 0 0 ∧ S.blk 24002 = some ⟨st, 4, [p.av]⟩) ∧ (∃ st, S.t 3 = .ptr 24003 st 4 0 0 ∧ S.blk 24003 = some ⟨st, 4, [q.av]⟩) ∧
    (p.hs = q.hs ↔ p.hs.drop i = q.hs.drop i)) p.hs.length ?_ ?_
  · simp [c3, c4]
  · rintro i S hi ⟨g1, ⟨st, g2, g3⟩, ⟨st', g4, g5⟩, hh⟩
    by_cases hlt : i < p.hs.length
    · have hlt2 : i < q.hs.length := by omega
      rw [List.drop_eq_getElem_cons hlt, List.drop_eq_getElem_cons hlt2, List.cons.injEq, Hnd.eq_iff] at hh
      simp [rsame_l0, g1, g2, g3, g4, g5, hlt, hlt2]
      refine split (fun c5 => ?_) (fun c5 => ?_) <;> simp [c5, g1, g2, g3, g4, g5, hlt, hlt2]
      rotate_left
      · grind
      refine calld (rcode_pc p.hs[i].code q.hs[i].code (h4 _ (List.getElem_mem hlt))) (by simp) ?_
      simp [c5, g1, g2, g3, g4, g5, hlt, hlt2]
      refine split (fun c6 => ?_) (fun c6 => ?_) <;> simp [c6, g1, g2, g3, g4, g5, hlt, hlt2, wrap_succ i _ hlt h1] <;> grind
    · have e1 : i = p.hs.length := by omega
      subst e1
      have hle : q.hs.length ≤ p.hs.length := by omega
      simp [hle] at hh
      simp [rsame_l0, g1, g2, g3, g4, g5]
      refine loopN (fun i S => S.t 6 = iv i ∧ (∃ st, S.t 2 = .ptr 24002 st 4 0 0 ∧ S.blk 24002 = some ⟨st, 4, [p.av]⟩) ∧ (∃ st, S.t 3 = .ptr 24003 st 4 0 0 ∧ S.blk 24003 = some ⟨st, 4, [q.av]⟩) ∧
        (p.as = q.as ↔ p.as.drop i = q.as.drop i)) p.as.length ?_ ?_
      · simp [g2, g3, g4, g5]
      · rintro i S hi ⟨g1, ⟨st, g2, g3⟩, ⟨st', g4, g5⟩, hh2⟩
        by_cases hlt : i < p.as.length
        · have hlt2 : i < q.as.length := by omega
          rw [List.drop_eq_getElem_cons hlt, List.drop_eq_getElem_cons hlt2, List.cons.injEq, Actr.eq_iff] at hh2
          simp [rsame_l1, g1, g2, g3, g4, g5, hlt, hlt2]
          refine call (rints_pc p.as[i].regs q.as[i].regs (h5 _ (List.getElem_mem hlt))) (by simp) ?_
          simp [g1, g2, g3, g4, g5, hlt, hlt2]
          refine split (fun c5 => ?_) (fun c5 => ?_) <;> simp [c5, g1, g2, g3, g4, g5, hlt, hlt2]
          rotate_left
          · grind
          refine split (fun c6 => ?_) (fun c6 => ?_) <;> simp [c5, c6, g1, g2, g3, g4, g5, hlt, hlt2]
          rotate_left
          · grind
          refine split (fun c7 => ?_) (fun c7 => ?_) <;> simp [c5, c6, c7, g1, g2, g3, g4, g5, hlt, hlt2]
          rotate_left
          · grind
          have ws := wrap_succ i _ hlt h2
          cases ha : p.as[i].armed <;> cases hb : q.as[i].armed <;> simp [ha, hb, c5, c6, c7, g1, g2, g3, g4, g5, hlt, hlt2, ws] <;> grind
        · have e1 : i = p.as.length := by omega
          subst e1
          have hle : q.as.length ≤ p.as.length := by omega
          simp [hle] at hh2
          simp [rsame_l1, g1, g2, g3, g4, g5]
          grind


end Go.Gv

/- A call by the callee's own abstract code. No condition beyond those that the law names. -/
set_option linter.unusedVariables false
set_option linter.unusedSimpArgs false
namespace Go.Gv
open Go.RowKit

/-- How a callee's code ends: with a value and a state, the caller's slots as they were. -/
def EndsK (al : List ARes) (t : Nat → AV) (k : AV → St → Prop) : Ex → St → Prop
  | .exit _, _ => False
  | _, S => ∃ v, resOf S al = some v ∧ k v { S with t := t }
@[simp] theorem endsK_normal (al : List ARes) (t : Nat → AV) (k : AV → St → Prop) (S : St) : EndsK al t k .normal S = ∃ v, resOf S al = some v ∧ k v { S with t := t } := rfl
@[simp] theorem endsK_ret (al : List ARes) (t : Nat → AV) (k : AV → St → Prop) (S : St) : EndsK al t k .ret S = ∃ v, resOf S al = some v ∧ k v { S with t := t } := rfl
@[simp] theorem endsK_exit (al : List ARes) (t : Nat → AV) (k : AV → St → Prop) (S : St) (i : Nat) : EndsK al t k (.exit i) S = False := rfl

theorem callV {P : Program} {f base : Nat} {hint : List (Nat × Nat)} {name : String} {n : Nat} {ac : AC} {al : List ARes} (h : getF P f base hint = some (name, n, ac, al)) (hname : name ≠ "runtime.NumGoroutine")
    {caps vals : List AV} {S : St} {k : AV → St → Prop} {u : Dep k} (hn : (vals ++ caps).length ≤ n)
    (hV : V P ac (EndsK al S.t k) ⟨fun t => (vals ++ caps).getD t (.tup []), S.blk, S.tok, S.clk⟩) : CallG P (.fn f caps) vals S k u := by
  unfold getF at h
  rcases hf : P.funcs[f]? with _ | fn
  · rw [hf] at h; simp at h
  rw [hf] at h
  simp only [Option.bind_some] at h
  rcases hb : fn.body with _ | c
  · rw [hb] at h; simp at h
  rw [hb] at h
  simp only [Option.bind_some] at h
  rcases hc : cCode P fn.ntmps base hint c with _ | ac'
  · rw [hc] at h; simp at h
  rw [hc] at h
  simp only [Option.bind_some] at h
  rcases hal : cRes P fn.ntmps fn.results.toList with _ | al'
  · rw [hal] at h; simp at h
  rw [hal] at h
  simp only [Option.map_some, Option.some.injEq, Prod.mk.injEq] at h
  obtain ⟨h1, h2, h3, h4⟩ := h
  subst h1; subst h2; subst h3; subst h4
  refine ⟨f, caps, rfl, ⟨fn, hf, by simp [hb], hname⟩, fun E B W w args H hW hB hu hsz hrel => ?_⟩
  have C : Conc ⟨E.K, E, S.clk⟩ E B W fn.ntmps ⟨fun t => (vals ++ caps).getD t (.tup []), S.blk, S.tok, S.clk⟩ { tmps := args ++ Array.replicate (fn.ntmps - args.size) undef, defers := [] } w := by
    refine ⟨H, hW, hB, rfl, ?_, ?_, fun _ _ _ => rfl, .refl _, fun s hs => .inl hs, Nat.le_refl _⟩
    · simp; omega
    · intro t ht
      show Rel E ((vals ++ caps).getD t (.tup [])) _
      by_cases hta : t < (vals ++ caps).length
      · have e1 : (vals ++ caps)[t]? = some (vals ++ caps)[t] := List.getElem?_eq_getElem hta
        have e2 : args[t]? = some args[t] := Array.getElem?_eq_getElem (by omega)
        have : (args ++ Array.replicate (fn.ntmps - args.size) undef).getD t undef = args[t] := by
          rw [Array.getD_eq_getD_getElem?, Array.getElem?_append_left (by omega), e2]; rfl
        rw [this, List.getD_eq_getElem?_getD, e1]
        exact hrel t _ _ e1 e2
      · have e1 : (vals ++ caps).getD t (.tup []) = .tup [] := by rw [List.getD_eq_getElem?_getD, List.getElem?_eq_none (by omega)]; rfl
        have : (args ++ Array.replicate (fn.ntmps - args.size) undef).getD t undef = undef := by
          rw [Array.getD_eq_getD_getElem?, Array.getElem?_append_right (by omega), Array.getElem?_replicate]
          split <;> rfl
        rw [this, e1]
        exact .tup [] #[] rfl (by simp)
  refine calls_of_wp hf hb (wp_mono (V_sound base hint c ac' hc _ _ hV E _ w C (fun s hs => hu s hs)) ?_)
  rintro e a' w' ⟨E', S', C', hu', hk⟩
  have fin : (∃ v, resOf S' al' = some v ∧ k v { S' with t := S.t }) → a'.defers = [] ∧ ∃ v, (results fn a'.tmps).run P w' = .ok v w' ∧ ∃ v' E'' r S'', Ending.returned v = .returned v' ∧ E.le E'' ∧ HConc E'' B S''.h w' ∧ Below B W w' ∧ (∀ b o, b < B → E''.K b o = E.K b o) ∧
      (∀ s, E''.u s → (E.u s ∨ S.clk ≤ s) ∧ s < S''.clk) ∧ S.clk ≤ S''.clk ∧ S''.t = S.t ∧ Rel E'' r v' ∧ k r S'' := by
    rintro ⟨v, hv, hkv⟩
    obtain ⟨u, hu2, hru⟩ := results_ok C' fn al' hal v hv
    exact ⟨C'.df, u, hu2, u, E', v, { S' with t := S.t }, rfl, C'.le0, C'.H, C'.bel, C'.kb, fun s hs => ⟨C'.u0 s hs, hu' s hs⟩, C'.ck, rfl, hru, hkv⟩
  cases e with
  | normal => exact fin hk
  | ret => exact fin hk
  | exit i => exact hk.elim
  | goto l => exact hk.elim
  | panic ch => exact hk.elim
  | outgrown => exact hk.elim

end Go.Gv
