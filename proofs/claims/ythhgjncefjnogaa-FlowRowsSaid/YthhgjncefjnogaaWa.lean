/- What the parts of flow (chapter 4) answer: how many numbers an instruction takes and puts, what may come behind it. No condition beyond those that each law names. -/
import Derived.Test.YthhgjncefjnogaaProg
import Derived.Test.YthhgjncefjnogaaVf
set_option linter.unusedVariables false
set_option linter.unusedSimpArgs false
namespace Go.Gv
open Go.Proofs

def valid1_r0 : List AI := [⟨(some 2), none, (.op (.mv (.c (.bool false))))⟩]
def valid1_r1 : List AI := [⟨(some 3), none, (.op (.mv (.t 0)))⟩, ⟨(some 4), none, (.op (.ibin .geq (.t 3) (.c (.int .i64 1))))⟩, ⟨(some 5), none, (.op (.mv (.t 4)))⟩, ⟨(some 6), (some (5, true)), (.op (.mv (.t 0)))⟩, ⟨(some 7), (some (5, true)), (.op (.ibin .leq (.t 6) (.c (.int .i64 25))))⟩, ⟨(some 8), none, (.op (.pick (.t 5) (.t 7) (.c (.bool false))))⟩, ⟨(some 2), none, (.op (.mv (.t 8)))⟩]
def valid1_c : AC := (.seq (.reg valid1_r0) (.seq (.reg valid1_r1) .ret))
def valid1_res : List ARes := [(.tmp 2)]
set_option maxRecDepth 100000 in
theorem valid1_get : getF Try.prog 96 104100 [] = some ("gavotte/gavotteref1.Valid", 9, valid1_c, valid1_res) := by kernel_rfl
def pops_r0 : List AI := [⟨(some 2), none, (.op (.mv (.c (.int .i64 0))))⟩]
def pops_r1 : List AI := [⟨(some 4), none, (.op (.mv (.t 0)))⟩, ⟨(some 5), none, (.op (.ibin .eql (.t 4) (.c (.int .i64 4))))⟩, ⟨(some 3), none, (.op (.mv (.t 5)))⟩]
def pops_r2 : List AI := [⟨(some 6), none, (.op (.mv (.t 0)))⟩, ⟨(some 7), none, (.op (.ibin .geq (.t 6) (.c (.int .i64 9))))⟩, ⟨(some 8), none, (.op (.mv (.t 7)))⟩, ⟨(some 9), (some (8, true)), (.op (.mv (.t 0)))⟩, ⟨(some 10), (some (8, true)), (.op (.ibin .leq (.t 9) (.c (.int .i64 13))))⟩, ⟨(some 11), none, (.op (.pick (.t 8) (.t 10) (.c (.bool false))))⟩, ⟨(some 3), none, (.op (.mv (.t 11)))⟩]
def pops_r3 : List AI := [⟨(some 12), none, (.op (.mv (.t 0)))⟩, ⟨(some 13), none, (.op (.ibin .geq (.t 12) (.c (.int .i64 15))))⟩, ⟨(some 14), none, (.op (.mv (.t 13)))⟩, ⟨(some 15), (some (14, true)), (.op (.mv (.t 0)))⟩, ⟨(some 16), (some (14, true)), (.op (.ibin .leq (.t 15) (.c (.int .i64 18))))⟩, ⟨(some 17), none, (.op (.pick (.t 14) (.t 16) (.c (.bool false))))⟩, ⟨(some 3), none, (.op (.mv (.t 17)))⟩]
def pops_r4 : List AI := [⟨(some 2), none, (.op (.mv (.c (.int .i64 2))))⟩]
def pops_r5 : List AI := [⟨(some 19), none, (.op (.mv (.t 0)))⟩, ⟨(some 20), none, (.op (.ibin .eql (.t 19) (.c (.int .i64 2))))⟩, ⟨(some 18), none, (.op (.mv (.t 20)))⟩]
def pops_r6 : List AI := [⟨(some 21), none, (.op (.mv (.t 0)))⟩, ⟨(some 22), none, (.op (.ibin .eql (.t 21) (.c (.int .i64 3))))⟩, ⟨(some 18), none, (.op (.mv (.t 22)))⟩]
def pops_r7 : List AI := [⟨(some 23), none, (.op (.mv (.t 0)))⟩, ⟨(some 24), none, (.op (.ibin .eql (.t 23) (.c (.int .i64 6))))⟩, ⟨(some 18), none, (.op (.mv (.t 24)))⟩]
def pops_r8 : List AI := [⟨(some 25), none, (.op (.mv (.t 0)))⟩, ⟨(some 26), none, (.op (.ibin .eql (.t 25) (.c (.int .i64 14))))⟩, ⟨(some 18), none, (.op (.mv (.t 26)))⟩]
def pops_r9 : List AI := [⟨(some 27), none, (.op (.mv (.t 0)))⟩, ⟨(some 28), none, (.op (.ibin .eql (.t 27) (.c (.int .i64 19))))⟩, ⟨(some 18), none, (.op (.mv (.t 28)))⟩]
def pops_r10 : List AI := [⟨(some 29), none, (.op (.mv (.t 0)))⟩, ⟨(some 30), none, (.op (.ibin .eql (.t 29) (.c (.int .i64 21))))⟩, ⟨(some 18), none, (.op (.mv (.t 30)))⟩]
def pops_r11 : List AI := [⟨(some 31), none, (.op (.mv (.t 0)))⟩, ⟨(some 32), none, (.op (.ibin .eql (.t 31) (.c (.int .i64 22))))⟩, ⟨(some 18), none, (.op (.mv (.t 32)))⟩]
def pops_r12 : List AI := [⟨(some 2), none, (.op (.mv (.c (.int .i64 1))))⟩]
def pops_r13 : List AI := [⟨(some 2), none, (.op (.mv (.c (.int .i64 0))))⟩]
def pops_c : AC := (.seq (.reg pops_r0) (.seq (.block 0 (.seq (.seq (.reg pops_r1) (.cond (.t 3) .skip (.seq (.reg pops_r2) (.cond (.t 3) .skip (.reg pops_r3))))) (.cond (.t 3) (.seq (.reg pops_r4) .ret) (.seq (.seq (.reg pops_r5) (.cond (.t 18) .skip (.seq (.reg pops_r6) (.cond (.t 18) .skip (.seq (.reg pops_r7) (.cond (.t 18) .skip (.seq (.reg pops_r8) (.cond (.t 18) .skip (.seq (.reg pops_r9) (.cond (.t 18) .skip (.seq (.reg pops_r10) (.cond (.t 18) .skip (.reg pops_r11))))))))))))) (.cond (.t 18) (.seq (.reg pops_r12) .ret) .skip))))) (.seq (.reg pops_r13) .ret)))
def pops_res : List ARes := [(.tmp 2)]
set_option maxRecDepth 100000 in
theorem pops_get : getF Try.prog 106 106000 [] = some ("gavotte/ops.Pops", 33, pops_c, pops_res) := by kernel_rfl
def puts_r0 : List AI := [⟨(some 2), none, (.op (.mv (.c (.int .i64 0))))⟩]
def puts_r1 : List AI := [⟨(some 4), none, (.op (.mv (.t 0)))⟩, ⟨(some 5), none, (.op (.ibin .eql (.t 4) (.c (.int .i64 3))))⟩, ⟨(some 3), none, (.op (.mv (.t 5)))⟩]
def puts_r2 : List AI := [⟨(some 6), none, (.op (.mv (.t 0)))⟩, ⟨(some 7), none, (.op (.ibin .eql (.t 6) (.c (.int .i64 4))))⟩, ⟨(some 3), none, (.op (.mv (.t 7)))⟩]
def puts_r3 : List AI := [⟨(some 2), none, (.op (.mv (.c (.int .i64 2))))⟩]
def puts_r4 : List AI := [⟨(some 9), none, (.op (.mv (.t 0)))⟩, ⟨(some 10), none, (.op (.ibin .eql (.t 9) (.c (.int .i64 1))))⟩, ⟨(some 8), none, (.op (.mv (.t 10)))⟩]
def puts_r5 : List AI := [⟨(some 11), none, (.op (.mv (.t 0)))⟩, ⟨(some 12), none, (.op (.ibin .eql (.t 11) (.c (.int .i64 5))))⟩, ⟨(some 8), none, (.op (.mv (.t 12)))⟩]
def puts_r6 : List AI := [⟨(some 13), none, (.op (.mv (.t 0)))⟩, ⟨(some 14), none, (.op (.ibin .eql (.t 13) (.c (.int .i64 7))))⟩, ⟨(some 8), none, (.op (.mv (.t 14)))⟩]
def puts_r7 : List AI := [⟨(some 15), none, (.op (.mv (.t 0)))⟩, ⟨(some 16), none, (.op (.ibin .eql (.t 15) (.c (.int .i64 8))))⟩, ⟨(some 8), none, (.op (.mv (.t 16)))⟩]
def puts_r8 : List AI := [⟨(some 17), none, (.op (.mv (.t 0)))⟩, ⟨(some 18), none, (.op (.ibin .geq (.t 17) (.c (.int .i64 9))))⟩, ⟨(some 19), none, (.op (.mv (.t 18)))⟩, ⟨(some 20), (some (19, true)), (.op (.mv (.t 0)))⟩, ⟨(some 21), (some (19, true)), (.op (.ibin .leq (.t 20) (.c (.int .i64 19))))⟩, ⟨(some 22), none, (.op (.pick (.t 19) (.t 21) (.c (.bool false))))⟩, ⟨(some 8), none, (.op (.mv (.t 22)))⟩]
def puts_r9 : List AI := [⟨(some 2), none, (.op (.mv (.c (.int .i64 1))))⟩]
def puts_r10 : List AI := [⟨(some 2), none, (.op (.mv (.c (.int .i64 0))))⟩]
def puts_c : AC := (.seq (.reg puts_r0) (.seq (.block 0 (.seq (.seq (.reg puts_r1) (.cond (.t 3) .skip (.reg puts_r2))) (.cond (.t 3) (.seq (.reg puts_r3) .ret) (.seq (.seq (.reg puts_r4) (.cond (.t 8) .skip (.seq (.reg puts_r5) (.cond (.t 8) .skip (.seq (.reg puts_r6) (.cond (.t 8) .skip (.seq (.reg puts_r7) (.cond (.t 8) .skip (.reg puts_r8))))))))) (.cond (.t 8) (.seq (.reg puts_r9) .ret) .skip))))) (.seq (.reg puts_r10) .ret)))
def puts_res : List ARes := [(.tmp 2)]
set_option maxRecDepth 100000 in
theorem puts_get : getF Try.prog 94 94000 [] = some ("gavotte/ops.Puts", 23, puts_c, puts_res) := by kernel_rfl
def rpops_r0 : List AI := [⟨(some 2), none, (.op (.mv (.c (.int .i64 0))))⟩]
def rpops_r1 : List AI := [⟨(some 3), none, (.op (.mv (.t 0)))⟩, ⟨(some 4), none, (.call (.c (.fn 96 [])) [(.t 3)])⟩, ⟨(some 5), none, (.op (.not (.t 4)))⟩]
def rpops_r2 : List AI := [⟨(some 2), none, (.op (.mv (.c (.int .i64 0))))⟩]
def rpops_r3 : List AI := [⟨(some 6), none, (.op (.bsl 82006 1 3 26 (.int .i64 0) [(0, (.c (.int .i64 0))), (1, (.c (.int .i64 0))), (2, (.c (.int .i64 1))), (3, (.c (.int .i64 1))), (4, (.c (.int .i64 2))), (5, (.c (.int .i64 0))), (6, (.c (.int .i64 1))), (7, (.c (.int .i64 0))), (8, (.c (.int .i64 0))), (9, (.c (.int .i64 2))), (10, (.c (.int .i64 2))), (11, (.c (.int .i64 2))), (12, (.c (.int .i64 2))), (13, (.c (.int .i64 2))), (14, (.c (.int .i64 1))), (15, (.c (.int .i64 2))), (16, (.c (.int .i64 2))), (17, (.c (.int .i64 2))), (18, (.c (.int .i64 2))), (19, (.c (.int .i64 1))), (20, (.c (.int .i64 0))), (21, (.c (.int .i64 1))), (22, (.c (.int .i64 1))), (23, (.c (.int .i64 0))), (24, (.c (.int .i64 0))), (25, (.c (.int .i64 0)))]))⟩, ⟨(some 7), none, (.op (.mv (.t 0)))⟩, ⟨(some 8), none, (.op (.idx 1 (.t 6) (.t 7)))⟩, ⟨(some 9), none, (.op (.load none (.t 8)))⟩, ⟨(some 2), none, (.op (.mv (.t 9)))⟩]
def rpops_c : AC := (.seq (.reg rpops_r0) (.seq (.seq (.reg rpops_r1) (.cond (.t 5) (.seq (.reg rpops_r2) .ret) .skip)) (.seq (.reg rpops_r3) .ret)))
def rpops_res : List ARes := [(.tmp 2)]
set_option maxRecDepth 100000 in
theorem rpops_get : getF Try.prog 82 82000 [] = some ("gavotte/gavotteref1.Pops", 10, rpops_c, rpops_res) := by kernel_rfl
def rputs_r0 : List AI := [⟨(some 2), none, (.op (.mv (.c (.int .i64 0))))⟩]
def rputs_r1 : List AI := [⟨(some 3), none, (.op (.mv (.t 0)))⟩, ⟨(some 4), none, (.call (.c (.fn 96 [])) [(.t 3)])⟩, ⟨(some 5), none, (.op (.not (.t 4)))⟩]
def rputs_r2 : List AI := [⟨(some 2), none, (.op (.mv (.c (.int .i64 0))))⟩]
def rputs_r3 : List AI := [⟨(some 6), none, (.op (.bsl 83006 1 3 26 (.int .i64 0) [(0, (.c (.int .i64 0))), (1, (.c (.int .i64 1))), (2, (.c (.int .i64 0))), (3, (.c (.int .i64 2))), (4, (.c (.int .i64 2))), (5, (.c (.int .i64 1))), (6, (.c (.int .i64 0))), (7, (.c (.int .i64 1))), (8, (.c (.int .i64 1))), (9, (.c (.int .i64 1))), (10, (.c (.int .i64 1))), (11, (.c (.int .i64 1))), (12, (.c (.int .i64 1))), (13, (.c (.int .i64 1))), (14, (.c (.int .i64 1))), (15, (.c (.int .i64 1))), (16, (.c (.int .i64 1))), (17, (.c (.int .i64 1))), (18, (.c (.int .i64 1))), (19, (.c (.int .i64 1))), (20, (.c (.int .i64 0))), (21, (.c (.int .i64 0))), (22, (.c (.int .i64 0))), (23, (.c (.int .i64 0))), (24, (.c (.int .i64 0))), (25, (.c (.int .i64 0)))]))⟩, ⟨(some 7), none, (.op (.mv (.t 0)))⟩, ⟨(some 8), none, (.op (.idx 1 (.t 6) (.t 7)))⟩, ⟨(some 9), none, (.op (.load none (.t 8)))⟩, ⟨(some 2), none, (.op (.mv (.t 9)))⟩]
def rputs_c : AC := (.seq (.reg rputs_r0) (.seq (.seq (.reg rputs_r1) (.cond (.t 5) (.seq (.reg rputs_r2) .ret) .skip)) (.seq (.reg rputs_r3) .ret)))
def rputs_res : List ARes := [(.tmp 2)]
set_option maxRecDepth 100000 in
theorem rputs_get : getF Try.prog 83 83000 [] = some ("gavotte/gavotteref1.Puts", 10, rputs_c, rputs_res) := by kernel_rfl
def takes_r0 : List AI := [⟨(some 2), none, (.op (.box 93002 4 (.t 0)))⟩, ⟨(some 3), none, (.op (.box 93003 2 (.t 1)))⟩, ⟨(some 4), none, (.op (.mv (.c (.int .i64 0))))⟩]
def takes_r1 : List AI := [⟨(some 6), none, (.op (.fld 0 (.t 3)))⟩, ⟨(some 7), none, (.op (.load none (.t 6)))⟩, ⟨(some 8), none, (.call (.c (.fn 106 [])) [(.t 7)])⟩, ⟨(some 5), none, (.op (.mv (.t 8)))⟩]
def takes_r2 : List AI := [⟨(some 9), none, (.op (.fld 0 (.t 3)))⟩, ⟨(some 10), none, (.op (.load none (.t 9)))⟩, ⟨(some 11), none, (.op (.ibin .eql (.t 10) (.c (.int .i64 22))))⟩]
def takes_r3 : List AI := [⟨(some 12), none, (.op (.mv (.t 5)))⟩, ⟨(some 13), none, (.op (.fld 0 (.t 2)))⟩, ⟨(some 14), none, (.op (.load none (.t 13)))⟩, ⟨(some 15), none, (.op (.fld 1 (.t 3)))⟩, ⟨(some 16), none, (.op (.load none (.t 15)))⟩, ⟨(some 17), none, (.op (.idx 2 (.t 14) (.t 16)))⟩, ⟨(some 18), none, (.op (.fld 0 (.t 17)))⟩, ⟨(some 19), none, (.op (.load none (.t 18)))⟩, ⟨(some 20), none, (.op (.ibin .add (.t 12) (.t 19)))⟩, ⟨(some 5), none, (.op (.mv (.t 20)))⟩]
def takes_r4 : List AI := [⟨(some 21), none, (.op (.mv (.t 5)))⟩, ⟨(some 4), none, (.op (.mv (.t 21)))⟩]
def takes_c : AC := (.seq (.reg takes_r0) (.seq (.reg takes_r1) (.seq (.seq (.reg takes_r2) (.cond (.t 11) (.reg takes_r3) .skip)) (.seq (.reg takes_r4) .ret))))
def takes_res : List ARes := [(.tmp 4)]
set_option maxRecDepth 100000 in
theorem takes_get : getF Try.prog 93 93000 [] = some ("gavotte/flow.takes", 22, takes_c, takes_res) := by kernel_rfl
def next_r0 : List AI := [⟨(some 3), none, (.op (.box 95003 2 (.t 1)))⟩, ⟨(some 4), none, (.op (.mv (.c .nils)))⟩]
def next_r1 : List AI := [⟨(some 5), none, (.op (.fld 0 (.t 3)))⟩, ⟨(some 6), none, (.op (.load none (.t 5)))⟩]
def next_r2 : List AI := [⟨(some 8), none, (.op (.ibin .eql (.t 6) (.c (.int .i64 20))))⟩, ⟨(some 7), none, (.op (.mv (.t 8)))⟩]
def next_r3 : List AI := [⟨(some 9), none, (.op (.fld 1 (.t 3)))⟩, ⟨(some 10), none, (.op (.load none (.t 9)))⟩, ⟨(some 11), none, (.op (.bsl 95011 1 3 1 (.int .i64 0) [(0, (.t 10))]))⟩, ⟨(some 4), none, (.op (.mv (.t 11)))⟩]
def next_r4 : List AI := [⟨(some 13), none, (.op (.ibin .eql (.t 6) (.c (.int .i64 21))))⟩, ⟨(some 12), none, (.op (.mv (.t 13)))⟩]
def next_r5 : List AI := [⟨(some 14), none, (.op (.fld 1 (.t 3)))⟩, ⟨(some 15), none, (.op (.load none (.t 14)))⟩, ⟨(some 16), none, (.op (.mv (.t 0)))⟩, ⟨(some 17), none, (.op (.ibin .add (.t 16) (.c (.int .i64 1))))⟩, ⟨(some 18), none, (.op (.bsl 95018 1 3 2 (.int .i64 0) [(0, (.t 15)), (1, (.t 17))]))⟩, ⟨(some 4), none, (.op (.mv (.t 18)))⟩]
def next_r6 : List AI := [⟨(some 20), none, (.op (.ibin .eql (.t 6) (.c (.int .i64 25))))⟩, ⟨(some 19), none, (.op (.mv (.t 20)))⟩]
def next_r7 : List AI := [⟨(some 4), none, (.op (.mv (.c .nils)))⟩]
def next_r8 : List AI := [⟨(some 21), none, (.op (.mv (.t 0)))⟩, ⟨(some 22), none, (.op (.ibin .add (.t 21) (.c (.int .i64 1))))⟩, ⟨(some 23), none, (.op (.bsl 95023 1 3 1 (.int .i64 0) [(0, (.t 22))]))⟩, ⟨(some 4), none, (.op (.mv (.t 23)))⟩]
def next_c : AC := (.seq (.reg next_r0) (.seq (.seq (.reg next_r1) (.block 0 (.seq (.reg next_r2) (.cond (.t 7) (.seq (.reg next_r3) .ret) (.seq (.reg next_r4) (.cond (.t 12) (.seq (.reg next_r5) .ret) (.seq (.reg next_r6) (.cond (.t 19) (.seq (.reg next_r7) .ret) .skip)))))))) (.seq (.reg next_r8) .ret)))
def next_res : List ARes := [(.tmp 4)]
set_option maxRecDepth 100000 in
theorem next_get : getF Try.prog 95 95000 [] = some ("gavotte/flow.next", 24, next_c, next_res) := by kernel_rfl
def mul64_r0 : List AI := [⟨(some 4), none, (.op (.mv (.c (.int .u64 0))))⟩, ⟨(some 5), none, (.op (.mv (.c (.int .u64 0))))⟩]
def mul64_r1 : List AI := [⟨(some 14), none, (.op (.mv (.t 0)))⟩, ⟨(some 15), none, (.op (.ibin .and (.t 14) (.c (.int .u64 4294967295))))⟩, ⟨(some 6), none, (.op (.mv (.t 15)))⟩]
def mul64_r2 : List AI := [⟨(some 16), none, (.op (.mv (.t 0)))⟩, ⟨(some 17), none, (.op (.shift false (.t 16) (.c (.int .u64 32))))⟩, ⟨(some 7), none, (.op (.mv (.t 17)))⟩]
def mul64_r3 : List AI := [⟨(some 18), none, (.op (.mv (.t 1)))⟩, ⟨(some 19), none, (.op (.ibin .and (.t 18) (.c (.int .u64 4294967295))))⟩, ⟨(some 8), none, (.op (.mv (.t 19)))⟩]
def mul64_r4 : List AI := [⟨(some 20), none, (.op (.mv (.t 1)))⟩, ⟨(some 21), none, (.op (.shift false (.t 20) (.c (.int .u64 32))))⟩, ⟨(some 9), none, (.op (.mv (.t 21)))⟩]
def mul64_r5 : List AI := [⟨(some 22), none, (.op (.mv (.t 6)))⟩, ⟨(some 23), none, (.op (.mv (.t 8)))⟩, ⟨(some 24), none, (.op (.ibin .mul (.t 22) (.t 23)))⟩, ⟨(some 10), none, (.op (.mv (.t 24)))⟩]
def mul64_r6 : List AI := [⟨(some 25), none, (.op (.mv (.t 7)))⟩, ⟨(some 26), none, (.op (.mv (.t 8)))⟩, ⟨(some 27), none, (.op (.ibin .mul (.t 25) (.t 26)))⟩, ⟨(some 28), none, (.op (.mv (.t 10)))⟩, ⟨(some 29), none, (.op (.shift false (.t 28) (.c (.int .u64 32))))⟩, ⟨(some 30), none, (.op (.ibin .add (.t 27) (.t 29)))⟩, ⟨(some 11), none, (.op (.mv (.t 30)))⟩]
def mul64_r7 : List AI := [⟨(some 31), none, (.op (.mv (.t 11)))⟩, ⟨(some 32), none, (.op (.ibin .and (.t 31) (.c (.int .u64 4294967295))))⟩, ⟨(some 12), none, (.op (.mv (.t 32)))⟩]
def mul64_r8 : List AI := [⟨(some 33), none, (.op (.mv (.t 11)))⟩, ⟨(some 34), none, (.op (.shift false (.t 33) (.c (.int .u64 32))))⟩, ⟨(some 13), none, (.op (.mv (.t 34)))⟩]
def mul64_r9 : List AI := [⟨(some 35), none, (.op (.mv (.t 12)))⟩, ⟨(some 36), none, (.op (.mv (.t 6)))⟩, ⟨(some 37), none, (.op (.mv (.t 9)))⟩, ⟨(some 38), none, (.op (.ibin .mul (.t 36) (.t 37)))⟩, ⟨(some 39), none, (.op (.ibin .add (.t 35) (.t 38)))⟩, ⟨(some 12), none, (.op (.mv (.t 39)))⟩]
def mul64_r10 : List AI := [⟨(some 40), none, (.op (.mv (.t 7)))⟩, ⟨(some 41), none, (.op (.mv (.t 9)))⟩, ⟨(some 42), none, (.op (.ibin .mul (.t 40) (.t 41)))⟩, ⟨(some 43), none, (.op (.mv (.t 13)))⟩, ⟨(some 44), none, (.op (.ibin .add (.t 42) (.t 43)))⟩, ⟨(some 45), none, (.op (.mv (.t 12)))⟩, ⟨(some 46), none, (.op (.shift false (.t 45) (.c (.int .u64 32))))⟩, ⟨(some 47), none, (.op (.ibin .add (.t 44) (.t 46)))⟩, ⟨(some 4), none, (.op (.mv (.t 47)))⟩]
def mul64_r11 : List AI := [⟨(some 48), none, (.op (.mv (.t 0)))⟩, ⟨(some 49), none, (.op (.mv (.t 1)))⟩, ⟨(some 50), none, (.op (.ibin .mul (.t 48) (.t 49)))⟩, ⟨(some 5), none, (.op (.mv (.t 50)))⟩]
def mul64_c : AC := (.seq (.reg mul64_r0) (.seq (.reg mul64_r1) (.seq (.reg mul64_r2) (.seq (.reg mul64_r3) (.seq (.reg mul64_r4) (.seq (.reg mul64_r5) (.seq (.reg mul64_r6) (.seq (.reg mul64_r7) (.seq (.reg mul64_r8) (.seq (.reg mul64_r9) (.seq (.reg mul64_r10) (.seq (.reg mul64_r11) .ret))))))))))))
def mul64_res : List ARes := [(.tmp 4), (.tmp 5)]
set_option maxRecDepth 100000 in
theorem mul64_get : getF Try.prog 120 120000 [] = some ("math/bits.Mul64", 51, mul64_c, mul64_res) := by kernel_rfl
def mul_r0 : List AI := [⟨(some 4), none, (.op (.mv (.c (.int .u64 0))))⟩, ⟨(some 5), none, (.op (.mv (.c (.int .u64 0))))⟩]
def mul_r1 : List AI := [⟨(some 11), none, (.op (.mv (.t 0)))⟩, ⟨(some 12), none, (.op (.conv .u32 (.t 11)))⟩, ⟨(some 13), none, (.op (.mv (.t 1)))⟩, ⟨(some 14), none, (.op (.conv .u32 (.t 13)))⟩, ⟨(some 15), none, (.call (.c (.fn 119 [])) [(.t 12), (.t 14)])⟩, ⟨(some 10), none, (.op (.mv (.t 15)))⟩, ⟨(some 16), none, (.op (.ext (.t 10) 0))⟩, ⟨(some 17), none, (.op (.ext (.t 10) 1))⟩, ⟨(some 6), none, (.op (.mv (.t 16)))⟩, ⟨(some 7), none, (.op (.mv (.t 17)))⟩]
def mul_r2 : List AI := [⟨(some 18), none, (.op (.mv (.t 6)))⟩, ⟨(some 19), none, (.op (.conv .u64 (.t 18)))⟩, ⟨(some 20), none, (.op (.mv (.t 7)))⟩, ⟨(some 21), none, (.op (.conv .u64 (.t 20)))⟩, ⟨(some 4), none, (.op (.mv (.t 19)))⟩, ⟨(some 5), none, (.op (.mv (.t 21)))⟩]
def mul_r3 : List AI := [⟨(some 23), none, (.op (.mv (.t 0)))⟩, ⟨(some 24), none, (.op (.mv (.t 1)))⟩, ⟨(some 25), none, (.call (.c (.fn 120 [])) [(.t 23), (.t 24)])⟩, ⟨(some 22), none, (.op (.mv (.t 25)))⟩, ⟨(some 26), none, (.op (.ext (.t 22) 0))⟩, ⟨(some 27), none, (.op (.ext (.t 22) 1))⟩, ⟨(some 8), none, (.op (.mv (.t 26)))⟩, ⟨(some 9), none, (.op (.mv (.t 27)))⟩]
def mul_r4 : List AI := [⟨(some 28), none, (.op (.mv (.t 8)))⟩, ⟨(some 29), none, (.op (.mv (.t 9)))⟩, ⟨(some 4), none, (.op (.mv (.t 28)))⟩, ⟨(some 5), none, (.op (.mv (.t 29)))⟩]
def mul_c : AC := (.seq (.reg mul_r0) (.seq (.cond (.c (.bool false)) (.seq (.reg mul_r1) (.seq (.reg mul_r2) .ret)) .skip) (.seq (.reg mul_r3) (.seq (.reg mul_r4) .ret))))
def mul_res : List ARes := [(.tmp 4), (.tmp 5)]
set_option maxRecDepth 100000 in
theorem mul_get : getF Try.prog 105 105000 [] = some ("math/bits.Mul", 30, mul_c, mul_res) := by kernel_rfl
attribute [simp] valid1_r0 valid1_r1 valid1_res pops_r0 pops_r1 pops_r2 pops_r3 pops_r4 pops_r5 pops_r6 pops_r7 pops_r8 pops_r9 pops_r10 pops_r11 pops_r12 pops_r13 pops_res puts_r0 puts_r1 puts_r2 puts_r3 puts_r4 puts_r5 puts_r6 puts_r7 puts_r8 puts_r9 puts_r10 puts_res rpops_r0 rpops_r1 rpops_r2 rpops_r3 rpops_res rputs_r0 rputs_r1 rputs_r2 rputs_r3 rputs_res takes_r0 takes_r1 takes_r2 takes_r3 takes_r4 takes_res next_r0 next_r1 next_r2 next_r3 next_r4 next_r5 next_r6 next_r7 next_r8 next_res mul64_r0 mul64_r1 mul64_r2 mul64_r3 mul64_r4 mul64_r5 mul64_r6 mul64_r7 mul64_r8 mul64_r9 mul64_r10 mul64_r11 mul64_res mul_r0 mul_r1 mul_r2 mul_r3 mul_r4 mul_res

def popsV (n : Int) : Int := if n = 4 ∨ (9 ≤ n ∧ n ≤ 13) ∨ (15 ≤ n ∧ n ≤ 18) then 2 else if n = 2 ∨ n = 3 ∨ n = 6 ∨ n = 14 ∨ n = 19 ∨ n = 21 ∨ n = 22 then 1 else 0
def putsV (n : Int) : Int := if n = 3 ∨ n = 4 then 2 else if n = 1 ∨ n = 5 ∨ n = 7 ∨ n = 8 ∨ (9 ≤ n ∧ n ≤ 19) then 1 else 0
theorem popsV_range (n : Int) : 0 ≤ popsV n ∧ popsV n ≤ 2 := by unfold popsV; split <;> (try split) <;> omega
theorem putsV_range (n : Int) : 0 ≤ putsV n ∧ putsV n ≤ 2 := by unfold putsV; split <;> (try split) <;> omega
theorem pops_pc (n : Int) : PC Try.prog 106 [iv n] (iv (popsV n)) := by
  refine pc_of_get pops_get (by simp) _ (by simp) _ ?_
  unfold pops_c
  simp
  repeat' (refine split (fun hc => ?_) (fun hc => ?_) <;> simp [*])
  all_goals grind [popsV]
theorem puts_pc (n : Int) : PC Try.prog 94 [iv n] (iv (putsV n)) := by
  refine pc_of_get puts_get (by simp) _ (by simp) _ ?_
  unfold puts_c
  simp
  repeat' (refine split (fun hc => ?_) (fun hc => ?_) <;> simp [*])
  all_goals grind [putsV]
theorem lit25 {n : Int} (h1 : 1 ≤ n) (h2 : n ≤ 25) : n = 1 ∨ n = 2 ∨ n = 3 ∨ n = 4 ∨ n = 5 ∨ n = 6 ∨ n = 7 ∨ n = 8 ∨ n = 9 ∨ n = 10 ∨ n = 11 ∨ n = 12 ∨ n = 13 ∨ n = 14 ∨ n = 15 ∨ n = 16 ∨ n = 17 ∨ n = 18 ∨ n = 19 ∨ n = 20 ∨ n = 21 ∨ n = 22 ∨ n = 23 ∨ n = 24 ∨ n = 25 := by omega
theorem rpops_pc (n : Int) : PC Try.prog 82 [iv n] (iv (popsV n)) := by
  refine pc_of_get rpops_get (by simp) _ (by simp) _ ?_
  unfold rpops_c
  simp
  refine call (rvalid_pc n) (by simp) ?_
  simp
  refine split (fun h1 => ?_) (fun h1 => ?_) <;> simp [h1]
  rotate_left
  · grind [popsV]
  refine split (fun h2 => ?_) (fun h2 => ?_) <;> simp [h2]
  rotate_left
  · grind [popsV]
  rcases lit25 h1 h2 with h | h | h | h | h | h | h | h | h | h | h | h | h | h | h | h | h | h | h | h | h | h | h | h | h <;> subst h <;> simp [popsV]
theorem rputs_pc (n : Int) : PC Try.prog 83 [iv n] (iv (putsV n)) := by
  refine pc_of_get rputs_get (by simp) _ (by simp) _ ?_
  unfold rputs_c
  simp
  refine call (rvalid_pc n) (by simp) ?_
  simp
  refine split (fun h1 => ?_) (fun h1 => ?_) <;> simp [h1]
  rotate_left
  · grind [putsV]
  refine split (fun h2 => ?_) (fun h2 => ?_) <;> simp [h2]
  rotate_left
  · grind [putsV]
  rcases lit25 h1 h2 with h | h | h | h | h | h | h | h | h | h | h | h | h | h | h | h | h | h | h | h | h | h | h | h | h <;> subst h <;> simp [putsV]

/-- The arguments of a handler, by its number. -/
def argsOf (hs : List Hnd) (a : Int) : Int := (hs[a.toNat]?.map Hnd.args).getD 0
def takesV (hs : List Hnd) (i : Ins) : Int := popsV i.op + if i.op = 22 then argsOf hs i.a else 0
/-- What must hold of an instruction that is looked at. -/
def insOk (hs : List Hnd) (i : Ins) : Prop := i.op = 22 → 0 ≤ i.a ∧ i.a.toNat < hs.length ∧ 0 ≤ argsOf hs i.a ∧ argsOf hs i.a ≤ 4
theorem takesV_range {hs : List Hnd} {i : Ins} (h : insOk hs i) : 0 ≤ takesV hs i ∧ takesV hs i ≤ 6 := by
  have := popsV_range i.op
  unfold takesV
  split
  · rename_i h1; have := h h1; omega
  · omega
theorem takes_pc (p : Prg) (i : Ins) (h : insOk p.hs i) : PC Try.prog 93 [p.av, i.av] (iv (takesV p.hs i)) := by
  refine pc_of_get takes_get (by simp) _ (by simp) _ ?_
  unfold takes_c
  simp
  refine call (pops_pc i.op) (by simp) ?_
  simp
  refine split (fun h1 => ?_) (fun h1 => ?_) <;> simp [h1]
  · obtain ⟨h2, h3, h4, h5⟩ := h h1
    have e : argsOf p.hs i.a = p.hs[i.a.toNat].args := by simp [argsOf, h3]
    have := popsV_range 22
    simp [h2, h3, takesV, h1]
    rw [wrap_in _ (by omega) (by omega)]
    omega
  · simp [takesV, h1]

/-- What may come behind an instruction. -/
def nextV (at' : Nat) (i : Ins) : List Nat :=
  if i.op = 20 then [i.a.toNat] else if i.op = 21 then [i.a.toNat, at' + 1] else if i.op = 25 then [] else [at' + 1]
def nats (l : List Nat) : AV := .lst 1 (l.map (fun n : Nat => iv n))
theorem next_pc (n : Nat) (i : Ins) (hn : n < 4611686018427387904) (h : i.op = 20 ∨ i.op = 21 → 0 ≤ i.a) : PC Try.prog 95 [iv n, i.av] (nats (nextV n i)) := by
  have w : IntKind.i64.wrap ((n : Int) + 1) = (n : Int) + 1 := wrap_in _ (by omega) (by omega)
  refine pc_of_get next_get (by simp) _ (by simp) _ ?_
  unfold next_c
  simp
  refine split (fun h1 => ?_) (fun h1 => ?_) <;> simp [h1]
  · have := h (.inl h1)
    simp [nextV, h1, nats]; omega
  refine split (fun h2 => ?_) (fun h2 => ?_) <;> simp [h2]
  · have := h (.inr h2)
    simp [nextV, h2, nats, w]; omega
  refine split (fun h3 => ?_) (fun h3 => ?_) <;> simp [h3]
  · simp [nextV, h3, nats]
  · simp [nextV, h1, h2, h3, nats, w]

abbrev uv (n : Int) : AV := .int .u64 n
theorem u64_wrap (n : Int) (h1 : 0 ≤ n) (h2 : n < 18446744073709551616) : IntKind.u64.wrap n = n := by
  simp [IntKind.wrap, IntKind.signed, IntKind.bits]; omega
theorem u64_wrap_mod (n : Int) : IntKind.u64.wrap n = n % 18446744073709551616 := by simp [IntKind.wrap, IntKind.signed, IntKind.bits]
theorem u64_low (n : Nat) (h : n < 18446744073709551616) : bitAnd .u64 (n : Int) 4294967295 = ((n % 4294967296 : Nat) : Int) := by
  have e : (BitVec.ofInt 64 (n : Int) &&& BitVec.ofInt 64 4294967295).toNat = n % 4294967296 := by
    have e1 : (BitVec.ofInt 64 (n : Int)).toNat = n := by rw [BitVec.toNat_ofInt]; omega
    have e2 : (BitVec.ofInt 64 4294967295).toNat = 2 ^ 32 - 1 := by decide
    rw [BitVec.toNat_and, e1, e2, Nat.and_two_pow_sub_one_eq_mod]
  show IntKind.u64.wrap ((BitVec.ofInt 64 (n : Int) &&& BitVec.ofInt 64 4294967295).toNat : Int) = _
  rw [e, u64_wrap _ (by omega) (by omega)]
theorem shr32 (n : Nat) : shiftI false .u64 n 32 = ((n / 4294967296 : Nat) : Int) := by
  show (n : Int).fdiv 4294967296 = _
  rw [Int.fdiv_eq_ediv_of_nonneg _ (by decide)]; rfl
/-- A product with 1. -/
theorem mul64_pc (n : Nat) (h : n < 4294967296) : PC Try.prog 120 [uv 1, uv n] (.tup [uv 0, uv n]) := by
  refine pc_of_get mul64_get (by simp) _ (by simp) _ ?_
  unfold mul64_c
  have e1 : bitAnd .u64 1 4294967295 = 1 := u64_low 1 (by omega)
  have e2 := u64_low n (by omega)
  rw [Nat.mod_eq_of_lt h] at e2
  have e0 : bitAnd .u64 0 4294967295 = 0 := u64_low 0 (by omega)
  have w0 : IntKind.u64.wrap 0 = 0 := by decide
  have wn : IntKind.u64.wrap (n : Int) = n := u64_wrap _ (by omega) (by omega)
  have s0 : shiftI false .u64 1 32 = 0 := shr32 1
  have s1 := shr32 n
  rw [Nat.div_eq_of_lt h] at s1
  have s2 : shiftI false .u64 0 32 = 0 := shr32 0
  simp only [Int.natCast_zero] at s1
  simp [e1, e2, s0, s1, s2, wn, w0, e0]
theorem mul_pc (n : Nat) (h : n < 4294967296) : PC Try.prog 105 [uv 1, uv n] (.tup [uv 0, uv n]) := by
  refine pc_of_get mul_get (by simp) _ (by simp) _ ?_
  unfold mul_c
  simp
  refine call (mul64_pc n h) (by simp) ?_
  simp

end Go.Gv
