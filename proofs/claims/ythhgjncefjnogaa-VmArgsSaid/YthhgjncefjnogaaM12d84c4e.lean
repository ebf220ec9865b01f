/- Texts of this proof, one behind the other. What is proved, and on which conditions, stands ahead of each. -/
import Derived.Test.YthhgjncefjnogaaProg
import Derived.Test.YthhgjncefjnogaaM11862ff7
import Derived.Test.YthhgjncefjnogaaM100d0d4b

/- What the reference's Depths and CheckFlow answer: the depths that rdepthsV tells. The code's instructions may be looked at (codeOk). -/
set_option linter.unusedVariables false
set_option linter.unusedSimpArgs false
namespace Go.Gv
open Go.Proofs

def rdep_r0 : List AI := [⟨(some 2), none, (.op (.box 38002 4 (.t 0)))⟩, ⟨(some 4), none, (.op (.mv (.c .nils)))⟩, ⟨(some 5), none, (.op (.mv (.c (.int .i64 0))))⟩, ⟨(some 6), none, (.op (.mv (.c (.int .i64 0))))⟩]
def rdep_r1 : List AI := [⟨(some 19), none, (.op (.mv (.t 1)))⟩, ⟨(some 20), none, (.op (.ibin .lss (.t 19) (.c (.int .i64 0))))⟩, ⟨(some 21), none, (.op (.mv (.t 20)))⟩, ⟨(some 22), (some (21, false)), (.op (.mv (.t 1)))⟩, ⟨(some 23), (some (21, false)), (.op (.fld 0 (.t 2)))⟩, ⟨(some 24), (some (21, false)), (.op (.load none (.t 23)))⟩, ⟨(some 25), (some (21, false)), (.op (.len (.t 24)))⟩, ⟨(some 26), (some (21, false)), (.op (.ibin .geq (.t 22) (.t 25)))⟩, ⟨(some 27), none, (.op (.pick (.t 21) (.c (.bool true)) (.t 26)))⟩]
def rdep_r2 : List AI := [⟨(some 4), none, (.op (.mv (.c .nils)))⟩, ⟨(some 5), none, (.op (.mv (.c (.int .i64 (-1)))))⟩, ⟨(some 6), none, (.op (.mv (.c (.int .i64 7))))⟩]
def rdep_r3 : List AI := [⟨(some 28), none, (.op (.fld 0 (.t 2)))⟩, ⟨(some 29), none, (.op (.load none (.t 28)))⟩, ⟨(some 30), none, (.op (.mv (.t 1)))⟩, ⟨(some 31), none, (.op (.idx 2 (.t 29) (.t 30)))⟩, ⟨(some 32), none, (.op (.fld 1 (.t 31)))⟩, ⟨(some 33), none, (.op (.load none (.t 32)))⟩, ⟨(some 7), none, (.op (.mv (.t 33)))⟩]
def rdep_r4 : List AI := [⟨(some 34), none, (.op (.mv (.t 7)))⟩, ⟨(some 35), none, (.op (.len (.t 34)))⟩, ⟨(some 8), none, (.op (.mv (.t 35)))⟩]
def rdep_r5 : List AI := [⟨(some 36), none, (.op (.mv (.t 8)))⟩, ⟨(some 37), none, (.op (.ibin .add (.t 36) (.c (.int .i64 1))))⟩, ⟨(some 38), none, (.op (.msl 38038 1 8 (.int .i64 0) (.t 37)))⟩, ⟨(some 9), none, (.op (.mv (.t 38)))⟩]
def rdep_r6 : List AI := [⟨(some 10), none, (.op (.mv (.c (.int .i64 0))))⟩]
def rdep_r7 : List AI := [⟨(some 39), none, (.op (.mv (.t 10)))⟩, ⟨(some 40), none, (.op (.mv (.t 8)))⟩, ⟨(some 41), none, (.op (.ibin .leq (.t 39) (.t 40)))⟩]
def rdep_r8 : List AI := [⟨(some 44), none, (.op (.mv (.t 9)))⟩, ⟨(some 45), none, (.op (.mv (.t 10)))⟩, ⟨(some 46), none, (.op (.idx 1 (.t 44) (.t 45)))⟩, ⟨none, none, (.op (.store 1 (.t 46) (.c (.int .i64 (-1)))))⟩]
def rdep_r9 : List AI := [⟨(some 42), none, (.op (.mv (.t 10)))⟩, ⟨(some 43), none, (.op (.ibin .add (.t 42) (.c (.int .i64 1))))⟩, ⟨(some 10), none, (.op (.mv (.t 43)))⟩]
def rdep_l0 : AC := (.seq (.seq (.reg rdep_r7) (.cond (.t 41) .skip (.exit 0))) (.seq (.block 1 (.reg rdep_r8)) (.reg rdep_r9)))
def rdep_r10 : List AI := [⟨(some 47), none, (.op (.mv (.t 9)))⟩, ⟨(some 48), none, (.op (.idx 1 (.t 47) (.c (.int .i64 0))))⟩, ⟨none, none, (.op (.store 1 (.t 48) (.c (.int .i64 0))))⟩]
def rdep_r11 : List AI := [⟨(some 11), none, (.op (.mv (.c (.int .i64 0))))⟩]
def rdep_r12 : List AI := [⟨(some 12), none, (.op (.mv (.c (.bool true))))⟩]
def rdep_r13 : List AI := [⟨(some 49), none, (.op (.mv (.t 12)))⟩]
def rdep_r14 : List AI := [⟨(some 12), none, (.op (.mv (.c (.bool false))))⟩]
def rdep_r15 : List AI := [⟨(some 13), none, (.op (.mv (.c (.int .i64 0))))⟩]
def rdep_r16 : List AI := [⟨(some 50), none, (.op (.mv (.t 13)))⟩, ⟨(some 51), none, (.op (.mv (.t 8)))⟩, ⟨(some 52), none, (.op (.ibin .lss (.t 50) (.t 51)))⟩]
def rdep_r17 : List AI := [⟨(some 55), none, (.op (.mv (.t 9)))⟩, ⟨(some 56), none, (.op (.mv (.t 13)))⟩, ⟨(some 57), none, (.op (.idx 1 (.t 55) (.t 56)))⟩, ⟨(some 58), none, (.op (.load none (.t 57)))⟩, ⟨(some 59), none, (.op (.ibin .lss (.t 58) (.c (.int .i64 0))))⟩]
def rdep_r18 : List AI := [⟨(some 60), none, (.op (.mv (.t 7)))⟩, ⟨(some 61), none, (.op (.mv (.t 13)))⟩, ⟨(some 62), none, (.op (.idx 2 (.t 60) (.t 61)))⟩, ⟨(some 63), none, (.op (.load (some 2) (.t 62)))⟩, ⟨(some 14), none, (.op (.new 38014 2 (.agg [(.int .i64 0), (.int .i64 0)])))⟩, ⟨none, none, (.op (.store 2 (.t 14) (.t 63)))⟩]
def rdep_r19 : List AI := [⟨(some 64), none, (.op (.fld 0 (.t 14)))⟩, ⟨(some 65), none, (.op (.load none (.t 64)))⟩, ⟨(some 66), none, (.call (.c (.fn 82 [])) [(.t 65)])⟩, ⟨(some 15), none, (.op (.mv (.t 66)))⟩]
def rdep_r20 : List AI := [⟨(some 67), none, (.op (.fld 0 (.t 14)))⟩, ⟨(some 68), none, (.op (.load none (.t 67)))⟩, ⟨(some 69), none, (.op (.ibin .eql (.t 68) (.c (.int .i64 22))))⟩]
def rdep_r21 : List AI := [⟨(some 70), none, (.op (.mv (.t 15)))⟩, ⟨(some 71), none, (.op (.fld 0 (.t 2)))⟩, ⟨(some 72), none, (.op (.load none (.t 71)))⟩, ⟨(some 73), none, (.op (.fld 1 (.t 14)))⟩, ⟨(some 74), none, (.op (.load none (.t 73)))⟩, ⟨(some 75), none, (.op (.idx 2 (.t 72) (.t 74)))⟩, ⟨(some 76), none, (.op (.fld 0 (.t 75)))⟩, ⟨(some 77), none, (.op (.load none (.t 76)))⟩, ⟨(some 78), none, (.op (.ibin .add (.t 70) (.t 77)))⟩, ⟨(some 15), none, (.op (.mv (.t 78)))⟩]
def rdep_r22 : List AI := [⟨(some 79), none, (.op (.mv (.t 9)))⟩, ⟨(some 80), none, (.op (.mv (.t 13)))⟩, ⟨(some 81), none, (.op (.idx 1 (.t 79) (.t 80)))⟩, ⟨(some 82), none, (.op (.load none (.t 81)))⟩, ⟨(some 83), none, (.op (.mv (.t 15)))⟩, ⟨(some 84), none, (.op (.ibin .sub (.t 82) (.t 83)))⟩, ⟨(some 85), none, (.op (.fld 0 (.t 14)))⟩, ⟨(some 86), none, (.op (.load none (.t 85)))⟩, ⟨(some 87), none, (.call (.c (.fn 83 [])) [(.t 86)])⟩, ⟨(some 88), none, (.op (.ibin .add (.t 84) (.t 87)))⟩, ⟨(some 16), none, (.op (.mv (.t 88)))⟩]
def rdep_p22 : List (List Nat) := [[], [], [0, 1], [2, 0, 1], [], [3, 4, 2, 0, 1], [], [6], [7, 6], [5, 8, 3, 4, 2, 0, 1, 7, 6], [9, 8, 0, 1, 2, 3, 4, 5, 6, 7]]
def rdep_r23 : List AI := [⟨(some 89), none, (.op (.mv (.t 9)))⟩, ⟨(some 90), none, (.op (.mv (.t 13)))⟩, ⟨(some 91), none, (.op (.idx 1 (.t 89) (.t 90)))⟩, ⟨(some 92), none, (.op (.load none (.t 91)))⟩, ⟨(some 93), none, (.op (.mv (.t 15)))⟩, ⟨(some 94), none, (.op (.ibin .lss (.t 92) (.t 93)))⟩, ⟨(some 95), none, (.op (.mv (.t 94)))⟩, ⟨(some 96), (some (95, false)), (.op (.mv (.t 16)))⟩, ⟨(some 97), (some (95, false)), (.op (.ibin .gtr (.t 96) (.c (.int .i64 8))))⟩, ⟨(some 98), none, (.op (.pick (.t 95) (.c (.bool true)) (.t 97)))⟩]
def rdep_r24 : List AI := [⟨(some 4), none, (.op (.mv (.c .nils)))⟩, ⟨(some 5), none, (.op (.mv (.c (.int .i64 (-1)))))⟩, ⟨(some 6), none, (.op (.mv (.c (.int .i64 5))))⟩]
def rdep_r25 : List AI := [⟨(some 99), none, (.op (.mv (.t 11)))⟩, ⟨(some 100), none, (.op (.mv (.t 9)))⟩, ⟨(some 101), none, (.op (.mv (.t 13)))⟩, ⟨(some 102), none, (.op (.idx 1 (.t 100) (.t 101)))⟩, ⟨(some 103), none, (.op (.load none (.t 102)))⟩, ⟨(some 104), none, (.op (.mv (.t 16)))⟩, ⟨(some 105), none, (.op (.mm true (.t 99) [(.t 103), (.t 104)]))⟩, ⟨(some 11), none, (.op (.mv (.t 105)))⟩]
def rdep_r26 : List AI := [⟨(some 17), none, (.op (.mv (.c .nils)))⟩]
def rdep_r27 : List AI := [⟨(some 106), none, (.op (.fld 0 (.t 14)))⟩, ⟨(some 107), none, (.op (.load none (.t 106)))⟩]
def rdep_r28 : List AI := [⟨(some 112), none, (.op (.ibin .eql (.t 107) (.c (.int .i64 20))))⟩, ⟨(some 111), none, (.op (.mv (.t 112)))⟩]
def rdep_r29 : List AI := [⟨(some 113), none, (.op (.fld 1 (.t 14)))⟩, ⟨(some 114), none, (.op (.load none (.t 113)))⟩, ⟨(some 115), none, (.op (.bsl 38115 1 3 1 (.int .i64 0) [(0, (.t 114))]))⟩, ⟨(some 17), none, (.op (.mv (.t 115)))⟩]
def rdep_r30 : List AI := [⟨(some 117), none, (.op (.ibin .eql (.t 107) (.c (.int .i64 21))))⟩, ⟨(some 116), none, (.op (.mv (.t 117)))⟩]
def rdep_r31 : List AI := [⟨(some 118), none, (.op (.fld 1 (.t 14)))⟩, ⟨(some 119), none, (.op (.load none (.t 118)))⟩, ⟨(some 120), none, (.op (.mv (.t 13)))⟩, ⟨(some 121), none, (.op (.ibin .add (.t 120) (.c (.int .i64 1))))⟩, ⟨(some 122), none, (.op (.bsl 38122 1 3 2 (.int .i64 0) [(0, (.t 119)), (1, (.t 121))]))⟩, ⟨(some 17), none, (.op (.mv (.t 122)))⟩]
def rdep_r32 : List AI := [⟨(some 124), none, (.op (.ibin .eql (.t 107) (.c (.int .i64 25))))⟩, ⟨(some 123), none, (.op (.mv (.t 124)))⟩]
def rdep_r33 : List AI := [⟨(some 17), none, (.op (.mv (.c .nils)))⟩]
def rdep_r34 : List AI := [⟨(some 108), none, (.op (.mv (.t 13)))⟩, ⟨(some 109), none, (.op (.ibin .add (.t 108) (.c (.int .i64 1))))⟩, ⟨(some 110), none, (.op (.bsl 38110 1 3 1 (.int .i64 0) [(0, (.t 109))]))⟩, ⟨(some 17), none, (.op (.mv (.t 110)))⟩]
def rdep_r35 : List AI := [⟨(some 18), none, (.op (.mv (.c (.int .i64 0))))⟩]
def rdep_r36 : List AI := [⟨(some 125), none, (.op (.mv (.t 18)))⟩, ⟨(some 126), none, (.op (.mv (.t 17)))⟩, ⟨(some 127), none, (.op (.len (.t 126)))⟩, ⟨(some 128), none, (.op (.ibin .lss (.t 125) (.t 127)))⟩]
def rdep_r37 : List AI := [⟨(some 131), none, (.op (.mv (.t 9)))⟩, ⟨(some 132), none, (.op (.mv (.t 17)))⟩, ⟨(some 133), none, (.op (.mv (.t 18)))⟩, ⟨(some 134), none, (.op (.idx 1 (.t 132) (.t 133)))⟩, ⟨(some 135), none, (.op (.load none (.t 134)))⟩, ⟨(some 136), none, (.op (.idx 1 (.t 131) (.t 135)))⟩, ⟨(some 137), none, (.op (.load none (.t 136)))⟩, ⟨(some 138), none, (.op (.ibin .geq (.t 137) (.c (.int .i64 0))))⟩, ⟨(some 139), none, (.op (.mv (.t 138)))⟩, ⟨(some 140), (some (139, true)), (.op (.mv (.t 9)))⟩, ⟨(some 141), (some (139, true)), (.op (.mv (.t 17)))⟩, ⟨(some 142), (some (139, true)), (.op (.mv (.t 18)))⟩, ⟨(some 143), (some (139, true)), (.op (.idx 1 (.t 141) (.t 142)))⟩, ⟨(some 144), (some (139, true)), (.op (.load none (.t 143)))⟩, ⟨(some 145), (some (139, true)), (.op (.idx 1 (.t 140) (.t 144)))⟩, ⟨(some 146), (some (139, true)), (.op (.load none (.t 145)))⟩, ⟨(some 147), (some (139, true)), (.op (.mv (.t 16)))⟩, ⟨(some 148), (some (139, true)), (.op (.ibin .neq (.t 146) (.t 147)))⟩, ⟨(some 149), none, (.op (.pick (.t 139) (.t 148) (.c (.bool false))))⟩]
def rdep_r38 : List AI := [⟨(some 4), none, (.op (.mv (.c .nils)))⟩, ⟨(some 5), none, (.op (.mv (.c (.int .i64 (-1)))))⟩, ⟨(some 6), none, (.op (.mv (.c (.int .i64 5))))⟩]
def rdep_r39 : List AI := [⟨(some 150), none, (.op (.mv (.t 9)))⟩, ⟨(some 151), none, (.op (.mv (.t 17)))⟩, ⟨(some 152), none, (.op (.mv (.t 18)))⟩, ⟨(some 153), none, (.op (.idx 1 (.t 151) (.t 152)))⟩, ⟨(some 154), none, (.op (.load none (.t 153)))⟩, ⟨(some 155), none, (.op (.idx 1 (.t 150) (.t 154)))⟩, ⟨(some 156), none, (.op (.load none (.t 155)))⟩, ⟨(some 157), none, (.op (.ibin .lss (.t 156) (.c (.int .i64 0))))⟩]
def rdep_r40 : List AI := [⟨(some 158), none, (.op (.mv (.t 9)))⟩, ⟨(some 159), none, (.op (.mv (.t 17)))⟩, ⟨(some 160), none, (.op (.mv (.t 18)))⟩, ⟨(some 161), none, (.op (.idx 1 (.t 159) (.t 160)))⟩, ⟨(some 162), none, (.op (.load none (.t 161)))⟩, ⟨(some 163), none, (.op (.mv (.t 16)))⟩, ⟨(some 164), none, (.op (.idx 1 (.t 158) (.t 162)))⟩, ⟨none, none, (.op (.store 1 (.t 164) (.t 163)))⟩]
def rdep_r41 : List AI := [⟨(some 12), none, (.op (.mv (.c (.bool true))))⟩]
def rdep_r42 : List AI := [⟨(some 129), none, (.op (.mv (.t 18)))⟩, ⟨(some 130), none, (.op (.ibin .add (.t 129) (.c (.int .i64 1))))⟩, ⟨(some 18), none, (.op (.mv (.t 130)))⟩]
def rdep_l1 : AC := (.seq (.seq (.reg rdep_r36) (.cond (.t 128) .skip (.exit 7))) (.seq (.block 8 (.seq (.seq (.reg rdep_r37) (.cond (.t 149) (.seq (.reg rdep_r38) .ret) .skip)) (.seq (.reg rdep_r39) (.cond (.t 157) (.seq (.reg rdep_r40) (.reg rdep_r41)) .skip)))) (.reg rdep_r42)))
def rdep_r43 : List AI := [⟨(some 53), none, (.op (.mv (.t 13)))⟩, ⟨(some 54), none, (.op (.ibin .add (.t 53) (.c (.int .i64 1))))⟩, ⟨(some 13), none, (.op (.mv (.t 54)))⟩]
def rdep_l2 : AC := (.seq (.seq (.reg rdep_r16) (.cond (.t 52) .skip (.exit 4))) (.seq (.block 5 (.seq (.seq (.reg rdep_r17) (.cond (.t 59) (.exit 5) .skip)) (.seq (.reg rdep_r18) (.seq (.reg rdep_r19) (.seq (.seq (.reg rdep_r20) (.cond (.t 69) (.reg rdep_r21) .skip)) (.seq (.regd rdep_r22 rdep_p22) (.seq (.seq (.reg rdep_r23) (.cond (.t 98) (.seq (.reg rdep_r24) .ret) .skip)) (.seq (.reg rdep_r25) (.seq (.reg rdep_r26) (.seq (.seq (.reg rdep_r27) (.block 6 (.seq (.reg rdep_r28) (.cond (.t 111) (.reg rdep_r29) (.seq (.reg rdep_r30) (.cond (.t 116) (.reg rdep_r31) (.seq (.reg rdep_r32) (.cond (.t 123) (.reg rdep_r33) (.reg rdep_r34))))))))) (.seq (.reg rdep_r35) (.block 7 (.loop rdep_l1))))))))))))) (.reg rdep_r43)))
def rdep_l3 : AC := (.seq (.seq (.reg rdep_r13) (.cond (.t 49) .skip (.exit 2))) (.block 3 (.seq (.reg rdep_r14) (.seq (.reg rdep_r15) (.block 4 (.loop rdep_l2))))))
def rdep_r44 : List AI := [⟨(some 165), none, (.op (.mv (.t 9)))⟩, ⟨(some 166), none, (.op (.mv (.t 11)))⟩, ⟨(some 4), none, (.op (.mv (.t 165)))⟩, ⟨(some 5), none, (.op (.mv (.t 166)))⟩, ⟨(some 6), none, (.op (.mv (.c (.int .i64 0))))⟩]
def rdep_c : AC := (.seq (.reg rdep_r0) (.seq (.seq (.reg rdep_r1) (.cond (.t 27) (.seq (.reg rdep_r2) .ret) .skip)) (.seq (.reg rdep_r3) (.seq (.reg rdep_r4) (.seq (.reg rdep_r5) (.seq (.seq (.reg rdep_r6) (.block 0 (.loop rdep_l0))) (.seq (.reg rdep_r10) (.seq (.reg rdep_r11) (.seq (.seq (.reg rdep_r12) (.block 2 (.loop rdep_l3))) (.seq (.reg rdep_r44) .ret))))))))))
def rdep_res : List ARes := [(.tmp 4), (.tmp 5), (.tmp 6)]
set_option maxRecDepth 100000 in
theorem rdep_get : getF Try.prog 38 38000 [] = some ("gavotte/gavotteref1.Depths", 167, rdep_c, rdep_res) := by kernel_rfl
def rcflow_r0 : List AI := [⟨(some 1), none, (.op (.box 37001 4 (.t 0)))⟩, ⟨(some 2), none, (.op (.mv (.c (.int .i64 0))))⟩]
def rcflow_r1 : List AI := [⟨(some 5), none, (.op (.load (some 4) (.t 1)))⟩, ⟨(some 6), none, (.call (.c (.fn 35 [])) [(.t 5)])⟩, ⟨(some 3), none, (.op (.mv (.t 6)))⟩]
def rcflow_r2 : List AI := [⟨(some 4), none, (.op (.mv (.c (.int .i64 0))))⟩]
def rcflow_r3 : List AI := [⟨(some 7), none, (.op (.mv (.t 4)))⟩, ⟨(some 8), none, (.op (.fld 0 (.t 1)))⟩, ⟨(some 9), none, (.op (.load none (.t 8)))⟩, ⟨(some 10), none, (.op (.len (.t 9)))⟩, ⟨(some 11), none, (.op (.ibin .lss (.t 7) (.t 10)))⟩, ⟨(some 12), none, (.op (.mv (.t 11)))⟩, ⟨(some 13), (some (12, true)), (.op (.mv (.t 3)))⟩, ⟨(some 14), (some (12, true)), (.op (.ibin .eql (.t 13) (.c (.int .i64 0))))⟩, ⟨(some 15), none, (.op (.pick (.t 12) (.t 14) (.c (.bool false))))⟩]
def rcflow_r4 : List AI := [⟨(some 19), none, (.op (.load (some 4) (.t 1)))⟩, ⟨(some 20), none, (.op (.mv (.t 4)))⟩, ⟨(some 21), none, (.call (.c (.fn 38 [])) [(.t 19), (.t 20)])⟩, ⟨(some 18), none, (.op (.mv (.t 21)))⟩, ⟨(some 22), none, (.op (.ext (.t 18) 0))⟩, ⟨(some 23), none, (.op (.ext (.t 18) 1))⟩, ⟨(some 24), none, (.op (.ext (.t 18) 2))⟩, ⟨(some 3), none, (.op (.mv (.t 24)))⟩]
def rcflow_r5 : List AI := [⟨(some 16), none, (.op (.mv (.t 4)))⟩, ⟨(some 17), none, (.op (.ibin .add (.t 16) (.c (.int .i64 1))))⟩, ⟨(some 4), none, (.op (.mv (.t 17)))⟩]
def rcflow_l0 : AC := (.seq (.seq (.reg rcflow_r3) (.cond (.t 15) .skip (.exit 0))) (.seq (.block 1 (.reg rcflow_r4)) (.reg rcflow_r5)))
def rcflow_r6 : List AI := [⟨(some 25), none, (.op (.mv (.t 3)))⟩, ⟨(some 2), none, (.op (.mv (.t 25)))⟩]
def rcflow_c : AC := (.seq (.reg rcflow_r0) (.seq (.reg rcflow_r1) (.seq (.seq (.reg rcflow_r2) (.block 0 (.loop rcflow_l0))) (.seq (.reg rcflow_r6) .ret))))
def rcflow_res : List ARes := [(.tmp 2)]
set_option maxRecDepth 100000 in
theorem rcflow_get : getF Try.prog 37 37000 [] = some ("gavotte/gavotteref1.CheckFlow", 26, rcflow_c, rcflow_res) := by kernel_rfl
attribute [simp] rdep_r0 rdep_r1 rdep_r2 rdep_r3 rdep_r4 rdep_r5 rdep_r6 rdep_r7 rdep_r8 rdep_r9 rdep_r10 rdep_r11 rdep_r12 rdep_r13 rdep_r14 rdep_r15 rdep_r16 rdep_r17 rdep_r18 rdep_r19 rdep_r20 rdep_r21 rdep_r22 rdep_p22 rdep_r23 rdep_r24 rdep_r25 rdep_r26 rdep_r27 rdep_r28 rdep_r29 rdep_r30 rdep_r31 rdep_r32 rdep_r33 rdep_r34 rdep_r35 rdep_r36 rdep_r37 rdep_r38 rdep_r39 rdep_r40 rdep_r41 rdep_r42 rdep_r43 rdep_r44 rdep_res rcflow_r0 rcflow_r1 rcflow_r2 rcflow_r3 rcflow_r4 rcflow_r5 rcflow_r6 rcflow_res

def rvisit1 (d : Int) (s : List Int × Bool) (k : Nat) : Option (List Int × Bool) :=
  match s.1[k]? with
  | some x => if 0 ≤ x ∧ x ≠ d then none else if x < 0 then some (s.1.set k d, true) else some s
  | none => none
def rvisitL (d : Int) : List Nat → List Int × Bool → Option (List Int × Bool)
  | [], s => some s
  | k :: ks, s => (rvisit1 d s k).bind (rvisitL d ks)
/-- Lists, the most, whether something is new. -/
structure RS where
  l : List Int
  most : Int
  again : Bool
def rstep (hs : List Hnd) (code : List Ins) (s : RS) (i : Nat) : Option RS :=
  match s.l[i]?, code[i]? with
  | some x, some c =>
    if x < 0 then some s else if x < takesV hs c ∨ x - takesV hs c + putsV c.op > 8 then none else
      match rvisitL (x - takesV hs c + putsV c.op) (nextV i c) (s.l, s.again) with
      | some r => some ⟨r.1, max (max s.most x) (x - takesV hs c + putsV c.op), r.2⟩
      | none => none
  | _, _ => none
def rpass (hs : List Hnd) (code : List Ins) : List Nat → RS → Option RS
  | [], s => some s
  | i :: is, s => (rstep hs code s i).bind (rpass hs code is)
def rgo (hs : List Hnd) (code : List Ins) : Nat → List Int → Int → Option (List Int × Int)
  | 0, _, _ => none
  | f + 1, l, most => match rpass hs code (List.range code.length) ⟨l, most, false⟩ with
    | some s => if s.again = true then rgo hs code f s.l s.most else some (s.l, s.most)
    | none => none
def rwalkV (hs : List Hnd) (code : List Ins) : Option (List Int × Int) := rgo hs code (code.length + 3) ((List.replicate (code.length + 1) (-1)).set 0 0) 0
/-- The lists are as they should be. -/
structure WfR (n : Nat) (l : List Int) : Prop where
  len : l.length = n + 1
  rng : ∀ x ∈ l, -1 ≤ x ∧ x ≤ 8
theorem rvisit1_ok {m : Nat} {d : Int} {s s' : List Int × Bool} {k : Nat} (h : rvisit1 d s k = some s') (hd : 0 ≤ d ∧ d ≤ 8) (hw : WfR m s.1) : WfR m s'.1 ∧ (s'.2 = s.2 ∧ s'.1 = s.1 ∨ s'.2 = true ∧ unr s'.1 + 1 = unr s.1) := by
  unfold rvisit1 at h
  split at h
  · rename_i x hx
    have hr := hw.rng x (List.mem_of_getElem? hx)
    split at h
    · cases h
    · split at h
      · cases h
        refine ⟨⟨by simpa using hw.len, ?_⟩, .inr ⟨rfl, unr_set _ _ _ (by rw [hx]; congr 1; omega) (by omega)⟩⟩
        intro y hy
        rcases List.mem_or_eq_of_mem_set hy with hy | hy
        · exact hw.rng y hy
        · omega
      · cases h; exact ⟨hw, .inl ⟨rfl, rfl⟩⟩
  · cases h
theorem rvisitL_ok {m : Nat} {d : Int} : ∀ {ks : List Nat} {s s' : List Int × Bool}, rvisitL d ks s = some s' → (0 ≤ d ∧ d ≤ 8) → WfR m s.1 → WfR m s'.1 ∧ (s'.2 = s.2 ∧ s'.1 = s.1 ∨ s'.2 = true ∧ unr s'.1 + 1 ≤ unr s.1)
  | [], s, s', h, _, hw => by cases h; exact ⟨hw, .inl ⟨rfl, rfl⟩⟩
  | k :: ks, s, s', h, hd, hw => by
    simp only [rvisitL, Option.bind_eq_some_iff] at h
    obtain ⟨s1, h1, h2⟩ := h
    obtain ⟨a1, a2⟩ := rvisit1_ok h1 hd hw
    obtain ⟨b1, b2⟩ := rvisitL_ok h2 hd a1
    refine ⟨b1, ?_⟩
    rcases a2 with ⟨a2, a3⟩ | ⟨a2, a3⟩ <;> rcases b2 with ⟨b2, b3⟩ | ⟨b2, b3⟩
    · exact .inl ⟨b2.trans a2, b3.trans a3⟩
    · exact .inr ⟨b2, by rw [← a3]; exact b3⟩
    · exact .inr ⟨b2.trans a2, by rw [b3]; omega⟩
    · exact .inr ⟨b2, by omega⟩

/-- A list that is a literal, or nil. -/
def IsL (v : AV) (ks : List Nat) : Prop := (v = .nils ∧ ks = []) ∨ ∃ nm st, v = .acc nm st 1 (ks.map (fun n : Nat => iv n))
def RB (S : St) (p : Prg) (code : List Ins) (l : List Int) (most : Int) (again : Bool) : Prop :=
  (∃ st, S.t 2 = .ptr 38002 st 4 0 0 ∧ S.blk 38002 = some ⟨st, 4, [p.av]⟩) ∧ S.t 7 = .lst 2 (code.map Ins.av) ∧ S.t 8 = iv code.length ∧
  (∃ st, S.t 9 = .sl 38038 st 1 0 l.length ∧ S.blk 38038 = some ⟨st, 1, l.map iv⟩) ∧ S.t 11 = iv most ∧ S.t 12 = .bool again
def RJ (p : Prg) (code : List Ins) (d : Int) (ks : List Nat) (most : Int) (i : Nat) (R : Option (List Int × Bool)) (j : Nat) (S : St) : Prop :=
  ∃ (l : List Int) (ag : Bool), rvisitL d (ks.drop j) (l, ag) = R ∧ WfR code.length l ∧ RB S p code l most ag ∧ S.t 13 = iv i ∧ S.t 16 = iv d ∧ IsL (S.t 17) ks ∧ S.t 18 = iv j
theorem rd_inner (p : Prg) (code : List Ins) (d : Int) (hd : 0 ≤ d ∧ d ≤ 8) (ks : List Nat) (hk : ∀ k ∈ ks, k ≤ code.length) (hkl : ks.length ≤ 2) (l0 : List Int) (ag0 : Bool) (most : Int) (i : Nat) (hw : WfR code.length l0)
    (κ : Ex → St → Prop) (S : St) (u : Dep κ) (hB : RB S p code l0 most ag0) (h13 : S.t 13 = iv i) (h16 : S.t 16 = iv d) (h17 : IsL (S.t 17) ks) (h18 : S.t 18 = iv 0)
    (hok : ∀ r S', rvisitL d ks (l0, ag0) = some r → RB S' p code r.1 most r.2 → S'.t 13 = iv i → κ (.exit 7) S')
    (hno : ∀ S', rvisitL d ks (l0, ag0) = none → S'.t 4 = .nils → S'.t 5 = iv (-1) → S'.t 6 = iv 5 → κ .ret S') : LoopG Try.prog rdep_l1 κ S u := by
  refine loopN (RJ p code d ks most i (rvisitL d ks (l0, ag0))) ks.length ?_ ?_
  · exact ⟨l0, ag0, rfl, hw, hB, h13, h16, h17, h18⟩
  clear hw hB h13 h16 h17 h18
  rintro j S hj ⟨l, ag, hv, hw, ⟨⟨s2, g2, b2⟩, g7, g8, ⟨s9, g9, b9⟩, g11, g12⟩, h13, h16, h17, h18⟩
  by_cases hjl : j < ks.length
  · have hdr : ks.drop j = ks[j] :: ks.drop (j + 1) := List.drop_eq_getElem_cons hjl
    have hkj := hk _ (List.getElem_mem hjl)
    have hlen := hw.len
    have hko : ks[j] < l.length := by omega
    have hr := hw.rng _ (List.getElem_mem hko)
    have e : l[ks[j]]? = some l[ks[j]] := List.getElem?_eq_getElem hko
    have wj := wrap_succ j _ hjl (by omega)
    rw [hdr] at hv
    simp only [rvisitL] at hv
    rcases h17 with ⟨_, q⟩ | ⟨nm, st, h17⟩
    · rw [q] at hjl; simp at hjl
    have hv1 : rvisit1 d (l, ag) ks[j] = if 0 ≤ l[ks[j]] ∧ l[ks[j]] ≠ d then none else if l[ks[j]] < 0 then some (l.set ks[j] d, true) else some (l, ag) := by
      unfold rvisit1; simp only [e]
    simp [rdep_l1, g2, g7, g8, g9, g11, g12, b2, b9, h13, h16, h17, h18, hjl, hko]
    refine split (fun h0 => ?_) (fun h0 => ?_)
    · simp [h0, g2, g7, g8, g9, g11, g12, b2, b9, h13, h16, h17, h18, hjl, hko]
      refine split (fun h1 => ?_) (fun h1 => ?_)
      · rw [if_neg (by omega), if_neg (by omega)] at hv1
        rw [hv1] at hv
        simp only [Option.bind_some] at hv
        have h0' : ¬ l[ks[j]] < 0 := by omega
        simp [h1, g2, g7, g8, g9, g11, g12, b2, b9, h13, h16, h17, h18, hjl, hko]
        have hd' : ¬ d < 0 := by omega
        simp [hd', h18, wj]
        exact ⟨l, ag, hv, hw, ⟨by simp [g2, b2], by simp [g7], by simp [g8], by simp [g9, b9], by simp [g11], by simp [g12]⟩, by simp [h13], by simp [h16], .inr ⟨nm, st, by simp [h17]⟩, by simp⟩
      · rw [if_pos ⟨h0, h1⟩] at hv1
        rw [hv1] at hv
        simp only [Option.bind_none] at hv
        simp [h1]
        exact hno _ hv.symm (by simp) (by simp) (by simp)
    · have h0' : l[ks[j]] < 0 := by omega
      rw [if_neg (by omega), if_pos h0'] at hv1
      rw [hv1] at hv
      simp only [Option.bind_some] at hv
      simp [h0, g2, g7, g8, g9, g11, g12, b2, b9, h13, h16, h17, h18, hjl, hko, h0']
      simp [h18, wj]
      have hw2 := (rvisit1_ok (s := (l, ag)) (s' := (l.set ks[j] d, true)) (k := ks[j]) (d := d) (m := code.length) hv1 hd hw).1
      refine ⟨l.set ks[j] d, true, hv, hw2, ⟨by simp [g2, b2], by simp [g7], by simp [g8], by simp [g9, b9, List.map_set], by simp [g11], by simp⟩, by simp [h13], by simp [h16], .inr ⟨nm, st, by simp [h17]⟩, by simp⟩
  · have hjl : j = ks.length := by omega
    subst hjl
    rw [List.drop_length] at hv
    simp only [rvisitL] at hv
    have hfin : V Try.prog rdep_l1 (Lp κ fun S'' => ks.length < ks.length ∧ RJ p code d ks most i (rvisitL d ks (l0, ag0)) (ks.length + 1) S'') S := by
      rcases h17 with ⟨h17, q⟩ | ⟨nm, st, h17⟩
      · subst q
        simp at h18
        simp [rdep_l1, h17, h18]
        exact hok _ _ hv.symm ⟨by simp [g2, b2], by simp [g7], by simp [g8], by simp [g9, b9], by simp [g11], by simp [g12]⟩ (by simp [h13])
      · simp [rdep_l1, h17, h18]
        exact hok _ _ hv.symm ⟨by simp [g2, b2], by simp [g7], by simp [g8], by simp [g9, b9], by simp [g11], by simp [g12]⟩ (by simp [h13])
    exact hfin
def RM (p : Prg) (code : List Ins) (R : Option RS) (i : Nat) (S : St) : Prop :=
  ∃ s : RS, rpass p.hs code (List.range' i (code.length - i)) s = R ∧ WfR code.length s.l ∧ RB S p code s.l s.most s.again ∧ S.t 13 = iv i
theorem rd_mid (p : Prg) (code : List Ins) (hc : codeOk p.hs code) (s0 : RS) (hw : WfR code.length s0.l)
    (κ : Ex → St → Prop) (S : St) (u : Dep κ) (hB : RB S p code s0.l s0.most s0.again) (h13 : S.t 13 = iv 0)
    (hok : ∀ (s : RS) S', rpass p.hs code (List.range code.length) s0 = some s → WfR code.length s.l → RB S' p code s.l s.most s.again → κ (.exit 4) S')
    (hno : ∀ S', rpass p.hs code (List.range code.length) s0 = none → S'.t 4 = .nils → S'.t 5 = iv (-1) → S'.t 6 = iv 5 → κ .ret S') : LoopG Try.prog rdep_l2 κ S u := by
  have hlen := hc.1
  refine loopN (RM p code (rpass p.hs code (List.range code.length) s0)) code.length ?_ ?_
  · exact ⟨s0, by rw [List.range_eq_range']; rfl, hw, hB, h13⟩
  clear hw hB h13
  rintro i S hi ⟨s, hv, hw, ⟨⟨s2, g2, b2⟩, g7, g8, ⟨s9, g9, b9⟩, g11, g12⟩, h13⟩
  by_cases hlt : i < code.length
  · have hrg : List.range' i (code.length - i) = i :: List.range' (i + 1) (code.length - (i + 1)) := by
      rw [show code.length - i = (code.length - (i + 1)) + 1 by omega, List.range'_succ]
    rw [hrg] at hv
    simp only [rpass] at hv
    have hll := hw.len
    have hil : i < s.l.length := by omega
    have e1 : s.l[i]? = some s.l[i] := List.getElem?_eq_getElem hil
    have e2 : code[i]? = some code[i] := List.getElem?_eq_getElem hlt
    have hr := hw.rng _ (List.getElem_mem hil)
    have wi := wrap_succ i _ hlt (by omega)
    simp [rdep_l2, g2, g7, g8, g9, g11, g12, b2, b9, h13, hlt, hil]
    refine split (fun h0 => ?_) (fun h0 => ?_)
    · have hst : rstep p.hs code s i = some s := by unfold rstep; simp only [e1, e2]; rw [if_pos h0]
      rw [hst] at hv
      simp only [Option.bind_some] at hv
      simp [h13, wi]
      exact ⟨s, hv, hw, ⟨by simp [g2, b2], by simp [g7], by simp [g8], by simp [g9, b9], by simp [g11], by simp [g12]⟩, by simp⟩
    · obtain ⟨hok1, hjmp⟩ := hc.2 _ (List.getElem_mem hlt)
      have htk := takesV_range hok1
      have hpt := putsV_range (code[i]).op
      have hpp := popsV_range (code[i]).op
      have hst : rstep p.hs code s i = if s.l[i] < takesV p.hs code[i] ∨ s.l[i] - takesV p.hs code[i] + putsV (code[i]).op > 8 then none else
          match rvisitL (s.l[i] - takesV p.hs code[i] + putsV (code[i]).op) (nextV i code[i]) (s.l, s.again) with
          | some r => some ⟨r.1, max (max s.most s.l[i]) (s.l[i] - takesV p.hs code[i] + putsV (code[i]).op), r.2⟩
          | none => none := by
        unfold rstep; simp only [e1, e2]; rw [if_neg h0]
      have wt : IntKind.i64.wrap (s.l[i] - takesV p.hs code[i]) = s.l[i] - takesV p.hs code[i] := wrap_in _ (by omega) (by omega)
      have wp : IntKind.i64.wrap (s.l[i] - takesV p.hs code[i] + putsV (code[i]).op) = s.l[i] - takesV p.hs code[i] + putsV (code[i]).op := wrap_in _ (by omega) (by omega)
      simp [g2, g7, g8, g9, g11, g12, b2, b9, h13, hlt, hil]
      refine call (rpops_pc (code[i]).op) (by simp) ?_
      simp
      have hks := nextV_le hc e2
      have hkl : (nextV i code[i]).length ≤ 2 := by unfold nextV; (repeat' split) <;> simp
      have ht0 : popsV (code[i]).op = takesV p.hs code[i] ∨ (code[i]).op = 22 := by
        by_cases h22 : (code[i]).op = 22
        · exact .inr h22
        · left; unfold takesV; rw [if_neg h22]; omega
      refine split (fun h22 => ?_) (fun h22 => ?_)
      · obtain ⟨k1, k2, k3, k4⟩ := hok1 h22
        have ea : argsOf p.hs (code[i]).a = p.hs[(code[i]).a.toNat].args := by simp [argsOf, k2]
        have wa : IntKind.i64.wrap (popsV (code[i]).op + p.hs[(code[i]).a.toNat].args) = takesV p.hs code[i] := by
          rw [wrap_in _ (by omega) (by omega)]; unfold takesV; rw [if_pos h22, ea]
        simp [g2, g7, g8, g9, g11, g12, b2, b9, h13, hlt, hil, k1, k2, wa]
        refine calld (rputs_pc (code[i]).op) (by simp) ?_
        simp [g2, g7, g8, g9, g11, g12, b2, b9, h13, hlt, hil, wt, wp]
        refine split (fun hn1 => ?_) (fun hn1 => ?_) <;> simp [hn1]
        · rw [if_pos (.inl hn1)] at hst
          rw [hst] at hv
          simp only [Option.bind_none] at hv
          exact hno _ hv.symm (by simp) (by simp) (by simp)
        refine split (fun hn2 => ?_) (fun hn2 => ?_) <;> simp [hn2]
        · rw [if_pos (.inr hn2)] at hst
          rw [hst] at hv
          simp only [Option.bind_none] at hv
          exact hno _ hv.symm (by simp) (by simp) (by simp)
        rw [if_neg (by omega)] at hst
        simp [g2, g7, g8, g9, g11, g12, b2, b9, h13, hlt, hil]
        generalize hn : s.l[i] - takesV p.hs code[i] + putsV (code[i]).op = d at hst wp ⊢
        have hd : 0 ≤ d ∧ d ≤ 8 := by omega
        have inner : ∀ (κ : Ex → St → Prop) (S : St) (u : Dep κ), RB S p code s.l (max (max s.most s.l[i]) d) s.again → S.t 13 = iv i → S.t 16 = iv d → IsL (S.t 17) (nextV i code[i]) → S.t 18 = iv 0 →
            (∀ s' S', rstep p.hs code s i = some s' → WfR code.length s'.l → RB S' p code s'.l s'.most s'.again → S'.t 13 = iv i → κ (.exit 7) S') → (∀ S', rstep p.hs code s i = none → S'.t 4 = .nils → S'.t 5 = iv (-1) → S'.t 6 = iv 5 → κ .ret S') → LoopG Try.prog rdep_l1 κ S u := by
          intro κ S u q1 q2 q3 q4 q5 q6 q7
          refine rd_inner p code d hd (nextV i code[i]) hks hkl s.l s.again _ i hw κ S u q1 q2 q3 q4 q5 ?_ ?_
          · intro r S' hr hB hi
            rw [hr] at hst
            exact q6 _ S' hst ((rvisitL_ok hr hd hw).1) hB hi
          · intro S' hr
            rw [hr] at hst
            exact q7 S' hst
        have goOn : ∀ (s' : RS) (S' T : St), rstep p.hs code s i = some s' → WfR code.length s'.l → RB S' p code s'.l s'.most s'.again → (∀ x, x ≠ 53 → x ≠ 54 → x ≠ 13 → T.t x = S'.t x) → T.blk = S'.blk → T.t 13 = iv ((i + 1 : Nat) : Int) → RM p code (rpass p.hs code (List.range code.length) s0) (i + 1) T := by
          intro s' S' T h1 h2 ⟨⟨a1, a2, a3⟩, a4, a5, ⟨a6, a7, a8⟩, a9, a10⟩ hT hb h4
          rw [h1] at hv
          simp only [Option.bind_some] at hv
          have e := fun x h1 h2 h3 => hT x h1 h2 h3
          exact ⟨s', hv, h2, ⟨⟨a1, by rw [e 2 (by decide) (by decide) (by decide)]; exact a2, by rw [hb]; exact a3⟩, by rw [e 7 (by decide) (by decide) (by decide)]; exact a4, by rw [e 8 (by decide) (by decide) (by decide)]; exact a5,
            ⟨a6, by rw [e 9 (by decide) (by decide) (by decide)]; exact a7, by rw [hb]; exact a8⟩, by rw [e 11 (by decide) (by decide) (by decide)]; exact a9, by rw [e 12 (by decide) (by decide) (by decide)]; exact a10⟩, h4⟩
        have stop : ∀ S', rstep p.hs code s i = none → S'.t 4 = .nils → S'.t 5 = iv (-1) → S'.t 6 = iv 5 → κ .ret S' := by
          intro S' h1
          rw [h1] at hv
          simp only [Option.bind_none] at hv
          exact hno S' hv.symm
        refine split (fun h20 => ?_) (fun h20 => ?_) <;> simp [h20]
        · have q := hjmp (.inl h20)
          refine inner _ _ _ ⟨by simp [g2, b2], by simp [g7], by simp [g8], by simp [g9, b9], by simp, by simp [g12]⟩ (by simp [h13]) (by simp) (.inr ⟨38115, _, by simp [nextV, h20, Int.toNat_of_nonneg q.1]; rfl⟩) (by simp) (fun s' S' a b c d => ?_) (fun S' a b c d => ?_)
          · simp [d, wi]
            exact goOn s' S' _ a b c (fun x h1 h2 h3 => by simp [h1, h2, h3]) rfl (by simp)
          · simp; exact stop S' a b c d
        refine split (fun h21 => ?_) (fun h21 => ?_) <;> simp [h21]
        · have q := hjmp (.inr h21)
          simp [h13, wi]
          refine inner _ _ _ ⟨by simp [g2, b2], by simp [g7], by simp [g8], by simp [g9, b9], by simp, by simp [g12]⟩ (by simp [h13]) (by simp) (.inr ⟨38122, _, by simp [nextV, h21, Int.toNat_of_nonneg q.1]; rfl⟩) (by simp) (fun s' S' a b c d => ?_) (fun S' a b c d => ?_)
          · simp [d, wi]
            exact goOn s' S' _ a b c (fun x h1 h2 h3 => by simp [h1, h2, h3]) rfl (by simp)
          · simp; exact stop S' a b c d
        refine split (fun h25 => ?_) (fun h25 => ?_) <;> simp [h25]
        · refine inner _ _ _ ⟨by simp [g2, b2], by simp [g7], by simp [g8], by simp [g9, b9], by simp, by simp [g12]⟩ (by simp [h13]) (by simp) (.inl ⟨by simp, by simp [nextV, h25]⟩) (by simp) (fun s' S' a b c d => ?_) (fun S' a b c d => ?_)
          · simp [d, wi]
            exact goOn s' S' _ a b c (fun x h1 h2 h3 => by simp [h1, h2, h3]) rfl (by simp)
          · simp; exact stop S' a b c d
        · simp [h13, wi]
          refine inner _ _ _ ⟨by simp [g2, b2], by simp [g7], by simp [g8], by simp [g9, b9], by simp, by simp [g12]⟩ (by simp [h13]) (by simp) (.inr ⟨38110, _, by simp [nextV, h20, h21, h25]; rfl⟩) (by simp) (fun s' S' a b c d => ?_) (fun S' a b c d => ?_)
          · simp [d, wi]
            exact goOn s' S' _ a b c (fun x h1 h2 h3 => by simp [h1, h2, h3]) rfl (by simp)
          · simp; exact stop S' a b c d
      · have ht1 := ht0.resolve_right h22
        rw [ht1]
        simp [g2, g7, g8, g9, g11, g12, b2, b9, h13, hlt, hil]
        refine calld (rputs_pc (code[i]).op) (by simp) ?_
        simp [g2, g7, g8, g9, g11, g12, b2, b9, h13, hlt, hil, wt, wp]
        refine split (fun hn1 => ?_) (fun hn1 => ?_) <;> simp [hn1]
        · rw [if_pos (.inl hn1)] at hst
          rw [hst] at hv
          simp only [Option.bind_none] at hv
          exact hno _ hv.symm (by simp) (by simp) (by simp)
        refine split (fun hn2 => ?_) (fun hn2 => ?_) <;> simp [hn2]
        · rw [if_pos (.inr hn2)] at hst
          rw [hst] at hv
          simp only [Option.bind_none] at hv
          exact hno _ hv.symm (by simp) (by simp) (by simp)
        rw [if_neg (by omega)] at hst
        simp [g2, g7, g8, g9, g11, g12, b2, b9, h13, hlt, hil]
        generalize hn : s.l[i] - takesV p.hs code[i] + putsV (code[i]).op = d at hst wp ⊢
        have hd : 0 ≤ d ∧ d ≤ 8 := by omega
        have inner : ∀ (κ : Ex → St → Prop) (S : St) (u : Dep κ), RB S p code s.l (max (max s.most s.l[i]) d) s.again → S.t 13 = iv i → S.t 16 = iv d → IsL (S.t 17) (nextV i code[i]) → S.t 18 = iv 0 →
            (∀ s' S', rstep p.hs code s i = some s' → WfR code.length s'.l → RB S' p code s'.l s'.most s'.again → S'.t 13 = iv i → κ (.exit 7) S') → (∀ S', rstep p.hs code s i = none → S'.t 4 = .nils → S'.t 5 = iv (-1) → S'.t 6 = iv 5 → κ .ret S') → LoopG Try.prog rdep_l1 κ S u := by
          intro κ S u q1 q2 q3 q4 q5 q6 q7
          refine rd_inner p code d hd (nextV i code[i]) hks hkl s.l s.again _ i hw κ S u q1 q2 q3 q4 q5 ?_ ?_
          · intro r S' hr hB hi
            rw [hr] at hst
            exact q6 _ S' hst ((rvisitL_ok hr hd hw).1) hB hi
          · intro S' hr
            rw [hr] at hst
            exact q7 S' hst
        have goOn : ∀ (s' : RS) (S' T : St), rstep p.hs code s i = some s' → WfR code.length s'.l → RB S' p code s'.l s'.most s'.again → (∀ x, x ≠ 53 → x ≠ 54 → x ≠ 13 → T.t x = S'.t x) → T.blk = S'.blk → T.t 13 = iv ((i + 1 : Nat) : Int) → RM p code (rpass p.hs code (List.range code.length) s0) (i + 1) T := by
          intro s' S' T h1 h2 ⟨⟨a1, a2, a3⟩, a4, a5, ⟨a6, a7, a8⟩, a9, a10⟩ hT hb h4
          rw [h1] at hv
          simp only [Option.bind_some] at hv
          have e := fun x h1 h2 h3 => hT x h1 h2 h3
          exact ⟨s', hv, h2, ⟨⟨a1, by rw [e 2 (by decide) (by decide) (by decide)]; exact a2, by rw [hb]; exact a3⟩, by rw [e 7 (by decide) (by decide) (by decide)]; exact a4, by rw [e 8 (by decide) (by decide) (by decide)]; exact a5,
            ⟨a6, by rw [e 9 (by decide) (by decide) (by decide)]; exact a7, by rw [hb]; exact a8⟩, by rw [e 11 (by decide) (by decide) (by decide)]; exact a9, by rw [e 12 (by decide) (by decide) (by decide)]; exact a10⟩, h4⟩
        have stop : ∀ S', rstep p.hs code s i = none → S'.t 4 = .nils → S'.t 5 = iv (-1) → S'.t 6 = iv 5 → κ .ret S' := by
          intro S' h1
          rw [h1] at hv
          simp only [Option.bind_none] at hv
          exact hno S' hv.symm
        refine split (fun h20 => ?_) (fun h20 => ?_) <;> simp [h20]
        · have q := hjmp (.inl h20)
          refine inner _ _ _ ⟨by simp [g2, b2], by simp [g7], by simp [g8], by simp [g9, b9], by simp, by simp [g12]⟩ (by simp [h13]) (by simp) (.inr ⟨38115, _, by simp [nextV, h20, Int.toNat_of_nonneg q.1]; rfl⟩) (by simp) (fun s' S' a b c d => ?_) (fun S' a b c d => ?_)
          · simp [d, wi]
            exact goOn s' S' _ a b c (fun x h1 h2 h3 => by simp [h1, h2, h3]) rfl (by simp)
          · simp; exact stop S' a b c d
        refine split (fun h21 => ?_) (fun h21 => ?_) <;> simp [h21]
        · have q := hjmp (.inr h21)
          simp [h13, wi]
          refine inner _ _ _ ⟨by simp [g2, b2], by simp [g7], by simp [g8], by simp [g9, b9], by simp, by simp [g12]⟩ (by simp [h13]) (by simp) (.inr ⟨38122, _, by simp [nextV, h21, Int.toNat_of_nonneg q.1]; rfl⟩) (by simp) (fun s' S' a b c d => ?_) (fun S' a b c d => ?_)
          · simp [d, wi]
            exact goOn s' S' _ a b c (fun x h1 h2 h3 => by simp [h1, h2, h3]) rfl (by simp)
          · simp; exact stop S' a b c d
        refine split (fun h25 => ?_) (fun h25 => ?_) <;> simp [h25]
        · refine inner _ _ _ ⟨by simp [g2, b2], by simp [g7], by simp [g8], by simp [g9, b9], by simp, by simp [g12]⟩ (by simp [h13]) (by simp) (.inl ⟨by simp, by simp [nextV, h25]⟩) (by simp) (fun s' S' a b c d => ?_) (fun S' a b c d => ?_)
          · simp [d, wi]
            exact goOn s' S' _ a b c (fun x h1 h2 h3 => by simp [h1, h2, h3]) rfl (by simp)
          · simp; exact stop S' a b c d
        · simp [h13, wi]
          refine inner _ _ _ ⟨by simp [g2, b2], by simp [g7], by simp [g8], by simp [g9, b9], by simp, by simp [g12]⟩ (by simp [h13]) (by simp) (.inr ⟨38110, _, by simp [nextV, h20, h21, h25]; rfl⟩) (by simp) (fun s' S' a b c d => ?_) (fun S' a b c d => ?_)
          · simp [d, wi]
            exact goOn s' S' _ a b c (fun x h1 h2 h3 => by simp [h1, h2, h3]) rfl (by simp)
          · simp; exact stop S' a b c d
  · have e : i = code.length := by omega
    subst e
    rw [Nat.sub_self] at hv
    simp only [List.range'_zero, rpass] at hv
    simp [rdep_l2, g2, g7, g8, g9, g11, g12, b2, b9, h13]
    exact hok s _ hv.symm hw ⟨by simp [g2, b2], by simp [g7], by simp [g8], by simp [g9, b9], by simp [g11], by simp [g12]⟩

theorem rstep_ok {hs : List Hnd} {code : List Ins} {m : Nat} {s s' : RS} {i : Nat} (h : rstep hs code s i = some s') (hc : codeOk hs code) (hw : WfR m s.l) : WfR m s'.l ∧ (s'.again = s.again ∧ s'.l = s.l ∨ s'.again = true ∧ unr s'.l + 1 ≤ unr s.l) := by
  unfold rstep at h
  split at h
  · rename_i x c hx hcc
    split at h
    · cases h; exact ⟨hw, .inl ⟨rfl, rfl⟩⟩
    · split at h
      · cases h
      · rename_i h1 h2
        have hp := putsV_range c.op
        split at h
        · rename_i r hr
          cases h
          exact rvisitL_ok hr (by omega) hw
        · cases h
  · cases h
theorem rpass_ok {hs : List Hnd} {code : List Ins} {m : Nat} (hc : codeOk hs code) : ∀ {is : List Nat} {s s' : RS}, rpass hs code is s = some s' → WfR m s.l → WfR m s'.l ∧ (s'.again = s.again ∧ s'.l = s.l ∨ s'.again = true ∧ unr s'.l + 1 ≤ unr s.l)
  | [], s, s', h, hw => by cases h; exact ⟨hw, .inl ⟨rfl, rfl⟩⟩
  | i :: is, s, s', h, hw => by
    simp only [rpass, Option.bind_eq_some_iff] at h
    obtain ⟨s1, h1, h2⟩ := h
    obtain ⟨a1, a2⟩ := rstep_ok h1 hc hw
    obtain ⟨b1, b2⟩ := rpass_ok hc h2 a1
    refine ⟨b1, ?_⟩
    rcases a2 with ⟨a2, a3⟩ | ⟨a2, a3⟩ <;> rcases b2 with ⟨b2, b3⟩ | ⟨b2, b3⟩
    · exact .inl ⟨b2.trans a2, b3.trans a3⟩
    · exact .inr ⟨b2, by rw [← a3]; exact b3⟩
    · exact .inr ⟨b2.trans a2, by rw [b3]; omega⟩
    · exact .inr ⟨b2, by omega⟩
def rdepV (p : Prg) (h : Int) : List Int × Int × Int :=
  if h < 0 ∨ h ≥ p.hs.length then ([], -1, 7) else match p.hs[h.toNat]? with
    | some x => match rwalkV p.hs x.code with
      | some r => (r.1, r.2, 0)
      | none => ([], -1, 5)
    | none => ([], -1, 7)
def rdAV : Option (List Int × Int) → AV
  | some r => .tup [ints r.1, iv r.2, iv 0]
  | none => .tup [ints [], iv (-1), iv 5]
def RO (p : Prg) (code : List Ins) (R : Option (List Int × Int)) (f : Nat) (S : St) : Prop :=
  ∃ (l : List Int) (most : Int) (ag : Bool), RB S p code l most ag ∧ WfR code.length l ∧ (ag = true → rgo p.hs code f l most = R ∧ unr l < f) ∧ (ag = false → some (l, most) = R)
set_option maxHeartbeats 1000000 in
set_option maxRecDepth 10000 in
theorem rdep_pc (p : Prg) (h : Int) (hc : ∀ x ∈ p.hs, codeOk p.hs x.code) : PC Try.prog 38 [p.av, iv h] (.tup [ints (rdepV p h).1, iv (rdepV p h).2.1, iv (rdepV p h).2.2]) := by
  refine pc_of_get rdep_get (by simp) _ (by simp) _ ?_
  unfold rdep_c
  simp
  refine split (fun h1 => ?_) (fun h1 => ?_) <;> simp [h1]
  · simp [rdepV, h1]
  refine split (fun h2 => ?_) (fun h2 => ?_) <;> simp [h2]
  · simp [rdepV, h1, h2]
  have h0 : 0 ≤ h := by omega
  have hlt : h.toNat < p.hs.length := by omega
  have e : p.hs[h.toNat]? = some p.hs[h.toNat] := List.getElem?_eq_getElem hlt
  have hd : AV.tup [ints (rdepV p h).1, iv (rdepV p h).2.1, iv (rdepV p h).2.2] = rdAV (rwalkV p.hs p.hs[h.toNat].code) := by
    have : rdepV p h = match rwalkV p.hs p.hs[h.toNat].code with | some r => (r.1, r.2, 0) | none => ([], -1, 5) := by
      simp only [rdepV, e]; rw [if_neg (by omega)]
    rw [this]
    cases rwalkV p.hs p.hs[h.toNat].code <;> rfl
  rw [hd]
  have hc' := hc _ (List.getElem_mem hlt)
  have hlen := hc'.1
  simp [h0, hlt]
  generalize hcode : p.hs[h.toNat].code = code at hc' hlen ⊢
  have w1 : IntKind.i64.wrap ((code.length : Int) + 1) = (code.length : Int) + 1 := wrap_in _ (by omega) (by omega)
  have hnn : (0 : Int) ≤ (code.length : Int) + 1 := by omega
  have hby : (code.length + 1) * 8 ≤ 140737488355328 := by omega
  have htn : ((code.length : Int) + 1).toNat = code.length + 1 := by omega
  simp [w1, hnn, hby, htn]
  refine loopN (fun i S => (∃ st, S.t 2 = .ptr 38002 st 4 0 0 ∧ S.blk 38002 = some ⟨st, 4, [p.av]⟩) ∧ S.t 7 = .lst 2 (code.map Ins.av) ∧ S.t 8 = iv code.length ∧
    (∃ st, S.t 9 = .sl 38038 st 1 0 (code.length + 1) ∧ S.blk 38038 = some ⟨st, 1, List.replicate i (iv (-1)) ++ List.replicate (code.length + 1 - i) (iv 0)⟩) ∧ S.t 10 = iv i) (code.length + 1) ?_ ?_
  · simp
  · rintro i S hi ⟨⟨s2, g2, b2⟩, g7, g8, ⟨s9, g9, b9⟩, g10⟩
    by_cases hil : i < code.length + 1
    · have hle : (i : Int) ≤ code.length := by omega
      have wi := wrap_succ i _ hil (by omega)
      have hset : List.replicate i (iv (-1)) ++ (List.replicate (code.length + 1 - i) (iv 0)).set 0 (iv (-1)) = List.replicate (i + 1) (iv (-1)) ++ List.replicate (code.length - i) (iv 0) := by
        rw [show code.length + 1 - i = (code.length - i) + 1 by omega, List.replicate_succ, List.set_cons_zero, List.replicate_succ', List.append_assoc]; rfl
      have hget : (List.replicate i (iv (-1)) ++ List.replicate (code.length + 1 - i) (iv 0))[i]? = some (iv 0) := by
        rw [List.getElem?_append_right (by simp), List.length_replicate, Nat.sub_self, List.getElem?_replicate]; rw [if_pos (by omega)]
      simp [rdep_l0, g2, g7, g8, g9, g10, b2, b9, hle, hil, wi, hget, hset]
    · have hi2 : i = code.length + 1 := by omega
      subst hi2
      have hnle : ¬ ((code.length : Int) + 1 ≤ code.length) := by omega
      simp at b9 g10
      simp [rdep_l0, g2, g7, g8, g9, g10, b2, b9, hnle]
      have hw0 : WfR code.length ((List.replicate (code.length + 1) (-1)).set 0 0) := by
        refine ⟨by simp, fun x hx => ?_⟩
        rcases List.mem_or_eq_of_mem_set hx with hx | hx
        · have := List.eq_of_mem_replicate hx; omega
        · omega
      refine loopM (RO p code (rwalkV p.hs code)) (code.length + 3) ?_ ?_
      · refine ⟨(List.replicate (code.length + 1) (-1)).set 0 0, 0, true, ⟨by simp [g2, b2], by simp [g7], by simp [g8], by simp [g9, List.map_set], by simp, by simp⟩, hw0, fun _ => ⟨rfl, ?_⟩, by simp⟩
        simp [unr, List.replicate_succ, List.countP_replicate]
      · clear g2 g7 g8 g9 g10 b2 b9 hnle hw0
        rintro f S ⟨l, most, ag, ⟨⟨s2, g2, b2⟩, g7, g8, ⟨s9, g9, b9⟩, g11, g12⟩, hw, h1, h2⟩
        cases ag with
        | false =>
          have := h2 rfl
          have hl := list_ints l S.blk 38038 s9 b9
          simp [rdep_l3, g2, g7, g8, g9, g11, g12, b2, b9, ← this, rdAV, hl, ints]
        | true =>
          obtain ⟨q1, q2⟩ := h1 rfl
          obtain ⟨f, rfl⟩ : ∃ f', f = f' + 1 := ⟨f - 1, by omega⟩
          simp only [rgo] at q1
          simp [rdep_l3, g2, g7, g8, g9, g11, g12, b2, b9]
          refine rd_mid p code hc' ⟨l, most, false⟩ hw _ _ _ ⟨by simp [g2, b2], by simp [g7], by simp [g8], by simp [g9, b9], by simp [g11], by simp⟩ (by simp) ?_ ?_
          · intro s S' hs hws hB
            rw [hs] at q1
            simp only at q1
            obtain ⟨_, hun⟩ := rpass_ok hc' hs hw
            simp only at hun
            simp
            by_cases hag : s.again = true
            · rw [if_pos hag] at q1
              rcases hun with ⟨hu, _⟩ | ⟨_, hu⟩
              · rw [hag] at hu; cases hu
              · exact ⟨f, by omega, s.l, s.most, s.again, hB, hws, fun _ => ⟨q1, by omega⟩, fun q => by rw [hag] at q; cases q⟩
            · rw [if_neg hag] at q1
              exact ⟨f, by omega, s.l, s.most, s.again, hB, hws, fun q => absurd q hag, fun _ => q1⟩
          · intro S' hs h4 h5 h6
            rw [hs] at q1
            simp only at q1
            simp [← q1, rdAV, h4, h5, h6]

def rflowGo (p : Prg) : List Int → Int → Int
  | [], e => e
  | h :: l, e => if e = 0 then rflowGo p l (rdepV p h).2.2 else e
def rflowV (p : Prg) : Int := rflowGo p ((List.range p.hs.length).map fun n : Nat => (n : Int)) (checkV p)
theorem rcflow_pc (p : Prg) (hl : p.hs.length < 1000000) : PC Try.prog 37 [p.av] (iv (rflowV p)) := by
  refine pc_of_get rcflow_get (by simp) _ (by simp) _ ?_
  unfold rcflow_c
  simp
  refine call (rcheck_pc p) (by simp) ?_
  simp
  refine loopN (fun i S => ∃ e : Int, (e = 0 → checkV p = 0) ∧ rflowGo p ((List.range' i (p.hs.length - i)).map fun n : Nat => (n : Int)) e = rflowV p ∧ (∃ st, S.t 1 = .ptr 37001 st 4 0 0 ∧ S.blk 37001 = some ⟨st, 4, [p.av]⟩) ∧ S.t 3 = iv e ∧ S.t 4 = iv i) p.hs.length ?_ ?_
  · exact ⟨checkV p, fun h => h, by rw [rflowV, List.range_eq_range']; rfl, by simp, by simp, by simp⟩
  · rintro i S hi ⟨e, h0, hv, ⟨st, g1, b1⟩, g3, g4⟩
    by_cases hlt : i < p.hs.length
    · rw [show p.hs.length - i = (p.hs.length - (i + 1)) + 1 by omega, List.range'_succ, List.map_cons, rflowGo] at hv
      have wi := wrap_succ i _ hlt (by omega)
      simp [rcflow_l0, g1, b1, g3, g4, hlt]
      refine split (fun he => ?_) (fun he => ?_) <;> simp [he]
      · rw [if_pos he] at hv
        have hc := h0 he
        simp [g1, b1, g4]
        refine call (rdep_pc p i (fun x hx => codeOk_of hc hx)) (by simp) ?_
        simp [g4, wi]
        exact ⟨_, fun _ => hc, hv, by simp [g1, b1]⟩
      · rw [if_neg he] at hv
        simp [g3, hv]
    · have e1 : i = p.hs.length := by omega
      subst e1
      rw [Nat.sub_self] at hv
      simp [rflowGo] at hv
      simp [rcflow_l0, g1, b1, g3, g4, hv]

end Go.Gv

/- The program's walk and the reference's passes come to the same depths, and the same greatest one. The code's instructions may be looked at (codeOk). -/
set_option linter.unusedVariables false
set_option linter.unusedSimpArgs false
namespace Go.Gv
open Go.Proofs

section
variable {hs : List Hnd} {code : List Ins}
/-- A place that is reached with so many numbers. -/
inductive Rch (hs : List Hnd) (code : List Ins) : Nat → Int → Prop
  | start : Rch hs code 0 0
  | step {a : Nat} {d : Int} {i : Ins} {k : Nat} (h : Rch hs code a d) (hi : code[a]? = some i) (h1 : takesV hs i ≤ d) (h2 : d - takesV hs i + putsV i.op ≤ 8) (hk : k ∈ nextV a i) : Rch hs code k (d - takesV hs i + putsV i.op)
/-- What is told of a reached place's instruction. -/
def Cl (hs : List Hnd) (out : List Int) (most : Int) (a : Nat) (d : Int) (i : Ins) : Prop :=
  takesV hs i ≤ d ∧ d - takesV hs i + putsV i.op ≤ 8 ∧ (∀ k ∈ nextV a i, out[k]? = some (d - takesV hs i + putsV i.op)) ∧ d ≤ most ∧ d - takesV hs i + putsV i.op ≤ most
structure FInv (hs : List Hnd) (code : List Ins) (out : List Int) (most : Int) : Prop where
  len : out.length = code.length + 1
  zero : out[0]? = some 0
  sound : ∀ (a : Nat) (d : Int), out[a]? = some d → d ≠ -1 → Rch hs code a d ∧ 0 ≤ d
  att : most = 0 ∨ ∃ (a : Nat) (d : Int) (i : Ins), out[a]? = some d ∧ d ≠ -1 ∧ code[a]? = some i ∧ (most = d ∨ most = d - takesV hs i + putsV i.op)
  m0 : 0 ≤ most
structure Good (hs : List Hnd) (code : List Ins) (out : List Int) (most : Int) extends FInv hs code out most where
  closed : ∀ (a : Nat) (d : Int) (i : Ins), out[a]? = some d → d ≠ -1 → code[a]? = some i → Cl hs out most a d i
def Bad (hs : List Hnd) (code : List Ins) : Prop :=
  (∃ (a : Nat) (d : Int) (i : Ins), Rch hs code a d ∧ code[a]? = some i ∧ (d < takesV hs i ∨ d - takesV hs i + putsV i.op > 8)) ∨ ∃ k d e, Rch hs code k d ∧ Rch hs code k e ∧ d ≠ e
theorem Good.rch {out : List Int} {most : Int} (hg : Good hs code out most) {a : Nat} {d : Int} (h : Rch hs code a d) : out[a]? = some d ∧ 0 ≤ d := by
  induction h with
  | start => exact ⟨hg.zero, Int.le_refl _⟩
  | step h hi h1 h2 hk ih =>
    have := putsV_range ‹Ins›.op
    exact ⟨(hg.closed _ _ _ ih.1 (by omega) hi).2.2.1 _ hk, by omega⟩
theorem Good.not_bad {out : List Int} {most : Int} (hg : Good hs code out most) : ¬ Bad hs code := by
  rintro (⟨a, d, i, h, hi, hb⟩ | ⟨k, d, e, h1, h2, hne⟩)
  · obtain ⟨h1, h2⟩ := hg.rch h
    have := hg.closed a d i h1 (by omega) hi
    have := this.1; have := this
    have q := hg.closed a d i h1 (by omega) hi
    have q2 := q.2.1
    omega
  · have a1 := (hg.rch h1).1
    have a2 := (hg.rch h2).1
    rw [a1] at a2
    exact hne (Option.some.inj a2)
theorem Good.most_le {o p : List Int} {m n : Int} (h : Good hs code o m) (k : Good hs code p n) : m ≤ n := by
  rcases h.att with e | ⟨a, d, i, h1, h2, h3, h4⟩
  · rw [e]; exact k.m0
  · obtain ⟨q1, q2⟩ := h.sound a d h1 h2
    have r := (k.rch q1).1
    obtain ⟨_, _, _, c4, c5⟩ := k.closed a d i r h2 h3
    rcases h4 with e | e <;> omega
theorem Good.uniq {o p : List Int} {m n : Int} (h : Good hs code o m) (k : Good hs code p n) : o = p ∧ m = n := by
  refine ⟨?_, by have := h.most_le k; have := k.most_le h; omega⟩
  refine List.ext_getElem? (fun a => ?_)
  by_cases hl : a < code.length + 1
  · have l1 : a < o.length := by rw [h.len]; exact hl
    have l2 : a < p.length := by rw [k.len]; exact hl
    have e1 : o[a]? = some o[a] := List.getElem?_eq_getElem l1
    have e2 : p[a]? = some p[a] := List.getElem?_eq_getElem l2
    by_cases h1 : o[a] = -1
    · by_cases h2 : p[a] = -1
      · rw [e1, e2, h1, h2]
      · have := (h.rch (k.sound a _ e2 h2).1).1
        rw [this, e2]
    · have := (k.rch (h.sound a _ e1 h1).1).1
      rw [this, e1]
  · rw [List.getElem?_eq_none (by rw [h.len]; omega), List.getElem?_eq_none (by rw [k.len]; omega)]

/-! ### The program's walk -/

/-- What a visit leaves: what was known stays, what is new is in the queue. -/
structure Ext (n : Int) (out out' : List Int) (Q : Nat → Prop) : Prop where
  len : out'.length = out.length
  keep : ∀ (a : Nat) (d : Int), out[a]? = some d → d ≠ -1 → out'[a]? = some d
  new : ∀ (a : Nat) (d : Int), out'[a]? = some d → d ≠ -1 → out[a]? = some d ∨ (d = n ∧ Q a)
theorem Ext.refl (n : Int) (out : List Int) (Q : Nat → Prop) : Ext n out out Q := ⟨rfl, fun _ _ h _ => h, fun _ _ h _ => .inl h⟩
theorem Ext.trans {n : Int} {a b c : List Int} {Q R : Nat → Prop} (h : Ext n a b Q) (k : Ext n b c R) (hq : ∀ x, Q x → R x) : Ext n a c R :=
  ⟨k.len.trans h.len, fun x d h1 h2 => k.keep x d (h.keep x d h1 h2) h2, fun x d h1 h2 => (k.new x d h1 h2).elim (fun q => (h.new x d q h2).imp id (fun r => ⟨r.1, hq _ r.2⟩)) .inr⟩
theorem Ext.set {n : Int} {out : List Int} {k : Nat} (h : out[k]? = some (-1)) (Q : Nat → Prop) (hq : Q k) : Ext n out (out.set k n) Q := by
  refine ⟨by simp, fun a d h1 h2 => ?_, fun a d h1 h2 => ?_⟩
  · rw [List.getElem?_set]
    split
    · rename_i e; subst e; rw [h] at h1; cases h1; exact absurd rfl h2
    · exact h1
  · rw [List.getElem?_set] at h1
    split at h1
    · rename_i e; subst e
      split at h1
      · cases h1; exact .inr ⟨rfl, hq⟩
      · cases h1
    · exact .inl h1
theorem visitL_ext {n : Int} : ∀ {ks : List Nat} {s s' : List Int × List Nat}, visitL n ks s = some s' → (n ≠ -1) →
    Ext n s.1 s'.1 (· ∈ s'.2) ∧ (∀ a ∈ s.2, a ∈ s'.2) ∧ (∀ a ∈ s'.2, a ∈ s.2 ∨ s'.1[a]? = some n) ∧ (∀ k ∈ ks, s'.1[k]? = some n)
  | [], s, s', h, _ => by cases h; exact ⟨.refl _ _ _, fun _ h => h, fun _ h => .inl h, by simp⟩
  | k :: ks, s, s', h, hn => by
    simp only [visitL, Option.bind_eq_some_iff] at h
    obtain ⟨s1, h1, h2⟩ := h
    obtain ⟨b1, b2, b3, b4⟩ := visitL_ext h2 hn
    have key : Ext n s.1 s1.1 (· ∈ s1.2) ∧ (∀ a ∈ s.2, a ∈ s1.2) ∧ (∀ a ∈ s1.2, a ∈ s.2 ∨ s1.1[a]? = some n) ∧ s1.1[k]? = some n := by
      unfold visit1 at h1
      split at h1
      · rename_i hk
        cases h1
        have hlt := (List.getElem?_eq_some_iff.1 hk).1
        have hset : (s.1.set k n)[k]? = some n := by rw [List.getElem?_set_self hlt]
        refine ⟨.set hk _ (by simp), fun a ha => by simp [ha], fun a ha => ?_, hset⟩
        simp at ha
        rcases ha with ha | ha
        · exact .inl ha
        · subst ha; exact .inr hset
      · split at h1
        · rename_i hk; cases h1; exact ⟨.refl _ _ _, fun _ h => h, fun _ h => .inl h, hk⟩
        · cases h1
    obtain ⟨a1, a2, a3, a4⟩ := key
    refine ⟨a1.trans b1 b2, fun a ha => b2 a (a2 a ha), fun a ha => ?_, fun x hx => ?_⟩
    · rcases b3 a ha with q | q
      · exact (a3 a q).imp id (fun r => b1.keep a n r hn)
      · exact .inr q
    · rcases List.mem_cons.1 hx with rfl | hx
      · exact b1.keep _ n a4 hn
      · exact b4 x hx
/-- A visit sets only what it is told to. -/
theorem visit_only {n : Int} : ∀ {ks : List Nat} {s s' : List Int × List Nat}, visitL n ks s = some s' → ∀ (x : Nat) (d : Int), s'.1[x]? = some d → d ≠ -1 → s.1[x]? = some d ∨ x ∈ ks
  | [], s, s', h, x, d, h1, _ => by cases h; exact .inl h1
  | k :: ks, s, s', h, x, d, h1, h2 => by
    simp only [visitL, Option.bind_eq_some_iff] at h
    obtain ⟨s1, q1, q2⟩ := h
    rcases visit_only q2 x d h1 h2 with r | r
    · unfold visit1 at q1
      split at q1
      · cases q1
        rw [List.getElem?_set] at r
        split at r
        · rename_i e; subst e; exact .inr (by simp)
        · exact .inl r
      · split at q1
        · cases q1; exact .inl r
        · cases q1
    · exact .inr (by simp [r])
theorem visitL_none {n : Int} : ∀ {ks : List Nat} {s : List Int × List Nat}, visitL n ks s = none → (n ≠ -1) → (∀ k ∈ ks, k < s.1.length) → ∃ k ∈ ks, ∃ d, s.1[k]? = some d ∧ d ≠ -1 ∧ d ≠ n
  | [], s, h, _, _ => by cases h
  | k :: ks, s, h, hn, hl => by
    simp only [visitL, Option.bind_eq_none_iff] at h
    have hkl : k < s.1.length := hl k (by simp)
    have hk : s.1[k]? = some s.1[k] := List.getElem?_eq_getElem hkl
    cases h1 : visit1 n s k with
    | none =>
      unfold visit1 at h1
      split at h1
      · cases h1
      · rename_i q1
        split at h1
        · cases h1
        · rename_i q2
          rw [hk] at q1 q2
          exact ⟨k, by simp, _, hk, fun e => q1 (by rw [e]), fun e => q2 (by rw [e])⟩
    | some s1 =>
      have e1 : Ext n s.1 s1.1 (· ∈ s1.2) := (visitL_ext (ks := [k]) (s := s) (s' := s1) (by simp [visitL, h1]) hn).1
      obtain ⟨x, hx, d, q1, q2, q3⟩ := visitL_none (h s1 h1) hn (fun x hx => by rw [e1.len]; exact hl x (by simp [hx]))
      rcases e1.new x d q1 q2 with r | r
      · exact ⟨x, by simp [hx], d, r, q2, q3⟩
      · exact absurd r.1 q3

/-- The walk's queue holds what is not yet gone into. -/
structure WInv (hs : List Hnd) (code : List Ins) (out : List Int) (left : List Nat) (most : Int) extends FInv hs code out most where
  q : ∀ a ∈ left, ∃ d, out[a]? = some d ∧ d ≠ -1
  cl : ∀ (a : Nat) (d : Int) (i : Ins), out[a]? = some d → d ≠ -1 → code[a]? = some i → a ∈ left ∨ Cl hs out most a d i
theorem walk_law (hc : codeOk hs code) : ∀ (f : Nat) (out : List Int) (left : List Nat) (most : Int), WInv hs code out left most → WfW code.length out left → unr out + left.length < f →
    (∃ o m, walkGo hs code f out left most = some (o, m) ∧ Good hs code o m) ∨ (walkGo hs code f out left most = none ∧ Bad hs code)
  | 0, _, _, _, _, _, h => by omega
  | f + 1, out, [], most, hI, _, _ => .inl ⟨out, most, rfl, ⟨hI.toFInv, fun a d i h1 h2 h3 => (hI.cl a d i h1 h2 h3).resolve_left (by simp)⟩⟩
  | f + 1, out, a :: left, most, hI, hw, hf => by
    simp only [List.length_cons] at hf
    have hw' : WfW code.length out left := ⟨hw.len, hw.rng, fun x hx => hw.q x (by simp [hx])⟩
    rw [walkGo]
    by_cases ha : a = code.length
    · rw [if_pos ha]
      refine walk_law hc f out left most ⟨hI.toFInv, fun x hx => hI.q x (by simp [hx]), fun x d i h1 h2 h3 => ?_⟩ hw' (by omega)
      rcases hI.cl x d i h1 h2 h3 with q | q
      · rcases List.mem_cons.1 q with q | q
        · have := (List.getElem?_eq_some_iff.1 h3).1; omega
        · exact .inl q
      · exact .inr q
    · rw [if_neg ha]
      have hal := hw.q a (by simp)
      have hlt : a < code.length := by omega
      have hi : code[a]? = some code[a] := List.getElem?_eq_getElem hlt
      obtain ⟨d, hd, hd1⟩ := hI.q a (by simp)
      obtain ⟨hr, hd0⟩ := hI.sound a d hd hd1
      have hp := putsV_range (code[a]).op
      have htk := takesV_range (hc.2 _ (List.getElem_mem hlt)).1
      simp only [hi, hd]
      by_cases hb : d - takesV hs code[a] < 0 ∨ d - takesV hs code[a] + putsV (code[a]).op > 8
      · rw [if_pos hb]
        exact .inr ⟨rfl, .inl ⟨a, d, _, hr, hi, by omega⟩⟩
      · rw [if_neg hb]
        have hks := nextV_le hc hi
        have hrk : ∀ k ∈ nextV a code[a], Rch hs code k (d - takesV hs code[a] + putsV (code[a]).op) := fun k hk => .step hr hi (by omega) (by omega) hk
        generalize hn : d - takesV hs code[a] + putsV (code[a]).op = n at hb hrk ⊢
        have hn0 : 0 ≤ n ∧ n ≤ 8 := by omega
        cases hv : visitL n (nextV a code[a]) (out, left) with
        | none =>
          obtain ⟨k, hk, e, h1, h2, h3⟩ := visitL_none hv (by omega) (fun k hk => by have := hks k hk; have := hI.len; simp only; omega)
          exact .inr ⟨rfl, .inr ⟨k, e, n, (hI.sound k e h1 h2).1, hrk k hk, h3⟩⟩
        | some s =>
          obtain ⟨b1, b2, b3, b4⟩ := visitL_ext hv (by omega)
          obtain ⟨w1, w2⟩ := visitL_ok hv hks hn0 hw'
          simp only at b1 b2 w2
          have hrd := hw.rng d (List.mem_of_getElem? hd)
          refine walk_law hc f s.1 s.2 _ ⟨⟨by rw [b1.len]; exact hI.len, b1.keep 0 0 hI.zero (by omega), ?_, ?_, by have := hI.m0; omega⟩, ?_, ?_⟩ w1 (by omega)
          · intro x e h1 h2
            rcases b1.new x e h1 h2 with q | ⟨q, q'⟩
            · exact hI.sound x e q h2
            · subst q
              rcases visit_only hv x e h1 h2 with r | r
              · exact hI.sound x e r h2
              · exact ⟨hrk x r, hn0.1⟩
          · rcases Int.lt_or_le most (max d n) with hm | hm
            · refine .inr ⟨a, d, _, b1.keep a d hd hd1, hd1, hi, ?_⟩
              rw [hn]; omega
            · have e : max (max most d) n = most := by omega
              rw [e]
              rcases hI.att with q | ⟨x, e, i, h1, h2, h3, h4⟩
              · exact .inl q
              · exact .inr ⟨x, e, i, b1.keep x e h1 h2, h2, h3, h4⟩
          · intro x hx
            rcases b3 x hx with q | q
            · obtain ⟨e, h1, h2⟩ := hI.q x (by simp only at q; simp [q])
              exact ⟨e, b1.keep x e h1 h2, h2⟩
            · exact ⟨n, q, by omega⟩
          · intro x e i h1 h2 h3
            rcases b1.new x e h1 h2 with q | ⟨q, q'⟩
            · by_cases hxa : x = a
              · subst hxa
                rw [hd] at q; cases q
                rw [hi] at h3; cases h3
                refine .inr ⟨by omega, by omega, fun k hk => ?_, by omega, by omega⟩
                rw [hn]; exact b4 k hk
              · rcases hI.cl x e i q h2 h3 with r | ⟨c1, c2, c3, c4, c5⟩
                · rcases List.mem_cons.1 r with r | r
                  · exact absurd r hxa
                  · exact .inl (b2 x r)
                · have := putsV_range i.op
                  exact .inr ⟨c1, c2, fun k hk => b1.keep k _ (c3 k hk) (by omega), by omega, by omega⟩
            · exact .inl q'

/-! ### The reference's passes -/

theorem rvisitL_ext {d : Int} : ∀ {ks : List Nat} {s s' : List Int × Bool}, rvisitL d ks s = some s' → (0 ≤ d) → (∀ x ∈ s.1, -1 ≤ x) →
    Ext d s.1 s'.1 (· ∈ ks) ∧ (∀ x ∈ s'.1, -1 ≤ x) ∧ (s'.2 = false → s.2 = false ∧ s'.1 = s.1 ∧ ∀ k ∈ ks, s.1[k]? = some d)
  | [], s, s', h, _, hx => by cases h; exact ⟨.refl _ _ _, hx, fun h => ⟨h, rfl, by simp⟩⟩
  | k :: ks, s, s', h, hd, hx => by
    simp only [rvisitL, Option.bind_eq_some_iff] at h
    obtain ⟨s1, h1, h2⟩ := h
    unfold rvisit1 at h1
    split at h1
    · rename_i x hk
      split at h1
      · cases h1
      · rename_i hne
        split at h1
        · rename_i hneg
          cases h1
          have hxm := hx x (List.mem_of_getElem? hk)
          have hx1 : x = -1 := by omega
          subst hx1
          obtain ⟨b1, b2, b3⟩ := rvisitL_ext h2 hd (fun y hy => by
              rcases List.mem_or_eq_of_mem_set hy with hy | hy
              · exact hx y hy
              · omega)
          refine ⟨(Ext.set hk (· ∈ k :: ks) (by simp)).trans (R := (· ∈ k :: ks)) ⟨b1.len, b1.keep, fun a e q1 q2 => (b1.new a e q1 q2).imp id (fun r => ⟨r.1, by simp [r.2]⟩)⟩ (fun _ h => h), b2, fun q => ?_⟩
          have := (b3 q).1
          simp at this
        · rename_i hpos
          cases h1
          have hx1 : x = d := by omega
          subst hx1
          obtain ⟨b1, b2, b3⟩ := rvisitL_ext h2 hd hx
          refine ⟨⟨b1.len, b1.keep, fun a e q1 q2 => (b1.new a e q1 q2).imp id (fun r => ⟨r.1, by simp [r.2]⟩)⟩, b2, fun q => ?_⟩
          obtain ⟨c1, c2, c3⟩ := b3 q
          refine ⟨c1, c2, fun y hy => ?_⟩
          rcases List.mem_cons.1 hy with rfl | hy
          · exact hk
          · exact c3 y hy
    · cases h1
theorem rvisitL_none {d : Int} : ∀ {ks : List Nat} {s : List Int × Bool}, rvisitL d ks s = none → (0 ≤ d) → (∀ x ∈ s.1, -1 ≤ x) → (∀ k ∈ ks, k < s.1.length) → ∃ k ∈ ks, ∃ e, s.1[k]? = some e ∧ e ≠ -1 ∧ e ≠ d
  | [], s, h, _, _, _ => by cases h
  | k :: ks, s, h, hd, hx, hl => by
    simp only [rvisitL, Option.bind_eq_none_iff] at h
    have hkl : k < s.1.length := hl k (by simp)
    have hk : s.1[k]? = some s.1[k] := List.getElem?_eq_getElem hkl
    cases h1 : rvisit1 d s k with
    | none =>
      unfold rvisit1 at h1
      rw [hk] at h1
      simp only at h1
      split at h1
      · rename_i q; exact ⟨k, by simp, _, hk, by omega, q.2⟩
      · split at h1 <;> cases h1
    | some s1 =>
      obtain ⟨e1, e2, _⟩ := rvisitL_ext (ks := [k]) (s := s) (s' := s1) (by simp [rvisitL, h1]) hd hx
      obtain ⟨x, hx', e, q1, q2, q3⟩ := rvisitL_none (h s1 h1) hd e2 (fun x hx => by rw [e1.len]; exact hl x (by simp [hx]))
      rcases e1.new x e q1 q2 with r | r
      · exact ⟨x, by simp [hx'], e, r, q2, q3⟩
      · exact absurd r.1 q3
theorem Inv_ge {out : List Int} {most : Int} (h : FInv hs code out most) (hr : ∀ x ∈ out, -1 ≤ x ∧ x ≤ 8) : ∀ x ∈ out, -1 ≤ x := fun x hx => (hr x hx).1
/-- One step of a pass. -/
theorem rstep_law (hc : codeOk hs code) {s : RS} {i : Nat} (hi : i < code.length) (hI : FInv hs code s.l s.most) (hw : WfR code.length s.l) :
    (∃ s', rstep hs code s i = some s' ∧ FInv hs code s'.l s'.most ∧ s.most ≤ s'.most ∧ (s'.again = false → s.again = false ∧ s'.l = s.l ∧ ∀ (d : Int) (c : Ins), s.l[i]? = some d → d ≠ -1 → code[i]? = some c → Cl hs s.l s'.most i d c)) ∨ (rstep hs code s i = none ∧ Bad hs code) := by
  have hil : i < s.l.length := by rw [hI.len]; omega
  have hx : s.l[i]? = some s.l[i] := List.getElem?_eq_getElem hil
  have hcc : code[i]? = some code[i] := List.getElem?_eq_getElem hi
  have hge := fun x hx => (hw.rng x hx).1
  have hxg := hge _ (List.getElem_mem hil)
  unfold rstep
  simp only [hx, hcc]
  by_cases h0 : s.l[i] < 0
  · rw [if_pos h0]
    refine .inl ⟨s, rfl, hI, Int.le_refl _, fun h => ⟨h, rfl, fun d c h1 h2 => ?_⟩⟩
    cases h1; exact absurd (by omega) h2
  · rw [if_neg h0]
    obtain ⟨hr, hd0⟩ := hI.sound i _ hx (by omega)
    have hp := putsV_range (code[i]).op
    by_cases hb : s.l[i] < takesV hs code[i] ∨ s.l[i] - takesV hs code[i] + putsV (code[i]).op > 8
    · rw [if_pos hb]
      exact .inr ⟨rfl, .inl ⟨i, _, _, hr, hcc, hb⟩⟩
    · rw [if_neg hb]
      have hks := nextV_le hc hcc
      have hrk : ∀ k ∈ nextV i code[i], Rch hs code k (s.l[i] - takesV hs code[i] + putsV (code[i]).op) := fun k hk => .step hr hcc (by omega) (by omega) hk
      generalize hn : s.l[i] - takesV hs code[i] + putsV (code[i]).op = n at hb hrk ⊢
      have hn0 : 0 ≤ n := by omega
      cases hv : rvisitL n (nextV i code[i]) (s.l, s.again) with
      | none =>
        obtain ⟨k, hk, e, h1, h2, h3⟩ := rvisitL_none hv hn0 hge (fun k hk => by have := hks k hk; have := hI.len; simp only; omega)
        exact .inr ⟨rfl, .inr ⟨k, e, n, (hI.sound k e h1 h2).1, hrk k hk, h3⟩⟩
      | some r =>
        obtain ⟨b1, b2, b3⟩ := rvisitL_ext hv hn0 hge
        simp only at b1 b3
        refine .inl ⟨_, rfl, ⟨by rw [b1.len]; exact hI.len, b1.keep 0 0 hI.zero (by omega), ?_, ?_, by have := hI.m0; simp only; omega⟩, by simp only; omega, ?_⟩
        · intro x e h1 h2
          rcases b1.new x e h1 h2 with q | ⟨q, q'⟩
          · exact hI.sound x e q h2
          · subst q; exact ⟨hrk x q', hn0⟩
        · rcases Int.lt_or_le s.most (max s.l[i] n) with hm | hm
          · refine .inr ⟨i, s.l[i], _, b1.keep i _ hx (by omega), by omega, hcc, ?_⟩
            rw [hn]; simp only; omega
          · have e : max (max s.most s.l[i]) n = s.most := by omega
            simp only
            rw [e]
            rcases hI.att with q | ⟨x, e, c, h1, h2, h3, h4⟩
            · exact .inl q
            · exact .inr ⟨x, e, c, b1.keep x e h1 h2, h2, h3, h4⟩
        · intro hag
          obtain ⟨c1, c2, c3⟩ := b3 hag
          refine ⟨c1, c2, fun d c h1 h2 h3 => ?_⟩
          cases h1
          cases h3
          refine ⟨by omega, by omega, fun k hk => ?_, by simp only; omega, by simp only; omega⟩
          rw [hn]; exact c3 k hk
theorem Cl.mono {out : List Int} {m n : Int} {a : Nat} {d : Int} {i : Ins} (h : Cl hs out m a d i) (hmn : m ≤ n) : Cl hs out n a d i :=
  ⟨h.1, h.2.1, h.2.2.1, Int.le_trans h.2.2.2.1 hmn, Int.le_trans h.2.2.2.2 hmn⟩
theorem rpass_law (hc : codeOk hs code) : ∀ (is : List Nat) (s : RS), (∀ i ∈ is, i < code.length) → FInv hs code s.l s.most → WfR code.length s.l →
    (∃ s', rpass hs code is s = some s' ∧ FInv hs code s'.l s'.most ∧ s.most ≤ s'.most ∧ (s'.again = false → s.again = false ∧ s'.l = s.l ∧ ∀ i ∈ is, ∀ (d : Int) (c : Ins), s.l[i]? = some d → d ≠ -1 → code[i]? = some c → Cl hs s.l s'.most i d c)) ∨ (rpass hs code is s = none ∧ Bad hs code)
  | [], s, _, hI, _ => .inl ⟨s, rfl, hI, Int.le_refl _, fun h => ⟨h, rfl, by simp⟩⟩
  | i :: is, s, hi, hI, hw => by
    rcases rstep_law hc (hi i (by simp)) hI hw with ⟨s1, a1, a2, a3, a4⟩ | ⟨a1, a2⟩
    · have hw1 := (rstep_ok a1 hc hw).1
      rcases rpass_law hc is s1 (fun j hj => hi j (by simp [hj])) a2 hw1 with ⟨s2, b1, b2, b3, b4⟩ | ⟨b1, b2⟩
      · refine .inl ⟨s2, by simp [rpass, a1, b1], b2, Int.le_trans a3 b3, fun h => ?_⟩
        obtain ⟨c1, c2, c3⟩ := b4 h
        obtain ⟨d1, d2, d3⟩ := a4 c1
        refine ⟨d1, c2.trans d2, fun j hj d c h1 h2 h3 => ?_⟩
        rcases List.mem_cons.1 hj with rfl | hj
        · exact (d3 d c h1 h2 h3).mono b3
        · have := c3 j hj d c (by rw [d2]; exact h1) h2 h3
          rwa [d2] at this
      · exact .inr ⟨by simp [rpass, a1, b1], b2⟩
    · exact .inr ⟨by simp [rpass, a1], a2⟩
theorem rgo_law (hc : codeOk hs code) : ∀ (f : Nat) (l : List Int) (most : Int), FInv hs code l most → WfR code.length l → unr l < f →
    (∃ o m, rgo hs code f l most = some (o, m) ∧ Good hs code o m) ∨ (rgo hs code f l most = none ∧ Bad hs code)
  | 0, _, _, _, _, h => by omega
  | f + 1, l, most, hI, hw, hf => by
    rcases rpass_law hc (List.range code.length) ⟨l, most, false⟩ (by simp) hI hw with ⟨s, a1, a2, a3, a4⟩ | ⟨a1, a2⟩
    · rw [rgo, a1]
      simp only
      obtain ⟨hws, hun⟩ := rpass_ok hc a1 hw
      by_cases hag : s.again = true
      · rw [if_pos hag]
        rcases hun with ⟨q, _⟩ | ⟨_, q⟩
        · rw [hag] at q; cases q
        · exact rgo_law hc f s.l s.most a2 hws (by simp only at q; omega)
      · rw [if_neg hag]
        obtain ⟨_, c2, c3⟩ := a4 (by simpa using hag)
        refine .inl ⟨s.l, s.most, rfl, a2, fun a d i h1 h2 h3 => ?_⟩
        simp only at c2 c3
        rw [c2] at h1 ⊢
        exact c3 a (by simpa using (List.getElem?_eq_some_iff.1 h3).1) d i h1 h2 h3
    · exact .inr ⟨by rw [rgo, a1], a2⟩
theorem start_inv : FInv hs code ((List.replicate (code.length + 1) (-1)).set 0 0) 0 := by
  refine ⟨by simp, by simp [List.replicate_succ], fun a d h1 h2 => ?_, .inl rfl, Int.le_refl _⟩
  rw [List.getElem?_set] at h1
  split at h1
  · rename_i e; subst e
    simp at h1; subst h1
    exact ⟨.start, Int.le_refl _⟩
  · have := List.eq_of_mem_replicate (List.mem_of_getElem? h1)
    exact absurd this h2
theorem start_rng : ∀ x ∈ ((List.replicate (code.length + 1) (-1)).set 0 0 : List Int), -1 ≤ x ∧ x ≤ 8 := by
  intro x hx
  rcases List.mem_or_eq_of_mem_set hx with hx | hx
  · have := List.eq_of_mem_replicate hx; omega
  · omega
theorem start_unr : unr ((List.replicate (code.length + 1) (-1)).set 0 0) = code.length := by
  simp [unr, List.replicate_succ, List.countP_replicate]
theorem walk_good (hc : codeOk hs code) : (∃ o m, walkV hs code = some (o, m) ∧ Good hs code o m) ∨ (walkV hs code = none ∧ Bad hs code) := by
  refine walk_law hc _ _ _ _ ⟨start_inv, ?_, ?_⟩ ⟨by simp, start_rng, by simp⟩ (by rw [start_unr]; simp)
  · intro a ha
    simp at ha; subst ha
    exact ⟨0, by simp [List.replicate_succ], by omega⟩
  · intro a d i h1 h2 _
    rw [List.getElem?_set] at h1
    split at h1
    · rename_i e; subst e; exact .inl (by simp)
    · have := List.eq_of_mem_replicate (List.mem_of_getElem? h1)
      exact absurd this h2
theorem rwalk_good (hc : codeOk hs code) : (∃ o m, rwalkV hs code = some (o, m) ∧ Good hs code o m) ∨ (rwalkV hs code = none ∧ Bad hs code) :=
  rgo_law hc _ _ _ start_inv ⟨by simp, start_rng⟩ (by rw [start_unr]; omega)
/-- Both come to the same. -/
theorem walk_eq (hc : codeOk hs code) : rwalkV hs code = walkV hs code := by
  rcases walk_good hc with ⟨o, m, h1, h2⟩ | ⟨h1, h2⟩ <;> rcases rwalk_good hc with ⟨p, n, k1, k2⟩ | ⟨k1, k2⟩
  · obtain ⟨e1, e2⟩ := h2.uniq k2
    rw [h1, k1, e1, e2]
  · exact absurd k2 h2.not_bad
  · exact absurd h2 k2.not_bad
  · rw [h1, k1]
end

end Go.Gv

/- One step of vm's machine: what an instruction makes of it, in one law. -/
set_option linter.unusedVariables false
set_option linter.unusedSimpArgs false
namespace Go.Gv
open Go.Proofs

def argsN (F : Fx) (a : Int) : Nat := (argsOf F.p.hs a).toNat
def doV (F : Fx) (i : Ins) (m : Mach) : Mach × Int :=
  if i.op = 1 then ({ m with pc := m.pc + 1, st := m.st ++ [i.a] }, 0)
  else if i.op = 2 then ({ m with pc := m.pc + 1, st := m.st.dropLast }, 0)
  else if i.op = 3 then ({ m with pc := m.pc + 1, st := m.st ++ [top m.st] }, 0)
  else if i.op = 4 then ({ m with pc := m.pc + 1, st := m.st.dropLast.dropLast ++ [top m.st, top m.st.dropLast] }, 0)
  else if i.op = 5 then ({ m with pc := m.pc + 1, st := m.st ++ [loadV m i.a] }, 0)
  else if i.op = 6 then ({ m with pc := m.pc + 1, st := m.st.dropLast, regs := if i.a < m.regs.length then m.regs.set i.a.toNat (top m.st) else m.regs }, 0)
  else if i.op = 7 then ({ m with pc := m.pc + 1, st := m.st ++ [(F.args[i.a.toNat]?).getD 0] }, 0)
  else if i.op = 8 then ({ m with pc := m.pc + 1, st := m.st ++ [F.who] }, 0)
  else if i.op = 20 then ({ m with pc := i.a }, 0)
  else if i.op = 21 then ({ m with pc := if top m.st = 0 then i.a else m.pc + 1, st := m.st.dropLast }, 0)
  else if i.op = 22 then
    (if top m.st < 0 ∨ top m.st ≥ F.p.as.length then ({ m with pc := m.pc + 1, st := m.st.dropLast }, 4)
     else ({ m with pc := m.pc + 1, st := m.st.take (m.st.length - 1 - argsN F i.a), notes := m.notes ++ [⟨top m.st, i.a, m.st.dropLast.drop (m.st.length - 1 - argsN F i.a)⟩] }, 0))
  else if i.op = 23 then ({ m with pc := m.pc + 1, armed := m.armed || !decide ((F.p.as[F.who.toNat]?.map Actr.timer).getD 0 = -1) }, 0)
  else if i.op = 24 then ({ m with pc := m.pc + 1, armed := false }, 0)
  else if i.op = 25 then ({ m with pc := -1 }, 0)
  else if (oneV i.op (top m.st)).2 = true then ({ m with pc := m.pc + 1, st := m.st.dropLast ++ [(oneV i.op (top m.st)).1] }, 0)
  else ({ m with pc := m.pc + 1, st := m.st.dropLast.dropLast ++ [(twoV i.op (top m.st.dropLast) (top m.st)).1] }, (twoV i.op (top m.st.dropLast) (top m.st)).2)
structure DoOk (F : Fx) (i : Ins) (m : Mach) : Prop where
  op : 1 ≤ i.op ∧ i.op ≤ 25
  takes : takesV F.p.hs i ≤ m.st.length
  reg : i.op = 5 ∨ i.op = 6 → 0 ≤ i.a
  arg : i.op = 7 → 0 ≤ i.a ∧ i.a.toNat < F.args.length
  snd : i.op = 22 → 0 ≤ i.a ∧ i.a.toNat < F.p.hs.length ∧ 0 ≤ argsOf F.p.hs i.a
  who : 0 ≤ F.who ∧ F.who.toNat < F.p.as.length
  rl : m.regs.length ≤ 1000
  nl : m.notes.length < 1000
  pc : 0 ≤ m.pc ∧ m.pc < 1000
  sl : m.st.length < 900
theorem do_v (F : Fx) (st : Nat) (m : Mach) (i : Ins) (ok : DoOk F i m) {S : St} {k : AV → St → Prop} {u : Dep k} (harg : ArgIs F S) (h : MS F st m S)
    (hk : ∀ S', Fr Lm S S' → MS F st (doV F i m).1 S' → k (iv (doV F i m).2) S') : CallG Try.prog (.fn 98 []) [.ptr 84026 st 14 0 0, i.av] S k u := by
  obtain ⟨⟨o1, o2⟩, tk, rg, ag, sd, ⟨w1, w2⟩, rl, nl, pc, sl⟩ := ok
  have tk' : popsV i.op ≤ m.st.length := by
    have : 0 ≤ (if i.op = 22 then argsOf F.p.hs i.a else 0) := by
      split
      · exact (sd ‹_›).2.2
      · omega
    unfold takesV at tk; omega
  rcases lit25 o1 o2 with e | e | e | e | e | e | e | e | e | e | e | e | e | e | e | e | e | e | e | e | e | e | e | e | e
  · -- 1
    have tp : popsV 1 ≤ m.st.length := e ▸ tk'
    exact do1_v F st m i e pc sl h (by simpa [doV, e] using hk)
  · -- 2
    have tp : popsV 2 ≤ m.st.length := e ▸ tk'
    simp only [popsV] at tp
    simp at tp
    exact do2_v F st m i e (by omega) pc sl h (by simpa [doV, e] using hk)
  · -- 3
    have tp : popsV 3 ≤ m.st.length := e ▸ tk'
    simp only [popsV] at tp
    simp at tp
    exact do3_v F st m i e (by omega) pc sl h (by simpa [doV, e] using hk)
  · -- 4
    have tp : popsV 4 ≤ m.st.length := e ▸ tk'
    simp only [popsV] at tp
    simp at tp
    exact do4_v F st m i e (by omega) pc sl h (by simpa [doV, e] using hk)
  · -- 5
    have tp : popsV 5 ≤ m.st.length := e ▸ tk'
    exact do5_v F st m i e (rg (.inl e)) rl pc sl h (by simpa [doV, e] using hk)
  · -- 6
    have tp : popsV 6 ≤ m.st.length := e ▸ tk'
    simp only [popsV] at tp
    simp at tp
    exact do6_v F st m i e (by omega) (rg (.inr e)) rl pc sl h (by simpa [doV, e] using hk)
  · -- 7
    have tp : popsV 7 ≤ m.st.length := e ▸ tk'
    exact do7_v F st m i e (ag e).1 (ag e).2 pc sl harg h (by simpa [doV, e, List.getElem?_eq_getElem (ag e).2] using hk)
  · -- 8
    have tp : popsV 8 ≤ m.st.length := e ▸ tk'
    exact do8_v F st m i e pc sl h (by simpa [doV, e] using hk)
  · -- 9
    have tp : popsV 9 ≤ m.st.length := e ▸ tk'
    simp only [popsV] at tp
    simp at tp
    have ho : (oneV i.op (top m.st)).2 = false := by simp [oneV, e]
    have hd : doV F i m = ({ m with pc := m.pc + 1, st := m.st.dropLast.dropLast ++ [(twoV i.op (top m.st.dropLast) (top m.st)).1] }, (twoV i.op (top m.st.dropLast) (top m.st)).2) := by
      unfold doV; rw [if_neg (by omega), if_neg (by omega), if_neg (by omega), if_neg (by omega), if_neg (by omega), if_neg (by omega), if_neg (by omega), if_neg (by omega), if_neg (by omega), if_neg (by omega), if_neg (by omega), if_neg (by omega), if_neg (by omega), if_neg (by omega), if_neg (by rw [ho]; simp)]
    rw [hd] at hk
    exact doc2_v F st m i (by omega) (by omega) ho pc sl h hk
  · -- 10
    have tp : popsV 10 ≤ m.st.length := e ▸ tk'
    simp only [popsV] at tp
    simp at tp
    have ho : (oneV i.op (top m.st)).2 = false := by simp [oneV, e]
    have hd : doV F i m = ({ m with pc := m.pc + 1, st := m.st.dropLast.dropLast ++ [(twoV i.op (top m.st.dropLast) (top m.st)).1] }, (twoV i.op (top m.st.dropLast) (top m.st)).2) := by
      unfold doV; rw [if_neg (by omega), if_neg (by omega), if_neg (by omega), if_neg (by omega), if_neg (by omega), if_neg (by omega), if_neg (by omega), if_neg (by omega), if_neg (by omega), if_neg (by omega), if_neg (by omega), if_neg (by omega), if_neg (by omega), if_neg (by omega), if_neg (by rw [ho]; simp)]
    rw [hd] at hk
    exact doc2_v F st m i (by omega) (by omega) ho pc sl h hk
  · -- 11
    have tp : popsV 11 ≤ m.st.length := e ▸ tk'
    simp only [popsV] at tp
    simp at tp
    have ho : (oneV i.op (top m.st)).2 = false := by simp [oneV, e]
    have hd : doV F i m = ({ m with pc := m.pc + 1, st := m.st.dropLast.dropLast ++ [(twoV i.op (top m.st.dropLast) (top m.st)).1] }, (twoV i.op (top m.st.dropLast) (top m.st)).2) := by
      unfold doV; rw [if_neg (by omega), if_neg (by omega), if_neg (by omega), if_neg (by omega), if_neg (by omega), if_neg (by omega), if_neg (by omega), if_neg (by omega), if_neg (by omega), if_neg (by omega), if_neg (by omega), if_neg (by omega), if_neg (by omega), if_neg (by omega), if_neg (by rw [ho]; simp)]
    rw [hd] at hk
    exact doc2_v F st m i (by omega) (by omega) ho pc sl h hk
  · -- 12
    have tp : popsV 12 ≤ m.st.length := e ▸ tk'
    simp only [popsV] at tp
    simp at tp
    have ho : (oneV i.op (top m.st)).2 = false := by simp [oneV, e]
    have hd : doV F i m = ({ m with pc := m.pc + 1, st := m.st.dropLast.dropLast ++ [(twoV i.op (top m.st.dropLast) (top m.st)).1] }, (twoV i.op (top m.st.dropLast) (top m.st)).2) := by
      unfold doV; rw [if_neg (by omega), if_neg (by omega), if_neg (by omega), if_neg (by omega), if_neg (by omega), if_neg (by omega), if_neg (by omega), if_neg (by omega), if_neg (by omega), if_neg (by omega), if_neg (by omega), if_neg (by omega), if_neg (by omega), if_neg (by omega), if_neg (by rw [ho]; simp)]
    rw [hd] at hk
    exact doc2_v F st m i (by omega) (by omega) ho pc sl h hk
  · -- 13
    have tp : popsV 13 ≤ m.st.length := e ▸ tk'
    simp only [popsV] at tp
    simp at tp
    have ho : (oneV i.op (top m.st)).2 = false := by simp [oneV, e]
    have hd : doV F i m = ({ m with pc := m.pc + 1, st := m.st.dropLast.dropLast ++ [(twoV i.op (top m.st.dropLast) (top m.st)).1] }, (twoV i.op (top m.st.dropLast) (top m.st)).2) := by
      unfold doV; rw [if_neg (by omega), if_neg (by omega), if_neg (by omega), if_neg (by omega), if_neg (by omega), if_neg (by omega), if_neg (by omega), if_neg (by omega), if_neg (by omega), if_neg (by omega), if_neg (by omega), if_neg (by omega), if_neg (by omega), if_neg (by omega), if_neg (by rw [ho]; simp)]
    rw [hd] at hk
    exact doc2_v F st m i (by omega) (by omega) ho pc sl h hk
  · -- 14
    have tp : popsV 14 ≤ m.st.length := e ▸ tk'
    simp only [popsV] at tp
    simp at tp
    have ho : (oneV i.op (top m.st)).2 = true := by simp [oneV, e]
    have hd : doV F i m = ({ m with pc := m.pc + 1, st := m.st.dropLast ++ [(oneV i.op (top m.st)).1] }, 0) := by
      unfold doV; rw [if_neg (by omega), if_neg (by omega), if_neg (by omega), if_neg (by omega), if_neg (by omega), if_neg (by omega), if_neg (by omega), if_neg (by omega), if_neg (by omega), if_neg (by omega), if_neg (by omega), if_neg (by omega), if_neg (by omega), if_neg (by omega), if_pos ho]
    rw [hd] at hk
    exact doc1_v F st m i (by omega) (by omega) ho pc sl h hk
  · -- 15
    have tp : popsV 15 ≤ m.st.length := e ▸ tk'
    simp only [popsV] at tp
    simp at tp
    have ho : (oneV i.op (top m.st)).2 = false := by simp [oneV, e]
    have hd : doV F i m = ({ m with pc := m.pc + 1, st := m.st.dropLast.dropLast ++ [(twoV i.op (top m.st.dropLast) (top m.st)).1] }, (twoV i.op (top m.st.dropLast) (top m.st)).2) := by
      unfold doV; rw [if_neg (by omega), if_neg (by omega), if_neg (by omega), if_neg (by omega), if_neg (by omega), if_neg (by omega), if_neg (by omega), if_neg (by omega), if_neg (by omega), if_neg (by omega), if_neg (by omega), if_neg (by omega), if_neg (by omega), if_neg (by omega), if_neg (by rw [ho]; simp)]
    rw [hd] at hk
    exact doc2_v F st m i (by omega) (by omega) ho pc sl h hk
  · -- 16
    have tp : popsV 16 ≤ m.st.length := e ▸ tk'
    simp only [popsV] at tp
    simp at tp
    have ho : (oneV i.op (top m.st)).2 = false := by simp [oneV, e]
    have hd : doV F i m = ({ m with pc := m.pc + 1, st := m.st.dropLast.dropLast ++ [(twoV i.op (top m.st.dropLast) (top m.st)).1] }, (twoV i.op (top m.st.dropLast) (top m.st)).2) := by
      unfold doV; rw [if_neg (by omega), if_neg (by omega), if_neg (by omega), if_neg (by omega), if_neg (by omega), if_neg (by omega), if_neg (by omega), if_neg (by omega), if_neg (by omega), if_neg (by omega), if_neg (by omega), if_neg (by omega), if_neg (by omega), if_neg (by omega), if_neg (by rw [ho]; simp)]
    rw [hd] at hk
    exact doc2_v F st m i (by omega) (by omega) ho pc sl h hk
  · -- 17
    have tp : popsV 17 ≤ m.st.length := e ▸ tk'
    simp only [popsV] at tp
    simp at tp
    have ho : (oneV i.op (top m.st)).2 = false := by simp [oneV, e]
    have hd : doV F i m = ({ m with pc := m.pc + 1, st := m.st.dropLast.dropLast ++ [(twoV i.op (top m.st.dropLast) (top m.st)).1] }, (twoV i.op (top m.st.dropLast) (top m.st)).2) := by
      unfold doV; rw [if_neg (by omega), if_neg (by omega), if_neg (by omega), if_neg (by omega), if_neg (by omega), if_neg (by omega), if_neg (by omega), if_neg (by omega), if_neg (by omega), if_neg (by omega), if_neg (by omega), if_neg (by omega), if_neg (by omega), if_neg (by omega), if_neg (by rw [ho]; simp)]
    rw [hd] at hk
    exact doc2_v F st m i (by omega) (by omega) ho pc sl h hk
  · -- 18
    have tp : popsV 18 ≤ m.st.length := e ▸ tk'
    simp only [popsV] at tp
    simp at tp
    have ho : (oneV i.op (top m.st)).2 = false := by simp [oneV, e]
    have hd : doV F i m = ({ m with pc := m.pc + 1, st := m.st.dropLast.dropLast ++ [(twoV i.op (top m.st.dropLast) (top m.st)).1] }, (twoV i.op (top m.st.dropLast) (top m.st)).2) := by
      unfold doV; rw [if_neg (by omega), if_neg (by omega), if_neg (by omega), if_neg (by omega), if_neg (by omega), if_neg (by omega), if_neg (by omega), if_neg (by omega), if_neg (by omega), if_neg (by omega), if_neg (by omega), if_neg (by omega), if_neg (by omega), if_neg (by omega), if_neg (by rw [ho]; simp)]
    rw [hd] at hk
    exact doc2_v F st m i (by omega) (by omega) ho pc sl h hk
  · -- 19
    have tp : popsV 19 ≤ m.st.length := e ▸ tk'
    simp only [popsV] at tp
    simp at tp
    have ho : (oneV i.op (top m.st)).2 = true := by simp [oneV, e]
    have hd : doV F i m = ({ m with pc := m.pc + 1, st := m.st.dropLast ++ [(oneV i.op (top m.st)).1] }, 0) := by
      unfold doV; rw [if_neg (by omega), if_neg (by omega), if_neg (by omega), if_neg (by omega), if_neg (by omega), if_neg (by omega), if_neg (by omega), if_neg (by omega), if_neg (by omega), if_neg (by omega), if_neg (by omega), if_neg (by omega), if_neg (by omega), if_neg (by omega), if_pos ho]
    rw [hd] at hk
    exact doc1_v F st m i (by omega) (by omega) ho pc sl h hk
  · -- 20
    have tp : popsV 20 ≤ m.st.length := e ▸ tk'
    exact do20_v F st m i e pc sl h (by simpa [doV, e] using hk)
  · -- 21
    have tp : popsV 21 ≤ m.st.length := e ▸ tk'
    simp only [popsV] at tp
    simp at tp
    exact do21_v F st m i e (by omega) pc sl h (by simpa [doV, e] using hk)
  · -- 22
    obtain ⟨a0, a1, a2⟩ := sd e
    have ht : 1 + argsOf F.p.hs i.a ≤ m.st.length := by
      unfold takesV at tk; rw [if_pos e, e] at tk
      simpa [popsV] using tk
    have hh : F.p.hs[i.a.toNat]? = some F.p.hs[i.a.toNat] := List.getElem?_eq_getElem a1
    have hargs : F.p.hs[i.a.toNat].args = argsOf F.p.hs i.a := by unfold argsOf; rw [hh]; rfl
    have hN : (argsN F i.a : Int) = argsOf F.p.hs i.a := by unfold argsN; omega
    have hb : (m.st.dropLast.drop (m.st.length - 1 - argsN F i.a)).length = argsN F i.a := by simp; omega
    have hx : m.st = m.st.take (m.st.length - 1 - argsN F i.a) ++ m.st.dropLast.drop (m.st.length - 1 - argsN F i.a) ++ [top m.st] := by
      have e1 : m.st.take (m.st.length - 1 - argsN F i.a) = m.st.dropLast.take (m.st.length - 1 - argsN F i.a) := by
        rw [List.dropLast_eq_take, List.take_take, Nat.min_eq_left (by omega)]
      rw [e1, List.take_append_drop]
      exact top_split (by omega)
    have hdl : m.st.take (m.st.length - 1 - argsN F i.a) ++ m.st.dropLast.drop (m.st.length - 1 - argsN F i.a) = m.st.dropLast := by
      have e1 : m.st.take (m.st.length - 1 - argsN F i.a) = m.st.dropLast.take (m.st.length - 1 - argsN F i.a) := by
        rw [List.dropLast_eq_take, List.take_take, Nat.min_eq_left (by omega)]
      rw [e1, List.take_append_drop]
    refine do22_v F st m i e _ _ _ hx a0 _ hh (by rw [hargs, hb, hN]) nl pc sl h ?_ ?_
    · intro hc
      rw [hdl]
      have hd : doV F i m = ({ m with pc := m.pc + 1, st := m.st.dropLast }, 4) := by
        unfold doV; rw [if_neg (by omega), if_neg (by omega), if_neg (by omega), if_neg (by omega), if_neg (by omega), if_neg (by omega), if_neg (by omega), if_neg (by omega), if_neg (by omega), if_neg (by omega), if_pos e, if_pos hc]
      rw [hd] at hk
      exact hk
    · intro hc
      have hd : doV F i m = ({ m with pc := m.pc + 1, st := m.st.take (m.st.length - 1 - argsN F i.a), notes := m.notes ++ [⟨top m.st, i.a, m.st.dropLast.drop (m.st.length - 1 - argsN F i.a)⟩] }, 0) := by
        unfold doV; rw [if_neg (by omega), if_neg (by omega), if_neg (by omega), if_neg (by omega), if_neg (by omega), if_neg (by omega), if_neg (by omega), if_neg (by omega), if_neg (by omega), if_neg (by omega), if_pos e, if_neg hc]
      rw [hd] at hk
      exact hk
  · -- 23
    have tp : popsV 23 ≤ m.st.length := e ▸ tk'
    have hx : F.p.as[F.who.toNat]? = some F.p.as[F.who.toNat] := List.getElem?_eq_getElem w2
    exact do23_v F st m i e w1 _ hx pc sl h (by simpa [doV, e, hx] using hk)
  · -- 24
    have tp : popsV 24 ≤ m.st.length := e ▸ tk'
    exact do24_v F st m i e pc sl h (by simpa [doV, e] using hk)
  · -- 25
    have tp : popsV 25 ≤ m.st.length := e ▸ tk'
    exact do25_v F st m i e pc sl h (by simpa [doV, e] using hk)

end Go.Gv
