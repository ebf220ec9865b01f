/- Texts of this proof, one behind the other. What is proved, and on which conditions, stands ahead of each. -/
import Derived.Test.YthhgjncefjnogaaProg
import Derived.Test.YthhgjncefjnogaaM10f6b299

/- The law ProgSame answers true. Condition: by is a number of Go's. -/
set_option linter.unusedVariables false
set_option linter.unusedSimpArgs false
namespace Go.Gv
open Go.Proofs

def oneN_r0 : List AI := [⟨(some 0), none, (.op (.new 28000 4 (.agg [.nils, .nils, .nils, (.int .i64 0)])))⟩]
def oneN_r1 : List AI := [⟨(some 1), none, (.op (.build [(.int .i64 0), (.int .i64 0)] [(0, (1, (.c (.int .i64 7))))]))⟩, ⟨(some 2), none, (.op (.build [(.int .i64 0), (.int .i64 0)] [(0, (1, (.c (.int .i64 6))))]))⟩, ⟨(some 3), none, (.op (.bslm 1000028003 2 35 2 (.agg [(.int .i64 0), (.int .i64 0)]) [(0, (.t 1)), (1, (.t 2))]))⟩, ⟨(some 4), none, (.op (.build [(.int .i64 0), .nils] [(0, (1, (.c (.int .i64 1)))), (1, (1, (.t 3)))]))⟩, ⟨(some 5), none, (.op (.bslm 1000028005 2 33 1 (.agg [(.int .i64 0), .nils]) [(0, (.t 4))]))⟩, ⟨(some 6), none, (.op (.bslm 1000028006 1 3 1 (.int .i64 0) [(0, (.c (.int .i64 3)))]))⟩, ⟨(some 7), none, (.op (.build [.nils, (.int .i64 0), (.int .i64 0), (.bool false)] [(0, (1, (.t 6))), (1, (1, (.c (.int .i64 2)))), (2, (1, (.c (.int .i64 (-1)))))]))⟩, ⟨(some 8), none, (.op (.bslm 1000028008 4 38 1 (.agg [.nils, (.int .i64 0), (.int .i64 0), (.bool false)]) [(0, (.t 7))]))⟩, ⟨(some 9), none, (.op (.bslm 1000028009 1 3 1 (.int .i64 0) [(0, (.c (.int .i64 5)))]))⟩, ⟨(some 10), none, (.op (.build [(.int .i64 0), (.int .i64 0), .nils] [(2, (1, (.t 9)))]))⟩, ⟨(some 11), none, (.op (.bslm 1000028011 3 40 1 (.agg [(.int .i64 0), (.int .i64 0), .nils]) [(0, (.t 10))]))⟩, ⟨(some 12), none, (.op (.build [.nils, .nils, .nils, (.int .i64 0)] [(0, (1, (.t 5))), (1, (1, (.t 8))), (2, (1, (.t 11))), (3, (1, (.c (.int .i64 10))))]))⟩, ⟨none, none, (.op (.store 4 (.t 0) (.t 12)))⟩]
def oneN_c : AC := (.seq (.reg oneN_r0) (.seq (.reg oneN_r1) .ret))
def oneN_res : List ARes := [(.cell (some 4) 0)]
set_option maxRecDepth 100000 in
theorem oneN_get : getF Try.prog 29 28000 [(3, 1000000003), (5, 1000000005), (6, 1000000006), (8, 1000000008), (9, 1000000009), (11, 1000000011)] = some ("gavotte/gavottelaw3.one", 13, oneN_c, oneN_res) := by kernel_rfl
def psame_r0 : List AI := [⟨(some 4), none, (.op (.mv (.c (.bool false))))⟩]
def psame_r1 : List AI := [⟨(some 7), none, (.call (.c (.fn 29 [])) [])⟩, ⟨(some 8), none, (.call (.c (.fn 29 [])) [])⟩, ⟨(some 5), none, (.op (.new 6005 4 (.agg [.nils, .nils, .nils, (.int .i64 0)])))⟩, ⟨(some 6), none, (.op (.new 6006 4 (.agg [.nils, .nils, .nils, (.int .i64 0)])))⟩, ⟨none, none, (.op (.store 4 (.t 5) (.t 7)))⟩, ⟨none, none, (.op (.store 4 (.t 6) (.t 8)))⟩]
def psame_r2 : List AI := [⟨(some 9), none, (.op (.load (some 4) (.t 5)))⟩, ⟨(some 10), none, (.op (.load (some 4) (.t 6)))⟩, ⟨(some 11), none, (.call (.c (.fn 28 [])) [(.t 9), (.t 10)])⟩, ⟨(some 12), none, (.op (.not (.t 11)))⟩, ⟨(some 13), none, (.op (.mv (.t 12)))⟩, ⟨(some 14), (some (13, false)), (.op (.mv (.t 1)))⟩, ⟨(some 15), (some (13, false)), (.op (.ibin .eql (.t 14) (.c (.int .i64 0))))⟩, ⟨(some 16), none, (.op (.pick (.t 13) (.c (.bool true)) (.t 15)))⟩]
def psame_r3 : List AI := [⟨(some 17), none, (.op (.mv (.t 1)))⟩, ⟨(some 18), none, (.op (.ibin .eql (.t 17) (.c (.int .i64 0))))⟩, ⟨(some 19), none, (.op (.mv (.t 18)))⟩, ⟨(some 20), (some (19, true)), (.call (.c (.fn 25 [])) [])⟩, ⟨(some 21), none, (.op (.pick (.t 19) (.t 20) (.c (.bool false))))⟩, ⟨(some 4), none, (.op (.mv (.t 21)))⟩]
def psame_r4 : List AI := [⟨(some 22), none, (.op (.mv (.t 0)))⟩, ⟨(some 23), none, (.call (.c (.fn 30 [])) [(.t 22), (.c (.int .i64 13))])⟩]
def psame_r5 : List AI := [⟨(some 25), none, (.op (.ibin .eql (.t 23) (.c (.int .i64 0))))⟩, ⟨(some 24), none, (.op (.mv (.t 25)))⟩]
def psame_r6 : List AI := [⟨(some 26), none, (.op (.fld 3 (.t 6)))⟩, ⟨(some 27), none, (.op (.load none (.t 26)))⟩, ⟨(some 28), none, (.op (.mv (.t 1)))⟩, ⟨(some 29), none, (.op (.ibin .add (.t 27) (.t 28)))⟩, ⟨(some 30), none, (.op (.fld 3 (.t 6)))⟩, ⟨none, none, (.op (.store 1 (.t 30) (.t 29)))⟩]
def psame_r7 : List AI := [⟨(some 32), none, (.op (.ibin .eql (.t 23) (.c (.int .i64 1))))⟩, ⟨(some 31), none, (.op (.mv (.t 32)))⟩]
def psame_r8 : List AI := [⟨(some 33), none, (.op (.fld 0 (.t 6)))⟩, ⟨(some 34), none, (.op (.load none (.t 33)))⟩, ⟨(some 35), none, (.op (.fld 0 (.t 6)))⟩, ⟨(some 36), none, (.op (.load none (.t 35)))⟩, ⟨(some 37), none, (.op (.idx 2 (.t 36) (.c (.int .i64 0))))⟩, ⟨(some 38), none, (.op (.fld 0 (.t 37)))⟩, ⟨(some 39), none, (.op (.load none (.t 38)))⟩, ⟨(some 40), none, (.op (.mv (.t 1)))⟩, ⟨(some 41), none, (.op (.ibin .add (.t 39) (.t 40)))⟩, ⟨(some 42), none, (.op (.idx 2 (.t 34) (.c (.int .i64 0))))⟩, ⟨(some 43), none, (.op (.fld 0 (.t 42)))⟩, ⟨none, none, (.op (.store 1 (.t 43) (.t 41)))⟩]
def psame_p8 : List (List Nat) := [[], [0], [], [2], [3, 2], [4, 3, 2], [5, 4, 3, 2], [], [6, 7, 5, 4, 3, 2], [1, 0, 2, 3, 4, 5, 6, 7, 8], [9, 0, 1, 2, 3, 4, 5, 6, 7, 8], [10, 8, 0, 1, 2, 3, 4, 5, 6, 7, 9]]
def psame_r9 : List AI := [⟨(some 45), none, (.op (.ibin .eql (.t 23) (.c (.int .i64 2))))⟩, ⟨(some 44), none, (.op (.mv (.t 45)))⟩]
def psame_r10 : List AI := [⟨(some 46), none, (.op (.fld 0 (.t 6)))⟩, ⟨(some 47), none, (.op (.load none (.t 46)))⟩, ⟨(some 48), none, (.op (.idx 2 (.t 47) (.c (.int .i64 0))))⟩, ⟨(some 49), none, (.op (.fld 1 (.t 48)))⟩, ⟨(some 50), none, (.op (.load none (.t 49)))⟩, ⟨(some 51), none, (.op (.fld 0 (.t 6)))⟩, ⟨(some 52), none, (.op (.load none (.t 51)))⟩, ⟨(some 53), none, (.op (.idx 2 (.t 52) (.c (.int .i64 0))))⟩, ⟨(some 54), none, (.op (.fld 1 (.t 53)))⟩, ⟨(some 55), none, (.op (.load none (.t 54)))⟩, ⟨(some 56), none, (.op (.idx 2 (.t 55) (.c (.int .i64 0))))⟩, ⟨(some 57), none, (.op (.fld 0 (.t 56)))⟩, ⟨(some 58), none, (.op (.load none (.t 57)))⟩, ⟨(some 59), none, (.op (.mv (.t 1)))⟩, ⟨(some 60), none, (.op (.ibin .add (.t 58) (.t 59)))⟩, ⟨(some 61), none, (.op (.idx 2 (.t 50) (.c (.int .i64 0))))⟩, ⟨(some 62), none, (.op (.fld 0 (.t 61)))⟩, ⟨none, none, (.op (.store 1 (.t 62) (.t 60)))⟩]
def psame_p10 : List (List Nat) := [[], [0], [1, 0], [2, 1, 0], [3, 2, 1, 0], [], [5], [6, 5], [7, 6, 5], [8, 7, 6, 5], [9, 8, 7, 6, 5], [10, 9, 8, 7, 6, 5], [11, 10, 9, 8, 7, 6, 5], [], [12, 13, 11, 10, 9, 8, 7, 6, 5], [4, 0, 1, 2, 3, 5, 6, 7, 8, 9, 10, 11, 12, 13, 14], [15, 0, 1, 2, 3, 4, 5, 6, 7, 8, 9, 10, 11, 12, 13, 14], [16, 14, 0, 1, 2, 3, 4, 5, 6, 7, 8, 9, 10, 11, 12, 13, 15]]
def psame_r11 : List AI := [⟨(some 64), none, (.op (.ibin .eql (.t 23) (.c (.int .i64 3))))⟩, ⟨(some 63), none, (.op (.mv (.t 64)))⟩]
def psame_r12 : List AI := [⟨(some 65), none, (.op (.fld 0 (.t 6)))⟩, ⟨(some 66), none, (.op (.load none (.t 65)))⟩, ⟨(some 67), none, (.op (.idx 2 (.t 66) (.c (.int .i64 0))))⟩, ⟨(some 68), none, (.op (.fld 1 (.t 67)))⟩, ⟨(some 69), none, (.op (.load none (.t 68)))⟩, ⟨(some 70), none, (.op (.fld 0 (.t 6)))⟩, ⟨(some 71), none, (.op (.load none (.t 70)))⟩, ⟨(some 72), none, (.op (.idx 2 (.t 71) (.c (.int .i64 0))))⟩, ⟨(some 73), none, (.op (.fld 1 (.t 72)))⟩, ⟨(some 74), none, (.op (.load none (.t 73)))⟩, ⟨(some 75), none, (.op (.idx 2 (.t 74) (.c (.int .i64 1))))⟩, ⟨(some 76), none, (.op (.fld 1 (.t 75)))⟩, ⟨(some 77), none, (.op (.load none (.t 76)))⟩, ⟨(some 78), none, (.op (.mv (.t 1)))⟩, ⟨(some 79), none, (.op (.ibin .add (.t 77) (.t 78)))⟩, ⟨(some 80), none, (.op (.idx 2 (.t 69) (.c (.int .i64 1))))⟩, ⟨(some 81), none, (.op (.fld 1 (.t 80)))⟩, ⟨none, none, (.op (.store 1 (.t 81) (.t 79)))⟩]
def psame_p12 : List (List Nat) := [[], [0], [1, 0], [2, 1, 0], [3, 2, 1, 0], [], [5], [6, 5], [7, 6, 5], [8, 7, 6, 5], [9, 8, 7, 6, 5], [10, 9, 8, 7, 6, 5], [11, 10, 9, 8, 7, 6, 5], [], [12, 13, 11, 10, 9, 8, 7, 6, 5], [4, 0, 1, 2, 3, 5, 6, 7, 8, 9, 10, 11, 12, 13, 14], [15, 0, 1, 2, 3, 4, 5, 6, 7, 8, 9, 10, 11, 12, 13, 14], [16, 14, 0, 1, 2, 3, 4, 5, 6, 7, 8, 9, 10, 11, 12, 13, 15]]
def psame_r13 : List AI := [⟨(some 83), none, (.op (.ibin .eql (.t 23) (.c (.int .i64 4))))⟩, ⟨(some 82), none, (.op (.mv (.t 83)))⟩]
def psame_r14 : List AI := [⟨(some 84), none, (.op (.fld 0 (.t 6)))⟩, ⟨(some 85), none, (.op (.load none (.t 84)))⟩, ⟨(some 86), none, (.op (.fld 0 (.t 6)))⟩, ⟨(some 87), none, (.op (.load none (.t 86)))⟩, ⟨(some 88), none, (.op (.idx 2 (.t 87) (.c (.int .i64 0))))⟩, ⟨(some 89), none, (.op (.fld 1 (.t 88)))⟩, ⟨(some 90), none, (.op (.load none (.t 89)))⟩, ⟨(some 91), none, (.op (.slice (some 2) (.t 90) none (some (.c (.int .i64 1)))))⟩, ⟨(some 92), none, (.op (.idx 2 (.t 85) (.c (.int .i64 0))))⟩, ⟨(some 93), none, (.op (.fld 1 (.t 92)))⟩, ⟨none, none, (.op (.store 1 (.t 93) (.t 91)))⟩]
def psame_p14 : List (List Nat) := [[], [0], [], [2], [3, 2], [4, 3, 2], [5, 4, 3, 2], [6, 5, 4, 3, 2], [1, 0, 2, 3, 4, 5, 6, 7], [8, 0, 1, 2, 3, 4, 5, 6, 7], [9, 7, 0, 1, 2, 3, 4, 5, 6, 8]]
def psame_r15 : List AI := [⟨(some 95), none, (.op (.ibin .eql (.t 23) (.c (.int .i64 5))))⟩, ⟨(some 94), none, (.op (.mv (.t 95)))⟩]
def psame_r16 : List AI := [⟨(some 96), none, (.op (.fld 1 (.t 6)))⟩, ⟨(some 97), none, (.op (.load none (.t 96)))⟩, ⟨(some 98), none, (.op (.idx 4 (.t 97) (.c (.int .i64 0))))⟩, ⟨(some 99), none, (.op (.fld 0 (.t 98)))⟩, ⟨(some 100), none, (.op (.load none (.t 99)))⟩, ⟨(some 101), none, (.op (.fld 1 (.t 6)))⟩, ⟨(some 102), none, (.op (.load none (.t 101)))⟩, ⟨(some 103), none, (.op (.idx 4 (.t 102) (.c (.int .i64 0))))⟩, ⟨(some 104), none, (.op (.fld 0 (.t 103)))⟩, ⟨(some 105), none, (.op (.load none (.t 104)))⟩, ⟨(some 106), none, (.op (.idx 1 (.t 105) (.c (.int .i64 0))))⟩, ⟨(some 107), none, (.op (.load none (.t 106)))⟩, ⟨(some 108), none, (.op (.mv (.t 1)))⟩, ⟨(some 109), none, (.op (.ibin .add (.t 107) (.t 108)))⟩, ⟨(some 110), none, (.op (.idx 1 (.t 100) (.c (.int .i64 0))))⟩, ⟨none, none, (.op (.store 1 (.t 110) (.t 109)))⟩]
def psame_p16 : List (List Nat) := [[], [0], [1, 0], [2, 1, 0], [3, 2, 1, 0], [], [5], [6, 5], [7, 6, 5], [8, 7, 6, 5], [9, 8, 7, 6, 5], [10, 9, 8, 7, 6, 5], [], [11, 12, 10, 9, 8, 7, 6, 5], [4, 0, 1, 2, 3, 5, 6, 7, 8, 9, 10, 11, 12, 13], [14, 13, 0, 1, 2, 3, 4, 5, 6, 7, 8, 9, 10, 11, 12]]
def psame_r17 : List AI := [⟨(some 112), none, (.op (.ibin .eql (.t 23) (.c (.int .i64 6))))⟩, ⟨(some 111), none, (.op (.mv (.t 112)))⟩]
def psame_r18 : List AI := [⟨(some 113), none, (.op (.fld 1 (.t 6)))⟩, ⟨(some 114), none, (.op (.load none (.t 113)))⟩, ⟨(some 115), none, (.op (.fld 1 (.t 6)))⟩, ⟨(some 116), none, (.op (.load none (.t 115)))⟩, ⟨(some 117), none, (.op (.idx 4 (.t 116) (.c (.int .i64 0))))⟩, ⟨(some 118), none, (.op (.fld 1 (.t 117)))⟩, ⟨(some 119), none, (.op (.load none (.t 118)))⟩, ⟨(some 120), none, (.op (.mv (.t 1)))⟩, ⟨(some 121), none, (.op (.ibin .add (.t 119) (.t 120)))⟩, ⟨(some 122), none, (.op (.idx 4 (.t 114) (.c (.int .i64 0))))⟩, ⟨(some 123), none, (.op (.fld 1 (.t 122)))⟩, ⟨none, none, (.op (.store 1 (.t 123) (.t 121)))⟩]
def psame_p18 : List (List Nat) := [[], [0], [], [2], [3, 2], [4, 3, 2], [5, 4, 3, 2], [], [6, 7, 5, 4, 3, 2], [1, 0, 2, 3, 4, 5, 6, 7, 8], [9, 0, 1, 2, 3, 4, 5, 6, 7, 8], [10, 8, 0, 1, 2, 3, 4, 5, 6, 7, 9]]
def psame_r19 : List AI := [⟨(some 125), none, (.op (.ibin .eql (.t 23) (.c (.int .i64 7))))⟩, ⟨(some 124), none, (.op (.mv (.t 125)))⟩]
def psame_r20 : List AI := [⟨(some 126), none, (.op (.fld 1 (.t 6)))⟩, ⟨(some 127), none, (.op (.load none (.t 126)))⟩, ⟨(some 128), none, (.op (.fld 1 (.t 6)))⟩, ⟨(some 129), none, (.op (.load none (.t 128)))⟩, ⟨(some 130), none, (.op (.idx 4 (.t 129) (.c (.int .i64 0))))⟩, ⟨(some 131), none, (.op (.fld 2 (.t 130)))⟩, ⟨(some 132), none, (.op (.load none (.t 131)))⟩, ⟨(some 133), none, (.op (.mv (.t 1)))⟩, ⟨(some 134), none, (.op (.ibin .add (.t 132) (.t 133)))⟩, ⟨(some 135), none, (.op (.idx 4 (.t 127) (.c (.int .i64 0))))⟩, ⟨(some 136), none, (.op (.fld 2 (.t 135)))⟩, ⟨none, none, (.op (.store 1 (.t 136) (.t 134)))⟩]
def psame_p20 : List (List Nat) := [[], [0], [], [2], [3, 2], [4, 3, 2], [5, 4, 3, 2], [], [6, 7, 5, 4, 3, 2], [1, 0, 2, 3, 4, 5, 6, 7, 8], [9, 0, 1, 2, 3, 4, 5, 6, 7, 8], [10, 8, 0, 1, 2, 3, 4, 5, 6, 7, 9]]
def psame_r21 : List AI := [⟨(some 138), none, (.op (.ibin .eql (.t 23) (.c (.int .i64 8))))⟩, ⟨(some 137), none, (.op (.mv (.t 138)))⟩]
def psame_r22 : List AI := [⟨(some 139), none, (.op (.fld 1 (.t 6)))⟩, ⟨(some 140), none, (.op (.load none (.t 139)))⟩, ⟨(some 141), none, (.op (.idx 4 (.t 140) (.c (.int .i64 0))))⟩, ⟨(some 142), none, (.op (.fld 3 (.t 141)))⟩, ⟨none, none, (.op (.store 1 (.t 142) (.c (.bool true))))⟩]
def psame_r23 : List AI := [⟨(some 144), none, (.op (.ibin .eql (.t 23) (.c (.int .i64 9))))⟩, ⟨(some 143), none, (.op (.mv (.t 144)))⟩]
def psame_r24 : List AI := [⟨(some 145), none, (.op (.fld 2 (.t 6)))⟩, ⟨(some 146), none, (.op (.load none (.t 145)))⟩, ⟨(some 147), none, (.op (.fld 2 (.t 6)))⟩, ⟨(some 148), none, (.op (.load none (.t 147)))⟩, ⟨(some 149), none, (.op (.idx 3 (.t 148) (.c (.int .i64 0))))⟩, ⟨(some 150), none, (.op (.fld 0 (.t 149)))⟩, ⟨(some 151), none, (.op (.load none (.t 150)))⟩, ⟨(some 152), none, (.op (.mv (.t 1)))⟩, ⟨(some 153), none, (.op (.ibin .add (.t 151) (.t 152)))⟩, ⟨(some 154), none, (.op (.idx 3 (.t 146) (.c (.int .i64 0))))⟩, ⟨(some 155), none, (.op (.fld 0 (.t 154)))⟩, ⟨none, none, (.op (.store 1 (.t 155) (.t 153)))⟩]
def psame_p24 : List (List Nat) := [[], [0], [], [2], [3, 2], [4, 3, 2], [5, 4, 3, 2], [], [6, 7, 5, 4, 3, 2], [1, 0, 2, 3, 4, 5, 6, 7, 8], [9, 0, 1, 2, 3, 4, 5, 6, 7, 8], [10, 8, 0, 1, 2, 3, 4, 5, 6, 7, 9]]
def psame_r25 : List AI := [⟨(some 157), none, (.op (.ibin .eql (.t 23) (.c (.int .i64 10))))⟩, ⟨(some 156), none, (.op (.mv (.t 157)))⟩]
def psame_r26 : List AI := [⟨(some 158), none, (.op (.fld 2 (.t 6)))⟩, ⟨(some 159), none, (.op (.load none (.t 158)))⟩, ⟨(some 160), none, (.op (.fld 2 (.t 6)))⟩, ⟨(some 161), none, (.op (.load none (.t 160)))⟩, ⟨(some 162), none, (.op (.idx 3 (.t 161) (.c (.int .i64 0))))⟩, ⟨(some 163), none, (.op (.fld 1 (.t 162)))⟩, ⟨(some 164), none, (.op (.load none (.t 163)))⟩, ⟨(some 165), none, (.op (.mv (.t 1)))⟩, ⟨(some 166), none, (.op (.ibin .add (.t 164) (.t 165)))⟩, ⟨(some 167), none, (.op (.idx 3 (.t 159) (.c (.int .i64 0))))⟩, ⟨(some 168), none, (.op (.fld 1 (.t 167)))⟩, ⟨none, none, (.op (.store 1 (.t 168) (.t 166)))⟩]
def psame_p26 : List (List Nat) := [[], [0], [], [2], [3, 2], [4, 3, 2], [5, 4, 3, 2], [], [6, 7, 5, 4, 3, 2], [1, 0, 2, 3, 4, 5, 6, 7, 8], [9, 0, 1, 2, 3, 4, 5, 6, 7, 8], [10, 8, 0, 1, 2, 3, 4, 5, 6, 7, 9]]
def psame_r27 : List AI := [⟨(some 170), none, (.op (.ibin .eql (.t 23) (.c (.int .i64 11))))⟩, ⟨(some 169), none, (.op (.mv (.t 170)))⟩]
def psame_r28 : List AI := [⟨(some 171), none, (.op (.fld 2 (.t 6)))⟩, ⟨(some 172), none, (.op (.load none (.t 171)))⟩, ⟨(some 173), none, (.op (.idx 3 (.t 172) (.c (.int .i64 0))))⟩, ⟨(some 174), none, (.op (.fld 2 (.t 173)))⟩, ⟨(some 175), none, (.op (.load none (.t 174)))⟩, ⟨(some 176), none, (.op (.fld 2 (.t 6)))⟩, ⟨(some 177), none, (.op (.load none (.t 176)))⟩, ⟨(some 178), none, (.op (.idx 3 (.t 177) (.c (.int .i64 0))))⟩, ⟨(some 179), none, (.op (.fld 2 (.t 178)))⟩, ⟨(some 180), none, (.op (.load none (.t 179)))⟩, ⟨(some 181), none, (.op (.idx 1 (.t 180) (.c (.int .i64 0))))⟩, ⟨(some 182), none, (.op (.load none (.t 181)))⟩, ⟨(some 183), none, (.op (.mv (.t 1)))⟩, ⟨(some 184), none, (.op (.ibin .add (.t 182) (.t 183)))⟩, ⟨(some 185), none, (.op (.idx 1 (.t 175) (.c (.int .i64 0))))⟩, ⟨none, none, (.op (.store 1 (.t 185) (.t 184)))⟩]
def psame_p28 : List (List Nat) := [[], [0], [1, 0], [2, 1, 0], [3, 2, 1, 0], [], [5], [6, 5], [7, 6, 5], [8, 7, 6, 5], [9, 8, 7, 6, 5], [10, 9, 8, 7, 6, 5], [], [11, 12, 10, 9, 8, 7, 6, 5], [4, 0, 1, 2, 3, 5, 6, 7, 8, 9, 10, 11, 12, 13], [14, 13, 0, 1, 2, 3, 4, 5, 6, 7, 8, 9, 10, 11, 12]]
def psame_r29 : List AI := [⟨(some 187), none, (.op (.ibin .eql (.t 23) (.c (.int .i64 12))))⟩, ⟨(some 186), none, (.op (.mv (.t 187)))⟩]
def psame_r30 : List AI := [⟨(some 188), none, (.op (.fld 0 (.t 6)))⟩, ⟨(some 189), none, (.op (.load none (.t 188)))⟩, ⟨(some 190), none, (.op (.build [(.int .i64 0), .nils] []))⟩, ⟨(some 191), none, (.op (.bsl 6191 2 33 1 (.agg [(.int .i64 0), .nils]) [(0, (.t 190))]))⟩, ⟨(some 192), none, (.op (.appw 1000006192 2 33 32 (.t 189) (.t 191)))⟩, ⟨(some 193), none, (.op (.fld 0 (.t 6)))⟩, ⟨none, none, (.op (.store 1 (.t 193) (.t 192)))⟩]
def psame_k0 : AC := (.cond (.t 186) (.reg psame_r30) .skip)
def psame_k1 : AC := (.cond (.t 169) (.regd psame_r28 psame_p28) (.seq (.reg psame_r29) psame_k0))
def psame_k2 : AC := (.cond (.t 156) (.regd psame_r26 psame_p26) (.seq (.reg psame_r27) psame_k1))
def psame_k3 : AC := (.cond (.t 143) (.regd psame_r24 psame_p24) (.seq (.reg psame_r25) psame_k2))
def psame_k4 : AC := (.cond (.t 137) (.reg psame_r22) (.seq (.reg psame_r23) psame_k3))
def psame_k5 : AC := (.cond (.t 124) (.regd psame_r20 psame_p20) (.seq (.reg psame_r21) psame_k4))
def psame_k6 : AC := (.cond (.t 111) (.regd psame_r18 psame_p18) (.seq (.reg psame_r19) psame_k5))
def psame_k7 : AC := (.cond (.t 94) (.regd psame_r16 psame_p16) (.seq (.reg psame_r17) psame_k6))
def psame_k8 : AC := (.cond (.t 82) (.regd psame_r14 psame_p14) (.seq (.reg psame_r15) psame_k7))
def psame_k9 : AC := (.cond (.t 63) (.regd psame_r12 psame_p12) (.seq (.reg psame_r13) psame_k8))
def psame_k10 : AC := (.cond (.t 44) (.regd psame_r10 psame_p10) (.seq (.reg psame_r11) psame_k9))
def psame_k11 : AC := (.cond (.t 31) (.regd psame_r8 psame_p8) (.seq (.reg psame_r9) psame_k10))
def psame_k12 : AC := (.cond (.t 24) (.reg psame_r6) (.seq (.reg psame_r7) psame_k11))
def psame_r31 : List AI := [⟨(some 194), none, (.op (.load (some 4) (.t 5)))⟩, ⟨(some 195), none, (.op (.load (some 4) (.t 6)))⟩, ⟨(some 196), none, (.call (.c (.fn 28 [])) [(.t 194), (.t 195)])⟩, ⟨(some 197), none, (.op (.not (.t 196)))⟩, ⟨(some 198), none, (.op (.mv (.t 197)))⟩, ⟨(some 199), (some (198, true)), (.op (.load (some 4) (.t 6)))⟩, ⟨(some 200), (some (198, true)), (.op (.load (some 4) (.t 5)))⟩, ⟨(some 201), (some (198, true)), (.call (.c (.fn 28 [])) [(.t 199), (.t 200)])⟩, ⟨(some 202), (some (198, true)), (.op (.not (.t 201)))⟩, ⟨(some 203), none, (.op (.pick (.t 198) (.t 202) (.c (.bool false))))⟩, ⟨(some 204), none, (.op (.mv (.t 203)))⟩, ⟨(some 205), (some (204, true)), (.op (.load (some 4) (.t 6)))⟩, ⟨(some 206), (some (204, true)), (.op (.load (some 4) (.t 6)))⟩, ⟨(some 207), (some (204, true)), (.call (.c (.fn 26 [])) [(.t 206)])⟩, ⟨(some 208), (some (204, true)), (.call (.c (.fn 28 [])) [(.t 205), (.t 207)])⟩, ⟨(some 209), none, (.op (.pick (.t 204) (.t 208) (.c (.bool false))))⟩, ⟨(some 210), none, (.op (.mv (.t 209)))⟩, ⟨(some 211), (some (210, true)), (.call (.c (.fn 25 [])) [])⟩, ⟨(some 212), none, (.op (.pick (.t 210) (.t 211) (.c (.bool false))))⟩, ⟨(some 4), none, (.op (.mv (.t 212)))⟩]
def psame_p31 : List (List Nat) := [[], [], [0, 1], [2, 0, 1], [3, 2, 0, 1], [4, 3, 2, 0, 1], [4, 3, 2, 0, 1], [5, 6, 4, 3, 2, 0, 1], [7, 4, 5, 6, 3, 2, 0, 1], [4, 8, 3, 2, 0, 1, 7, 5, 6], [9, 7, 4, 8, 3, 2, 0, 1, 5, 6], [10, 9, 7, 4, 8, 3, 2, 0, 1, 5, 6], [10, 9, 7, 4, 8, 3, 2, 0, 1, 5, 6], [12, 10, 9, 7, 4, 8, 3, 2, 0, 1, 5, 6], [11, 13, 10, 9, 7, 4, 8, 3, 2, 0, 1, 5, 6, 12], [10, 14, 9, 7, 4, 8, 3, 2, 0, 1, 5, 6, 11, 13, 12], [15, 14, 10, 9, 7, 4, 8, 3, 2, 0, 1, 5, 6, 11, 13, 12], [16, 15, 14, 10, 9, 7, 4, 8, 3, 2, 0, 1, 5, 6, 11, 13, 12], [16, 17, 15, 14, 10, 9, 7, 4, 8, 3, 2, 0, 1, 5, 6, 11, 13, 12], [18, 17, 0, 1, 2, 3, 4, 5, 6, 7, 8, 9, 10, 11, 12, 13, 14, 15, 16]]
def psame_c : AC := (.seq (.reg psame_r0) (.seq (.reg psame_r1) (.seq (.seq (.reg psame_r2) (.cond (.t 16) (.seq (.reg psame_r3) .ret) .skip)) (.seq (.seq (.reg psame_r4) (.block 0 (.seq (.reg psame_r5) psame_k12))) (.seq (.gh (.regd psame_r31 psame_p31)) .ret)))))
def psame_res : List ARes := [(.tmp 4)]
set_option maxRecDepth 100000 in
theorem psame_get : getF Try.prog 6 6000 [(192, 1000000192), (1000031, 1)] = some ("gavotte/gavottelaw3.ProgSame", 213, psame_c, psame_res) := by kernel_rfl
attribute [simp] oneN_r0 oneN_r1 oneN_res psame_r0 psame_r1 psame_r2 psame_r3 psame_r4 psame_r5 psame_r6 psame_r7 psame_r8 psame_p8 psame_r9 psame_r10 psame_p10 psame_r11 psame_r12 psame_p12 psame_r13 psame_r14 psame_p14 psame_r15 psame_r16 psame_p16 psame_r17 psame_r18 psame_p18 psame_r19 psame_r20 psame_p20 psame_r21 psame_r22 psame_r23 psame_r24 psame_p24 psame_r25 psame_r26 psame_p26 psame_r27 psame_r28 psame_p28 psame_r29 psame_r30 psame_r31 psame_p31 psame_res

theorem oneN_v {S : St} {k : AV → St → Prop} {u : Dep k}
    (hk : ∀ (S' : St) (s3 s5 s6 s8 s9 s11 : Nat), S'.t = S.t →
      S'.blk 1000028003 = some ⟨s3, 2, [.agg [iv 7, iv 0], .agg [iv 6, iv 0]]⟩ → S'.blk 1000028005 = some ⟨s5, 2, [.agg [iv 1, .sl 1000028003 s3 2 0 2]]⟩ →
      S'.blk 1000028006 = some ⟨s6, 1, [iv 3]⟩ → S'.blk 1000028009 = some ⟨s9, 1, [iv 5]⟩ →
      S'.blk 1000028008 = some ⟨s8, 4, [.agg [.sl 1000028006 s6 1 0 1, iv 2, iv (-1), .bool false]]⟩ → S'.blk 1000028011 = some ⟨s11, 3, [.agg [iv 0, iv 0, .sl 1000028009 s9 1 0 1]]⟩ →
      k (.agg [.sl 1000028005 s5 2 0 1, .sl 1000028008 s8 4 0 1, .sl 1000028011 s11 3 0 1, iv 10]) S') : CallG Try.prog (.fn 29 []) [] S k u := by
  refine callV oneN_get (by simp) (by simp) ?_
  unfold oneN_c
  simp
  refine hk _ (S.clk + 1 + 1 + 1) (S.clk + 1 + 1 + 1 + 1 + 1) (S.clk + 1 + 1 + 1 + 1 + 1 + 1) (S.clk + 1 + 1 + 1 + 1 + 1 + 1 + 1 + 1) (S.clk + 1 + 1 + 1 + 1 + 1 + 1 + 1 + 1 + 1) (S.clk + 1 + 1 + 1 + 1 + 1 + 1 + 1 + 1 + 1 + 1 + 1) rfl ?_ ?_ ?_ ?_ ?_ ?_
  all_goals simp
def samQ (y : Int) : Nat → Prg
  | 0 => ⟨[⟨1, [⟨7, 0⟩, ⟨6, 0⟩]⟩], [⟨[3], 2, -1, false⟩], [⟨0, 0, [5]⟩], IntKind.i64.wrap (10 + y)⟩
  | 1 => ⟨[⟨IntKind.i64.wrap (1 + y), [⟨7, 0⟩, ⟨6, 0⟩]⟩], [⟨[3], 2, -1, false⟩], [⟨0, 0, [5]⟩], 10⟩
  | 2 => ⟨[⟨1, [⟨IntKind.i64.wrap (7 + y), 0⟩, ⟨6, 0⟩]⟩], [⟨[3], 2, -1, false⟩], [⟨0, 0, [5]⟩], 10⟩
  | 3 => ⟨[⟨1, [⟨7, 0⟩, ⟨6, IntKind.i64.wrap (0 + y)⟩]⟩], [⟨[3], 2, -1, false⟩], [⟨0, 0, [5]⟩], 10⟩
  | 4 => ⟨[⟨1, [⟨7, 0⟩]⟩], [⟨[3], 2, -1, false⟩], [⟨0, 0, [5]⟩], 10⟩
  | 5 => ⟨[⟨1, [⟨7, 0⟩, ⟨6, 0⟩]⟩], [⟨[IntKind.i64.wrap (3 + y)], 2, -1, false⟩], [⟨0, 0, [5]⟩], 10⟩
  | 6 => ⟨[⟨1, [⟨7, 0⟩, ⟨6, 0⟩]⟩], [⟨[3], IntKind.i64.wrap (2 + y), -1, false⟩], [⟨0, 0, [5]⟩], 10⟩
  | 7 => ⟨[⟨1, [⟨7, 0⟩, ⟨6, 0⟩]⟩], [⟨[3], 2, IntKind.i64.wrap (-1 + y), false⟩], [⟨0, 0, [5]⟩], 10⟩
  | 8 => ⟨[⟨1, [⟨7, 0⟩, ⟨6, 0⟩]⟩], [⟨[3], 2, -1, true⟩], [⟨0, 0, [5]⟩], 10⟩
  | 9 => ⟨[⟨1, [⟨7, 0⟩, ⟨6, 0⟩]⟩], [⟨[3], 2, -1, false⟩], [⟨IntKind.i64.wrap (0 + y), 0, [5]⟩], 10⟩
  | 10 => ⟨[⟨1, [⟨7, 0⟩, ⟨6, 0⟩]⟩], [⟨[3], 2, -1, false⟩], [⟨0, IntKind.i64.wrap (0 + y), [5]⟩], 10⟩
  | 11 => ⟨[⟨1, [⟨7, 0⟩, ⟨6, 0⟩]⟩], [⟨[3], 2, -1, false⟩], [⟨0, 0, [IntKind.i64.wrap (5 + y)]⟩], 10⟩
  | _ => ⟨[⟨1, [⟨7, 0⟩, ⟨6, 0⟩]⟩, ⟨0, []⟩], [⟨[3], 2, -1, false⟩], [⟨0, 0, [5]⟩], 10⟩
/-- What is there ahead of the switch. -/
def SamI (y : Int) (n : Nat) (S : St) : Prop := ∃ st5 st6 s3 s5 s6 s8 s9 s11, S.t 23 = iv n ∧ S.t 24 = .bool (decide ((n : Int) = 0)) ∧ S.t 1 = iv y ∧ S.t 5 = .ptr 6005 st5 4 0 0 ∧ S.blk 6005 = some ⟨st5, 4, [oneP.av]⟩ ∧ S.t 6 = .ptr 6006 st6 4 0 0 ∧
  S.blk 6006 = some ⟨st6, 4, [.agg [.sl 1000028005 s5 2 0 1, .sl 1000028008 s8 4 0 1, .sl 1000028011 s11 3 0 1, iv 10]]⟩ ∧
  S.blk 1000028003 = some ⟨s3, 2, [.agg [iv 7, iv 0], .agg [iv 6, iv 0]]⟩ ∧ S.blk 1000028005 = some ⟨s5, 2, [.agg [iv 1, .sl 1000028003 s3 2 0 2]]⟩ ∧
  S.blk 1000028006 = some ⟨s6, 1, [iv 3]⟩ ∧ S.blk 1000028009 = some ⟨s9, 1, [iv 5]⟩ ∧
  S.blk 1000028008 = some ⟨s8, 4, [.agg [.sl 1000028006 s6 1 0 1, iv 2, iv (-1), .bool false]]⟩ ∧ S.blk 1000028011 = some ⟨s11, 3, [.agg [iv 0, iv 0, .sl 1000028009 s9 1 0 1]]⟩
/-- What the switch leaves. -/
def SamQ (y : Int) (n : Nat) (S : St) : Prop := ∃ st5 st6 w1 w2 w3 w4, S.t 5 = .ptr 6005 st5 4 0 0 ∧ S.blk 6005 = some ⟨st5, 4, [oneP.av]⟩ ∧ S.t 6 = .ptr 6006 st6 4 0 0 ∧ S.blk 6006 = some ⟨st6, 4, [.agg [w1, w2, w3, w4]]⟩ ∧
  coL (dco S.blk 2) [w1, w2, w3, w4] (samQ y n).av.cells
theorem sam_sw0 (y : Int) (S : St) (h : SamI y 0 S) : V Try.prog psame_k12 (fun e S' => e = .normal ∧ SamQ y 0 S') S := by
  obtain ⟨st5, st6, s3, s5, s6, s8, s9, s11, g23, g24, g1, g5, c5, g6, c6, b3, b5, b6, b9, b8, b11⟩ := h
  simp [psame_k0, psame_k1, psame_k2, psame_k3, psame_k4, psame_k5, psame_k6, psame_k7, psame_k8, psame_k9, psame_k10, psame_k11, psame_k12, g23, g24, g1, g5, c5, g6, c6, b3, b5, b6, b9, b8, b11]
  refine ⟨st5, st6, .sl 1000028005 s5 2 0 1, .sl 1000028008 s8 4 0 1, .sl 1000028011 s11 3 0 1, iv (IntKind.i64.wrap (10 + y)), by simp [g5], by simp [c5], by simp [g6], by simp [c6], ?_⟩
  simp [samQ, dco, elemR, coL, co1, b3, b5, b6, b9, b8, b11]
theorem sam_sw1 (y : Int) (S : St) (h : SamI y 1 S) : V Try.prog psame_k12 (fun e S' => e = .normal ∧ SamQ y 1 S') S := by
  obtain ⟨st5, st6, s3, s5, s6, s8, s9, s11, g23, g24, g1, g5, c5, g6, c6, b3, b5, b6, b9, b8, b11⟩ := h
  simp [psame_k0, psame_k1, psame_k2, psame_k3, psame_k4, psame_k5, psame_k6, psame_k7, psame_k8, psame_k9, psame_k10, psame_k11, psame_k12, g23, g24, g1, g5, c5, g6, c6, b3, b5, b6, b9, b8, b11]
  refine ⟨st5, st6, .sl 1000028005 s5 2 0 1, .sl 1000028008 s8 4 0 1, .sl 1000028011 s11 3 0 1, iv 10, by simp [g5], by simp [c5], by simp [g6], by simp [c6], ?_⟩
  simp [samQ, dco, elemR, coL, co1, b3, b5, b6, b9, b8, b11]
theorem sam_sw2 (y : Int) (S : St) (h : SamI y 2 S) : V Try.prog psame_k12 (fun e S' => e = .normal ∧ SamQ y 2 S') S := by
  obtain ⟨st5, st6, s3, s5, s6, s8, s9, s11, g23, g24, g1, g5, c5, g6, c6, b3, b5, b6, b9, b8, b11⟩ := h
  simp [psame_k0, psame_k1, psame_k2, psame_k3, psame_k4, psame_k5, psame_k6, psame_k7, psame_k8, psame_k9, psame_k10, psame_k11, psame_k12, g23, g24, g1, g5, c5, g6, c6, b3, b5, b6, b9, b8, b11]
  refine ⟨st5, st6, .sl 1000028005 s5 2 0 1, .sl 1000028008 s8 4 0 1, .sl 1000028011 s11 3 0 1, iv 10, by simp [g5], by simp [c5], by simp [g6], by simp [c6], ?_⟩
  simp [samQ, dco, elemR, coL, co1, b3, b5, b6, b9, b8, b11]
theorem sam_sw3 (y : Int) (S : St) (h : SamI y 3 S) : V Try.prog psame_k12 (fun e S' => e = .normal ∧ SamQ y 3 S') S := by
  obtain ⟨st5, st6, s3, s5, s6, s8, s9, s11, g23, g24, g1, g5, c5, g6, c6, b3, b5, b6, b9, b8, b11⟩ := h
  simp [psame_k0, psame_k1, psame_k2, psame_k3, psame_k4, psame_k5, psame_k6, psame_k7, psame_k8, psame_k9, psame_k10, psame_k11, psame_k12, g23, g24, g1, g5, c5, g6, c6, b3, b5, b6, b9, b8, b11]
  refine ⟨st5, st6, .sl 1000028005 s5 2 0 1, .sl 1000028008 s8 4 0 1, .sl 1000028011 s11 3 0 1, iv 10, by simp [g5], by simp [c5], by simp [g6], by simp [c6], ?_⟩
  simp [samQ, dco, elemR, coL, co1, b3, b5, b6, b9, b8, b11]
theorem sam_sw4 (y : Int) (S : St) (h : SamI y 4 S) : V Try.prog psame_k12 (fun e S' => e = .normal ∧ SamQ y 4 S') S := by
  obtain ⟨st5, st6, s3, s5, s6, s8, s9, s11, g23, g24, g1, g5, c5, g6, c6, b3, b5, b6, b9, b8, b11⟩ := h
  simp [psame_k0, psame_k1, psame_k2, psame_k3, psame_k4, psame_k5, psame_k6, psame_k7, psame_k8, psame_k9, psame_k10, psame_k11, psame_k12, g23, g24, g1, g5, c5, g6, c6, b3, b5, b6, b9, b8, b11]
  refine ⟨st5, st6, .sl 1000028005 s5 2 0 1, .sl 1000028008 s8 4 0 1, .sl 1000028011 s11 3 0 1, iv 10, by simp [g5], by simp [c5], by simp [g6], by simp [c6], ?_⟩
  simp [samQ, dco, elemR, coL, co1, b3, b5, b6, b9, b8, b11]
theorem sam_sw5 (y : Int) (S : St) (h : SamI y 5 S) : V Try.prog psame_k12 (fun e S' => e = .normal ∧ SamQ y 5 S') S := by
  obtain ⟨st5, st6, s3, s5, s6, s8, s9, s11, g23, g24, g1, g5, c5, g6, c6, b3, b5, b6, b9, b8, b11⟩ := h
  simp [psame_k0, psame_k1, psame_k2, psame_k3, psame_k4, psame_k5, psame_k6, psame_k7, psame_k8, psame_k9, psame_k10, psame_k11, psame_k12, g23, g24, g1, g5, c5, g6, c6, b3, b5, b6, b9, b8, b11]
  refine ⟨st5, st6, .sl 1000028005 s5 2 0 1, .sl 1000028008 s8 4 0 1, .sl 1000028011 s11 3 0 1, iv 10, by simp [g5], by simp [c5], by simp [g6], by simp [c6], ?_⟩
  simp [samQ, dco, elemR, coL, co1, b3, b5, b6, b9, b8, b11]
theorem sam_sw6 (y : Int) (S : St) (h : SamI y 6 S) : V Try.prog psame_k12 (fun e S' => e = .normal ∧ SamQ y 6 S') S := by
  obtain ⟨st5, st6, s3, s5, s6, s8, s9, s11, g23, g24, g1, g5, c5, g6, c6, b3, b5, b6, b9, b8, b11⟩ := h
  simp [psame_k0, psame_k1, psame_k2, psame_k3, psame_k4, psame_k5, psame_k6, psame_k7, psame_k8, psame_k9, psame_k10, psame_k11, psame_k12, g23, g24, g1, g5, c5, g6, c6, b3, b5, b6, b9, b8, b11]
  refine ⟨st5, st6, .sl 1000028005 s5 2 0 1, .sl 1000028008 s8 4 0 1, .sl 1000028011 s11 3 0 1, iv 10, by simp [g5], by simp [c5], by simp [g6], by simp [c6], ?_⟩
  simp [samQ, dco, elemR, coL, co1, b3, b5, b6, b9, b8, b11]
theorem sam_sw7 (y : Int) (S : St) (h : SamI y 7 S) : V Try.prog psame_k12 (fun e S' => e = .normal ∧ SamQ y 7 S') S := by
  obtain ⟨st5, st6, s3, s5, s6, s8, s9, s11, g23, g24, g1, g5, c5, g6, c6, b3, b5, b6, b9, b8, b11⟩ := h
  simp [psame_k0, psame_k1, psame_k2, psame_k3, psame_k4, psame_k5, psame_k6, psame_k7, psame_k8, psame_k9, psame_k10, psame_k11, psame_k12, g23, g24, g1, g5, c5, g6, c6, b3, b5, b6, b9, b8, b11]
  refine ⟨st5, st6, .sl 1000028005 s5 2 0 1, .sl 1000028008 s8 4 0 1, .sl 1000028011 s11 3 0 1, iv 10, by simp [g5], by simp [c5], by simp [g6], by simp [c6], ?_⟩
  simp [samQ, dco, elemR, coL, co1, b3, b5, b6, b9, b8, b11]
theorem sam_sw8 (y : Int) (S : St) (h : SamI y 8 S) : V Try.prog psame_k12 (fun e S' => e = .normal ∧ SamQ y 8 S') S := by
  obtain ⟨st5, st6, s3, s5, s6, s8, s9, s11, g23, g24, g1, g5, c5, g6, c6, b3, b5, b6, b9, b8, b11⟩ := h
  simp [psame_k0, psame_k1, psame_k2, psame_k3, psame_k4, psame_k5, psame_k6, psame_k7, psame_k8, psame_k9, psame_k10, psame_k11, psame_k12, g23, g24, g1, g5, c5, g6, c6, b3, b5, b6, b9, b8, b11]
  refine ⟨st5, st6, .sl 1000028005 s5 2 0 1, .sl 1000028008 s8 4 0 1, .sl 1000028011 s11 3 0 1, iv 10, by simp [g5], by simp [c5], by simp [g6], by simp [c6], ?_⟩
  simp [samQ, dco, elemR, coL, co1, b3, b5, b6, b9, b8, b11]
theorem sam_sw9 (y : Int) (S : St) (h : SamI y 9 S) : V Try.prog psame_k12 (fun e S' => e = .normal ∧ SamQ y 9 S') S := by
  obtain ⟨st5, st6, s3, s5, s6, s8, s9, s11, g23, g24, g1, g5, c5, g6, c6, b3, b5, b6, b9, b8, b11⟩ := h
  simp [psame_k0, psame_k1, psame_k2, psame_k3, psame_k4, psame_k5, psame_k6, psame_k7, psame_k8, psame_k9, psame_k10, psame_k11, psame_k12, g23, g24, g1, g5, c5, g6, c6, b3, b5, b6, b9, b8, b11]
  refine ⟨st5, st6, .sl 1000028005 s5 2 0 1, .sl 1000028008 s8 4 0 1, .sl 1000028011 s11 3 0 1, iv 10, by simp [g5], by simp [c5], by simp [g6], by simp [c6], ?_⟩
  simp [samQ, dco, elemR, coL, co1, b3, b5, b6, b9, b8, b11]
theorem sam_sw10 (y : Int) (S : St) (h : SamI y 10 S) : V Try.prog psame_k12 (fun e S' => e = .normal ∧ SamQ y 10 S') S := by
  obtain ⟨st5, st6, s3, s5, s6, s8, s9, s11, g23, g24, g1, g5, c5, g6, c6, b3, b5, b6, b9, b8, b11⟩ := h
  simp [psame_k0, psame_k1, psame_k2, psame_k3, psame_k4, psame_k5, psame_k6, psame_k7, psame_k8, psame_k9, psame_k10, psame_k11, psame_k12, g23, g24, g1, g5, c5, g6, c6, b3, b5, b6, b9, b8, b11]
  refine ⟨st5, st6, .sl 1000028005 s5 2 0 1, .sl 1000028008 s8 4 0 1, .sl 1000028011 s11 3 0 1, iv 10, by simp [g5], by simp [c5], by simp [g6], by simp [c6], ?_⟩
  simp [samQ, dco, elemR, coL, co1, b3, b5, b6, b9, b8, b11]
theorem sam_sw11 (y : Int) (S : St) (h : SamI y 11 S) : V Try.prog psame_k12 (fun e S' => e = .normal ∧ SamQ y 11 S') S := by
  obtain ⟨st5, st6, s3, s5, s6, s8, s9, s11, g23, g24, g1, g5, c5, g6, c6, b3, b5, b6, b9, b8, b11⟩ := h
  simp [psame_k0, psame_k1, psame_k2, psame_k3, psame_k4, psame_k5, psame_k6, psame_k7, psame_k8, psame_k9, psame_k10, psame_k11, psame_k12, g23, g24, g1, g5, c5, g6, c6, b3, b5, b6, b9, b8, b11]
  refine ⟨st5, st6, .sl 1000028005 s5 2 0 1, .sl 1000028008 s8 4 0 1, .sl 1000028011 s11 3 0 1, iv 10, by simp [g5], by simp [c5], by simp [g6], by simp [c6], ?_⟩
  simp [samQ, dco, elemR, coL, co1, b3, b5, b6, b9, b8, b11]
theorem sam_sw12 (y : Int) (S : St) (h : SamI y 12 S) : V Try.prog psame_k12 (fun e S' => e = .normal ∧ SamQ y 12 S') S := by
  obtain ⟨st5, st6, s3, s5, s6, s8, s9, s11, g23, g24, g1, g5, c5, g6, c6, b3, b5, b6, b9, b8, b11⟩ := h
  simp [psame_k0, psame_k1, psame_k2, psame_k3, psame_k4, psame_k5, psame_k6, psame_k7, psame_k8, psame_k9, psame_k10, psame_k11, psame_k12, g23, g24, g1, g5, c5, g6, c6, b3, b5, b6, b9, b8, b11]
  refine ⟨st5, st6, .sl 1000006192 (S.clk + 2 + 2 + 2 + 2 + 2 + 2 + 2 + 2 + 2 + 2 + 2 + 2 + 1 + 1 + 1 + 1) 2 0 2, .sl 1000028008 s8 4 0 1, .sl 1000028011 s11 3 0 1, iv 10, by simp [g5], by simp [c5], by simp [g6], by simp [c6], ?_⟩
  simp [samQ, dco, elemR, coL, co1, b3, b5, b6, b9, b8, b11]
theorem psame_0 (k : Int) : PC Try.prog 6 [iv k, iv 0] (.bool true) := by
  refine pc_of_get psame_get (by simp) _ (by simp) _ ?_
  unfold psame_c
  simp
  refine call one_pc (by simp) ?_
  simp
  refine call one_pc (by simp) ?_
  simp [oneP]
  refine call (same_pc oneP oneP okOne) (by simp [oneP]) ?_
  simp
  refine call awake_pc (by simp) ?_
  simp
theorem psame_j (k y : Int) (hy : y ≠ 0) (j : Nat) (hj : (k.tmod 13 + 13).tmod 13 = j) (hsw : ∀ S, SamI y j S → V Try.prog psame_k12 (fun e S' => e = .normal ∧ SamQ y j S') S)
    (hq : samQ y j ≠ oneP) (hok : okP (samQ y j)) (hfit : fitP (samQ y j)) : PC Try.prog 6 [iv k, iv y] (.bool true) := by
  refine pc_of_get psame_get (by simp) _ (by simp) _ ?_
  unfold psame_c
  simp
  refine call one_pc (by simp) ?_
  simp
  refine oneN_v ?_
  intro S s3 s5 s6 s8 s9 s11 ht b3 b5 b6 b9 b8 b11
  simp [ht, b3, b5, b6, b9, b8, b11, oneP]
  refine callW (same_pc oneP oneP okOne) 2 (by simp [oneP, dco, elemR, coL, co1, b3, b5, b6, b9, b8, b11]) rfl ?_
  simp [ht, hy]
  refine call (rnd_pc k 13 (by omega)) (by simp) ?_
  rw [hj]
  simp [ht]
  refine V_cut3 (SamQ y j) (hsw _ ⟨3, 4, s3, s5, s6, s8, s9, s11, by simp, by simp [Int.natCast_eq_zero], by simp [ht], by simp, by simp [oneP], by simp, by simp, by simp [b3], by simp [b5], by simp [b6], by simp [b9], by simp [b8], by simp [b11]⟩) ?_
  rintro S' ⟨st5, st6, w1, w2, w3, w4, g5, c5, g6, c6, hco⟩
  simp
  refine ghost ⟨fun t => if t = 5 then .kp oneP.av.cells 0 else if t = 6 then .kp (samQ y j).av.cells 0 else .junk, fun _ => none, fun _ => none, S'.clk⟩ (wk_freeze 2 _ fun t => ?_) ?_
  · by_cases h5 : t = 5
    · subst h5
      rw [if_pos rfl]
      refine .inr (.inr ⟨6005, st5, 4, 0, 0, _, _, _, g5, c5, rfl, ?_, rfl⟩)
      simp [oneP, dco, coL, co1]
    · rw [if_neg h5]
      by_cases h6 : t = 6
      · subst h6
        rw [if_pos rfl]
        exact .inr (.inr ⟨6006, st6, 4, 0, 0, _, _, _, g6, c6, rfl, hco, rfl⟩)
      · rw [if_neg h6]; exact .inl rfl
  · simp
    refine calld (same_pc oneP (samQ y j) okOne) (by simp) ?_
    simp [hq, Ne.symm hq]
    refine calld (same_pc (samQ y j) oneP hok) (by simp) ?_
    simp [hq, Ne.symm hq]
    refine calld (copy_pc (samQ y j) hfit) (by simp) ?_
    simp
    refine calld (same_pc (samQ y j) (samQ y j) hok) (by simp) ?_
    simp
    refine calld awake_pc (by simp) ?_
    simp
theorem wrap_ne (c y : Int) (hy : y ≠ 0) (h1 : -9223372036854775808 ≤ y ∧ y ≤ 9223372036854775807) (hc : -100 ≤ c ∧ c ≤ 100) : IntKind.i64.wrap (c + y) ≠ c := by
  simp [IntKind.wrap, IntKind.signed, IntKind.bits]
  omega
theorem sam_ne (y : Int) (hy : y ≠ 0) (h1 : -9223372036854775808 ≤ y ∧ y ≤ 9223372036854775807) (j : Nat) (hj : j < 13) : samQ y j ≠ oneP := by
  have w := fun c hc => wrap_ne c y hy h1 hc
  rcases (show j = 0 ∨ j = 1 ∨ j = 2 ∨ j = 3 ∨ j = 4 ∨ j = 5 ∨ j = 6 ∨ j = 7 ∨ j = 8 ∨ j = 9 ∨ j = 10 ∨ j = 11 ∨ j = 12 by omega) with rfl | rfl | rfl | rfl | rfl | rfl | rfl | rfl | rfl | rfl | rfl | rfl | rfl <;> simp [samQ, oneP]
  · exact w 10 (by omega)
  · exact w 1 (by omega)
  · exact w 7 (by omega)
  · have := w 0 (by omega); simpa using this
  · exact w 3 (by omega)
  · exact w 2 (by omega)
  · exact w (-1) (by omega)
  · have := w 0 (by omega); simpa using this
  · have := w 0 (by omega); simpa using this
  · exact w 5 (by omega)
theorem sam_ok (y : Int) (j : Nat) (hj : j < 13) : okP (samQ y j) ∧ fitP (samQ y j) := by
  rcases (show j = 0 ∨ j = 1 ∨ j = 2 ∨ j = 3 ∨ j = 4 ∨ j = 5 ∨ j = 6 ∨ j = 7 ∨ j = 8 ∨ j = 9 ∨ j = 10 ∨ j = 11 ∨ j = 12 by omega) with rfl | rfl | rfl | rfl | rfl | rfl | rfl | rfl | rfl | rfl | rfl | rfl | rfl <;> simp [samQ, okP, fitP]
theorem inR_bounds {y : Int} (h : InR y) : -9223372036854775808 ≤ y ∧ y ≤ 9223372036854775807 := by
  simp [InR, Lit.wf, IntKind.min, IntKind.max, IntKind.signed, IntKind.bits] at h
  omega
theorem progSame_pc (k y : Int) (hR : InR y) : PC Try.prog 6 [iv k, iv y] (.bool true) := by
  by_cases hy : y = 0
  · subst hy; exact psame_0 k
  obtain ⟨j, hj1, hj⟩ := rnd_cases k 13 (by omega)
  have hj13 : j < 13 := by omega
  have hne := sam_ne y hy (inR_bounds hR) j hj13
  obtain ⟨ho, hf⟩ := sam_ok y j hj13
  rcases (show j = 0 ∨ j = 1 ∨ j = 2 ∨ j = 3 ∨ j = 4 ∨ j = 5 ∨ j = 6 ∨ j = 7 ∨ j = 8 ∨ j = 9 ∨ j = 10 ∨ j = 11 ∨ j = 12 by omega) with rfl | rfl | rfl | rfl | rfl | rfl | rfl | rfl | rfl | rfl | rfl | rfl | rfl
  · exact psame_j k y hy 0 hj (sam_sw0 y) hne ho hf
  · exact psame_j k y hy 1 hj (sam_sw1 y) hne ho hf
  · exact psame_j k y hy 2 hj (sam_sw2 y) hne ho hf
  · exact psame_j k y hy 3 hj (sam_sw3 y) hne ho hf
  · exact psame_j k y hy 4 hj (sam_sw4 y) hne ho hf
  · exact psame_j k y hy 5 hj (sam_sw5 y) hne ho hf
  · exact psame_j k y hy 6 hj (sam_sw6 y) hne ho hf
  · exact psame_j k y hy 7 hj (sam_sw7 y) hne ho hf
  · exact psame_j k y hy 8 hj (sam_sw8 y) hne ho hf
  · exact psame_j k y hy 9 hj (sam_sw9 y) hne ho hf
  · exact psame_j k y hy 10 hj (sam_sw10 y) hne ho hf
  · exact psame_j k y hy 11 hj (sam_sw11 y) hne ho hf
  · exact psame_j k y hy 12 hj (sam_sw12 y) hne ho hf

end Go.Gv
