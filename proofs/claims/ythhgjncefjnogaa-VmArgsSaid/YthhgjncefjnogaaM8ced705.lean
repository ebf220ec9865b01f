/- Texts of this proof, one behind the other. What is proved, and on which conditions, stands ahead of each. -/
import Derived.Test.YthhgjncefjnogaaProg
import Derived.Test.YthhgjncefjnogaaM71decca

/- What the document's CheckProg answers. No condition. -/
set_option linter.unusedVariables false
set_option linter.unusedSimpArgs false
namespace Go.Gv
open Go.Proofs

def rcheck_r0 : List AI := [⟨(some 1), none, (.op (.box 22001 4 (.t 0)))⟩, ⟨(some 2), none, (.op (.mv (.c (.int .i64 0))))⟩]
def rcheck_r1 : List AI := [⟨(some 12), none, (.op (.fld 0 (.t 1)))⟩, ⟨(some 13), none, (.op (.load none (.t 12)))⟩, ⟨(some 14), none, (.op (.len (.t 13)))⟩, ⟨(some 15), none, (.op (.ibin .gtr (.t 14) (.c (.int .i64 16))))⟩, ⟨(some 16), none, (.op (.mv (.t 15)))⟩, ⟨(some 17), (some (16, false)), (.op (.fld 1 (.t 1)))⟩, ⟨(some 18), (some (16, false)), (.op (.load none (.t 17)))⟩, ⟨(some 19), (some (16, false)), (.op (.len (.t 18)))⟩, ⟨(some 20), (some (16, false)), (.op (.ibin .gtr (.t 19) (.c (.int .i64 8))))⟩, ⟨(some 21), none, (.op (.pick (.t 16) (.c (.bool true)) (.t 20)))⟩, ⟨(some 22), none, (.op (.mv (.t 21)))⟩, ⟨(some 23), (some (22, false)), (.op (.fld 2 (.t 1)))⟩, ⟨(some 24), (some (22, false)), (.op (.load none (.t 23)))⟩, ⟨(some 25), (some (22, false)), (.op (.len (.t 24)))⟩, ⟨(some 26), (some (22, false)), (.op (.ibin .gtr (.t 25) (.c (.int .i64 16))))⟩, ⟨(some 27), none, (.op (.pick (.t 22) (.c (.bool true)) (.t 26)))⟩, ⟨(some 11), none, (.op (.mv (.t 27)))⟩]
def rcheck_r2 : List AI := [⟨(some 2), none, (.op (.mv (.c (.int .i64 3))))⟩]
def rcheck_r3 : List AI := [⟨(some 29), none, (.op (.fld 1 (.t 1)))⟩, ⟨(some 30), none, (.op (.load none (.t 29)))⟩, ⟨(some 31), none, (.op (.len (.t 30)))⟩, ⟨(some 32), none, (.op (.ibin .eql (.t 31) (.c (.int .i64 0))))⟩, ⟨(some 33), none, (.op (.mv (.t 32)))⟩, ⟨(some 34), (some (33, false)), (.op (.fld 3 (.t 1)))⟩, ⟨(some 35), (some (33, false)), (.op (.load none (.t 34)))⟩, ⟨(some 36), (some (33, false)), (.op (.ibin .lss (.t 35) (.c (.int .i64 1))))⟩, ⟨(some 37), none, (.op (.pick (.t 33) (.c (.bool true)) (.t 36)))⟩, ⟨(some 38), none, (.op (.mv (.t 37)))⟩, ⟨(some 39), (some (38, false)), (.op (.fld 3 (.t 1)))⟩, ⟨(some 40), (some (38, false)), (.op (.load none (.t 39)))⟩, ⟨(some 41), (some (38, false)), (.op (.ibin .gtr (.t 40) (.c (.int .i64 256))))⟩, ⟨(some 42), none, (.op (.pick (.t 38) (.c (.bool true)) (.t 41)))⟩, ⟨(some 28), none, (.op (.mv (.t 42)))⟩]
def rcheck_r4 : List AI := [⟨(some 2), none, (.op (.mv (.c (.int .i64 1))))⟩]
def rcheck_r5 : List AI := [⟨(some 3), none, (.op (.mv (.c (.int .i64 0))))⟩]
def rcheck_r6 : List AI := [⟨(some 43), none, (.op (.mv (.t 3)))⟩, ⟨(some 44), none, (.op (.fld 0 (.t 1)))⟩, ⟨(some 45), none, (.op (.load none (.t 44)))⟩, ⟨(some 46), none, (.op (.len (.t 45)))⟩, ⟨(some 47), none, (.op (.ibin .lss (.t 43) (.t 46)))⟩]
def rcheck_r7 : List AI := [⟨(some 50), none, (.op (.fld 0 (.t 1)))⟩, ⟨(some 51), none, (.op (.load none (.t 50)))⟩, ⟨(some 52), none, (.op (.mv (.t 3)))⟩, ⟨(some 53), none, (.op (.idx 2 (.t 51) (.t 52)))⟩, ⟨(some 54), none, (.op (.load (some 2) (.t 53)))⟩, ⟨(some 4), none, (.op (.new 22004 2 (.agg [(.int .i64 0), .nils])))⟩, ⟨none, none, (.op (.store 2 (.t 4) (.t 54)))⟩]
def rcheck_r8 : List AI := [⟨(some 55), none, (.op (.fld 0 (.t 4)))⟩, ⟨(some 56), none, (.op (.load none (.t 55)))⟩, ⟨(some 57), none, (.op (.ibin .lss (.t 56) (.c (.int .i64 0))))⟩, ⟨(some 58), none, (.op (.mv (.t 57)))⟩, ⟨(some 59), (some (58, false)), (.op (.fld 0 (.t 4)))⟩, ⟨(some 60), (some (58, false)), (.op (.load none (.t 59)))⟩, ⟨(some 61), (some (58, false)), (.op (.ibin .gtr (.t 60) (.c (.int .i64 4))))⟩, ⟨(some 62), none, (.op (.pick (.t 58) (.c (.bool true)) (.t 61)))⟩]
def rcheck_r9 : List AI := [⟨(some 2), none, (.op (.mv (.c (.int .i64 1))))⟩]
def rcheck_r10 : List AI := [⟨(some 63), none, (.op (.fld 1 (.t 4)))⟩, ⟨(some 64), none, (.op (.load none (.t 63)))⟩, ⟨(some 65), none, (.op (.len (.t 64)))⟩, ⟨(some 66), none, (.op (.ibin .gtr (.t 65) (.c (.int .i64 64))))⟩]
def rcheck_r11 : List AI := [⟨(some 2), none, (.op (.mv (.c (.int .i64 3))))⟩]
def rcheck_r12 : List AI := [⟨(some 5), none, (.op (.mv (.c (.int .i64 0))))⟩]
def rcheck_r13 : List AI := [⟨(some 67), none, (.op (.mv (.t 5)))⟩, ⟨(some 68), none, (.op (.fld 1 (.t 4)))⟩, ⟨(some 69), none, (.op (.load none (.t 68)))⟩, ⟨(some 70), none, (.op (.len (.t 69)))⟩, ⟨(some 71), none, (.op (.ibin .lss (.t 67) (.t 70)))⟩]
def rcheck_r14 : List AI := [⟨(some 74), none, (.op (.fld 1 (.t 4)))⟩, ⟨(some 75), none, (.op (.load none (.t 74)))⟩, ⟨(some 76), none, (.op (.mv (.t 5)))⟩, ⟨(some 77), none, (.op (.idx 2 (.t 75) (.t 76)))⟩, ⟨(some 78), none, (.op (.load (some 2) (.t 77)))⟩, ⟨(some 79), none, (.op (.fld 1 (.t 4)))⟩, ⟨(some 80), none, (.op (.load none (.t 79)))⟩, ⟨(some 81), none, (.op (.len (.t 80)))⟩, ⟨(some 82), none, (.op (.fld 0 (.t 4)))⟩, ⟨(some 83), none, (.op (.load none (.t 82)))⟩, ⟨(some 84), none, (.op (.fld 0 (.t 1)))⟩, ⟨(some 85), none, (.op (.load none (.t 84)))⟩, ⟨(some 86), none, (.op (.len (.t 85)))⟩, ⟨(some 87), none, (.call (.c (.fn 80 [])) [(.t 78), (.t 81), (.t 83), (.t 86)])⟩, ⟨(some 6), none, (.op (.mv (.t 87)))⟩]
def rcheck_p14 : List (List Nat) := [[], [0], [], [1, 2, 0], [3, 1, 2, 0], [], [5], [6, 5], [], [8], [], [10], [11, 10], [4, 7, 9, 12, 3, 1, 2, 0, 6, 5, 8, 11, 10], [13, 0, 1, 2, 3, 4, 5, 6, 7, 8, 9, 10, 11, 12]]
def rcheck_r15 : List AI := [⟨(some 88), none, (.op (.mv (.t 6)))⟩, ⟨(some 89), none, (.op (.ibin .neq (.t 88) (.c (.int .i64 0))))⟩]
def rcheck_r16 : List AI := [⟨(some 90), none, (.op (.mv (.t 6)))⟩, ⟨(some 2), none, (.op (.mv (.t 90)))⟩]
def rcheck_r17 : List AI := [⟨(some 72), none, (.op (.mv (.t 5)))⟩, ⟨(some 73), none, (.op (.ibin .add (.t 72) (.c (.int .i64 1))))⟩, ⟨(some 5), none, (.op (.mv (.t 73)))⟩]
def rcheck_l0 : AC := (.seq (.seq (.reg rcheck_r13) (.cond (.t 71) .skip (.exit 3))) (.seq (.block 4 (.seq (.regd rcheck_r14 rcheck_p14) (.seq (.reg rcheck_r15) (.cond (.t 89) (.seq (.reg rcheck_r16) .ret) .skip)))) (.reg rcheck_r17)))
def rcheck_r18 : List AI := [⟨(some 48), none, (.op (.mv (.t 3)))⟩, ⟨(some 49), none, (.op (.ibin .add (.t 48) (.c (.int .i64 1))))⟩, ⟨(some 3), none, (.op (.mv (.t 49)))⟩]
def rcheck_l1 : AC := (.seq (.seq (.reg rcheck_r6) (.cond (.t 47) .skip (.exit 1))) (.seq (.block 2 (.seq (.reg rcheck_r7) (.seq (.seq (.reg rcheck_r8) (.cond (.t 62) (.seq (.reg rcheck_r9) .ret) .skip)) (.seq (.seq (.reg rcheck_r10) (.cond (.t 66) (.seq (.reg rcheck_r11) .ret) .skip)) (.seq (.reg rcheck_r12) (.block 3 (.loop rcheck_l0))))))) (.reg rcheck_r18)))
def rcheck_r19 : List AI := [⟨(some 7), none, (.op (.mv (.c (.int .i64 0))))⟩]
def rcheck_r20 : List AI := [⟨(some 91), none, (.op (.mv (.t 7)))⟩, ⟨(some 92), none, (.op (.fld 1 (.t 1)))⟩, ⟨(some 93), none, (.op (.load none (.t 92)))⟩, ⟨(some 94), none, (.op (.len (.t 93)))⟩, ⟨(some 95), none, (.op (.ibin .lss (.t 91) (.t 94)))⟩]
def rcheck_r21 : List AI := [⟨(some 98), none, (.op (.fld 1 (.t 1)))⟩, ⟨(some 99), none, (.op (.load none (.t 98)))⟩, ⟨(some 100), none, (.op (.mv (.t 7)))⟩, ⟨(some 101), none, (.op (.idx 4 (.t 99) (.t 100)))⟩, ⟨(some 102), none, (.op (.load (some 4) (.t 101)))⟩, ⟨(some 8), none, (.op (.new 22008 4 (.agg [.nils, (.int .i64 0), (.int .i64 0), (.bool false)])))⟩, ⟨none, none, (.op (.store 4 (.t 8) (.t 102)))⟩]
def rcheck_r22 : List AI := [⟨(some 104), none, (.op (.fld 0 (.t 8)))⟩, ⟨(some 105), none, (.op (.load none (.t 104)))⟩, ⟨(some 106), none, (.op (.len (.t 105)))⟩, ⟨(some 107), none, (.op (.ibin .gtr (.t 106) (.c (.int .i64 8))))⟩, ⟨(some 103), none, (.op (.mv (.t 107)))⟩]
def rcheck_r23 : List AI := [⟨(some 2), none, (.op (.mv (.c (.int .i64 3))))⟩]
def rcheck_r24 : List AI := [⟨(some 109), none, (.op (.fld 1 (.t 8)))⟩, ⟨(some 110), none, (.op (.load none (.t 109)))⟩, ⟨(some 111), none, (.op (.ibin .lss (.t 110) (.c (.int .i64 0))))⟩, ⟨(some 112), none, (.op (.mv (.t 111)))⟩, ⟨(some 113), (some (112, false)), (.op (.fld 1 (.t 8)))⟩, ⟨(some 114), (some (112, false)), (.op (.load none (.t 113)))⟩, ⟨(some 115), (some (112, false)), (.op (.ibin .gtr (.t 114) (.c (.int .i64 16))))⟩, ⟨(some 116), none, (.op (.pick (.t 112) (.c (.bool true)) (.t 115)))⟩, ⟨(some 108), none, (.op (.mv (.t 116)))⟩]
def rcheck_r25 : List AI := [⟨(some 2), none, (.op (.mv (.c (.int .i64 1))))⟩]
def rcheck_r26 : List AI := [⟨(some 118), none, (.op (.fld 2 (.t 8)))⟩, ⟨(some 119), none, (.op (.load none (.t 118)))⟩, ⟨(some 120), none, (.op (.ibin .neq (.t 119) (.c (.int .i64 (-1)))))⟩, ⟨(some 121), none, (.op (.mv (.t 120)))⟩, ⟨(some 122), (some (121, true)), (.op (.fld 2 (.t 8)))⟩, ⟨(some 123), (some (121, true)), (.op (.load none (.t 122)))⟩, ⟨(some 124), (some (121, true)), (.op (.ibin .lss (.t 123) (.c (.int .i64 0))))⟩, ⟨(some 125), (some (121, true)), (.op (.mv (.t 124)))⟩, ⟨(some 126), (some (125, false)), (.op (.fld 2 (.t 8)))⟩, ⟨(some 127), (some (125, false)), (.op (.load none (.t 126)))⟩, ⟨(some 128), (some (125, false)), (.op (.fld 0 (.t 1)))⟩, ⟨(some 129), (some (125, false)), (.op (.load none (.t 128)))⟩, ⟨(some 130), (some (125, false)), (.op (.len (.t 129)))⟩, ⟨(some 131), (some (125, false)), (.op (.ibin .geq (.t 127) (.t 130)))⟩, ⟨(some 132), (some (121, true)), (.op (.pick (.t 125) (.c (.bool true)) (.t 131)))⟩, ⟨(some 133), (some (121, true)), (.op (.mv (.t 132)))⟩, ⟨(some 134), (some (133, false)), (.op (.fld 0 (.t 1)))⟩, ⟨(some 135), (some (133, false)), (.op (.load none (.t 134)))⟩, ⟨(some 136), (some (133, false)), (.op (.fld 2 (.t 8)))⟩, ⟨(some 137), (some (133, false)), (.op (.load none (.t 136)))⟩, ⟨(some 138), (some (133, false)), (.op (.idx 2 (.t 135) (.t 137)))⟩, ⟨(some 139), (some (133, false)), (.op (.fld 0 (.t 138)))⟩, ⟨(some 140), (some (133, false)), (.op (.load none (.t 139)))⟩, ⟨(some 141), (some (133, false)), (.op (.ibin .neq (.t 140) (.c (.int .i64 0))))⟩, ⟨(some 142), (some (121, true)), (.op (.pick (.t 133) (.c (.bool true)) (.t 141)))⟩, ⟨(some 143), none, (.op (.pick (.t 121) (.t 142) (.c (.bool false))))⟩, ⟨(some 117), none, (.op (.mv (.t 143)))⟩]
def rcheck_r27 : List AI := [⟨(some 2), none, (.op (.mv (.c (.int .i64 7))))⟩]
def rcheck_r28 : List AI := [⟨(some 145), none, (.op (.fld 3 (.t 8)))⟩, ⟨(some 146), none, (.op (.load none (.t 145)))⟩, ⟨(some 147), none, (.op (.mv (.t 146)))⟩, ⟨(some 148), (some (147, true)), (.op (.fld 2 (.t 8)))⟩, ⟨(some 149), (some (147, true)), (.op (.load none (.t 148)))⟩, ⟨(some 150), (some (147, true)), (.op (.ibin .eql (.t 149) (.c (.int .i64 (-1)))))⟩, ⟨(some 151), none, (.op (.pick (.t 147) (.t 150) (.c (.bool false))))⟩, ⟨(some 144), none, (.op (.mv (.t 151)))⟩]
def rcheck_r29 : List AI := [⟨(some 2), none, (.op (.mv (.c (.int .i64 1))))⟩]
def rcheck_r30 : List AI := [⟨(some 96), none, (.op (.mv (.t 7)))⟩, ⟨(some 97), none, (.op (.ibin .add (.t 96) (.c (.int .i64 1))))⟩, ⟨(some 7), none, (.op (.mv (.t 97)))⟩]
def rcheck_l2 : AC := (.seq (.seq (.reg rcheck_r20) (.cond (.t 95) .skip (.exit 5))) (.seq (.block 6 (.seq (.reg rcheck_r21) (.block 7 (.seq (.reg rcheck_r22) (.cond (.t 103) (.seq (.reg rcheck_r23) .ret) (.seq (.reg rcheck_r24) (.cond (.t 108) (.seq (.reg rcheck_r25) .ret) (.seq (.reg rcheck_r26) (.cond (.t 117) (.seq (.reg rcheck_r27) .ret) (.seq (.reg rcheck_r28) (.cond (.t 144) (.seq (.reg rcheck_r29) .ret) .skip))))))))))) (.reg rcheck_r30)))
def rcheck_r31 : List AI := [⟨(some 9), none, (.op (.mv (.c (.int .i64 0))))⟩]
def rcheck_r32 : List AI := [⟨(some 152), none, (.op (.mv (.t 9)))⟩, ⟨(some 153), none, (.op (.fld 2 (.t 1)))⟩, ⟨(some 154), none, (.op (.load none (.t 153)))⟩, ⟨(some 155), none, (.op (.len (.t 154)))⟩, ⟨(some 156), none, (.op (.ibin .lss (.t 152) (.t 155)))⟩]
def rcheck_r33 : List AI := [⟨(some 159), none, (.op (.load (some 4) (.t 1)))⟩, ⟨(some 160), none, (.op (.fld 2 (.t 1)))⟩, ⟨(some 161), none, (.op (.load none (.t 160)))⟩, ⟨(some 162), none, (.op (.mv (.t 9)))⟩, ⟨(some 163), none, (.op (.idx 3 (.t 161) (.t 162)))⟩, ⟨(some 164), none, (.op (.load (some 3) (.t 163)))⟩, ⟨(some 165), none, (.call (.c (.fn 81 [])) [(.t 159), (.t 164)])⟩, ⟨(some 10), none, (.op (.mv (.t 165)))⟩]
def rcheck_p33 : List (List Nat) := [[], [], [1], [], [2, 3, 1], [4, 2, 3, 1], [0, 5, 4, 2, 3, 1], [6, 0, 1, 2, 3, 4, 5]]
def rcheck_r34 : List AI := [⟨(some 166), none, (.op (.mv (.t 10)))⟩, ⟨(some 167), none, (.op (.ibin .neq (.t 166) (.c (.int .i64 0))))⟩]
def rcheck_r35 : List AI := [⟨(some 168), none, (.op (.mv (.t 10)))⟩, ⟨(some 2), none, (.op (.mv (.t 168)))⟩]
def rcheck_r36 : List AI := [⟨(some 157), none, (.op (.mv (.t 9)))⟩, ⟨(some 158), none, (.op (.ibin .add (.t 157) (.c (.int .i64 1))))⟩, ⟨(some 9), none, (.op (.mv (.t 158)))⟩]
def rcheck_l3 : AC := (.seq (.seq (.reg rcheck_r32) (.cond (.t 156) .skip (.exit 8))) (.seq (.block 9 (.seq (.regd rcheck_r33 rcheck_p33) (.seq (.reg rcheck_r34) (.cond (.t 167) (.seq (.reg rcheck_r35) .ret) .skip)))) (.reg rcheck_r36)))
def rcheck_r37 : List AI := [⟨(some 2), none, (.op (.mv (.c (.int .i64 0))))⟩]
def rcheck_c : AC := (.seq (.reg rcheck_r0) (.seq (.block 0 (.seq (.reg rcheck_r1) (.cond (.t 11) (.seq (.reg rcheck_r2) .ret) (.seq (.reg rcheck_r3) (.cond (.t 28) (.seq (.reg rcheck_r4) .ret) .skip))))) (.seq (.seq (.reg rcheck_r5) (.block 1 (.loop rcheck_l1))) (.seq (.seq (.reg rcheck_r19) (.block 5 (.loop rcheck_l2))) (.seq (.seq (.reg rcheck_r31) (.block 8 (.loop rcheck_l3))) (.seq (.reg rcheck_r37) .ret))))))
def rcheck_res : List ARes := [(.tmp 2)]
set_option maxRecDepth 100000 in
theorem rcheck_get : getF Try.prog 35 22000 [] = some ("gavotte/gavotteref1.CheckProg", 169, rcheck_c, rcheck_res) := by kernel_rfl
attribute [simp] rcheck_r0 rcheck_r1 rcheck_r2 rcheck_r3 rcheck_r4 rcheck_r5 rcheck_r6 rcheck_r7 rcheck_r8 rcheck_r9 rcheck_r10 rcheck_r11 rcheck_r12 rcheck_r13 rcheck_r14 rcheck_p14 rcheck_r15 rcheck_r16 rcheck_r17 rcheck_r18 rcheck_r19 rcheck_r20 rcheck_r21 rcheck_r22 rcheck_r23 rcheck_r24 rcheck_r25 rcheck_r26 rcheck_r27 rcheck_r28 rcheck_r29 rcheck_r30 rcheck_r31 rcheck_r32 rcheck_r33 rcheck_p33 rcheck_r34 rcheck_r35 rcheck_r36 rcheck_r37 rcheck_res

theorem rcheck_pc (p : Prg) : PC Try.prog 35 [p.av] (iv (checkV p)) := by
  refine pc_of_get rcheck_get (by simp) _ (by simp) _ ?_
  unfold rcheck_c
  simp
  refine split (fun h1 => ?_) (fun h1 => ?_) <;> simp [h1]
  · grind [checkV]
  refine split (fun h2 => ?_) (fun h2 => ?_) <;> simp [h2]
  · grind [checkV]
  refine split (fun h3 => ?_) (fun h3 => ?_) <;> simp [h3]
  · grind [checkV]
  refine split (fun h4 => ?_) (fun h4 => ?_) <;> simp [h4]
  · grind [checkV]
  refine split (fun h5 => ?_) (fun h5 => ?_) <;> simp [h5]
  · grind [checkV]
  refine split (fun h6 => ?_) (fun h6 => ?_) <;> simp [h6]
  · grind [checkV]
  have hv : checkV p = if firstNZ (p.hs.map (handlerV p.hs.length)) ≠ 0 then firstNZ (p.hs.map (handlerV p.hs.length))
      else if firstNZ (p.as.map (actorV p.hs)) ≠ 0 then firstNZ (p.as.map (actorV p.hs))
      else firstNZ (p.boot.map (noteV p.hs p.as.length)) := by grind [checkV]
  refine loopN (fun i S => S.t 3 = iv i ∧ (∃ st, S.t 1 = .ptr 22001 st 4 0 0 ∧ S.blk 22001 = some ⟨st, 4, [p.av]⟩) ∧
    firstNZ (p.hs.map (handlerV p.hs.length)) = firstNZ ((p.hs.map (handlerV p.hs.length)).drop i)) p.hs.length ?_ ?_
  · simp
  · rintro i S hi ⟨g1, ⟨st, g2, g3⟩, hh⟩
    by_cases hlt : i < p.hs.length
    · rw [firstNZ_drop _ _ (by simpa using hlt), List.getElem_map] at hh
      simp [rcheck_l1, g1, g2, g3, hlt]
      refine split (fun c1 => ?_) (fun c1 => ?_) <;> simp [c1]
      · grind [handlerV]
      refine split (fun c2 => ?_) (fun c2 => ?_) <;> simp [c2]
      · grind [handlerV]
      refine split (fun c3 => ?_) (fun c3 => ?_) <;> simp [c3]
      · grind [handlerV]
      have hw : handlerV p.hs.length p.hs[i] = firstNZ (p.hs[i].code.map (instrV p.hs.length p.hs[i].args p.hs[i].code.length)) := by grind [handlerV]
      refine loopN (fun j S => S.t 3 = iv i ∧ S.t 5 = iv j ∧ (∃ st, S.t 1 = .ptr 22001 st 4 0 0 ∧ S.blk 22001 = some ⟨st, 4, [p.av]⟩) ∧ (∃ st, S.t 4 = .ptr 22004 st 2 0 0 ∧ S.blk 22004 = some ⟨st, 2, [p.hs[i].av]⟩) ∧
        firstNZ (p.hs[i].code.map (instrV p.hs.length p.hs[i].args p.hs[i].code.length)) = firstNZ ((p.hs[i].code.map (instrV p.hs.length p.hs[i].args p.hs[i].code.length)).drop j)) p.hs[i].code.length ?_ ?_
      · simp [g1, g2, g3]
      · rintro j S hj ⟨k1, k2, ⟨st1, k3, k4⟩, ⟨st2, k5, k6⟩, hx⟩
        by_cases hjt : j < p.hs[i].code.length
        · rw [firstNZ_drop _ _ (by simpa using hjt), List.getElem_map] at hx
          simp [rcheck_l0, k1, k2, k3, k4, k5, k6, hjt]
          refine calld (rinstr_pc p.hs[i].code[j] p.hs[i].code.length p.hs[i].args p.hs.length) (by simp) ?_
          simp [k1, k2, k3, k4, k5, k6, hjt]
          refine split (fun hc => ?_) (fun hc => ?_) <;> simp [hc, k1, k2, k3, k4, k5, k6, hjt, wrap_succ j _ hjt (by omega)]
          · grind
          · grind
        · have e : j = p.hs[i].code.length := by omega
          subst e
          rw [firstNZ_end _ _ (by simp)] at hx
          simp [rcheck_l0, k1, k2, k3, k4, k5, k6, hlt, wrap_succ i _ hlt (by omega)]
          grind
    · have e : i = p.hs.length := by omega
      subst e
      rw [firstNZ_end _ _ (by simp)] at hh
      have hv : checkV p = if firstNZ (p.as.map (actorV p.hs)) ≠ 0 then firstNZ (p.as.map (actorV p.hs)) else firstNZ (p.boot.map (noteV p.hs p.as.length)) := by grind
      simp [rcheck_l1, g1, g2, g3]
      refine loopN (fun i S => S.t 7 = iv i ∧ (∃ st, S.t 1 = .ptr 22001 st 4 0 0 ∧ S.blk 22001 = some ⟨st, 4, [p.av]⟩) ∧
        firstNZ (p.as.map (actorV p.hs)) = firstNZ ((p.as.map (actorV p.hs)).drop i)) p.as.length ?_ ?_
      · simp [g2, g3]
      · rintro i S hi ⟨g1, ⟨st, g2, g3⟩, hh⟩
        by_cases hlt : i < p.as.length
        · rw [firstNZ_drop _ _ (by simpa using hlt), List.getElem_map] at hh
          simp [rcheck_l2, g1, g2, g3, hlt]
          have ws := wrap_succ i _ hlt (by omega)
          generalize p.as[i] = a at hh
          refine split (fun c1 => ?_) (fun c1 => ?_) <;> simp [c1]
          · grind [actorV]
          refine split (fun c2 => ?_) (fun c2 => ?_) <;> simp [c2]
          · grind [actorV]
          refine split (fun c3 => ?_) (fun c3 => ?_) <;> simp [c3]
          · grind [actorV]
          obtain ⟨regs, cap, timer, armed⟩ := a
          simp at c1 c2 c3
          by_cases ht : timer = -1
          · subst ht
            simp
            cases armed <;> simp [g1, g2, g3, hlt, ws] <;> grind [actorV]
          · simp [ht]
            by_cases ht2 : timer < 0
            · simp [ht2]; grind [actorV]
            · obtain ⟨k, rfl⟩ := Int.eq_ofNat_of_zero_le (by omega : 0 ≤ timer)
              have hn : ¬ ((k : Int) < 0) := by omega
              by_cases hk : k < p.hs.length
              · simp [hk, ht, hn, g1, g2, g3, Nat.not_le.2 hk]
                by_cases hz : p.hs[k].args = 0
                · simp [hk, ht, hn, hz, g1, g2, g3, Nat.not_le.2 hk]
                  cases armed <;> simp [hk, ht, hn, hz, Nat.not_le.2 hk, g1, g2, g3, hlt, ws] <;> grind [actorV]
                · simp [hk, ht, hn, hz, g1, g2, g3, Nat.not_le.2 hk]; grind [actorV]
              · simp [hk, ht, hn, g1, g2, g3, Nat.not_lt.1 hk]; grind [actorV]
        · have e : i = p.as.length := by omega
          subst e
          rw [firstNZ_end _ _ (by simp)] at hh
          have hv : checkV p = firstNZ (p.boot.map (noteV p.hs p.as.length)) := by grind
          simp [rcheck_l2, g1, g2, g3]
          refine loopN (fun i S => S.t 9 = iv i ∧ (∃ st, S.t 1 = .ptr 22001 st 4 0 0 ∧ S.blk 22001 = some ⟨st, 4, [p.av]⟩) ∧
            firstNZ (p.boot.map (noteV p.hs p.as.length)) = firstNZ ((p.boot.map (noteV p.hs p.as.length)).drop i)) p.boot.length ?_ ?_
          · simp [g2, g3]
          · rintro i S hi ⟨g1, ⟨st, g2, g3⟩, hh⟩
            by_cases hlt : i < p.boot.length
            · rw [firstNZ_drop _ _ (by simpa using hlt), List.getElem_map] at hh
              simp [rcheck_l3, g1, g2, g3, hlt]
              refine calld (rnote_pc p p.boot[i]) (by simp) ?_
              simp [g1, g2, g3, hlt]
              refine split (fun hc => ?_) (fun hc => ?_) <;> simp [hc, g1, g2, g3, hlt, wrap_succ i _ hlt (by omega)] <;> grind
            · have e : i = p.boot.length := by omega
              subst e
              rw [firstNZ_end _ _ (by simp)] at hh
              simp [rcheck_l3, g1, g2, g3]
              grind


end Go.Gv

/- When lists, and what stands in them, are the same. No condition beyond a list's length below 2^62. -/
set_option linter.unusedVariables false
set_option linter.unusedSimpArgs false
namespace Go.Gv
open Go.Proofs

def aints_r0 : List AI := [⟨(some 4), none, (.op (.mv (.c (.bool false))))⟩]
def aints_r1 : List AI := [⟨(some 6), none, (.op (.mv (.t 0)))⟩, ⟨(some 7), none, (.op (.len (.t 6)))⟩, ⟨(some 8), none, (.op (.mv (.t 1)))⟩, ⟨(some 9), none, (.op (.len (.t 8)))⟩, ⟨(some 10), none, (.op (.ibin .neq (.t 7) (.t 9)))⟩]
def aints_r2 : List AI := [⟨(some 4), none, (.op (.mv (.c (.bool false))))⟩]
def aints_r3 : List AI := [⟨(some 5), none, (.op (.mv (.c (.int .i64 0))))⟩]
def aints_r4 : List AI := [⟨(some 11), none, (.op (.mv (.t 5)))⟩, ⟨(some 12), none, (.op (.mv (.t 0)))⟩, ⟨(some 13), none, (.op (.len (.t 12)))⟩, ⟨(some 14), none, (.op (.ibin .lss (.t 11) (.t 13)))⟩]
def aints_r5 : List AI := [⟨(some 17), none, (.op (.mv (.t 0)))⟩, ⟨(some 18), none, (.op (.mv (.t 5)))⟩, ⟨(some 19), none, (.op (.idx 1 (.t 17) (.t 18)))⟩, ⟨(some 20), none, (.op (.load none (.t 19)))⟩, ⟨(some 21), none, (.op (.mv (.t 1)))⟩, ⟨(some 22), none, (.op (.mv (.t 5)))⟩, ⟨(some 23), none, (.op (.idx 1 (.t 21) (.t 22)))⟩, ⟨(some 24), none, (.op (.load none (.t 23)))⟩, ⟨(some 25), none, (.op (.ibin .neq (.t 20) (.t 24)))⟩]
def aints_p5 : List (List Nat) := [[], [], [0, 1], [2, 0, 1], [], [], [4, 5], [6, 4, 5], [3, 7, 2, 0, 1, 6, 4, 5]]
def aints_r6 : List AI := [⟨(some 4), none, (.op (.mv (.c (.bool false))))⟩]
def aints_r7 : List AI := [⟨(some 15), none, (.op (.mv (.t 5)))⟩, ⟨(some 16), none, (.op (.ibin .add (.t 15) (.c (.int .i64 1))))⟩, ⟨(some 5), none, (.op (.mv (.t 16)))⟩]
def aints_l0 : AC := (.seq (.seq (.reg aints_r4) (.cond (.t 14) .skip (.exit 0))) (.seq (.block 1 (.seq (.regd aints_r5 aints_p5) (.cond (.t 25) (.seq (.reg aints_r6) .ret) .skip))) (.reg aints_r7)))
def aints_r8 : List AI := [⟨(some 4), none, (.op (.mv (.c (.bool true))))⟩]
def aints_c : AC := (.seq (.reg aints_r0) (.seq (.seq (.reg aints_r1) (.cond (.t 10) (.seq (.reg aints_r2) .ret) .skip)) (.seq (.seq (.reg aints_r3) (.block 0 (.loop aints_l0))) (.seq (.reg aints_r8) .ret))))
def aints_res : List ARes := [(.tmp 4)]
set_option maxRecDepth 100000 in
theorem aints_get : getF Try.prog 39 29000 [] = some ("gavotte/gavottealike.Ints", 26, aints_c, aints_res) := by kernel_rfl
def rints_r0 : List AI := [⟨(some 4), none, (.op (.mv (.c (.bool false))))⟩]
def rints_r1 : List AI := [⟨(some 6), none, (.op (.mv (.t 0)))⟩, ⟨(some 7), none, (.op (.len (.t 6)))⟩, ⟨(some 8), none, (.op (.mv (.t 1)))⟩, ⟨(some 9), none, (.op (.len (.t 8)))⟩, ⟨(some 10), none, (.op (.ibin .neq (.t 7) (.t 9)))⟩]
def rints_r2 : List AI := [⟨(some 4), none, (.op (.mv (.c (.bool false))))⟩]
def rints_r3 : List AI := [⟨(some 5), none, (.op (.mv (.c (.int .i64 0))))⟩]
def rints_r4 : List AI := [⟨(some 11), none, (.op (.mv (.t 5)))⟩, ⟨(some 12), none, (.op (.mv (.t 0)))⟩, ⟨(some 13), none, (.op (.len (.t 12)))⟩, ⟨(some 14), none, (.op (.ibin .lss (.t 11) (.t 13)))⟩]
def rints_r5 : List AI := [⟨(some 17), none, (.op (.mv (.t 0)))⟩, ⟨(some 18), none, (.op (.mv (.t 5)))⟩, ⟨(some 19), none, (.op (.idx 1 (.t 17) (.t 18)))⟩, ⟨(some 20), none, (.op (.load none (.t 19)))⟩, ⟨(some 21), none, (.op (.mv (.t 1)))⟩, ⟨(some 22), none, (.op (.mv (.t 5)))⟩, ⟨(some 23), none, (.op (.idx 1 (.t 21) (.t 22)))⟩, ⟨(some 24), none, (.op (.load none (.t 23)))⟩, ⟨(some 25), none, (.op (.ibin .neq (.t 20) (.t 24)))⟩]
def rints_p5 : List (List Nat) := [[], [], [0, 1], [2, 0, 1], [], [], [4, 5], [6, 4, 5], [3, 7, 2, 0, 1, 6, 4, 5]]
def rints_r6 : List AI := [⟨(some 4), none, (.op (.mv (.c (.bool false))))⟩]
def rints_r7 : List AI := [⟨(some 15), none, (.op (.mv (.t 5)))⟩, ⟨(some 16), none, (.op (.ibin .add (.t 15) (.c (.int .i64 1))))⟩, ⟨(some 5), none, (.op (.mv (.t 16)))⟩]
def rints_l0 : AC := (.seq (.seq (.reg rints_r4) (.cond (.t 14) .skip (.exit 0))) (.seq (.block 1 (.seq (.regd rints_r5 rints_p5) (.cond (.t 25) (.seq (.reg rints_r6) .ret) .skip))) (.reg rints_r7)))
def rints_r8 : List AI := [⟨(some 4), none, (.op (.mv (.c (.bool true))))⟩]
def rints_c : AC := (.seq (.reg rints_r0) (.seq (.seq (.reg rints_r1) (.cond (.t 10) (.seq (.reg rints_r2) .ret) .skip)) (.seq (.seq (.reg rints_r3) (.block 0 (.loop rints_l0))) (.seq (.reg rints_r8) .ret))))
def rints_res : List ARes := [(.tmp 4)]
set_option maxRecDepth 100000 in
theorem rints_get : getF Try.prog 67 48000 [] = some ("gavotte/gavotteref1.Ints", 26, rints_c, rints_res) := by kernel_rfl
def sints_r0 : List AI := [⟨(some 4), none, (.op (.mv (.c (.bool false))))⟩]
def sints_r1 : List AI := [⟨(some 6), none, (.op (.mv (.t 0)))⟩, ⟨(some 7), none, (.op (.len (.t 6)))⟩, ⟨(some 8), none, (.op (.mv (.t 1)))⟩, ⟨(some 9), none, (.op (.len (.t 8)))⟩, ⟨(some 10), none, (.op (.ibin .neq (.t 7) (.t 9)))⟩]
def sints_r2 : List AI := [⟨(some 4), none, (.op (.mv (.c (.bool false))))⟩]
def sints_r3 : List AI := [⟨(some 11), none, (.op (.mv (.t 0)))⟩, ⟨(some 12), none, (.op (.len (.t 11)))⟩, ⟨(some 13), none, (.op (.mv (.c (.int .i64 0))))⟩]
def sints_r4 : List AI := [⟨(some 14), none, (.op (.ibin .lss (.t 13) (.t 12)))⟩]
def sints_r5 : List AI := [⟨(some 15), none, (.op (.mv (.t 13)))⟩, ⟨(some 5), none, (.op (.mv (.t 15)))⟩]
def sints_r6 : List AI := [⟨(some 16), none, (.op (.mv (.t 0)))⟩, ⟨(some 17), none, (.op (.mv (.t 5)))⟩, ⟨(some 18), none, (.op (.idx 1 (.t 16) (.t 17)))⟩, ⟨(some 19), none, (.op (.load none (.t 18)))⟩, ⟨(some 20), none, (.op (.mv (.t 1)))⟩, ⟨(some 21), none, (.op (.mv (.t 5)))⟩, ⟨(some 22), none, (.op (.idx 1 (.t 20) (.t 21)))⟩, ⟨(some 23), none, (.op (.load none (.t 22)))⟩, ⟨(some 24), none, (.op (.ibin .neq (.t 19) (.t 23)))⟩]
def sints_p6 : List (List Nat) := [[], [], [0, 1], [2, 0, 1], [], [], [4, 5], [6, 4, 5], [3, 7, 2, 0, 1, 6, 4, 5]]
def sints_r7 : List AI := [⟨(some 4), none, (.op (.mv (.c (.bool false))))⟩]
def sints_r8 : List AI := [⟨(some 25), none, (.op (.ibin .add (.t 13) (.c (.int .i64 1))))⟩, ⟨(some 13), none, (.op (.mv (.t 25)))⟩]
def sints_l0 : AC := (.seq (.reg sints_r4) (.seq (.cond (.t 14) .skip (.exit 0)) (.seq (.block 1 (.seq (.reg sints_r5) (.seq (.regd sints_r6 sints_p6) (.cond (.t 24) (.seq (.reg sints_r7) .ret) .skip)))) (.reg sints_r8))))
def sints_r9 : List AI := [⟨(some 4), none, (.op (.mv (.c (.bool true))))⟩]
def sints_c : AC := (.seq (.reg sints_r0) (.seq (.seq (.reg sints_r1) (.cond (.t 10) (.seq (.reg sints_r2) .ret) .skip)) (.seq (.seq (.reg sints_r3) (.block 0 (.loop sints_l0))) (.seq (.reg sints_r9) .ret))))
def sints_res : List ARes := [(.tmp 4)]
set_option maxRecDepth 100000 in
theorem sints_get : getF Try.prog 89 52000 [] = some ("slices.Equal[[]int,int]", 26, sints_c, sints_res) := by kernel_rfl
def rcode_r0 : List AI := [⟨(some 4), none, (.op (.mv (.c (.bool false))))⟩]
def rcode_r1 : List AI := [⟨(some 6), none, (.op (.mv (.t 0)))⟩, ⟨(some 7), none, (.op (.len (.t 6)))⟩, ⟨(some 8), none, (.op (.mv (.t 1)))⟩, ⟨(some 9), none, (.op (.len (.t 8)))⟩, ⟨(some 10), none, (.op (.ibin .neq (.t 7) (.t 9)))⟩]
def rcode_r2 : List AI := [⟨(some 4), none, (.op (.mv (.c (.bool false))))⟩]
def rcode_r3 : List AI := [⟨(some 5), none, (.op (.mv (.c (.int .i64 0))))⟩]
def rcode_r4 : List AI := [⟨(some 11), none, (.op (.mv (.t 5)))⟩, ⟨(some 12), none, (.op (.mv (.t 0)))⟩, ⟨(some 13), none, (.op (.len (.t 12)))⟩, ⟨(some 14), none, (.op (.ibin .lss (.t 11) (.t 13)))⟩]
def rcode_r5 : List AI := [⟨(some 17), none, (.op (.mv (.t 0)))⟩, ⟨(some 18), none, (.op (.mv (.t 5)))⟩, ⟨(some 19), none, (.op (.idx 2 (.t 17) (.t 18)))⟩, ⟨(some 20), none, (.op (.load (some 2) (.t 19)))⟩, ⟨(some 21), none, (.op (.mv (.t 1)))⟩, ⟨(some 22), none, (.op (.mv (.t 5)))⟩, ⟨(some 23), none, (.op (.idx 2 (.t 21) (.t 22)))⟩, ⟨(some 24), none, (.op (.load (some 2) (.t 23)))⟩, ⟨(some 25), none, (.op (.eqs [false, false] true (.t 20) (.t 24)))⟩]
def rcode_p5 : List (List Nat) := [[], [], [0, 1], [2, 0, 1], [], [], [4, 5], [6, 4, 5], [3, 7, 2, 0, 1, 6, 4, 5]]
def rcode_r6 : List AI := [⟨(some 4), none, (.op (.mv (.c (.bool false))))⟩]
def rcode_r7 : List AI := [⟨(some 15), none, (.op (.mv (.t 5)))⟩, ⟨(some 16), none, (.op (.ibin .add (.t 15) (.c (.int .i64 1))))⟩, ⟨(some 5), none, (.op (.mv (.t 16)))⟩]
def rcode_l0 : AC := (.seq (.seq (.reg rcode_r4) (.cond (.t 14) .skip (.exit 0))) (.seq (.block 1 (.seq (.regd rcode_r5 rcode_p5) (.cond (.t 25) (.seq (.reg rcode_r6) .ret) .skip))) (.reg rcode_r7)))
def rcode_r8 : List AI := [⟨(some 4), none, (.op (.mv (.c (.bool true))))⟩]
def rcode_c : AC := (.seq (.reg rcode_r0) (.seq (.seq (.reg rcode_r1) (.cond (.t 10) (.seq (.reg rcode_r2) .ret) .skip)) (.seq (.seq (.reg rcode_r3) (.block 0 (.loop rcode_l0))) (.seq (.reg rcode_r8) .ret))))
def rcode_res : List ARes := [(.tmp 4)]
set_option maxRecDepth 100000 in
theorem rcode_get : getF Try.prog 66 47000 [] = some ("gavotte/gavotteref1.Code", 26, rcode_c, rcode_res) := by kernel_rfl
def sinss_r0 : List AI := [⟨(some 4), none, (.op (.mv (.c (.bool false))))⟩]
def sinss_r1 : List AI := [⟨(some 6), none, (.op (.mv (.t 0)))⟩, ⟨(some 7), none, (.op (.len (.t 6)))⟩, ⟨(some 8), none, (.op (.mv (.t 1)))⟩, ⟨(some 9), none, (.op (.len (.t 8)))⟩, ⟨(some 10), none, (.op (.ibin .neq (.t 7) (.t 9)))⟩]
def sinss_r2 : List AI := [⟨(some 4), none, (.op (.mv (.c (.bool false))))⟩]
def sinss_r3 : List AI := [⟨(some 11), none, (.op (.mv (.t 0)))⟩, ⟨(some 12), none, (.op (.len (.t 11)))⟩, ⟨(some 13), none, (.op (.mv (.c (.int .i64 0))))⟩]
def sinss_r4 : List AI := [⟨(some 14), none, (.op (.ibin .lss (.t 13) (.t 12)))⟩]
def sinss_r5 : List AI := [⟨(some 15), none, (.op (.mv (.t 13)))⟩, ⟨(some 5), none, (.op (.mv (.t 15)))⟩]
def sinss_r6 : List AI := [⟨(some 16), none, (.op (.mv (.t 0)))⟩, ⟨(some 17), none, (.op (.mv (.t 5)))⟩, ⟨(some 18), none, (.op (.idx 2 (.t 16) (.t 17)))⟩, ⟨(some 19), none, (.op (.load (some 2) (.t 18)))⟩, ⟨(some 20), none, (.op (.mv (.t 1)))⟩, ⟨(some 21), none, (.op (.mv (.t 5)))⟩, ⟨(some 22), none, (.op (.idx 2 (.t 20) (.t 21)))⟩, ⟨(some 23), none, (.op (.load (some 2) (.t 22)))⟩, ⟨(some 24), none, (.op (.eqs [false, false] true (.t 19) (.t 23)))⟩]
def sinss_p6 : List (List Nat) := [[], [], [0, 1], [2, 0, 1], [], [], [4, 5], [6, 4, 5], [3, 7, 2, 0, 1, 6, 4, 5]]
def sinss_r7 : List AI := [⟨(some 4), none, (.op (.mv (.c (.bool false))))⟩]
def sinss_r8 : List AI := [⟨(some 25), none, (.op (.ibin .add (.t 13) (.c (.int .i64 1))))⟩, ⟨(some 13), none, (.op (.mv (.t 25)))⟩]
def sinss_l0 : AC := (.seq (.reg sinss_r4) (.seq (.cond (.t 14) .skip (.exit 0)) (.seq (.block 1 (.seq (.reg sinss_r5) (.seq (.regd sinss_r6 sinss_p6) (.cond (.t 24) (.seq (.reg sinss_r7) .ret) .skip)))) (.reg sinss_r8))))
def sinss_r9 : List AI := [⟨(some 4), none, (.op (.mv (.c (.bool true))))⟩]
def sinss_c : AC := (.seq (.reg sinss_r0) (.seq (.seq (.reg sinss_r1) (.cond (.t 10) (.seq (.reg sinss_r2) .ret) .skip)) (.seq (.seq (.reg sinss_r3) (.block 0 (.loop sinss_l0))) (.seq (.reg sinss_r9) .ret))))
def sinss_res : List ARes := [(.tmp 4)]
set_option maxRecDepth 100000 in
theorem sinss_get : getF Try.prog 90 56000 [] = some ("slices.Equal[[]gavotte/api.Instr,gavotte/api.Instr]", 26, sinss_c, sinss_res) := by kernel_rfl
def sameNote_r0 : List AI := [⟨(some 2), none, (.op (.box 30002 3 (.t 0)))⟩, ⟨(some 3), none, (.op (.box 30003 3 (.t 1)))⟩, ⟨(some 4), none, (.op (.mv (.c (.bool false))))⟩]
def sameNote_r1 : List AI := [⟨(some 5), none, (.op (.fld 0 (.t 2)))⟩, ⟨(some 6), none, (.op (.load none (.t 5)))⟩, ⟨(some 7), none, (.op (.fld 0 (.t 3)))⟩, ⟨(some 8), none, (.op (.load none (.t 7)))⟩, ⟨(some 9), none, (.op (.ibin .eql (.t 6) (.t 8)))⟩, ⟨(some 10), none, (.op (.mv (.t 9)))⟩, ⟨(some 11), (some (10, true)), (.op (.fld 1 (.t 2)))⟩, ⟨(some 12), (some (10, true)), (.op (.load none (.t 11)))⟩, ⟨(some 13), (some (10, true)), (.op (.fld 1 (.t 3)))⟩, ⟨(some 14), (some (10, true)), (.op (.load none (.t 13)))⟩, ⟨(some 15), (some (10, true)), (.op (.ibin .eql (.t 12) (.t 14)))⟩, ⟨(some 16), none, (.op (.pick (.t 10) (.t 15) (.c (.bool false))))⟩, ⟨(some 17), none, (.op (.mv (.t 16)))⟩, ⟨(some 18), (some (17, true)), (.op (.fld 2 (.t 2)))⟩, ⟨(some 19), (some (17, true)), (.op (.load none (.t 18)))⟩, ⟨(some 20), (some (17, true)), (.op (.fld 2 (.t 3)))⟩, ⟨(some 21), (some (17, true)), (.op (.load none (.t 20)))⟩, ⟨(some 22), (some (17, true)), (.call (.c (.fn 89 [])) [(.t 19), (.t 21)])⟩, ⟨(some 23), none, (.op (.pick (.t 17) (.t 22) (.c (.bool false))))⟩, ⟨(some 4), none, (.op (.mv (.t 23)))⟩]
def sameNote_c : AC := (.seq (.reg sameNote_r0) (.seq (.reg sameNote_r1) .ret))
def sameNote_res : List ARes := [(.tmp 4)]
set_option maxRecDepth 100000 in
theorem sameNote_get : getF Try.prog 61 30000 [] = some ("gavotte/prog.SameNote", 24, sameNote_c, sameNote_res) := by kernel_rfl
def rsameNote_r0 : List AI := [⟨(some 2), none, (.op (.box 57002 3 (.t 0)))⟩, ⟨(some 3), none, (.op (.box 57003 3 (.t 1)))⟩, ⟨(some 4), none, (.op (.mv (.c (.bool false))))⟩]
def rsameNote_r1 : List AI := [⟨(some 5), none, (.op (.fld 0 (.t 2)))⟩, ⟨(some 6), none, (.op (.load none (.t 5)))⟩, ⟨(some 7), none, (.op (.fld 0 (.t 3)))⟩, ⟨(some 8), none, (.op (.load none (.t 7)))⟩, ⟨(some 9), none, (.op (.ibin .eql (.t 6) (.t 8)))⟩, ⟨(some 10), none, (.op (.mv (.t 9)))⟩, ⟨(some 11), (some (10, true)), (.op (.fld 1 (.t 2)))⟩, ⟨(some 12), (some (10, true)), (.op (.load none (.t 11)))⟩, ⟨(some 13), (some (10, true)), (.op (.fld 1 (.t 3)))⟩, ⟨(some 14), (some (10, true)), (.op (.load none (.t 13)))⟩, ⟨(some 15), (some (10, true)), (.op (.ibin .eql (.t 12) (.t 14)))⟩, ⟨(some 16), none, (.op (.pick (.t 10) (.t 15) (.c (.bool false))))⟩, ⟨(some 17), none, (.op (.mv (.t 16)))⟩, ⟨(some 18), (some (17, true)), (.op (.fld 2 (.t 2)))⟩, ⟨(some 19), (some (17, true)), (.op (.load none (.t 18)))⟩, ⟨(some 20), (some (17, true)), (.op (.fld 2 (.t 3)))⟩, ⟨(some 21), (some (17, true)), (.op (.load none (.t 20)))⟩, ⟨(some 22), (some (17, true)), (.call (.c (.fn 67 [])) [(.t 19), (.t 21)])⟩, ⟨(some 23), none, (.op (.pick (.t 17) (.t 22) (.c (.bool false))))⟩, ⟨(some 4), none, (.op (.mv (.t 23)))⟩]
def rsameNote_c : AC := (.seq (.reg rsameNote_r0) (.seq (.reg rsameNote_r1) .ret))
def rsameNote_res : List ARes := [(.tmp 4)]
set_option maxRecDepth 100000 in
theorem rsameNote_get : getF Try.prog 49 57000 [] = some ("gavotte/gavotteref1.SameNote", 24, rsameNote_c, rsameNote_res) := by kernel_rfl
def sameHnd_r0 : List AI := [⟨(some 2), none, (.op (.box 42002 2 (.t 0)))⟩, ⟨(some 3), none, (.op (.box 42003 2 (.t 1)))⟩, ⟨(some 4), none, (.op (.mv (.c (.bool false))))⟩]
def sameHnd_r1 : List AI := [⟨(some 5), none, (.op (.fld 0 (.t 2)))⟩, ⟨(some 6), none, (.op (.load none (.t 5)))⟩, ⟨(some 7), none, (.op (.fld 0 (.t 3)))⟩, ⟨(some 8), none, (.op (.load none (.t 7)))⟩, ⟨(some 9), none, (.op (.ibin .eql (.t 6) (.t 8)))⟩, ⟨(some 10), none, (.op (.mv (.t 9)))⟩, ⟨(some 11), (some (10, true)), (.op (.fld 1 (.t 2)))⟩, ⟨(some 12), (some (10, true)), (.op (.load none (.t 11)))⟩, ⟨(some 13), (some (10, true)), (.op (.fld 1 (.t 3)))⟩, ⟨(some 14), (some (10, true)), (.op (.load none (.t 13)))⟩, ⟨(some 15), (some (10, true)), (.call (.c (.fn 90 [])) [(.t 12), (.t 14)])⟩, ⟨(some 16), none, (.op (.pick (.t 10) (.t 15) (.c (.bool false))))⟩, ⟨(some 4), none, (.op (.mv (.t 16)))⟩]
def sameHnd_c : AC := (.seq (.reg sameHnd_r0) (.seq (.reg sameHnd_r1) .ret))
def sameHnd_res : List ARes := [(.tmp 4)]
set_option maxRecDepth 100000 in
theorem sameHnd_get : getF Try.prog 69 42000 [] = some ("gavotte/prog.sameHandler", 17, sameHnd_c, sameHnd_res) := by kernel_rfl
def sameAct_r0 : List AI := [⟨(some 2), none, (.op (.box 44002 4 (.t 0)))⟩, ⟨(some 3), none, (.op (.box 44003 4 (.t 1)))⟩, ⟨(some 4), none, (.op (.mv (.c (.bool false))))⟩]
def sameAct_r1 : List AI := [⟨(some 5), none, (.op (.fld 0 (.t 2)))⟩, ⟨(some 6), none, (.op (.load none (.t 5)))⟩, ⟨(some 7), none, (.op (.fld 0 (.t 3)))⟩, ⟨(some 8), none, (.op (.load none (.t 7)))⟩, ⟨(some 9), none, (.call (.c (.fn 89 [])) [(.t 6), (.t 8)])⟩, ⟨(some 10), none, (.op (.mv (.t 9)))⟩, ⟨(some 11), (some (10, true)), (.op (.fld 1 (.t 2)))⟩, ⟨(some 12), (some (10, true)), (.op (.load none (.t 11)))⟩, ⟨(some 13), (some (10, true)), (.op (.fld 1 (.t 3)))⟩, ⟨(some 14), (some (10, true)), (.op (.load none (.t 13)))⟩, ⟨(some 15), (some (10, true)), (.op (.ibin .eql (.t 12) (.t 14)))⟩, ⟨(some 16), none, (.op (.pick (.t 10) (.t 15) (.c (.bool false))))⟩, ⟨(some 17), none, (.op (.mv (.t 16)))⟩, ⟨(some 18), (some (17, true)), (.op (.fld 2 (.t 2)))⟩, ⟨(some 19), (some (17, true)), (.op (.load none (.t 18)))⟩, ⟨(some 20), (some (17, true)), (.op (.fld 2 (.t 3)))⟩, ⟨(some 21), (some (17, true)), (.op (.load none (.t 20)))⟩, ⟨(some 22), (some (17, true)), (.op (.ibin .eql (.t 19) (.t 21)))⟩, ⟨(some 23), none, (.op (.pick (.t 17) (.t 22) (.c (.bool false))))⟩, ⟨(some 24), none, (.op (.mv (.t 23)))⟩, ⟨(some 25), (some (24, true)), (.op (.fld 3 (.t 2)))⟩, ⟨(some 26), (some (24, true)), (.op (.load none (.t 25)))⟩, ⟨(some 27), (some (24, true)), (.op (.fld 3 (.t 3)))⟩, ⟨(some 28), (some (24, true)), (.op (.load none (.t 27)))⟩, ⟨(some 29), (some (24, true)), (.op (.eqv false (.t 26) (.t 28)))⟩, ⟨(some 30), none, (.op (.pick (.t 24) (.t 29) (.c (.bool false))))⟩, ⟨(some 4), none, (.op (.mv (.t 30)))⟩]
def sameAct_c : AC := (.seq (.reg sameAct_r0) (.seq (.reg sameAct_r1) .ret))
def sameAct_res : List ARes := [(.tmp 4)]
set_option maxRecDepth 100000 in
theorem sameAct_get : getF Try.prog 71 44000 [] = some ("gavotte/prog.sameActor", 31, sameAct_c, sameAct_res) := by kernel_rfl
def eqfH_r0 : List AI := [⟨(some 6), none, (.op (.mv (.c (.bool false))))⟩]
def eqfH_r1 : List AI := [⟨(some 10), none, (.op (.mv (.t 0)))⟩, ⟨(some 11), none, (.op (.len (.t 10)))⟩, ⟨(some 12), none, (.op (.mv (.t 1)))⟩, ⟨(some 13), none, (.op (.len (.t 12)))⟩, ⟨(some 14), none, (.op (.ibin .neq (.t 11) (.t 13)))⟩]
def eqfH_r2 : List AI := [⟨(some 6), none, (.op (.mv (.c (.bool false))))⟩]
def eqfH_r3 : List AI := [⟨(some 15), none, (.op (.mv (.t 0)))⟩, ⟨(some 16), none, (.op (.len (.t 15)))⟩, ⟨(some 17), none, (.op (.mv (.c (.int .i64 0))))⟩]
def eqfH_r4 : List AI := [⟨(some 18), none, (.op (.ibin .lss (.t 17) (.t 16)))⟩]
def eqfH_r5 : List AI := [⟨(some 19), none, (.op (.mv (.t 17)))⟩, ⟨(some 20), none, (.op (.idx 2 (.t 15) (.t 17)))⟩, ⟨(some 21), none, (.op (.load (some 2) (.t 20)))⟩, ⟨(some 8), none, (.op (.new 41008 2 (.agg [(.int .i64 0), .nils])))⟩, ⟨(some 7), none, (.op (.mv (.t 19)))⟩, ⟨none, none, (.op (.store 2 (.t 8) (.t 21)))⟩]
def eqfH_r6 : List AI := [⟨(some 22), none, (.op (.mv (.t 1)))⟩, ⟨(some 23), none, (.op (.mv (.t 7)))⟩, ⟨(some 24), none, (.op (.idx 2 (.t 22) (.t 23)))⟩, ⟨(some 25), none, (.op (.load (some 2) (.t 24)))⟩, ⟨(some 9), none, (.op (.new 41009 2 (.agg [(.int .i64 0), .nils])))⟩, ⟨none, none, (.op (.store 2 (.t 9) (.t 25)))⟩]
def eqfH_r7 : List AI := [⟨(some 26), none, (.op (.mv (.t 2)))⟩, ⟨(some 27), none, (.op (.load (some 2) (.t 8)))⟩, ⟨(some 28), none, (.op (.load (some 2) (.t 9)))⟩, ⟨(some 29), none, (.call (.t 26) [(.t 27), (.t 28)])⟩, ⟨(some 30), none, (.op (.not (.t 29)))⟩]
def eqfH_r8 : List AI := [⟨(some 6), none, (.op (.mv (.c (.bool false))))⟩]
def eqfH_r9 : List AI := [⟨(some 31), none, (.op (.ibin .add (.t 17) (.c (.int .i64 1))))⟩, ⟨(some 17), none, (.op (.mv (.t 31)))⟩]
def eqfH_l0 : AC := (.seq (.reg eqfH_r4) (.seq (.cond (.t 18) .skip (.exit 0)) (.seq (.block 1 (.seq (.reg eqfH_r5) (.seq (.reg eqfH_r6) (.seq (.reg eqfH_r7) (.cond (.t 30) (.seq (.reg eqfH_r8) .ret) .skip))))) (.reg eqfH_r9))))
def eqfH_r10 : List AI := [⟨(some 6), none, (.op (.mv (.c (.bool true))))⟩]
def eqfH_c : AC := (.seq (.reg eqfH_r0) (.seq (.seq (.reg eqfH_r1) (.cond (.t 14) (.seq (.reg eqfH_r2) .ret) .skip)) (.seq (.seq (.reg eqfH_r3) (.block 0 (.loop eqfH_l0))) (.seq (.reg eqfH_r10) .ret))))
def eqfH_res : List ARes := [(.tmp 6)]
set_option maxRecDepth 100000 in
theorem eqfH_get : getF Try.prog 68 41000 [] = some ("slices.EqualFunc[[]gavotte/api.Handler,[]gavotte/api.Handler,gavotte/api.Handler,gavotte/api.Handler]", 32, eqfH_c, eqfH_res) := by kernel_rfl
def eqfA_r0 : List AI := [⟨(some 6), none, (.op (.mv (.c (.bool false))))⟩]
def eqfA_r1 : List AI := [⟨(some 10), none, (.op (.mv (.t 0)))⟩, ⟨(some 11), none, (.op (.len (.t 10)))⟩, ⟨(some 12), none, (.op (.mv (.t 1)))⟩, ⟨(some 13), none, (.op (.len (.t 12)))⟩, ⟨(some 14), none, (.op (.ibin .neq (.t 11) (.t 13)))⟩]
def eqfA_r2 : List AI := [⟨(some 6), none, (.op (.mv (.c (.bool false))))⟩]
def eqfA_r3 : List AI := [⟨(some 15), none, (.op (.mv (.t 0)))⟩, ⟨(some 16), none, (.op (.len (.t 15)))⟩, ⟨(some 17), none, (.op (.mv (.c (.int .i64 0))))⟩]
def eqfA_r4 : List AI := [⟨(some 18), none, (.op (.ibin .lss (.t 17) (.t 16)))⟩]
def eqfA_r5 : List AI := [⟨(some 19), none, (.op (.mv (.t 17)))⟩, ⟨(some 20), none, (.op (.idx 4 (.t 15) (.t 17)))⟩, ⟨(some 21), none, (.op (.load (some 4) (.t 20)))⟩, ⟨(some 8), none, (.op (.new 43008 4 (.agg [.nils, (.int .i64 0), (.int .i64 0), (.bool false)])))⟩, ⟨(some 7), none, (.op (.mv (.t 19)))⟩, ⟨none, none, (.op (.store 4 (.t 8) (.t 21)))⟩]
def eqfA_r6 : List AI := [⟨(some 22), none, (.op (.mv (.t 1)))⟩, ⟨(some 23), none, (.op (.mv (.t 7)))⟩, ⟨(some 24), none, (.op (.idx 4 (.t 22) (.t 23)))⟩, ⟨(some 25), none, (.op (.load (some 4) (.t 24)))⟩, ⟨(some 9), none, (.op (.new 43009 4 (.agg [.nils, (.int .i64 0), (.int .i64 0), (.bool false)])))⟩, ⟨none, none, (.op (.store 4 (.t 9) (.t 25)))⟩]
def eqfA_r7 : List AI := [⟨(some 26), none, (.op (.mv (.t 2)))⟩, ⟨(some 27), none, (.op (.load (some 4) (.t 8)))⟩, ⟨(some 28), none, (.op (.load (some 4) (.t 9)))⟩, ⟨(some 29), none, (.call (.t 26) [(.t 27), (.t 28)])⟩, ⟨(some 30), none, (.op (.not (.t 29)))⟩]
def eqfA_r8 : List AI := [⟨(some 6), none, (.op (.mv (.c (.bool false))))⟩]
def eqfA_r9 : List AI := [⟨(some 31), none, (.op (.ibin .add (.t 17) (.c (.int .i64 1))))⟩, ⟨(some 17), none, (.op (.mv (.t 31)))⟩]
def eqfA_l0 : AC := (.seq (.reg eqfA_r4) (.seq (.cond (.t 18) .skip (.exit 0)) (.seq (.block 1 (.seq (.reg eqfA_r5) (.seq (.reg eqfA_r6) (.seq (.reg eqfA_r7) (.cond (.t 30) (.seq (.reg eqfA_r8) .ret) .skip))))) (.reg eqfA_r9))))
def eqfA_r10 : List AI := [⟨(some 6), none, (.op (.mv (.c (.bool true))))⟩]
def eqfA_c : AC := (.seq (.reg eqfA_r0) (.seq (.seq (.reg eqfA_r1) (.cond (.t 14) (.seq (.reg eqfA_r2) .ret) .skip)) (.seq (.seq (.reg eqfA_r3) (.block 0 (.loop eqfA_l0))) (.seq (.reg eqfA_r10) .ret))))
def eqfA_res : List ARes := [(.tmp 6)]
set_option maxRecDepth 100000 in
theorem eqfA_get : getF Try.prog 70 43000 [] = some ("slices.EqualFunc[[]gavotte/api.Actor,[]gavotte/api.Actor,gavotte/api.Actor,gavotte/api.Actor]", 32, eqfA_c, eqfA_res) := by kernel_rfl
def eqfN_r0 : List AI := [⟨(some 6), none, (.op (.mv (.c (.bool false))))⟩]
def eqfN_r1 : List AI := [⟨(some 10), none, (.op (.mv (.t 0)))⟩, ⟨(some 11), none, (.op (.len (.t 10)))⟩, ⟨(some 12), none, (.op (.mv (.t 1)))⟩, ⟨(some 13), none, (.op (.len (.t 12)))⟩, ⟨(some 14), none, (.op (.ibin .neq (.t 11) (.t 13)))⟩]
def eqfN_r2 : List AI := [⟨(some 6), none, (.op (.mv (.c (.bool false))))⟩]
def eqfN_r3 : List AI := [⟨(some 15), none, (.op (.mv (.t 0)))⟩, ⟨(some 16), none, (.op (.len (.t 15)))⟩, ⟨(some 17), none, (.op (.mv (.c (.int .i64 0))))⟩]
def eqfN_r4 : List AI := [⟨(some 18), none, (.op (.ibin .lss (.t 17) (.t 16)))⟩]
def eqfN_r5 : List AI := [⟨(some 19), none, (.op (.mv (.t 17)))⟩, ⟨(some 20), none, (.op (.idx 3 (.t 15) (.t 17)))⟩, ⟨(some 21), none, (.op (.load (some 3) (.t 20)))⟩, ⟨(some 8), none, (.op (.new 45008 3 (.agg [(.int .i64 0), (.int .i64 0), .nils])))⟩, ⟨(some 7), none, (.op (.mv (.t 19)))⟩, ⟨none, none, (.op (.store 3 (.t 8) (.t 21)))⟩]
def eqfN_r6 : List AI := [⟨(some 22), none, (.op (.mv (.t 1)))⟩, ⟨(some 23), none, (.op (.mv (.t 7)))⟩, ⟨(some 24), none, (.op (.idx 3 (.t 22) (.t 23)))⟩, ⟨(some 25), none, (.op (.load (some 3) (.t 24)))⟩, ⟨(some 9), none, (.op (.new 45009 3 (.agg [(.int .i64 0), (.int .i64 0), .nils])))⟩, ⟨none, none, (.op (.store 3 (.t 9) (.t 25)))⟩]
def eqfN_r7 : List AI := [⟨(some 26), none, (.op (.mv (.t 2)))⟩, ⟨(some 27), none, (.op (.load (some 3) (.t 8)))⟩, ⟨(some 28), none, (.op (.load (some 3) (.t 9)))⟩, ⟨(some 29), none, (.call (.t 26) [(.t 27), (.t 28)])⟩, ⟨(some 30), none, (.op (.not (.t 29)))⟩]
def eqfN_r8 : List AI := [⟨(some 6), none, (.op (.mv (.c (.bool false))))⟩]
def eqfN_r9 : List AI := [⟨(some 31), none, (.op (.ibin .add (.t 17) (.c (.int .i64 1))))⟩, ⟨(some 17), none, (.op (.mv (.t 31)))⟩]
def eqfN_l0 : AC := (.seq (.reg eqfN_r4) (.seq (.cond (.t 18) .skip (.exit 0)) (.seq (.block 1 (.seq (.reg eqfN_r5) (.seq (.reg eqfN_r6) (.seq (.reg eqfN_r7) (.cond (.t 30) (.seq (.reg eqfN_r8) .ret) .skip))))) (.reg eqfN_r9))))
def eqfN_r10 : List AI := [⟨(some 6), none, (.op (.mv (.c (.bool true))))⟩]
def eqfN_c : AC := (.seq (.reg eqfN_r0) (.seq (.seq (.reg eqfN_r1) (.cond (.t 14) (.seq (.reg eqfN_r2) .ret) .skip)) (.seq (.seq (.reg eqfN_r3) (.block 0 (.loop eqfN_l0))) (.seq (.reg eqfN_r10) .ret))))
def eqfN_res : List ARes := [(.tmp 6)]
set_option maxRecDepth 100000 in
theorem eqfN_get : getF Try.prog 72 45000 [] = some ("slices.EqualFunc[[]gavotte/api.Note,[]gavotte/api.Note,gavotte/api.Note,gavotte/api.Note]", 32, eqfN_c, eqfN_res) := by kernel_rfl
def rnotes_r0 : List AI := [⟨(some 4), none, (.op (.mv (.c (.bool false))))⟩]
def rnotes_r1 : List AI := [⟨(some 6), none, (.op (.mv (.t 0)))⟩, ⟨(some 7), none, (.op (.len (.t 6)))⟩, ⟨(some 8), none, (.op (.mv (.t 1)))⟩, ⟨(some 9), none, (.op (.len (.t 8)))⟩, ⟨(some 10), none, (.op (.ibin .neq (.t 7) (.t 9)))⟩]
def rnotes_r2 : List AI := [⟨(some 4), none, (.op (.mv (.c (.bool false))))⟩]
def rnotes_r3 : List AI := [⟨(some 5), none, (.op (.mv (.c (.int .i64 0))))⟩]
def rnotes_r4 : List AI := [⟨(some 11), none, (.op (.mv (.t 5)))⟩, ⟨(some 12), none, (.op (.mv (.t 0)))⟩, ⟨(some 13), none, (.op (.len (.t 12)))⟩, ⟨(some 14), none, (.op (.ibin .lss (.t 11) (.t 13)))⟩]
def rnotes_r5 : List AI := [⟨(some 17), none, (.op (.mv (.t 0)))⟩, ⟨(some 18), none, (.op (.mv (.t 5)))⟩, ⟨(some 19), none, (.op (.idx 3 (.t 17) (.t 18)))⟩, ⟨(some 20), none, (.op (.load (some 3) (.t 19)))⟩, ⟨(some 21), none, (.op (.mv (.t 1)))⟩, ⟨(some 22), none, (.op (.mv (.t 5)))⟩, ⟨(some 23), none, (.op (.idx 3 (.t 21) (.t 22)))⟩, ⟨(some 24), none, (.op (.load (some 3) (.t 23)))⟩, ⟨(some 25), none, (.call (.c (.fn 49 [])) [(.t 20), (.t 24)])⟩, ⟨(some 26), none, (.op (.not (.t 25)))⟩]
def rnotes_p5 : List (List Nat) := [[], [], [0, 1], [2, 0, 1], [], [], [4, 5], [6, 4, 5], [3, 7, 2, 0, 1, 6, 4, 5], [8, 3, 7, 2, 0, 1, 6, 4, 5]]
def rnotes_r6 : List AI := [⟨(some 4), none, (.op (.mv (.c (.bool false))))⟩]
def rnotes_r7 : List AI := [⟨(some 15), none, (.op (.mv (.t 5)))⟩, ⟨(some 16), none, (.op (.ibin .add (.t 15) (.c (.int .i64 1))))⟩, ⟨(some 5), none, (.op (.mv (.t 16)))⟩]
def rnotes_l0 : AC := (.seq (.seq (.reg rnotes_r4) (.cond (.t 14) .skip (.exit 0))) (.seq (.block 1 (.seq (.regd rnotes_r5 rnotes_p5) (.cond (.t 26) (.seq (.reg rnotes_r6) .ret) .skip))) (.reg rnotes_r7)))
def rnotes_r8 : List AI := [⟨(some 4), none, (.op (.mv (.c (.bool true))))⟩]
def rnotes_c : AC := (.seq (.reg rnotes_r0) (.seq (.seq (.reg rnotes_r1) (.cond (.t 10) (.seq (.reg rnotes_r2) .ret) .skip)) (.seq (.seq (.reg rnotes_r3) (.block 0 (.loop rnotes_l0))) (.seq (.reg rnotes_r8) .ret))))
def rnotes_res : List ARes := [(.tmp 4)]
set_option maxRecDepth 100000 in
theorem rnotes_get : getF Try.prog 65 46000 [] = some ("gavotte/gavotteref1.SameNotes", 27, rnotes_c, rnotes_res) := by kernel_rfl
attribute [simp] aints_r0 aints_r1 aints_r2 aints_r3 aints_r4 aints_r5 aints_p5 aints_r6 aints_r7 aints_r8 aints_res rints_r0 rints_r1 rints_r2 rints_r3 rints_r4 rints_r5 rints_p5 rints_r6 rints_r7 rints_r8 rints_res sints_r0 sints_r1 sints_r2 sints_r3 sints_r4 sints_r5 sints_r6 sints_p6 sints_r7 sints_r8 sints_r9 sints_res rcode_r0 rcode_r1 rcode_r2 rcode_r3 rcode_r4 rcode_r5 rcode_p5 rcode_r6 rcode_r7 rcode_r8 rcode_res sinss_r0 sinss_r1 sinss_r2 sinss_r3 sinss_r4 sinss_r5 sinss_r6 sinss_p6 sinss_r7 sinss_r8 sinss_r9 sinss_res sameNote_r0 sameNote_r1 sameNote_res rsameNote_r0 rsameNote_r1 rsameNote_res sameHnd_r0 sameHnd_r1 sameHnd_res sameAct_r0 sameAct_r1 sameAct_res eqfH_r0 eqfH_r1 eqfH_r2 eqfH_r3 eqfH_r4 eqfH_r5 eqfH_r6 eqfH_r7 eqfH_r8 eqfH_r9 eqfH_r10 eqfH_res eqfA_r0 eqfA_r1 eqfA_r2 eqfA_r3 eqfA_r4 eqfA_r5 eqfA_r6 eqfA_r7 eqfA_r8 eqfA_r9 eqfA_r10 eqfA_res eqfN_r0 eqfN_r1 eqfN_r2 eqfN_r3 eqfN_r4 eqfN_r5 eqfN_r6 eqfN_r7 eqfN_r8 eqfN_r9 eqfN_r10 eqfN_res rnotes_r0 rnotes_r1 rnotes_r2 rnotes_r3 rnotes_r4 rnotes_r5 rnotes_p5 rnotes_r6 rnotes_r7 rnotes_r8 rnotes_res

theorem Ins.eq_iff (a b : Ins) : a = b ↔ a.op = b.op ∧ a.a = b.a := by cases a; cases b; simp
theorem Hnd.eq_iff (a b : Hnd) : a = b ↔ a.args = b.args ∧ a.code = b.code := by cases a; cases b; simp
theorem Actr.eq_iff (a b : Actr) : a = b ↔ a.regs = b.regs ∧ a.cap = b.cap ∧ a.timer = b.timer ∧ a.armed = b.armed := by cases a; cases b; simp
theorem Nt.eq_iff (a b : Nt) : a = b ↔ a.to = b.to ∧ a.hd = b.hd ∧ a.args = b.args := by cases a; cases b; simp
theorem Prg.eq_iff (a b : Prg) : a = b ↔ a.hs = b.hs ∧ a.as = b.as ∧ a.boot = b.boot ∧ a.fuel = b.fuel := by cases a; cases b; simp
theorem aints_pc (l m : List Int) (hl : l.length < 4611686018427387904) : PC Try.prog 39 [ints l, ints m ] (.bool (decide (l = m))) := by
  refine pc_of_get aints_get (by simp) _ (by simp) _ ?_
  unfold aints_c
  simp
  refine split (fun hlen => ?_) (fun hlen => ?_) <;> simp [hlen]
  rotate_left
  · intro e; exact hlen (by rw [e])
  have hlen : l.length = m.length := by omega
  refine loopN (fun i S => S.t 0 = ints l ∧ S.t 1 = ints m ∧ S.t 5 = iv i ∧ (l = m ↔ l.drop i = m.drop i)) l.length ?_ ?_
  · simp [hlen]
  · rintro i S hi ⟨h0, h1, h2, h4⟩
    by_cases hlt : i < l.length
    · have hlt2 : i < m.length := by omega
      rw [List.drop_eq_getElem_cons hlt, List.drop_eq_getElem_cons hlt2, List.cons.injEq] at h4
      simp [aints_l0, h0, h1, h2, hlt, hlt2]
      repeat' (refine split (fun hc => ?_) (fun hc => ?_) <;> simp [hc, h0, h1, h2, hlt, hlt2, h4, wrap_succ i _ hlt hl])
      all_goals grind
    · have e : i = l.length := by omega
      subst e
      have hle : m.length ≤ l.length := by omega
      simp [hle] at h4
      simp [aints_l0, h0, h1, h2,  h4]
theorem rints_pc (l m : List Int) (hl : l.length < 4611686018427387904) : PC Try.prog 67 [ints l, ints m ] (.bool (decide (l = m))) := by
  refine pc_of_get rints_get (by simp) _ (by simp) _ ?_
  unfold rints_c
  simp
  refine split (fun hlen => ?_) (fun hlen => ?_) <;> simp [hlen]
  rotate_left
  · intro e; exact hlen (by rw [e])
  have hlen : l.length = m.length := by omega
  refine loopN (fun i S => S.t 0 = ints l ∧ S.t 1 = ints m ∧ S.t 5 = iv i ∧ (l = m ↔ l.drop i = m.drop i)) l.length ?_ ?_
  · simp [hlen]
  · rintro i S hi ⟨h0, h1, h2, h4⟩
    by_cases hlt : i < l.length
    · have hlt2 : i < m.length := by omega
      rw [List.drop_eq_getElem_cons hlt, List.drop_eq_getElem_cons hlt2, List.cons.injEq] at h4
      simp [rints_l0, h0, h1, h2, hlt, hlt2]
      repeat' (refine split (fun hc => ?_) (fun hc => ?_) <;> simp [hc, h0, h1, h2, hlt, hlt2, h4, wrap_succ i _ hlt hl])
      all_goals grind
    · have e : i = l.length := by omega
      subst e
      have hle : m.length ≤ l.length := by omega
      simp [hle] at h4
      simp [rints_l0, h0, h1, h2,  h4]
theorem sints_pc (l m : List Int) (hl : l.length < 4611686018427387904) : PC Try.prog 89 [ints l, ints m ] (.bool (decide (l = m))) := by
  refine pc_of_get sints_get (by simp) _ (by simp) _ ?_
  unfold sints_c
  simp
  refine split (fun hlen => ?_) (fun hlen => ?_) <;> simp [hlen]
  rotate_left
  · intro e; exact hlen (by rw [e])
  have hlen : l.length = m.length := by omega
  refine loopN (fun i S => S.t 0 = ints l ∧ S.t 1 = ints m ∧ S.t 13 = iv i ∧ S.t 12 = iv l.length ∧ (l = m ↔ l.drop i = m.drop i)) l.length ?_ ?_
  · simp [hlen]
  · rintro i S hi ⟨h0, h1, h2, h3, h4⟩
    by_cases hlt : i < l.length
    · have hlt2 : i < m.length := by omega
      rw [List.drop_eq_getElem_cons hlt, List.drop_eq_getElem_cons hlt2, List.cons.injEq] at h4
      simp [sints_l0, h0, h1, h2, h3, hlt, hlt2]
      repeat' (refine split (fun hc => ?_) (fun hc => ?_) <;> simp [hc, h0, h1, h2, h3, hlt, hlt2, h4, wrap_succ i _ hlt hl])
      all_goals grind
    · have e : i = l.length := by omega
      subst e
      have hle : m.length ≤ l.length := by omega
      simp [hle] at h4
      simp [sints_l0, h0, h1, h2, h3,  h4]
theorem rcode_pc (l m : List Ins) (hl : l.length < 4611686018427387904) : PC Try.prog 66 [.lst 2 (l.map Ins.av), .lst 2 (m.map Ins.av) ] (.bool (decide (l = m))) := by
  refine pc_of_get rcode_get (by simp) _ (by simp) _ ?_
  unfold rcode_c
  simp
  refine split (fun hlen => ?_) (fun hlen => ?_) <;> simp [hlen]
  rotate_left
  · intro e; exact hlen (by rw [e])
  have hlen : l.length = m.length := by omega
  refine loopN (fun i S => S.t 0 = .lst 2 (l.map Ins.av) ∧ S.t 1 = .lst 2 (m.map Ins.av) ∧ S.t 5 = iv i ∧ (l = m ↔ l.drop i = m.drop i)) l.length ?_ ?_
  · simp [hlen]
  · rintro i S hi ⟨h0, h1, h2, h4⟩
    by_cases hlt : i < l.length
    · have hlt2 : i < m.length := by omega
      rw [List.drop_eq_getElem_cons hlt, List.drop_eq_getElem_cons hlt2, List.cons.injEq] at h4
      rw [Ins.eq_iff] at h4
      simp [rcode_l0, h0, h1, h2, hlt, hlt2]
      repeat' (refine split (fun hc => ?_) (fun hc => ?_) <;> simp [hc, h0, h1, h2, hlt, hlt2, h4, wrap_succ i _ hlt hl])
      all_goals grind
    · have e : i = l.length := by omega
      subst e
      have hle : m.length ≤ l.length := by omega
      simp [hle] at h4
      simp [rcode_l0, h0, h1, h2,  h4]
theorem sinss_pc (l m : List Ins) (hl : l.length < 4611686018427387904) : PC Try.prog 90 [.lst 2 (l.map Ins.av), .lst 2 (m.map Ins.av) ] (.bool (decide (l = m))) := by
  refine pc_of_get sinss_get (by simp) _ (by simp) _ ?_
  unfold sinss_c
  simp
  refine split (fun hlen => ?_) (fun hlen => ?_) <;> simp [hlen]
  rotate_left
  · intro e; exact hlen (by rw [e])
  have hlen : l.length = m.length := by omega
  refine loopN (fun i S => S.t 0 = .lst 2 (l.map Ins.av) ∧ S.t 1 = .lst 2 (m.map Ins.av) ∧ S.t 13 = iv i ∧ S.t 12 = iv l.length ∧ (l = m ↔ l.drop i = m.drop i)) l.length ?_ ?_
  · simp [hlen]
  · rintro i S hi ⟨h0, h1, h2, h3, h4⟩
    by_cases hlt : i < l.length
    · have hlt2 : i < m.length := by omega
      rw [List.drop_eq_getElem_cons hlt, List.drop_eq_getElem_cons hlt2, List.cons.injEq] at h4
      rw [Ins.eq_iff] at h4
      simp [sinss_l0, h0, h1, h2, h3, hlt, hlt2]
      repeat' (refine split (fun hc => ?_) (fun hc => ?_) <;> simp [hc, h0, h1, h2, h3, hlt, hlt2, h4, wrap_succ i _ hlt hl])
      all_goals grind
    · have e : i = l.length := by omega
      subst e
      have hle : m.length ≤ l.length := by omega
      simp [hle] at h4
      simp [sinss_l0, h0, h1, h2, h3,  h4]
theorem sameNote_pc (a b : Nt) (hl : a.args.length < 4611686018427387904) : PC Try.prog 61 [a.av, b.av] (.bool (decide (a = b))) := by
  refine pc_of_get sameNote_get (by simp) _ (by simp) _ ?_
  unfold sameNote_c
  have e := Nt.eq_iff a b
  simp
  refine split (fun h1 => ?_) (fun h1 => ?_) <;> simp [h1]
  rotate_left
  · grind
  refine split (fun h2 => ?_) (fun h2 => ?_) <;> simp [h2]
  rotate_left
  · grind
  refine call (sints_pc a.args b.args hl) (by simp) ?_
  simp [h1, h2, e]
theorem rsameNote_pc (a b : Nt) (hl : a.args.length < 4611686018427387904) : PC Try.prog 49 [a.av, b.av] (.bool (decide (a = b))) := by
  refine pc_of_get rsameNote_get (by simp) _ (by simp) _ ?_
  unfold rsameNote_c
  have e := Nt.eq_iff a b
  simp
  refine split (fun h1 => ?_) (fun h1 => ?_) <;> simp [h1]
  rotate_left
  · grind
  refine split (fun h2 => ?_) (fun h2 => ?_) <;> simp [h2]
  rotate_left
  · grind
  refine call (rints_pc a.args b.args hl) (by simp) ?_
  simp [h1, h2, e]
theorem sameHnd_pc (a b : Hnd) (hl : a.code.length < 4611686018427387904) : PC Try.prog 69 [a.av, b.av] (.bool (decide (a = b))) := by
  refine pc_of_get sameHnd_get (by simp) _ (by simp) _ ?_
  unfold sameHnd_c
  have e := Hnd.eq_iff a b
  simp
  refine split (fun h1 => ?_) (fun h1 => ?_) <;> simp [h1]
  rotate_left
  · grind
  refine call (sinss_pc a.code b.code hl) (by simp) ?_
  simp [h1, e]
theorem sameAct_pc (a b : Actr) (hl : a.regs.length < 4611686018427387904) : PC Try.prog 71 [a.av, b.av] (.bool (decide (a = b))) := by
  refine pc_of_get sameAct_get (by simp) _ (by simp) _ ?_
  unfold sameAct_c
  have e := Actr.eq_iff a b
  simp
  refine call (sints_pc a.regs b.regs hl) (by simp) ?_
  simp
  refine split (fun h1 => ?_) (fun h1 => ?_) <;> simp [h1]
  rotate_left
  · grind
  refine split (fun h2 => ?_) (fun h2 => ?_) <;> simp [h2]
  rotate_left
  · grind
  refine split (fun h3 => ?_) (fun h3 => ?_) <;> simp [h3]
  rotate_left
  · grind
  cases ha : a.armed <;> cases hb : b.armed <;> simp [h1, h2, h3, e, ha, hb]
theorem eqfH_pc (l m : List Hnd) (f : FuncId) (hf : ∀ a ∈ l, ∀ b, PC Try.prog f [a.av, b.av] (.bool (decide (a = b)))) (hl : l.length < 4611686018427387904) : PC Try.prog 68 [.lst 2 (l.map Hnd.av), .lst 2 (m.map Hnd.av) , .fn f []] (.bool (decide (l = m))) := by
  refine pc_of_get eqfH_get (by simp) _ (by simp) _ ?_
  unfold eqfH_c
  simp
  refine split (fun hlen => ?_) (fun hlen => ?_) <;> simp [hlen]
  rotate_left
  · intro e; exact hlen (by rw [e])
  have hlen : l.length = m.length := by omega
  refine loopN (fun i S => S.t 0 = .lst 2 (l.map Hnd.av) ∧ S.t 1 = .lst 2 (m.map Hnd.av) ∧ S.t 17 = iv i ∧ S.t 15 = .lst 2 (l.map Hnd.av) ∧ S.t 16 = iv l.length ∧ S.t 2 = .fn f [] ∧ (l = m ↔ l.drop i = m.drop i)) l.length ?_ ?_
  · simp [hlen]
  · rintro i S hi ⟨h0, h1, h2, h3, h5, h6, h4⟩
    by_cases hlt : i < l.length
    · have hlt2 : i < m.length := by omega
      rw [List.drop_eq_getElem_cons hlt, List.drop_eq_getElem_cons hlt2, List.cons.injEq] at h4
      simp [eqfH_l0, h0, h1, h2, h3, h5, h6, hlt, hlt2]
      refine call (hf l[i] (List.getElem_mem hlt) m[i]) (by simp) ?_
      simp [h0, h1, h2, h3, h5, h6, hlt, hlt2]
      repeat' (refine split (fun hc => ?_) (fun hc => ?_) <;> simp [hc, h0, h1, h2, h3, h5, h6, hlt, hlt2, h4, wrap_succ i _ hlt hl])
      all_goals grind
    · have e : i = l.length := by omega
      subst e
      have hle : m.length ≤ l.length := by omega
      simp [hle] at h4
      simp [eqfH_l0, h0, h1, h2, h3, h5, h6,  h4]
theorem eqfA_pc (l m : List Actr) (f : FuncId) (hf : ∀ a ∈ l, ∀ b, PC Try.prog f [a.av, b.av] (.bool (decide (a = b)))) (hl : l.length < 4611686018427387904) : PC Try.prog 70 [.lst 4 (l.map Actr.av), .lst 4 (m.map Actr.av) , .fn f []] (.bool (decide (l = m))) := by
  refine pc_of_get eqfA_get (by simp) _ (by simp) _ ?_
  unfold eqfA_c
  simp
  refine split (fun hlen => ?_) (fun hlen => ?_) <;> simp [hlen]
  rotate_left
  · intro e; exact hlen (by rw [e])
  have hlen : l.length = m.length := by omega
  refine loopN (fun i S => S.t 0 = .lst 4 (l.map Actr.av) ∧ S.t 1 = .lst 4 (m.map Actr.av) ∧ S.t 17 = iv i ∧ S.t 15 = .lst 4 (l.map Actr.av) ∧ S.t 16 = iv l.length ∧ S.t 2 = .fn f [] ∧ (l = m ↔ l.drop i = m.drop i)) l.length ?_ ?_
  · simp [hlen]
  · rintro i S hi ⟨h0, h1, h2, h3, h5, h6, h4⟩
    by_cases hlt : i < l.length
    · have hlt2 : i < m.length := by omega
      rw [List.drop_eq_getElem_cons hlt, List.drop_eq_getElem_cons hlt2, List.cons.injEq] at h4
      simp [eqfA_l0, h0, h1, h2, h3, h5, h6, hlt, hlt2]
      refine call (hf l[i] (List.getElem_mem hlt) m[i]) (by simp) ?_
      simp [h0, h1, h2, h3, h5, h6, hlt, hlt2]
      repeat' (refine split (fun hc => ?_) (fun hc => ?_) <;> simp [hc, h0, h1, h2, h3, h5, h6, hlt, hlt2, h4, wrap_succ i _ hlt hl])
      all_goals grind
    · have e : i = l.length := by omega
      subst e
      have hle : m.length ≤ l.length := by omega
      simp [hle] at h4
      simp [eqfA_l0, h0, h1, h2, h3, h5, h6,  h4]
theorem eqfN_pc (l m : List Nt) (f : FuncId) (hf : ∀ a ∈ l, ∀ b, PC Try.prog f [a.av, b.av] (.bool (decide (a = b)))) (hl : l.length < 4611686018427387904) : PC Try.prog 72 [.lst 3 (l.map Nt.av), .lst 3 (m.map Nt.av) , .fn f []] (.bool (decide (l = m))) := by
  refine pc_of_get eqfN_get (by simp) _ (by simp) _ ?_
  unfold eqfN_c
  simp
  refine split (fun hlen => ?_) (fun hlen => ?_) <;> simp [hlen]
  rotate_left
  · intro e; exact hlen (by rw [e])
  have hlen : l.length = m.length := by omega
  refine loopN (fun i S => S.t 0 = .lst 3 (l.map Nt.av) ∧ S.t 1 = .lst 3 (m.map Nt.av) ∧ S.t 17 = iv i ∧ S.t 15 = .lst 3 (l.map Nt.av) ∧ S.t 16 = iv l.length ∧ S.t 2 = .fn f [] ∧ (l = m ↔ l.drop i = m.drop i)) l.length ?_ ?_
  · simp [hlen]
  · rintro i S hi ⟨h0, h1, h2, h3, h5, h6, h4⟩
    by_cases hlt : i < l.length
    · have hlt2 : i < m.length := by omega
      rw [List.drop_eq_getElem_cons hlt, List.drop_eq_getElem_cons hlt2, List.cons.injEq] at h4
      simp [eqfN_l0, h0, h1, h2, h3, h5, h6, hlt, hlt2]
      refine call (hf l[i] (List.getElem_mem hlt) m[i]) (by simp) ?_
      simp [h0, h1, h2, h3, h5, h6, hlt, hlt2]
      repeat' (refine split (fun hc => ?_) (fun hc => ?_) <;> simp [hc, h0, h1, h2, h3, h5, h6, hlt, hlt2, h4, wrap_succ i _ hlt hl])
      all_goals grind
    · have e : i = l.length := by omega
      subst e
      have hle : m.length ≤ l.length := by omega
      simp [hle] at h4
      simp [eqfN_l0, h0, h1, h2, h3, h5, h6,  h4]
theorem rnotes_pc (l m : List Nt) (hf : ∀ a ∈ l, a.args.length < 4611686018427387904) (hl : l.length < 4611686018427387904) : PC Try.prog 65 [.lst 3 (l.map Nt.av), .lst 3 (m.map Nt.av) ] (.bool (decide (l = m))) := by
  refine pc_of_get rnotes_get (by simp) _ (by simp) _ ?_
  unfold rnotes_c
  simp
  refine split (fun hlen => ?_) (fun hlen => ?_) <;> simp [hlen]
  rotate_left
  · intro e; exact hlen (by rw [e])
  have hlen : l.length = m.length := by omega
  refine loopN (fun i S => S.t 0 = .lst 3 (l.map Nt.av) ∧ S.t 1 = .lst 3 (m.map Nt.av) ∧ S.t 5 = iv i ∧ (l = m ↔ l.drop i = m.drop i)) l.length ?_ ?_
  · simp [hlen]
  · rintro i S hi ⟨h0, h1, h2, h4⟩
    by_cases hlt : i < l.length
    · have hlt2 : i < m.length := by omega
      rw [List.drop_eq_getElem_cons hlt, List.drop_eq_getElem_cons hlt2, List.cons.injEq] at h4
      simp [rnotes_l0, h0, h1, h2, hlt, hlt2]
      refine calld (rsameNote_pc l[i] m[i] (hf _ (List.getElem_mem hlt))) (by simp) ?_
      simp [h0, h1, h2, hlt, hlt2]
      repeat' (refine split (fun hc => ?_) (fun hc => ?_) <;> simp [hc, h0, h1, h2, hlt, hlt2, h4, wrap_succ i _ hlt hl])
      all_goals grind
    · have e : i = l.length := by omega
      subst e
      have hle : m.length ≤ l.length := by omega
      simp [hle] at h4
      simp [rnotes_l0, h0, h1, h2,  h4]


end Go.Gv
