/- What the document's CheckProg answers. No condition. -/
import Derived.Test.YthhgjncefjnogaaProg
import Derived.Test.YthhgjncefjnogaaVb
set_option linter.unusedVariables false
set_option linter.unusedSimpArgs false
namespace Go.Gv
open Go.Proofs

def rcheck_r0 : List AI := [⟨(some 1), none, (.op (.box 22001 4 (.t 0)))⟩, ⟨(some 2), none, (.op (.mv (.c (.int .i64 0))))⟩]
def rcheck_r1 : List AI := [⟨(some 12), none, (.op (.fld 0 (.t 1)))⟩, ⟨(some 13), none, (.op (.load none (.t 12)))⟩, ⟨(some 14), none, (.op (.len (.t 13)))⟩, ⟨(some 15), none, (.op (.ibin .gtr (.t 14) (.c (.int .i64 16))))⟩, ⟨(some 16), none, (.op (.mv (.t 15)))⟩, ⟨(some 17), (some (16, false)), (.op (.fld 1 (.t 1)))⟩, ⟨(some 18), (some (16, false)), (.op (.load none (.t 17)))⟩, ⟨(some 19), (some (16, false)), (.op (.len (.t 18)))⟩, ⟨(some 20), (some (16, false)), (.op (.ibin .gtr (.t 19) (.c (.int .i64 8))))⟩, ⟨(some 21), none, (.op (.pick (.t 16) (.c (.bool true)) (.t 20)))⟩, ⟨(some 22), none, (.op (.mv (.t 21)))⟩, ⟨(some 23), (some (22, false)), (.op (.fld 2 (.t 1)))⟩, ⟨(some 24), (some (22, false)), (.op (.load none (.t 23)))⟩, ⟨(some 25), (some (22, false)), (.op (.len (.t 24)))⟩, ⟨(some 26), (some (22, false)), (.op (.ibin .gtr (.t 25) (.c (.int .i64 16))))⟩, ⟨(some 27), none, (.op (.pick (.t 22) (.c (.bool true)) (.t 26)))⟩, ⟨(some 11), none, (.op (.mv (.t 27)))⟩]
def rcheck_r2 : List AI := [⟨(some 2), none, (.op (.mv (.c (.int .i64 3))))⟩]
def rcheck_r3 : List AI := [⟨(some 29), none, (.op (.fld 1 (.t 1)))⟩, ⟨(some 30), none, (.op (.load none (.t 29)))⟩, ⟨(some 31), none, (.op (.len (.t 30)))⟩, ⟨(some 32), none, (.op (.ibin .eql (.t 31) (.c (.int .i64 0))))⟩, ⟨(some 33), none, (.op (.mv (.t 32)))⟩, ⟨(some 34), (some (33, false)), (.op (.fld 3 (.t 1)))⟩, ⟨(some 35), (some (33, false)), (.op (.load none (.t 34)))⟩, ⟨(some 36), (some (33, false)), (.op (.ibin .lss (.t 35) (.c (.int .i64 1))))⟩, ⟨(some 37), none, (.op (.pick (.t 33) (.c (.bool true)) (.t 36)))⟩, ⟨(some 38), none, (.op (.mv (.t 37)))⟩, ⟨(some 39), (some (38, false)), (.op (.fld 3 (.t 1)))⟩, ⟨(some 40), (some (38, false)), (.op (.load none (.t 39)))⟩, ⟨(some 41), (some (38, false)), (.op (.ibin .gtr (.t 40) (.c (.int .i64 256))))⟩, ⟨(some 42), none, (.op (.pick (.t 38) (.c (.bool true)) (.t 41)))⟩, ⟨(some 28), none, (.op (.mv (.t 42)))⟩]
def rcheck_r4 : List AI := [⟨(some 2), none, (.op (.mv (.c (.int .i64 1))))⟩]
def rcheck_r5 : List AI := [⟨(some 3), none, (.op (.mv (.c (.int .i64 0))))⟩]
def rcheck_r6 : List AI := [⟨(some 43), none, (.op (.mv (.t 3)))⟩, ⟨(some 44), none, (.op (.fld 0 (.t 1)))⟩, ⟨(some 45), none, (.op (.load none (.t 44)))⟩, ⟨(some 46), none, (.op (.len (.t 45)))⟩, ⟨(some 47), none, (.op (.ibin .lss (.t 43) (.t 46)))⟩]
def rcheck_r7 : List AI := [⟨(some 50), none, (.op (.fld 0 (.t 1)))⟩, ⟨(some 51), none, (.op (.load none (.t 50)))⟩, ⟨(some 52), none, (.op (.mv (.t 3)))⟩, ⟨(some 53), none, (.op (.idx 2 (.t 51) (.t 52)))⟩, ⟨(some 54), none, (.op (.load (some 2) (.t 53)))⟩, ⟨(some 4), none, (.op (.new 22004 2 (.agg [(.int .i64 0), .nils])))⟩, ⟨none, none, (.op (.store 2 (.t 4) (.t 54)))⟩]
def rcheck_r8 : List AI := [⟨(some 55), none, (.op (.fld 0 (.t 4)))⟩, ⟨(some 56), none, (.op (.load none (.t 55)))⟩, ⟨(some 57), none, (.op (.ibin .lss (.t 56) (.c (.int .i64 0))))⟩, ⟨(some 58), none, (.op (.mv (.t 57)))⟩, ⟨(some 59), (some (58, false)), (.op (.fld 0 (.t 4)))⟩, ⟨(some 60), (some (58, false)), (.op (.load none (.t 59)))⟩, ⟨(some 61), (some (58, false)), (.op (.ibin .gtr (.t 60) (.c (.int .i64 4))))⟩, ⟨(some 62), none, (.op (.pick (.t 58) (.c (.bool true)) (.t 61)))⟩]
def rcheck_r9 : List AI := [⟨(some 2), none, (.op (.mv (.c (.int .i64 1))))⟩]
def rcheck_r10 : List AI := [⟨(some 63), none, (.op (.fld 1 (.t 4)))⟩, ⟨(some 64), none, (.op (.load none (.t 63)))⟩, ⟨(some 65), none, (.op (.len (.t 64)))⟩, ⟨(some 66), none, (.op (.ibin .gtr (.t 65) (.c (.int .i64 64))))⟩]
def rcheck_r11 : List AI := [⟨(some 2), none, (.op (.mv (.c (.int .i64 3))))⟩]
def rcheck_r12 : List AI := [⟨(some 5), none, (.op (.mv (.c (.int .i64 0))))⟩]
def rcheck_r13 : List AI := [⟨(some 67), none, (.op (.mv (.t 5)))⟩, ⟨(some 68), none, (.op (.fld 1 (.t 4)))⟩, ⟨(some 69), none, (.op (.load none (.t 68)))⟩, ⟨(some 70), none, (.op (.len (.t 69)))⟩, ⟨(some 71), none, (.op (.ibin .lss (.t 67) (.t 70)))⟩]
def rcheck_r14 : List AI := [⟨(some 74), none, (.op (.fld 1 (.t 4)))⟩, ⟨(some 75), none, (.op (.load none (.t 74)))⟩, ⟨(some 76), none, (.op (.mv (.t 5)))⟩, ⟨(some 77), none, (.op (.idx 2 (.t 75) (.t 76)))⟩, ⟨(some 78), none, (.op (.load (some 2) (.t 77)))⟩, ⟨(some 79), none, (.op (.fld 1 (.t 4)))⟩, ⟨(some 80), none, (.op (.load none (.t 79)))⟩, ⟨(some 81), none, (.op (.len (.t 80)))⟩, ⟨(some 82), none, (.op (.fld 0 (.t 4)))⟩, ⟨(some 83), none, (.op (.load none (.t 82)))⟩, ⟨(some 84), none, (.op (.fld 0 (.t 1)))⟩, ⟨(some 85), none, (.op (.load none (.t 84)))⟩, ⟨(some 86), none, (.op (.len (.t 85)))⟩, ⟨(some 87), none, (.call (.c (.fn 80 [])) [(.t 78), (.t 81), (.t 83), (.t 86)])⟩, ⟨(some 6), none, (.op (.mv (.t 87)))⟩]
def rcheck_p14 : List (List Nat) := [[], [0], [], [1, 2, 0], [3, 1, 2, 0], [], [5], [6, 5], [], [8], [], [10], [11, 10], [4, 7, 9, 12, 3, 1, 2, 0, 6, 5, 8, 11, 10], [13, 0, 1, 2, 3, 4, 5, 6, 7, 8, 9, 10, 11, 12]]
def rcheck_r15 : List AI := [⟨(some 88), none, (.op (.mv (.t 6)))⟩, ⟨(some 89), none, (.op (.ibin .neq (.t 88) (.c (.int .i64 0))))⟩]
def rcheck_r16 : List AI := [⟨(some 90), none, (.op (.mv (.t 6)))⟩, ⟨(some 2), none, (.op (.mv (.t 90)))⟩]
def rcheck_r17 : List AI := [⟨(some 72), none, (.op (.mv (.t 5)))⟩, ⟨(some 73), none, (.op (.ibin .add (.t 72) (.c (.int .i64 1))))⟩, ⟨(some 5), none, (.op (.mv (.t 73)))⟩]
def rcheck_l0 : AC := (.seq (.seq (.reg rcheck_r13) (.cond (.t 71) .skip (.exit 3))) (.seq (.block 4 (.seq (.regd rcheck_r14 rcheck_p14) (.seq (.reg rcheck_r15) (.cond (.t 89) (.seq (.reg rcheck_r16) .ret) .skip)))) (.reg rcheck_r17)))
def rcheck_r18 : List AI := [⟨(some 48), none, (.op (.mv (.t 3)))⟩, ⟨(some 49), none, (.op (.ibin .add (.t 48) (.c (.int .i64 1))))⟩, ⟨(some 3), none, (.op (.mv (.t 49)))⟩]
def rcheck_l1 : AC := (.seq (.seq (.reg rcheck_r6) (.cond (.t 47) .skip (.exit 1))) (.seq (.block 2 (.seq (.reg rcheck_r7) (.seq (.seq (.reg rcheck_r8) (.cond (.t 62) (.seq (.reg rcheck_r9) .ret) .skip)) (.seq (.seq (.reg rcheck_r10) (.cond (.t 66) (.seq (.reg rcheck_r11) .ret) .skip)) (.seq (.reg rcheck_r12) (.block 3 (.loop rcheck_l0))))))) (.reg rcheck_r18)))
def rcheck_r19 : List AI := [⟨(some 7), none, (.op (.mv (.c (.int .i64 0))))⟩]
def rcheck_r20 : List AI := [⟨(some 91), none, (.op (.mv (.t 7)))⟩, ⟨(some 92), none, (.op (.fld 1 (.t 1)))⟩, ⟨(some 93), none, (.op (.load none (.t 92)))⟩, ⟨(some 94), none, (.op (.len (.t 93)))⟩, ⟨(some 95), none, (.op (.ibin .lss (.t 91) (.t 94)))⟩]
def rcheck_r21 : List AI := [⟨(some 98), none, (.op (.fld 1 (.t 1)))⟩, ⟨(some 99), none, (.op (.load none (.t 98)))⟩, ⟨(some 100), none, (.op (.mv (.t 7)))⟩, ⟨(some 101), none, (.op (.idx 4 (.t 99) (.t 100)))⟩, ⟨(some 102), none, (.op (.load (some 4) (.t 101)))⟩, ⟨(some 8), none, (.op (.new 22008 4 (.agg [.nils, (.int .i64 0), (.int .i64 0), (.bool false)])))⟩, ⟨none, none, (.op (.store 4 (.t 8) (.t 102)))⟩]
def rcheck_r22 : List AI := [⟨(some 104), none, (.op (.fld 0 (.t 8)))⟩, ⟨(some 105), none, (.op (.load none (.t 104)))⟩, ⟨(some 106), none, (.op (.len (.t 105)))⟩, ⟨(some 107), none, (.op (.ibin .gtr (.t 106) (.c (.int .i64 8))))⟩, ⟨(some 103), none, (.op (.mv (.t 107)))⟩]
def rcheck_r23 : List AI := [⟨(some 2), none, (.op (.mv (.c (.int .i64 3))))⟩]
def rcheck_r24 : List AI := [⟨(some 109), none, (.op (.fld 1 (.t 8)))⟩, ⟨(some 110), none, (.op (.load none (.t 109)))⟩, ⟨(some 111), none, (.op (.ibin .lss (.t 110) (.c (.int .i64 0))))⟩, ⟨(some 112), none, (.op (.mv (.t 111)))⟩, ⟨(some 113), (some (112, false)), (.op (.fld 1 (.t 8)))⟩, ⟨(some 114), (some (112, false)), (.op (.load none (.t 113)))⟩, ⟨(some 115), (some (112, false)), (.op (.ibin .gtr (.t 114) (.c (.int .i64 16))))⟩, ⟨(some 116), none, (.op (.pick (.t 112) (.c (.bool true)) (.t 115)))⟩, ⟨(some 108), none, (.op (.mv (.t 116)))⟩]
def rcheck_r25 : List AI := [⟨(some 2), none, (.op (.mv (.c (.int .i64 1))))⟩]
def rcheck_r26 : List AI := [⟨(some 118), none, (.op (.fld 2 (.t 8)))⟩, ⟨(some 119), none, (.op (.load none (.t 118)))⟩, ⟨(some 120), none, (.op (.ibin .neq (.t 119) (.c (.int .i64 (-1)))))⟩, ⟨(some 121), none, (.op (.mv (.t 120)))⟩, ⟨(some 122), (some (121, true)), (.op (.fld 2 (.t 8)))⟩, ⟨(some 123), (some (121, true)), (.op (.load none (.t 122)))⟩, ⟨(some 124), (some (121, true)), (.op (.ibin .lss (.t 123) (.c (.int .i64 0))))⟩, ⟨(some 125), (some (121, true)), (.op (.mv (.t 124)))⟩, ⟨(some 126), (some (125, false)), (.op (.fld 2 (.t 8)))⟩, ⟨(some 127), (some (125, false)), (.op (.load none (.t 126)))⟩, ⟨(some 128), (some (125, false)), (.op (.fld 0 (.t 1)))⟩, ⟨(some 129), (some (125, false)), (.op (.load none (.t 128)))⟩, ⟨(some 130), (some (125, false)), (.op (.len (.t 129)))⟩, ⟨(some 131), (some (125, false)), (.op (.ibin .geq (.t 127) (.t 130)))⟩, ⟨(some 132), (some (121, true)), (.op (.pick (.t 125) (.c (.bool true)) (.t 131)))⟩, ⟨(some 133), (some (121, true)), (.op (.mv (.t 132)))⟩, ⟨(some 134), (some (133, false)), (.op (.fld 0 (.t 1)))⟩, ⟨(some 135), (some (133, false)), (.op (.load none (.t 134)))⟩, ⟨(some 136), (some (133, false)), (.op (.fld 2 (.t 8)))⟩, ⟨(some 137), (some (133, false)), (.op (.load none (.t 136)))⟩, ⟨(some 138), (some (133, false)), (.op (.idx 2 (.t 135) (.t 137)))⟩, ⟨(some 139), (some (133, false)), (.op (.fld 0 (.t 138)))⟩, ⟨(some 140), (some (133, false)), (.op (.load none (.t 139)))⟩, ⟨(some 141), (some (133, false)), (.op (.ibin .neq (.t 140) (.c (.int .i64 0))))⟩, ⟨(some 142), (some (121, true)), (.op (.pick (.t 133) (.c (.bool true)) (.t 141)))⟩, ⟨(some 143), none, (.op (.pick (.t 121) (.t 142) (.c (.bool false))))⟩, ⟨(some 117), none, (.op (.mv (.t 143)))⟩]
def rcheck_r27 : List AI := [⟨(some 2), none, (.op (.mv (.c (.int .i64 7))))⟩]
def rcheck_r28 : List AI := [⟨(some 145), none, (.op (.fld 3 (.t 8)))⟩, ⟨(some 146), none, (.op (.load none (.t 145)))⟩, ⟨(some 147), none, (.op (.mv (.t 146)))⟩, ⟨(some 148), (some (147, true)), (.op (.fld 2 (.t 8)))⟩, ⟨(some 149), (some (147, true)), (.op (.load none (.t 148)))⟩, ⟨(some 150), (some (147, true)), (.op (.ibin .eql (.t 149) (.c (.int .i64 (-1)))))⟩, ⟨(some 151), none, (.op (.pick (.t 147) (.t 150) (.c (.bool false))))⟩, ⟨(some 144), none, (.op (.mv (.t 151)))⟩]
def rcheck_r29 : List AI := [⟨(some 2), none, (.op (.mv (.c (.int .i64 1))))⟩]
def rcheck_r30 : List AI := [⟨(some 96), none, (.op (.mv (.t 7)))⟩, ⟨(some 97), none, (.op (.ibin .add (.t 96) (.c (.int .i64 1))))⟩, ⟨(some 7), none, (.op (.mv (.t 97)))⟩]
def rcheck_l2 : AC := (.seq (.seq (.reg rcheck_r20) (.cond (.t 95) .skip (.exit 5))) (.seq (.block 6 (.seq (.reg rcheck_r21) (.block 7 (.seq (.reg rcheck_r22) (.cond (.t 103) (.seq (.reg rcheck_r23) .ret) (.seq (.reg rcheck_r24) (.cond (.t 108) (.seq (.reg rcheck_r25) .ret) (.seq (.reg rcheck_r26) (.cond (.t 117) (.seq (.reg rcheck_r27) .ret) (.seq (.reg rcheck_r28) (.cond (.t 144) (.seq (.reg rcheck_r29) .ret) .skip))))))))))) (.reg rcheck_r30)))
def rcheck_r31 : List AI := [⟨(some 9), none, (.op (.mv (.c (.int .i64 0))))⟩]
def rcheck_r32 : List AI := [⟨(some 152), none, (.op (.mv (.t 9)))⟩, ⟨(some 153), none, (.op (.fld 2 (.t 1)))⟩, ⟨(some 154), none, (.op (.load none (.t 153)))⟩, ⟨(some 155), none, (.op (.len (.t 154)))⟩, ⟨(some 156), none, (.op (.ibin .lss (.t 152) (.t 155)))⟩]
def rcheck_r33 : List AI := [⟨(some 159), none, (.op (.load (some 4) (.t 1)))⟩, ⟨(some 160), none, (.op (.fld 2 (.t 1)))⟩, ⟨(some 161), none, (.op (.load none (.t 160)))⟩, ⟨(some 162), none, (.op (.mv (.t 9)))⟩, ⟨(some 163), none, (.op (.idx 3 (.t 161) (.t 162)))⟩, ⟨(some 164), none, (.op (.load (some 3) (.t 163)))⟩, ⟨(some 165), none, (.call (.c (.fn 81 [])) [(.t 159), (.t 164)])⟩, ⟨(some 10), none, (.op (.mv (.t 165)))⟩]
def rcheck_p33 : List (List Nat) := [[], [], [1], [], [2, 3, 1], [4, 2, 3, 1], [0, 5, 4, 2, 3, 1], [6, 0, 1, 2, 3, 4, 5]]
def rcheck_r34 : List AI := [⟨(some 166), none, (.op (.mv (.t 10)))⟩, ⟨(some 167), none, (.op (.ibin .neq (.t 166) (.c (.int .i64 0))))⟩]
def rcheck_r35 : List AI := [⟨(some 168), none, (.op (.mv (.t 10)))⟩, ⟨(some 2), none, (.op (.mv (.t 168)))⟩]
def rcheck_r36 : List AI := [⟨(some 157), none, (.op (.mv (.t 9)))⟩, ⟨(some 158), none, (.op (.ibin .add (.t 157) (.c (.int .i64 1))))⟩, ⟨(some 9), none, (.op (.mv (.t 158)))⟩]
def rcheck_l3 : AC := (.seq (.seq (.reg rcheck_r32) (.cond (.t 156) .skip (.exit 8))) (.seq (.block 9 (.seq (.regd rcheck_r33 rcheck_p33) (.seq (.reg rcheck_r34) (.cond (.t 167) (.seq (.reg rcheck_r35) .ret) .skip)))) (.reg rcheck_r36)))
def rcheck_r37 : List AI := [⟨(some 2), none, (.op (.mv (.c (.int .i64 0))))⟩]
def rcheck_c : AC := (.seq (.reg rcheck_r0) (.seq (.block 0 (.seq (.reg rcheck_r1) (.cond (.t 11) (.seq (.reg rcheck_r2) .ret) (.seq (.reg rcheck_r3) (.cond (.t 28) (.seq (.reg rcheck_r4) .ret) .skip))))) (.seq (.seq (.reg rcheck_r5) (.block 1 (.loop rcheck_l1))) (.seq (.seq (.reg rcheck_r19) (.block 5 (.loop rcheck_l2))) (.seq (.seq (.reg rcheck_r31) (.block 8 (.loop rcheck_l3))) (.seq (.reg rcheck_r37) .ret))))))
def rcheck_res : List ARes := [(.tmp 2)]
set_option maxRecDepth 100000 in
theorem rcheck_get : getF Try.prog 35 22000 [] = some ("gavotte/gavotteref1.CheckProg", 169, rcheck_c, rcheck_res) := by kernel_rfl
attribute [simp] rcheck_r0 rcheck_r1 rcheck_r2 rcheck_r3 rcheck_r4 rcheck_r5 rcheck_r6 rcheck_r7 rcheck_r8 rcheck_r9 rcheck_r10 rcheck_r11 rcheck_r12 rcheck_r13 rcheck_r14 rcheck_p14 rcheck_r15 rcheck_r16 rcheck_r17 rcheck_r18 rcheck_r19 rcheck_r20 rcheck_r21 rcheck_r22 rcheck_r23 rcheck_r24 rcheck_r25 rcheck_r26 rcheck_r27 rcheck_r28 rcheck_r29 rcheck_r30 rcheck_r31 rcheck_r32 rcheck_r33 rcheck_p33 rcheck_r34 rcheck_r35 rcheck_r36 rcheck_r37 rcheck_res

theorem rcheck_pc (p : Prg) : PC Try.prog 35 [p.av] (iv (checkV p)) := by
  refine pc_of_get rcheck_get (by simp) _ (by simp) _ ?_
  unfold rcheck_c
  simp
  refine split (fun h1 => ?_) (fun h1 => ?_) <;> simp [h1]
  · grind [checkV]
  refine split (fun h2 => ?_) (fun h2 => ?_) <;> simp [h2]
  · grind [checkV]
  refine split (fun h3 => ?_) (fun h3 => ?_) <;> simp [h3]
  · grind [checkV]
  refine split (fun h4 => ?_) (fun h4 => ?_) <;> simp [h4]
  · grind [checkV]
  refine split (fun h5 => ?_) (fun h5 => ?_) <;> simp [h5]
  · grind [checkV]
  refine split (fun h6 => ?_) (fun h6 => ?_) <;> simp [h6]
  · grind [checkV]
  have hv : checkV p = if firstNZ (p.hs.map (handlerV p.hs.length)) ≠ 0 then firstNZ (p.hs.map (handlerV p.hs.length))
      else if firstNZ (p.as.map (actorV p.hs)) ≠ 0 then firstNZ (p.as.map (actorV p.hs))
      else firstNZ (p.boot.map (noteV p.hs p.as.length)) := by grind [checkV]
  refine loopN (fun i S => S.t 3 = iv i ∧ (∃ st, S.t 1 = .ptr 22001 st 4 0 0 ∧ S.blk 22001 = some ⟨st, 4, [p.av]⟩) ∧
    firstNZ (p.hs.map (handlerV p.hs.length)) = firstNZ ((p.hs.map (handlerV p.hs.length)).drop i)) p.hs.length ?_ ?_
  · simp
  · rintro i S hi ⟨g1, ⟨st, g2, g3⟩, hh⟩
    by_cases hlt : i < p.hs.length
    · rw [firstNZ_drop _ _ (by simpa using hlt), List.getElem_map] at hh
      simp [rcheck_l1, g1, g2, g3, hlt]
      refine split (fun c1 => ?_) (fun c1 => ?_) <;> simp [c1]
      · grind [handlerV]
      refine split (fun c2 => ?_) (fun c2 => ?_) <;> simp [c2]
      · grind [handlerV]
      refine split (fun c3 => ?_) (fun c3 => ?_) <;> simp [c3]
      · grind [handlerV]
      have hw : handlerV p.hs.length p.hs[i] = firstNZ (p.hs[i].code.map (instrV p.hs.length p.hs[i].args p.hs[i].code.length)) := by grind [handlerV]
      refine loopN (fun j S => S.t 3 = iv i ∧ S.t 5 = iv j ∧ (∃ st, S.t 1 = .ptr 22001 st 4 0 0 ∧ S.blk 22001 = some ⟨st, 4, [p.av]⟩) ∧ (∃ st, S.t 4 = .ptr 22004 st 2 0 0 ∧ S.blk 22004 = some ⟨st, 2, [p.hs[i].av]⟩) ∧
        firstNZ (p.hs[i].code.map (instrV p.hs.length p.hs[i].args p.hs[i].code.length)) = firstNZ ((p.hs[i].code.map (instrV p.hs.length p.hs[i].args p.hs[i].code.length)).drop j)) p.hs[i].code.length ?_ ?_
      · simp [g1, g2, g3]
      · rintro j S hj ⟨k1, k2, ⟨st1, k3, k4⟩, ⟨st2, k5, k6⟩, hx⟩
        by_cases hjt : j < p.hs[i].code.length
        · rw [firstNZ_drop _ _ (by simpa using hjt), List.getElem_map] at hx
          simp [rcheck_l0, k1, k2, k3, k4, k5, k6, hjt]
          refine calld (rinstr_pc p.hs[i].code[j] p.hs[i].code.length p.hs[i].args p.hs.length) (by simp) ?_
          simp [k1, k2, k3, k4, k5, k6, hjt]
          refine split (fun hc => ?_) (fun hc => ?_) <;> simp [hc, k1, k2, k3, k4, k5, k6, hjt, wrap_succ j _ hjt (by omega)]
          · grind
          · grind
        · have e : j = p.hs[i].code.length := by omega
          subst e
          rw [firstNZ_end _ _ (by simp)] at hx
          simp [rcheck_l0, k1, k2, k3, k4, k5, k6, hlt, wrap_succ i _ hlt (by omega)]
          grind
    · have e : i = p.hs.length := by omega
      subst e
      rw [firstNZ_end _ _ (by simp)] at hh
      have hv : checkV p = if firstNZ (p.as.map (actorV p.hs)) ≠ 0 then firstNZ (p.as.map (actorV p.hs)) else firstNZ (p.boot.map (noteV p.hs p.as.length)) := by grind
      simp [rcheck_l1, g1, g2, g3]
      refine loopN (fun i S => S.t 7 = iv i ∧ (∃ st, S.t 1 = .ptr 22001 st 4 0 0 ∧ S.blk 22001 = some ⟨st, 4, [p.av]⟩) ∧
        firstNZ (p.as.map (actorV p.hs)) = firstNZ ((p.as.map (actorV p.hs)).drop i)) p.as.length ?_ ?_
      · simp [g2, g3]
      · rintro i S hi ⟨g1, ⟨st, g2, g3⟩, hh⟩
        by_cases hlt : i < p.as.length
        · rw [firstNZ_drop _ _ (by simpa using hlt), List.getElem_map] at hh
          simp [rcheck_l2, g1, g2, g3, hlt]
          have ws := wrap_succ i _ hlt (by omega)
          generalize p.as[i] = a at hh
          refine split (fun c1 => ?_) (fun c1 => ?_) <;> simp [c1]
          · grind [actorV]
          refine split (fun c2 => ?_) (fun c2 => ?_) <;> simp [c2]
          · grind [actorV]
          refine split (fun c3 => ?_) (fun c3 => ?_) <;> simp [c3]
          · grind [actorV]
          obtain ⟨regs, cap, timer, armed⟩ := a
          simp at c1 c2 c3
          by_cases ht : timer = -1
          · subst ht
            simp
            cases armed <;> simp [g1, g2, g3, hlt, ws] <;> grind [actorV]
          · simp [ht]
            by_cases ht2 : timer < 0
            · simp [ht2]; grind [actorV]
            · obtain ⟨k, rfl⟩ := Int.eq_ofNat_of_zero_le (by omega : 0 ≤ timer)
              have hn : ¬ ((k : Int) < 0) := by omega
              by_cases hk : k < p.hs.length
              · simp [hk, ht, hn, g1, g2, g3, Nat.not_le.2 hk]
                by_cases hz : p.hs[k].args = 0
                · simp [hk, ht, hn, hz, g1, g2, g3, Nat.not_le.2 hk]
                  cases armed <;> simp [hk, ht, hn, hz, Nat.not_le.2 hk, g1, g2, g3, hlt, ws] <;> grind [actorV]
                · simp [hk, ht, hn, hz, g1, g2, g3, Nat.not_le.2 hk]; grind [actorV]
              · simp [hk, ht, hn, g1, g2, g3, Nat.not_lt.1 hk]; grind [actorV]
        · have e : i = p.as.length := by omega
          subst e
          rw [firstNZ_end _ _ (by simp)] at hh
          have hv : checkV p = firstNZ (p.boot.map (noteV p.hs p.as.length)) := by grind
          simp [rcheck_l2, g1, g2, g3]
          refine loopN (fun i S => S.t 9 = iv i ∧ (∃ st, S.t 1 = .ptr 22001 st 4 0 0 ∧ S.blk 22001 = some ⟨st, 4, [p.av]⟩) ∧
            firstNZ (p.boot.map (noteV p.hs p.as.length)) = firstNZ ((p.boot.map (noteV p.hs p.as.length)).drop i)) p.boot.length ?_ ?_
          · simp [g2, g3]
          · rintro i S hi ⟨g1, ⟨st, g2, g3⟩, hh⟩
            by_cases hlt : i < p.boot.length
            · rw [firstNZ_drop _ _ (by simpa using hlt), List.getElem_map] at hh
              simp [rcheck_l3, g1, g2, g3, hlt]
              refine calld (rnote_pc p p.boot[i]) (by simp) ?_
              simp [g1, g2, g3, hlt]
              refine split (fun hc => ?_) (fun hc => ?_) <;> simp [hc, g1, g2, g3, hlt, wrap_succ i _ hlt (by omega)] <;> grind
            · have e : i = p.boot.length := by omega
              subst e
              rw [firstNZ_end _ _ (by simp)] at hh
              simp [rcheck_l3, g1, g2, g3]
              grind


end Go.Gv
