/- Texts of this proof, one behind the other. What is proved, and on which conditions, stands ahead of each. -/
import Derived.Test.YtpaeffcpdpblcaaGreatProg
import Derived.Test.YtpaeffcpdpblcaaGreatM202a939b
import Derived.Test.YtpaeffcpdpblcaaGreatM18dc362a
import Derived.Test.YtpaeffcpdpblcaaGreatM6ef64fa

/- What vm's machine does at an instruction. Conditions: what is taken is on the stack, operands are in range (DoOk). -/
set_option linter.unusedVariables false
set_option linter.unusedSimpArgs false
namespace Go.Gv
open Go.Proofs

def mdo_r0 : List AI := [⟨(some 3), none, (.op (.box 98003 2 (.t 1)))⟩, ⟨(some 4), none, (.op (.mv (.c (.int .i64 0))))⟩]
def mdo_r1 : List AI := [⟨(some 7), none, (.op (.mv (.t 0)))⟩, ⟨(some 8), none, (.op (.nilck (.t 7)))⟩, ⟨(some 9), none, (.op (.fld 13 (.t 8)))⟩, ⟨(some 10), none, (.op (.load none (.t 9)))⟩, ⟨(some 11), none, (.op (.ibin .add (.t 10) (.c (.int .i64 1))))⟩, ⟨(some 12), none, (.op (.nilck (.t 7)))⟩, ⟨(some 13), none, (.op (.fld 13 (.t 12)))⟩, ⟨none, none, (.op (.store 1 (.t 13) (.t 11)))⟩]
def mdo_r2 : List AI := [⟨(some 14), none, (.op (.fld 0 (.t 3)))⟩, ⟨(some 15), none, (.op (.load none (.t 14)))⟩]
def mdo_r3 : List AI := [⟨(some 21), none, (.op (.ibin .eql (.t 15) (.c (.int .i64 1))))⟩, ⟨(some 20), none, (.op (.mv (.t 21)))⟩]
def mdo_r4 : List AI := [⟨(some 22), none, (.op (.mv (.t 0)))⟩, ⟨(some 23), none, (.op (.fld 1 (.t 3)))⟩, ⟨(some 24), none, (.op (.load none (.t 23)))⟩, ⟨(some 25), none, (.op (.bsl 98025 1 3 1 (.int .i64 0) [(0, (.t 24))]))⟩, ⟨(some 26), none, (.call (.c (.fn 65 [])) [(.t 22), (.t 25)])⟩]
def mdo_r5 : List AI := [⟨(some 28), none, (.op (.ibin .eql (.t 15) (.c (.int .i64 2))))⟩, ⟨(some 27), none, (.op (.mv (.t 28)))⟩]
def mdo_r6 : List AI := [⟨(some 29), none, (.op (.mv (.t 0)))⟩, ⟨(some 30), none, (.call (.c (.fn 66 [])) [(.t 29)])⟩]
def mdo_r7 : List AI := [⟨(some 32), none, (.op (.ibin .eql (.t 15) (.c (.int .i64 3))))⟩, ⟨(some 31), none, (.op (.mv (.t 32)))⟩]
def mdo_r8 : List AI := [⟨(some 33), none, (.op (.mv (.t 0)))⟩, ⟨(some 34), none, (.op (.mv (.t 0)))⟩, ⟨(some 35), none, (.op (.nilck (.t 34)))⟩, ⟨(some 36), none, (.op (.fld 11 (.t 35)))⟩, ⟨(some 37), none, (.op (.load none (.t 36)))⟩, ⟨(some 38), none, (.op (.mv (.t 0)))⟩, ⟨(some 39), none, (.op (.nilck (.t 38)))⟩, ⟨(some 40), none, (.op (.fld 11 (.t 39)))⟩, ⟨(some 41), none, (.op (.load none (.t 40)))⟩, ⟨(some 42), none, (.op (.len (.t 41)))⟩, ⟨(some 43), none, (.op (.ibin .sub (.t 42) (.c (.int .i64 1))))⟩, ⟨(some 44), none, (.op (.idx 1 (.t 37) (.t 43)))⟩, ⟨(some 45), none, (.op (.load none (.t 44)))⟩, ⟨(some 46), none, (.op (.bsl 98046 1 3 1 (.int .i64 0) [(0, (.t 45))]))⟩, ⟨(some 47), none, (.call (.c (.fn 65 [])) [(.t 33), (.t 46)])⟩]
def mdo_p8 : List (List Nat) := [[], [], [1], [2, 1], [3, 2, 1], [], [5], [6, 5], [7, 6, 5], [8, 7, 6, 5], [9, 8, 7, 6, 5], [4, 10, 3, 2, 1, 9, 8, 7, 6, 5], [11, 4, 10, 3, 2, 1, 9, 8, 7, 6, 5], [12, 11, 4, 10, 3, 2, 1, 9, 8, 7, 6, 5], [0, 13, 12, 11, 4, 10, 3, 2, 1, 9, 8, 7, 6, 5]]
def mdo_r9 : List AI := [⟨(some 49), none, (.op (.ibin .eql (.t 15) (.c (.int .i64 4))))⟩, ⟨(some 48), none, (.op (.mv (.t 49)))⟩]
def mdo_r10 : List AI := [⟨(some 50), none, (.op (.mv (.t 0)))⟩, ⟨(some 51), none, (.call (.c (.fn 66 [])) [(.t 50)])⟩, ⟨(some 52), none, (.op (.mv (.t 0)))⟩, ⟨(some 53), none, (.call (.c (.fn 66 [])) [(.t 52)])⟩, ⟨(some 5), none, (.op (.mv (.t 51)))⟩, ⟨(some 6), none, (.op (.mv (.t 53)))⟩]
def mdo_r11 : List AI := [⟨(some 54), none, (.op (.mv (.t 0)))⟩, ⟨(some 55), none, (.op (.mv (.t 5)))⟩, ⟨(some 56), none, (.op (.mv (.t 6)))⟩, ⟨(some 57), none, (.op (.bsl 98057 1 3 2 (.int .i64 0) [(0, (.t 55)), (1, (.t 56))]))⟩, ⟨(some 58), none, (.call (.c (.fn 65 [])) [(.t 54), (.t 57)])⟩]
def mdo_r12 : List AI := [⟨(some 60), none, (.op (.ibin .eql (.t 15) (.c (.int .i64 5))))⟩, ⟨(some 59), none, (.op (.mv (.t 60)))⟩]
def mdo_r13 : List AI := [⟨(some 61), none, (.op (.ibin .eql (.t 15) (.c (.int .i64 6))))⟩, ⟨(some 59), none, (.op (.mv (.t 61)))⟩]
def mdo_r14 : List AI := [⟨(some 62), none, (.op (.mv (.t 0)))⟩, ⟨(some 63), none, (.op (.load (some 2) (.t 3)))⟩, ⟨(some 64), none, (.call (.c (.fn 67 [])) [(.t 62), (.t 63)])⟩]
def mdo_r15 : List AI := [⟨(some 66), none, (.op (.ibin .eql (.t 15) (.c (.int .i64 7))))⟩, ⟨(some 65), none, (.op (.mv (.t 66)))⟩]
def mdo_r16 : List AI := [⟨(some 67), none, (.op (.mv (.t 0)))⟩, ⟨(some 68), none, (.op (.mv (.t 0)))⟩, ⟨(some 69), none, (.op (.nilck (.t 68)))⟩, ⟨(some 70), none, (.op (.fld 5 (.t 69)))⟩, ⟨(some 71), none, (.op (.load none (.t 70)))⟩, ⟨(some 72), none, (.op (.fld 1 (.t 3)))⟩, ⟨(some 73), none, (.op (.load none (.t 72)))⟩, ⟨(some 74), none, (.op (.idx 1 (.t 71) (.t 73)))⟩, ⟨(some 75), none, (.op (.load none (.t 74)))⟩, ⟨(some 76), none, (.op (.bsl 98076 1 3 1 (.int .i64 0) [(0, (.t 75))]))⟩, ⟨(some 77), none, (.call (.c (.fn 65 [])) [(.t 67), (.t 76)])⟩]
def mdo_p16 : List (List Nat) := [[], [], [1], [2, 1], [3, 2, 1], [], [5], [4, 6, 3, 2, 1, 5], [7, 4, 6, 3, 2, 1, 5], [8, 7, 4, 6, 3, 2, 1, 5], [0, 9, 8, 7, 4, 6, 3, 2, 1, 5]]
def mdo_r17 : List AI := [⟨(some 79), none, (.op (.ibin .eql (.t 15) (.c (.int .i64 8))))⟩, ⟨(some 78), none, (.op (.mv (.t 79)))⟩]
def mdo_r18 : List AI := [⟨(some 80), none, (.op (.mv (.t 0)))⟩, ⟨(some 81), none, (.op (.mv (.t 0)))⟩, ⟨(some 82), none, (.op (.nilck (.t 81)))⟩, ⟨(some 83), none, (.op (.fld 4 (.t 82)))⟩, ⟨(some 84), none, (.op (.load none (.t 83)))⟩, ⟨(some 85), none, (.op (.bsl 98085 1 3 1 (.int .i64 0) [(0, (.t 84))]))⟩, ⟨(some 86), none, (.call (.c (.fn 65 [])) [(.t 80), (.t 85)])⟩]
def mdo_r19 : List AI := [⟨(some 88), none, (.op (.ibin .eql (.t 15) (.c (.int .i64 20))))⟩, ⟨(some 87), none, (.op (.mv (.t 88)))⟩]
def mdo_r20 : List AI := [⟨(some 89), none, (.op (.mv (.t 0)))⟩, ⟨(some 90), none, (.op (.fld 1 (.t 3)))⟩, ⟨(some 91), none, (.op (.load none (.t 90)))⟩, ⟨(some 92), none, (.op (.nilck (.t 89)))⟩, ⟨(some 93), none, (.op (.fld 13 (.t 92)))⟩, ⟨none, none, (.op (.store 1 (.t 93) (.t 91)))⟩]
def mdo_r21 : List AI := [⟨(some 95), none, (.op (.ibin .eql (.t 15) (.c (.int .i64 21))))⟩, ⟨(some 94), none, (.op (.mv (.t 95)))⟩]
def mdo_r22 : List AI := [⟨(some 96), none, (.op (.mv (.t 0)))⟩, ⟨(some 97), none, (.call (.c (.fn 66 [])) [(.t 96)])⟩, ⟨(some 98), none, (.op (.ibin .eql (.t 97) (.c (.int .i64 0))))⟩]
def mdo_r23 : List AI := [⟨(some 99), none, (.op (.mv (.t 0)))⟩, ⟨(some 100), none, (.op (.fld 1 (.t 3)))⟩, ⟨(some 101), none, (.op (.load none (.t 100)))⟩, ⟨(some 102), none, (.op (.nilck (.t 99)))⟩, ⟨(some 103), none, (.op (.fld 13 (.t 102)))⟩, ⟨none, none, (.op (.store 1 (.t 103) (.t 101)))⟩]
def mdo_r24 : List AI := [⟨(some 105), none, (.op (.ibin .eql (.t 15) (.c (.int .i64 22))))⟩, ⟨(some 104), none, (.op (.mv (.t 105)))⟩]
def mdo_r25 : List AI := [⟨(some 106), none, (.op (.mv (.t 0)))⟩, ⟨(some 107), none, (.op (.fld 1 (.t 3)))⟩, ⟨(some 108), none, (.op (.load none (.t 107)))⟩, ⟨(some 109), none, (.call (.c (.fn 68 [])) [(.t 106), (.t 108)])⟩, ⟨(some 4), none, (.op (.mv (.t 109)))⟩]
def mdo_r26 : List AI := [⟨(some 111), none, (.op (.ibin .eql (.t 15) (.c (.int .i64 23))))⟩, ⟨(some 110), none, (.op (.mv (.t 111)))⟩]
def mdo_r27 : List AI := [⟨(some 112), none, (.op (.mv (.t 0)))⟩, ⟨(some 113), none, (.op (.mv (.t 0)))⟩, ⟨(some 114), none, (.op (.nilck (.t 113)))⟩, ⟨(some 115), none, (.op (.fld 6 (.t 114)))⟩, ⟨(some 116), none, (.op (.fld 1 (.t 115)))⟩, ⟨(some 117), none, (.op (.load none (.t 116)))⟩, ⟨(some 118), none, (.op (.mv (.t 117)))⟩, ⟨(some 119), (some (118, false)), (.op (.mv (.t 0)))⟩, ⟨(some 120), (some (118, false)), (.op (.nilck (.t 119)))⟩, ⟨(some 121), (some (118, false)), (.op (.fld 0 (.t 120)))⟩, ⟨(some 122), (some (118, false)), (.op (.fld 1 (.t 121)))⟩, ⟨(some 123), (some (118, false)), (.op (.load none (.t 122)))⟩, ⟨(some 124), (some (118, false)), (.op (.mv (.t 0)))⟩, ⟨(some 125), (some (118, false)), (.op (.nilck (.t 124)))⟩, ⟨(some 126), (some (118, false)), (.op (.fld 4 (.t 125)))⟩, ⟨(some 127), (some (118, false)), (.op (.load none (.t 126)))⟩, ⟨(some 128), (some (118, false)), (.op (.idx 4 (.t 123) (.t 127)))⟩, ⟨(some 129), (some (118, false)), (.op (.fld 2 (.t 128)))⟩, ⟨(some 130), (some (118, false)), (.op (.load none (.t 129)))⟩, ⟨(some 131), (some (118, false)), (.op (.ibin .neq (.t 130) (.c (.int .i64 (-1)))))⟩, ⟨(some 132), none, (.op (.pick (.t 118) (.c (.bool true)) (.t 131)))⟩, ⟨(some 133), none, (.op (.nilck (.t 112)))⟩, ⟨(some 134), none, (.op (.fld 6 (.t 133)))⟩, ⟨(some 135), none, (.op (.fld 1 (.t 134)))⟩, ⟨none, none, (.op (.store 1 (.t 135) (.t 132)))⟩]
def mdo_p27 : List (List Nat) := [[], [], [1], [2, 1], [3, 2, 1], [4, 3, 2, 1], [5, 4, 3, 2, 1], [6, 5, 4, 3, 2, 1], [7, 6, 5, 4, 3, 2, 1], [8, 6, 7, 5, 4, 3, 2, 1], [9, 6, 8, 7, 5, 4, 3, 2, 1], [10, 6, 9, 8, 7, 5, 4, 3, 2, 1], [6, 5, 4, 3, 2, 1], [12, 6, 5, 4, 3, 2, 1], [13, 6, 12, 5, 4, 3, 2, 1], [14, 6, 13, 12, 5, 4, 3, 2, 1], [11, 15, 6, 10, 9, 8, 7, 5, 4, 3, 2, 1, 14, 13, 12], [16, 6, 11, 15, 10, 9, 8, 7, 5, 4, 3, 2, 1, 14, 13, 12], [17, 6, 16, 11, 15, 10, 9, 8, 7, 5, 4, 3, 2, 1, 14, 13, 12], [18, 6, 17, 16, 11, 15, 10, 9, 8, 7, 5, 4, 3, 2, 1, 14, 13, 12], [6, 19, 5, 4, 3, 2, 1, 18, 17, 16, 11, 15, 10, 9, 8, 7, 14, 13, 12], [0, 1, 2, 3, 4, 5, 6, 7, 8, 9, 10, 11, 12, 13, 14, 15, 16, 17, 18, 19, 20], [21, 0, 1, 2, 3, 4, 5, 6, 7, 8, 9, 10, 11, 12, 13, 14, 15, 16, 17, 18, 19, 20], [22, 0, 1, 2, 3, 4, 5, 6, 7, 8, 9, 10, 11, 12, 13, 14, 15, 16, 17, 18, 19, 20, 21], [23, 20, 6, 0, 1, 2, 3, 4, 5, 7, 8, 9, 10, 11, 12, 13, 14, 15, 16, 17, 18, 19, 22, 21]]
def mdo_r28 : List AI := [⟨(some 137), none, (.op (.ibin .eql (.t 15) (.c (.int .i64 24))))⟩, ⟨(some 136), none, (.op (.mv (.t 137)))⟩]
def mdo_r29 : List AI := [⟨(some 138), none, (.op (.mv (.t 0)))⟩, ⟨(some 139), none, (.op (.nilck (.t 138)))⟩, ⟨(some 140), none, (.op (.fld 6 (.t 139)))⟩, ⟨(some 141), none, (.op (.fld 1 (.t 140)))⟩, ⟨none, none, (.op (.store 1 (.t 141) (.c (.bool false))))⟩]
def mdo_r30 : List AI := [⟨(some 143), none, (.op (.ibin .eql (.t 15) (.c (.int .i64 25))))⟩, ⟨(some 142), none, (.op (.mv (.t 143)))⟩]
def mdo_r31 : List AI := [⟨(some 144), none, (.op (.mv (.t 0)))⟩, ⟨(some 145), none, (.op (.nilck (.t 144)))⟩, ⟨(some 146), none, (.op (.fld 13 (.t 145)))⟩, ⟨none, none, (.op (.store 1 (.t 146) (.c (.int .i64 (-1)))))⟩]
def mdo_r32 : List AI := [⟨(some 16), none, (.op (.mv (.t 0)))⟩, ⟨(some 17), none, (.op (.fld 0 (.t 3)))⟩, ⟨(some 18), none, (.op (.load none (.t 17)))⟩, ⟨(some 19), none, (.call (.c (.fn 69 [])) [(.t 16), (.t 18)])⟩, ⟨(some 4), none, (.op (.mv (.t 19)))⟩]
def mdo_r33 : List AI := [⟨(some 4), none, (.op (.mv (.c (.int .i64 0))))⟩]
def mdo_c : AC := (.seq (.reg mdo_r0) (.seq (.reg mdo_r1) (.seq (.seq (.reg mdo_r2) (.block 0 (.seq (.reg mdo_r3) (.cond (.t 20) (.reg mdo_r4) (.seq (.reg mdo_r5) (.cond (.t 27) (.reg mdo_r6) (.seq (.reg mdo_r7) (.cond (.t 31) (.regi mdo_r8 mdo_p8) (.seq (.reg mdo_r9) (.cond (.t 48) (.seq (.reg mdo_r10) (.reg mdo_r11)) (.seq (.seq (.reg mdo_r12) (.cond (.t 59) .skip (.reg mdo_r13))) (.cond (.t 59) (.reg mdo_r14) (.seq (.reg mdo_r15) (.cond (.t 65) (.regi mdo_r16 mdo_p16) (.seq (.reg mdo_r17) (.cond (.t 78) (.reg mdo_r18) (.seq (.reg mdo_r19) (.cond (.t 87) (.reg mdo_r20) (.seq (.reg mdo_r21) (.cond (.t 94) (.seq (.reg mdo_r22) (.cond (.t 98) (.reg mdo_r23) .skip)) (.seq (.reg mdo_r24) (.cond (.t 104) (.seq (.reg mdo_r25) .ret) (.seq (.reg mdo_r26) (.cond (.t 110) (.regd mdo_r27 mdo_p27) (.seq (.reg mdo_r28) (.cond (.t 136) (.reg mdo_r29) (.seq (.reg mdo_r30) (.cond (.t 142) (.reg mdo_r31) (.seq (.reg mdo_r32) .ret))))))))))))))))))))))))))))) (.seq (.reg mdo_r33) .ret))))
def mdo_res : List ARes := [(.tmp 4)]
set_option maxRecDepth 100000 in
theorem mdo_get : getF Tryz.prog 43 98000 [(2000009, 1), (2000017, 1)] = some ("(*gavotte/vm.machine).do", 147, mdo_c, mdo_res) := by kernel_rfl
attribute [simp] mdo_r0 mdo_r1 mdo_r2 mdo_r3 mdo_r4 mdo_r5 mdo_r6 mdo_r7 mdo_r8 mdo_p8 mdo_r9 mdo_r10 mdo_r11 mdo_r12 mdo_r13 mdo_r14 mdo_r15 mdo_r16 mdo_p16 mdo_r17 mdo_r18 mdo_r19 mdo_r20 mdo_r21 mdo_r22 mdo_r23 mdo_r24 mdo_r25 mdo_r26 mdo_r27 mdo_p27 mdo_r28 mdo_r29 mdo_r30 mdo_r31 mdo_r32 mdo_r33 mdo_res


def top (l : List Int) : Int := l.getLast?.getD 0
theorem top_split {l : List Int} (h : 1 ≤ l.length) : l = l.dropLast ++ [top l] := by
  have hne : l ≠ [] := by rintro rfl; simp at h
  have := (List.dropLast_concat_getLast hne).symm
  rw [top, List.getLast?_eq_some_getLast hne]; exact this
theorem top_split2 {l : List Int} (h : 2 ≤ l.length) : l = l.dropLast.dropLast ++ [top l.dropLast, top l] := by
  have h1 := top_split (l := l) (by omega)
  have h2 := top_split (l := l.dropLast) (by simp; omega)
  rw [List.append_cons, ← h2, ← h1]
theorem do1_v (F : Fx) (st : Nat) (m : Mach) (i : Ins) (hop : i.op = 1) (hpc : 0 ≤ m.pc ∧ m.pc < 1000) (hl : m.st.length < 900) {S : St} {k : AV → St → Prop} {u : Dep k} (h : MS F st m S)
    (hk : ∀ S', Fr Lm S S' → MS F st { m with pc := m.pc + 1, st := m.st ++ [i.a] } S' → k (iv 0) S') : CallG Tryz.prog (.fn 43 []) [.ptr 84026 st 14 0 0, i.av] S k u := by
  refine callV mdo_get (by simp) (by simp) ?_
  unfold mdo_c
  obtain ⟨r, sk, nt, hb, hr, hs, hn⟩ := h
  have ws : IntKind.i64.wrap (m.pc + 1) = m.pc + 1 := wrap_in _ (by omega) (by omega)
  simp [hb, hop, ws]
  refine push_v F st { m with pc := m.pc + 1 } [i.a] (by simp) (by simp; omega) _ _ (MS.mk' (upd_same _ _ _) ?_ ?_ ?_) ?_
  · simpa [RegIs] using hr
  · simpa [StkIs] using hs
  · simpa [AccIs] using hn
  rintro S1 ⟨ht1, hb1, hk1, hc1⟩ hM1
  simp [ht1]
  exact hk _ (Fr.here (fun n hn => by simp [hb1 n hn, ne_of_Lm hn, Lm]) (fun n hn => by simp [hk1 n hn, ne_of_Lm hn, Lm]) (by simp at hc1 ⊢; omega)) hM1.to
theorem StkIs.last {S : St} {v : AV} {xs : List Int} (h : StkIs S v xs) (h1 : 1 ≤ xs.length) : ∃ st es, v = .sl 1000107000 st 1 0 xs.length ∧ S.blk 1000107000 = some ⟨st, 1, es⟩ ∧ xs.length ≤ es.length ∧ es[xs.length - 1]? = some (iv (top xs)) := by
  rcases h with ⟨_, rfl⟩ | ⟨st, es, q1, q2, q3, q4⟩
  · simp at h1
  refine ⟨st, es, q1, q2, q3, ?_⟩
  have := congrArg (fun l => l[xs.length - 1]?) q4
  simp only [List.getElem?_take_of_lt (show xs.length - 1 < xs.length by omega)] at this
  rw [this, List.getElem?_map]
  have hne : xs ≠ [] := by rintro rfl; simp at h1
  rw [top, List.getLast?_eq_some_getLast hne, List.getElem?_eq_getElem (by omega), List.getLast_eq_getElem]
  rfl
theorem do2_v (F : Fx) (st : Nat) (m : Mach) (i : Ins) (hop : i.op = 2) (h1 : 1 ≤ m.st.length) (hpc : 0 ≤ m.pc ∧ m.pc < 1000) (hl : m.st.length < 900) {S : St} {k : AV → St → Prop} {u : Dep k} (h : MS F st m S)
    (hk : ∀ S', Fr Lm S S' → MS F st { m with pc := m.pc + 1, st := m.st.dropLast } S' → k (iv 0) S') : CallG Tryz.prog (.fn 43 []) [.ptr 84026 st 14 0 0, i.av] S k u := by
  refine callV mdo_get (by simp) (by simp) ?_
  unfold mdo_c
  obtain ⟨r, sk, nt, hb, hr, hs, hn⟩ := h
  have ws : IntKind.i64.wrap (m.pc + 1) = m.pc + 1 := wrap_in _ (by omega) (by omega)
  simp [hb, hop, ws]
  refine pop_v F st { m with pc := m.pc + 1 } m.st.dropLast (top m.st) (top_split h1) (by simp; omega) (MS.mk' (upd_same _ _ _) (by simpa [RegIs] using hr) (by simpa [StkIs] using hs) (by simpa [AccIs] using hn)) ?_
  rintro S1 ⟨ht1, hb1, hk1, hc1⟩ hM1
  simp [ht1]
  exact hk _ (Fr.here (fun n hn => by simp [hb1 n hn, ne_of_Lm hn, Lm]) (fun n hn => by first | rfl | simp [hk1 n hn, ne_of_Lm hn, Lm]) (by simp at hc1 ⊢; omega)) hM1.to
theorem do3_v (F : Fx) (st : Nat) (m : Mach) (i : Ins) (hop : i.op = 3) (h1 : 1 ≤ m.st.length) (hpc : 0 ≤ m.pc ∧ m.pc < 1000) (hl : m.st.length < 900) {S : St} {k : AV → St → Prop} {u : Dep k} (h : MS F st m S)
    (hk : ∀ S', Fr Lm S S' → MS F st { m with pc := m.pc + 1, st := m.st ++ [top m.st] } S' → k (iv 0) S') : CallG Tryz.prog (.fn 43 []) [.ptr 84026 st 14 0 0, i.av] S k u := by
  refine callV mdo_get (by simp) (by simp) ?_
  unfold mdo_c
  obtain ⟨r, sk, nt, hb, hr, hs, hn⟩ := h
  have ws : IntKind.i64.wrap (m.pc + 1) = m.pc + 1 := wrap_in _ (by omega) (by omega)
  obtain ⟨s2, es, q1, q2, q3, q4⟩ := hs.last h1
  have wl : IntKind.i64.wrap ((m.st.length : Int) - 1) = ((m.st.length - 1 : Nat) : Int) := by rw [wrap_in _ (by omega) (by omega)]; omega
  simp [hb, hop, ws]
  refine regi_end (by simp) (by rfl) ?_
  simp [q1, q2, q4, wl, show m.st.length - 1 < m.st.length by omega]
  rw [q1] at hs
  refine push_v F st { m with pc := m.pc + 1 } [top m.st] (by simp) (by simp; omega) _ _ (MS.mk' (upd_same _ _ _) (by simpa [RegIs] using hr) (by simpa [StkIs] using hs) (by simpa [AccIs] using hn)) ?_
  rintro S1 ⟨ht1, hb1, hk1, hc1⟩ hM1
  simp [ht1]
  exact hk _ (Fr.here (fun n hn => by simp [hb1 n hn, ne_of_Lm hn, Lm]) (fun n hn => by first | rfl | simp [hk1 n hn, ne_of_Lm hn, Lm]) (by simp at hc1 ⊢; omega)) hM1.to
theorem do4_v (F : Fx) (st : Nat) (m : Mach) (i : Ins) (hop : i.op = 4) (h1 : 2 ≤ m.st.length) (hpc : 0 ≤ m.pc ∧ m.pc < 1000) (hl : m.st.length < 900) {S : St} {k : AV → St → Prop} {u : Dep k} (h : MS F st m S)
    (hk : ∀ S', Fr Lm S S' → MS F st { m with pc := m.pc + 1, st := m.st.dropLast.dropLast ++ [top m.st, top m.st.dropLast] } S' → k (iv 0) S') : CallG Tryz.prog (.fn 43 []) [.ptr 84026 st 14 0 0, i.av] S k u := by
  refine callV mdo_get (by simp) (by simp) ?_
  unfold mdo_c
  obtain ⟨r, sk, nt, hb, hr, hs, hn⟩ := h
  have ws : IntKind.i64.wrap (m.pc + 1) = m.pc + 1 := wrap_in _ (by omega) (by omega)
  simp [hb, hop, ws]
  refine pop_v F st { m with pc := m.pc + 1 } m.st.dropLast (top m.st) (top_split (show 1 ≤ m.st.length by omega)) (by simp; omega) (MS.mk' (upd_same _ _ _) (by simpa [RegIs] using hr) (by simpa [StkIs] using hs) (by simpa [AccIs] using hn)) ?_
  rintro S1 ⟨ht1, hb1, hk1, hc1⟩ hM1
  simp [ht1]
  refine pop_v F st { m with pc := m.pc + 1, st := m.st.dropLast } m.st.dropLast.dropLast (top m.st.dropLast) (top_split (by simp; omega)) (by simp; omega) hM1.to ?_
  rintro S2 ⟨ht2, hb2, hk2, hc2⟩ hM2
  simp [ht2]
  refine push_v F st { m with pc := m.pc + 1, st := m.st.dropLast.dropLast } [top m.st, top m.st.dropLast] (by simp) (by simp; omega) _ _ hM2.to ?_
  rintro S3 ⟨ht3, hb3, hk3, hc3⟩ hM3
  simp [ht3]
  exact hk _ (Fr.here (fun n hn => by simp [hb3 n hn, hb2 n hn, hb1 n hn, ne_of_Lm hn, Lm]) (fun n hn => by first | rfl | simp [hk3 n hn, hk2 n hn, hk1 n hn, ne_of_Lm hn, Lm]) (by simp at hc1 hc2 hc3 ⊢; omega)) hM3.to
theorem do5_v (F : Fx) (st : Nat) (m : Mach) (i : Ins) (hop : i.op = 5) (ha : 0 ≤ i.a) (hr8 : m.regs.length ≤ 1000) (hpc : 0 ≤ m.pc ∧ m.pc < 1000) (hl : m.st.length < 900) {S : St} {k : AV → St → Prop} {u : Dep k} (h : MS F st m S)
    (hk : ∀ S', Fr Lm S S' → MS F st { m with pc := m.pc + 1, st := m.st ++ [loadV m i.a] } S' → k (iv 0) S') : CallG Tryz.prog (.fn 43 []) [.ptr 84026 st 14 0 0, i.av] S k u := by
  refine callV mdo_get (by simp) (by simp) ?_
  unfold mdo_c
  obtain ⟨r, sk, nt, hb, hr, hs, hn⟩ := h
  have ws : IntKind.i64.wrap (m.pc + 1) = m.pc + 1 := wrap_in _ (by omega) (by omega)
  simp [hb, hop, ws]
  refine regload_v F st { m with pc := m.pc + 1 } ⟨5, i.a⟩ (by simp) ha hr8 hl (MS.mk' (upd_same _ _ _) (by simpa [RegIs] using hr) (by simpa [StkIs] using hs) (by simpa [AccIs] using hn)) ?_
  rintro S1 ⟨ht1, hb1, hk1, hc1⟩ hM1
  simp [ht1]
  exact hk _ (Fr.here (fun n hn => by simp [hb1 n hn, ne_of_Lm hn, Lm]) (fun n hn => by first | rfl | simp [hk1 n hn, ne_of_Lm hn, Lm]) (by simp at hc1 ⊢; omega)) hM1.to
/-- How the arguments are handed over: as a list, or in a block of the caller's. -/
def ArgIs (F : Fx) (S : St) : Prop := F.argv = ints F.args ∨ ∃ st, F.argv = .sl 1000016008 st 1 0 F.args.length ∧ S.blk 1000016008 = some ⟨st, 1, F.args.map iv⟩
theorem do7_v (F : Fx) (st : Nat) (m : Mach) (i : Ins) (hop : i.op = 7) (ha : 0 ≤ i.a) (ha2 : i.a.toNat < F.args.length) (hpc : 0 ≤ m.pc ∧ m.pc < 1000) (hl : m.st.length < 900) {S : St} {k : AV → St → Prop} {u : Dep k} (harg : ArgIs F S) (h : MS F st m S)
    (hk : ∀ S', Fr Lm S S' → MS F st { m with pc := m.pc + 1, st := m.st ++ [F.args[i.a.toNat]] } S' → k (iv 0) S') : CallG Tryz.prog (.fn 43 []) [.ptr 84026 st 14 0 0, i.av] S k u := by
  obtain ⟨p0, who0, args0, d0, s0, o0, argv0⟩ := F
  simp only at ha2 hk
  rcases harg with hv | ⟨sa, hv, hbl⟩
  · simp only at hv
    subst hv
    refine callV mdo_get (by simp) (by simp) ?_
    unfold mdo_c
    obtain ⟨r, sk, nt, hb, hr, hs, hn⟩ := h
    have ws : IntKind.i64.wrap (m.pc + 1) = m.pc + 1 := wrap_in _ (by omega) (by omega)
    simp [hb, hop, ws]
    refine regi_end (by simp) (by rfl) ?_
    simp [ints, ha, ha2]
    refine push_v ⟨p0, who0, args0, d0, s0, o0, ints args0⟩ st { m with pc := m.pc + 1 } [args0[i.a.toNat]] (by simp) (by simp; omega) _ _ (MS.mk' (upd_same _ _ _) (by simpa [RegIs] using hr) (by simpa [StkIs] using hs) (by simpa [AccIs] using hn)) ?_
    rintro S1 ⟨ht1, hb1, hk1, hc1⟩ hM1
    simp [ht1]
    exact hk _ (Fr.here (fun n hn => by simp [hb1 n hn, ne_of_Lm hn, Lm]) (fun n hn => by first | rfl | simp [hk1 n hn, ne_of_Lm hn, Lm]) (by simp at hc1 ⊢; omega)) hM1.to
  · simp only at hv
    subst hv
    refine callV mdo_get (by simp) (by simp) ?_
    unfold mdo_c
    obtain ⟨r, sk, nt, hb, hr, hs, hn⟩ := h
    have ws : IntKind.i64.wrap (m.pc + 1) = m.pc + 1 := wrap_in _ (by omega) (by omega)
    simp [hb, hop, ws]
    refine regi_end (by simp) (by rfl) ?_
    simp [hbl, ha, ha2]
    refine push_v ⟨p0, who0, args0, d0, s0, o0, .sl 1000016008 sa 1 0 args0.length⟩ st { m with pc := m.pc + 1 } [args0[i.a.toNat]] (by simp) (by simp; omega) _ _ (MS.mk' (upd_same _ _ _) (by simpa [RegIs] using hr) (by simpa [StkIs] using hs) (by simpa [AccIs] using hn)) ?_
    rintro S1 ⟨ht1, hb1, hk1, hc1⟩ hM1
    simp [ht1]
    exact hk _ (Fr.here (fun n hn => by simp [hb1 n hn, ne_of_Lm hn, Lm]) (fun n hn => by first | rfl | simp [hk1 n hn, ne_of_Lm hn, Lm]) (by simp at hc1 ⊢; omega)) hM1.to
theorem do8_v (F : Fx) (st : Nat) (m : Mach) (i : Ins) (hop : i.op = 8) (hpc : 0 ≤ m.pc ∧ m.pc < 1000) (hl : m.st.length < 900) {S : St} {k : AV → St → Prop} {u : Dep k} (h : MS F st m S)
    (hk : ∀ S', Fr Lm S S' → MS F st { m with pc := m.pc + 1, st := m.st ++ [F.who] } S' → k (iv 0) S') : CallG Tryz.prog (.fn 43 []) [.ptr 84026 st 14 0 0, i.av] S k u := by
  refine callV mdo_get (by simp) (by simp) ?_
  unfold mdo_c
  obtain ⟨r, sk, nt, hb, hr, hs, hn⟩ := h
  have ws : IntKind.i64.wrap (m.pc + 1) = m.pc + 1 := wrap_in _ (by omega) (by omega)
  simp [hb, hop, ws]
  refine push_v F st { m with pc := m.pc + 1 } [F.who] (by simp) (by simp; omega) _ _ (MS.mk' (upd_same _ _ _) (by simpa [RegIs] using hr) (by simpa [StkIs] using hs) (by simpa [AccIs] using hn)) ?_
  rintro S1 ⟨ht1, hb1, hk1, hc1⟩ hM1
  simp [ht1]
  exact hk _ (Fr.here (fun n hn => by simp [hb1 n hn, ne_of_Lm hn, Lm]) (fun n hn => by first | rfl | simp [hk1 n hn, ne_of_Lm hn, Lm]) (by simp at hc1 ⊢; omega)) hM1.to
theorem do20_v (F : Fx) (st : Nat) (m : Mach) (i : Ins) (hop : i.op = 20) (hpc : 0 ≤ m.pc ∧ m.pc < 1000) (hl : m.st.length < 900) {S : St} {k : AV → St → Prop} {u : Dep k} (h : MS F st m S)
    (hk : ∀ S', Fr Lm S S' → MS F st { m with pc := i.a } S' → k (iv 0) S') : CallG Tryz.prog (.fn 43 []) [.ptr 84026 st 14 0 0, i.av] S k u := by
  refine callV mdo_get (by simp) (by simp) ?_
  unfold mdo_c
  obtain ⟨r, sk, nt, hb, hr, hs, hn⟩ := h
  have ws : IntKind.i64.wrap (m.pc + 1) = m.pc + 1 := wrap_in _ (by omega) (by omega)
  simp [hb, hop, ws]
  exact hk _ (Fr.here (fun n hn => by simp [ne_of_Lm hn, Lm]) (fun n hn => by first | rfl | simp [ne_of_Lm hn, Lm]) (by omega)) (MS.mk' (upd_same _ _ _) (by simpa [RegIs] using hr) (by simpa [StkIs] using hs) (by simpa [AccIs] using hn))
theorem do24_v (F : Fx) (st : Nat) (m : Mach) (i : Ins) (hop : i.op = 24) (hpc : 0 ≤ m.pc ∧ m.pc < 1000) (hl : m.st.length < 900) {S : St} {k : AV → St → Prop} {u : Dep k} (h : MS F st m S)
    (hk : ∀ S', Fr Lm S S' → MS F st { m with pc := m.pc + 1, armed := false } S' → k (iv 0) S') : CallG Tryz.prog (.fn 43 []) [.ptr 84026 st 14 0 0, i.av] S k u := by
  refine callV mdo_get (by simp) (by simp) ?_
  unfold mdo_c
  obtain ⟨r, sk, nt, hb, hr, hs, hn⟩ := h
  have ws : IntKind.i64.wrap (m.pc + 1) = m.pc + 1 := wrap_in _ (by omega) (by omega)
  simp [hb, hop, ws]
  exact hk _ (Fr.here (fun n hn => by simp [ne_of_Lm hn, Lm]) (fun n hn => by first | rfl | simp [ne_of_Lm hn, Lm]) (by omega)) (MS.mk' (upd_same _ _ _) (by simpa [RegIs] using hr) (by simpa [StkIs] using hs) (by simpa [AccIs] using hn))
theorem do25_v (F : Fx) (st : Nat) (m : Mach) (i : Ins) (hop : i.op = 25) (hpc : 0 ≤ m.pc ∧ m.pc < 1000) (hl : m.st.length < 900) {S : St} {k : AV → St → Prop} {u : Dep k} (h : MS F st m S)
    (hk : ∀ S', Fr Lm S S' → MS F st { m with pc := -1 } S' → k (iv 0) S') : CallG Tryz.prog (.fn 43 []) [.ptr 84026 st 14 0 0, i.av] S k u := by
  refine callV mdo_get (by simp) (by simp) ?_
  unfold mdo_c
  obtain ⟨r, sk, nt, hb, hr, hs, hn⟩ := h
  have ws : IntKind.i64.wrap (m.pc + 1) = m.pc + 1 := wrap_in _ (by omega) (by omega)
  simp [hb, hop, ws]
  exact hk _ (Fr.here (fun n hn => by simp [ne_of_Lm hn, Lm]) (fun n hn => by first | rfl | simp [ne_of_Lm hn, Lm]) (by omega)) (MS.mk' (upd_same _ _ _) (by simpa [RegIs] using hr) (by simpa [StkIs] using hs) (by simpa [AccIs] using hn))

end Go.Gv

/- What vm's machine does at an instruction, the other ones. -/
set_option linter.unusedVariables false
set_option linter.unusedSimpArgs false
namespace Go.Gv
open Go.Proofs


theorem regpop_v (F : Fx) (st : Nat) (m : Mach) (i : Ins) (h6 : i.op = 6) (h1 : 1 ≤ m.st.length) (hn1 : ¬ i.a < m.regs.length) (hl : m.st.length < 900) {S : St} {k : AV → St → Prop} {u : Dep k} (h : MS F st m S)
    (hk : ∀ S', Fr Lm S S' → MS F st { m with st := m.st.dropLast } S' → k (.tup []) S') : CallG Tryz.prog (.fn 67 []) [.ptr 84026 st 14 0 0, i.av] S k u := by
  refine callV mreg_get (by simp) (by simp) ?_
  unfold mreg_c
  obtain ⟨r, sk, nt, hb, hr, hs, hn⟩ := h
  have hrl := hr.len
  simp [hb, hrl, hn1, h6]
  refine pop_v F st m m.st.dropLast (top m.st) (top_split h1) (by simp; omega) (MS.to ⟨r, sk, nt, hb, hr, hs, hn⟩) ?_
  rintro S1 ⟨ht1, hb1, hk1, hc1⟩ hM1
  simp [ht1]
  exact hk _ (Fr.here (fun n hn => by simp [hb1 n hn, ne_of_Lm hn, Lm]) (fun n hn => by first | rfl | simp [hk1 n hn, ne_of_Lm hn, Lm]) (by simp at hc1 ⊢; omega)) hM1.to
theorem do6_v (F : Fx) (st : Nat) (m : Mach) (i : Ins) (hop : i.op = 6) (h1 : 1 ≤ m.st.length) (ha : 0 ≤ i.a) (hr8 : m.regs.length ≤ 1000) (hpc : 0 ≤ m.pc ∧ m.pc < 1000) (hl : m.st.length < 900) {S : St} {k : AV → St → Prop} {u : Dep k} (h : MS F st m S)
    (hk : ∀ S', Fr Lm S S' → MS F st { m with pc := m.pc + 1, st := m.st.dropLast, regs := if i.a < m.regs.length then m.regs.set i.a.toNat (top m.st) else m.regs } S' → k (iv 0) S') : CallG Tryz.prog (.fn 43 []) [.ptr 84026 st 14 0 0, i.av] S k u := by
  refine callV mdo_get (by simp) (by simp) ?_
  unfold mdo_c
  obtain ⟨r, sk, nt, hb, hr, hs, hn⟩ := h
  have ws : IntKind.i64.wrap (m.pc + 1) = m.pc + 1 := wrap_in _ (by omega) (by omega)
  simp [hb, hop, ws]
  by_cases hlt : i.a < m.regs.length
  · rw [if_pos hlt] at hk
    refine regstore_v F st { m with pc := m.pc + 1 } ⟨6, i.a⟩ rfl m.st.dropLast (top m.st) (top_split h1) ha hlt hr8 (by simp; omega) (MS.mk' (upd_same _ _ _) (by simpa [RegIs] using hr) (by simpa [StkIs] using hs) (by simpa [AccIs] using hn)) ?_
    rintro S1 ⟨ht1, hb1, hk1, hc1⟩ hM1
    simp [ht1]
    exact hk _ (Fr.here (fun n hn => by simp [hb1 n hn, ne_of_Lm hn, Lm]) (fun n hn => by first | rfl | simp [hk1 n hn, ne_of_Lm hn, Lm]) (by simp at hc1 ⊢; omega)) hM1.to
  · rw [if_neg hlt] at hk
    refine regpop_v F st { m with pc := m.pc + 1 } ⟨6, i.a⟩ rfl h1 hlt hl (MS.mk' (upd_same _ _ _) (by simpa [RegIs] using hr) (by simpa [StkIs] using hs) (by simpa [AccIs] using hn)) ?_
    rintro S1 ⟨ht1, hb1, hk1, hc1⟩ hM1
    simp [ht1]
    exact hk _ (Fr.here (fun n hn => by simp [hb1 n hn, ne_of_Lm hn, Lm]) (fun n hn => by first | rfl | simp [hk1 n hn, ne_of_Lm hn, Lm]) (by simp at hc1 ⊢; omega)) hM1.to
theorem do21_v (F : Fx) (st : Nat) (m : Mach) (i : Ins) (hop : i.op = 21) (h1 : 1 ≤ m.st.length) (hpc : 0 ≤ m.pc ∧ m.pc < 1000) (hl : m.st.length < 900) {S : St} {k : AV → St → Prop} {u : Dep k} (h : MS F st m S)
    (hk : ∀ S', Fr Lm S S' → MS F st { m with pc := if top m.st = 0 then i.a else m.pc + 1, st := m.st.dropLast } S' → k (iv 0) S') : CallG Tryz.prog (.fn 43 []) [.ptr 84026 st 14 0 0, i.av] S k u := by
  refine callV mdo_get (by simp) (by simp) ?_
  unfold mdo_c
  obtain ⟨r, sk, nt, hb, hr, hs, hn⟩ := h
  have ws : IntKind.i64.wrap (m.pc + 1) = m.pc + 1 := wrap_in _ (by omega) (by omega)
  obtain ⟨s2, es, q1, q2, q3, q4⟩ := hs.last h1
  have htk : es.take m.st.dropLast.length = m.st.dropLast.map iv := by
    rcases hs with ⟨_, e⟩ | ⟨s2', es', e1, e2, e3, e4⟩
    · rw [e] at h1; simp at h1
    · rw [q2] at e2; cases e2
      have := congrArg (List.take m.st.dropLast.length) e4
      rw [List.take_take, Nat.min_eq_left (by simp)] at this
      rw [this, List.dropLast_eq_take, List.map_take]; simp
  have hlen : m.st.length = m.st.dropLast.length + 1 := by simp; omega
  rw [q1, hlen] at hb
  rw [hlen] at q3
  rw [show m.st.length - 1 = m.st.dropLast.length by simp] at q4
  have hl' : m.st.dropLast.length < 1000 := by simp; omega
  generalize hq : m.st.dropLast = xs at *
  simp [hb, hop, ws]
  refine pop_x (s1 := s2) (es := es) hl' (by dsimp only; exact upd_same _ _ _) (by simp [q2]) q3 q4 ?_
  by_cases hz : top m.st = 0
  · rw [if_pos hz] at hk
    simp [hz]
    refine hk _ (Fr.here (fun n hn => by simp [ne_of_Lm hn, Lm]) (fun n hn => by first | rfl | simp [ne_of_Lm hn, Lm]) (by omega)) (MS.mk' (upd_same _ _ _) (by simpa [RegIs] using hr) (.inr ⟨s2, es, rfl, by simp [q2], by simp only []; omega, htk⟩) (by simpa [AccIs] using hn))
  · rw [if_neg hz] at hk
    simp [hz]
    refine hk _ (Fr.here (fun n hn => by simp [ne_of_Lm hn, Lm]) (fun n hn => by first | rfl | simp [ne_of_Lm hn, Lm]) (by omega)) (MS.mk' (upd_same _ _ _) (by simpa [RegIs] using hr) (.inr ⟨s2, es, rfl, by simp [q2], by simp only []; omega, htk⟩) (by simpa [AccIs] using hn))
theorem do23_v (F : Fx) (st : Nat) (m : Mach) (i : Ins) (hop : i.op = 23) (hw : 0 ≤ F.who) (x : Actr) (hx : F.p.as[F.who.toNat]? = some x) (hpc : 0 ≤ m.pc ∧ m.pc < 1000) (hl : m.st.length < 900) {S : St} {k : AV → St → Prop} {u : Dep k} (h : MS F st m S)
    (hk : ∀ S', Fr Lm S S' → MS F st { m with pc := m.pc + 1, armed := m.armed || !decide (x.timer = -1) } S' → k (iv 0) S') : CallG Tryz.prog (.fn 43 []) [.ptr 84026 st 14 0 0, i.av] S k u := by
  refine callV mdo_get (by simp) (by simp) ?_
  unfold mdo_c
  obtain ⟨r, sk, nt, hb, hr, hs, hn⟩ := h
  have ws : IntKind.i64.wrap (m.pc + 1) = m.pc + 1 := wrap_in _ (by omega) (by omega)
  have hj : F.who.toNat < F.p.as.length := (List.getElem?_eq_some_iff.1 hx).1
  have hx' : F.p.as[F.who.toNat] = x := (List.getElem?_eq_some_iff.1 hx).2
  cases har : m.armed with
  | true =>
    simp [hb, hop, ws, har]
    refine hk _ (Fr.here (fun n hn => by simp [ne_of_Lm hn, Lm]) (fun n hn => by first | rfl | simp [ne_of_Lm hn, Lm]) (by omega)) (MS.mk' (by simp [har]; exact ⟨rfl, rfl, rfl⟩) (by simpa [RegIs] using hr) (by simpa [StkIs] using hs) (by simpa [AccIs] using hn))
  | false =>
    simp [hb, hop, ws, har, hw, hj, hx']
    refine hk _ (Fr.here (fun n hn => by simp [ne_of_Lm hn, Lm]) (fun n hn => by first | rfl | simp [ne_of_Lm hn, Lm]) (by omega)) (MS.mk' ?_ (by simpa [RegIs] using hr) (by simpa [StkIs] using hs) (by simpa [AccIs] using hn))
    simp [har]
theorem doc1_v (F : Fx) (st : Nat) (m : Mach) (i : Ins) (hop : 9 ≤ i.op ∧ i.op ≤ 19) (h1 : 1 ≤ m.st.length) (ho : (oneV i.op (top m.st)).2 = true) (hpc : 0 ≤ m.pc ∧ m.pc < 1000) (hl : m.st.length < 900) {S : St} {k : AV → St → Prop} {u : Dep k} (h : MS F st m S)
    (hk : ∀ S', Fr Lm S S' → MS F st { m with pc := m.pc + 1, st := m.st.dropLast ++ [(oneV i.op (top m.st)).1] } S' → k (iv 0) S') : CallG Tryz.prog (.fn 43 []) [.ptr 84026 st 14 0 0, i.av] S k u := by
  refine callV mdo_get (by simp) (by simp) ?_
  unfold mdo_c
  obtain ⟨r, sk, nt, hb, hr, hs, hn⟩ := h
  have ws : IntKind.i64.wrap (m.pc + 1) = m.pc + 1 := wrap_in _ (by omega) (by omega)
  simp [hb, ws, show i.op ≠ 1 by omega, show i.op ≠ 2 by omega, show i.op ≠ 3 by omega, show i.op ≠ 4 by omega, show i.op ≠ 5 by omega, show i.op ≠ 6 by omega, show i.op ≠ 7 by omega, show i.op ≠ 8 by omega, show i.op ≠ 20 by omega, show i.op ≠ 21 by omega, show i.op ≠ 22 by omega, show i.op ≠ 23 by omega, show i.op ≠ 24 by omega, show i.op ≠ 25 by omega]
  refine count1_v F st { m with pc := m.pc + 1 } i.op m.st.dropLast (top m.st) (top_split h1) (by simp; omega) ho (MS.mk' (upd_same _ _ _) (by simpa [RegIs] using hr) (by simpa [StkIs] using hs) (by simpa [AccIs] using hn)) ?_
  rintro S1 ⟨ht1, hb1, hk1, hc1⟩ hM1
  simp [ht1]
  exact hk _ (Fr.here (fun n hn => by simp [hb1 n hn, ne_of_Lm hn, Lm]) (fun n hn => by first | rfl | simp [hk1 n hn, ne_of_Lm hn, Lm]) (by simp at hc1 ⊢; omega)) hM1.to
theorem doc2_v (F : Fx) (st : Nat) (m : Mach) (i : Ins) (hop : 9 ≤ i.op ∧ i.op ≤ 19) (h1 : 2 ≤ m.st.length) (ho : (oneV i.op (top m.st)).2 = false) (hpc : 0 ≤ m.pc ∧ m.pc < 1000) (hl : m.st.length < 900) {S : St} {k : AV → St → Prop} {u : Dep k} (h : MS F st m S)
    (hk : ∀ S', Fr Lm S S' → MS F st { m with pc := m.pc + 1, st := m.st.dropLast.dropLast ++ [(twoV i.op (top m.st.dropLast) (top m.st)).1] } S' → k (iv (twoV i.op (top m.st.dropLast) (top m.st)).2) S') : CallG Tryz.prog (.fn 43 []) [.ptr 84026 st 14 0 0, i.av] S k u := by
  refine callV mdo_get (by simp) (by simp) ?_
  unfold mdo_c
  obtain ⟨r, sk, nt, hb, hr, hs, hn⟩ := h
  have ws : IntKind.i64.wrap (m.pc + 1) = m.pc + 1 := wrap_in _ (by omega) (by omega)
  simp [hb, ws, show i.op ≠ 1 by omega, show i.op ≠ 2 by omega, show i.op ≠ 3 by omega, show i.op ≠ 4 by omega, show i.op ≠ 5 by omega, show i.op ≠ 6 by omega, show i.op ≠ 7 by omega, show i.op ≠ 8 by omega, show i.op ≠ 20 by omega, show i.op ≠ 21 by omega, show i.op ≠ 22 by omega, show i.op ≠ 23 by omega, show i.op ≠ 24 by omega, show i.op ≠ 25 by omega]
  refine count2_v F st { m with pc := m.pc + 1 } i.op m.st.dropLast.dropLast (top m.st.dropLast) (top m.st) (top_split2 h1) (by simp; omega) ho (MS.mk' (upd_same _ _ _) (by simpa [RegIs] using hr) (by simpa [StkIs] using hs) (by simpa [AccIs] using hn)) ?_
  rintro S1 ⟨ht1, hb1, hk1, hc1⟩ hM1
  simp [ht1]
  exact hk _ (Fr.here (fun n hn => by simp [hb1 n hn, ne_of_Lm hn, Lm]) (fun n hn => by first | rfl | simp [hk1 n hn, ne_of_Lm hn, Lm]) (by simp at hc1 ⊢; omega)) hM1.to
theorem do22_v (F : Fx) (st : Nat) (m : Mach) (i : Ins) (hop : i.op = 22) (xs bs : List Int) (to : Int) (hx : m.st = xs ++ bs ++ [to]) (ha : 0 ≤ i.a) (x : Hnd) (hh : F.p.hs[i.a.toNat]? = some x) (hargs : x.args = bs.length) (hnl : m.notes.length < 1000) (hpc : 0 ≤ m.pc ∧ m.pc < 1000) (hl : m.st.length < 900) {S : St} {k : AV → St → Prop} {u : Dep k} (h : MS F st m S)
    (hz1 : (to < 0 ∨ to ≥ F.p.as.length) → ∀ S', Fr Lm S S' → MS F st { m with pc := m.pc + 1, st := xs ++ bs } S' → k (iv 4) S')
    (hz2 : ¬ (to < 0 ∨ to ≥ F.p.as.length) → ∀ S', Fr Lm S S' → MS F st { m with pc := m.pc + 1, st := xs, notes := m.notes ++ [⟨to, i.a, bs⟩] } S' → k (iv 0) S') : CallG Tryz.prog (.fn 43 []) [.ptr 84026 st 14 0 0, i.av] S k u := by
  refine callV mdo_get (by simp) (by simp) ?_
  unfold mdo_c
  obtain ⟨r, sk, nt, hb, hr, hs, hn⟩ := h
  have ws : IntKind.i64.wrap (m.pc + 1) = m.pc + 1 := wrap_in _ (by omega) (by omega)
  simp [hb, hop, ws]
  have hll : (xs ++ bs).length < 900 := by rw [hx] at hl; simp at hl ⊢; omega
  refine send_v F st { m with pc := m.pc + 1 } i.a xs bs to hx ha x hh hargs hll hnl (MS.mk' (upd_same _ _ _) (by simpa [RegIs] using hr) (by simpa [StkIs] using hs) (by simpa [AccIs] using hn)) ?_ ?_
  · intro hc
    rintro S1 ⟨ht1, hb1, hk1, hc1⟩ hM1
    simp [ht1]
    exact hz1 hc _ (Fr.here (fun n hn => by simp [hb1 n hn, ne_of_Lm hn, Lm]) (fun n hn => by first | rfl | simp [hk1 n hn, ne_of_Lm hn, Lm]) (by simp at hc1 ⊢; omega)) hM1.to
  · intro hc
    rintro S1 ⟨ht1, hb1, hk1, hc1⟩ hM1
    simp [ht1]
    exact hz2 hc _ (Fr.here (fun n hn => by simp [hb1 n hn, ne_of_Lm hn, Lm]) (fun n hn => by first | rfl | simp [hk1 n hn, ne_of_Lm hn, Lm]) (by simp at hc1 ⊢; omega)) hM1.to

end Go.Gv

/- One step of vm's machine: what an instruction makes of it, in one law. -/
set_option linter.unusedVariables false
set_option linter.unusedSimpArgs false
namespace Go.Gv
open Go.Proofs


def argsN (F : Fx) (a : Int) : Nat := (argsOf F.p.hs a).toNat
def doV (F : Fx) (i : Ins) (m : Mach) : Mach × Int :=
  if i.op = 1 then ({ m with pc := m.pc + 1, st := m.st ++ [i.a] }, 0)
  else if i.op = 2 then ({ m with pc := m.pc + 1, st := m.st.dropLast }, 0)
  else if i.op = 3 then ({ m with pc := m.pc + 1, st := m.st ++ [top m.st] }, 0)
  else if i.op = 4 then ({ m with pc := m.pc + 1, st := m.st.dropLast.dropLast ++ [top m.st, top m.st.dropLast] }, 0)
  else if i.op = 5 then ({ m with pc := m.pc + 1, st := m.st ++ [loadV m i.a] }, 0)
  else if i.op = 6 then ({ m with pc := m.pc + 1, st := m.st.dropLast, regs := if i.a < m.regs.length then m.regs.set i.a.toNat (top m.st) else m.regs }, 0)
  else if i.op = 7 then ({ m with pc := m.pc + 1, st := m.st ++ [(F.args[i.a.toNat]?).getD 0] }, 0)
  else if i.op = 8 then ({ m with pc := m.pc + 1, st := m.st ++ [F.who] }, 0)
  else if i.op = 20 then ({ m with pc := i.a }, 0)
  else if i.op = 21 then ({ m with pc := if top m.st = 0 then i.a else m.pc + 1, st := m.st.dropLast }, 0)
  else if i.op = 22 then
    (if top m.st < 0 ∨ top m.st ≥ F.p.as.length then ({ m with pc := m.pc + 1, st := m.st.dropLast }, 4)
     else ({ m with pc := m.pc + 1, st := m.st.take (m.st.length - 1 - argsN F i.a), notes := m.notes ++ [⟨top m.st, i.a, m.st.dropLast.drop (m.st.length - 1 - argsN F i.a)⟩] }, 0))
  else if i.op = 23 then ({ m with pc := m.pc + 1, armed := m.armed || !decide ((F.p.as[F.who.toNat]?.map Actr.timer).getD 0 = -1) }, 0)
  else if i.op = 24 then ({ m with pc := m.pc + 1, armed := false }, 0)
  else if i.op = 25 then ({ m with pc := -1 }, 0)
  else if (oneV i.op (top m.st)).2 = true then ({ m with pc := m.pc + 1, st := m.st.dropLast ++ [(oneV i.op (top m.st)).1] }, 0)
  else ({ m with pc := m.pc + 1, st := m.st.dropLast.dropLast ++ [(twoV i.op (top m.st.dropLast) (top m.st)).1] }, (twoV i.op (top m.st.dropLast) (top m.st)).2)
structure DoOk (F : Fx) (i : Ins) (m : Mach) : Prop where
  op : 1 ≤ i.op ∧ i.op ≤ 25
  takes : takesV F.p.hs i ≤ m.st.length
  reg : i.op = 5 ∨ i.op = 6 → 0 ≤ i.a
  arg : i.op = 7 → 0 ≤ i.a ∧ i.a.toNat < F.args.length
  snd : i.op = 22 → 0 ≤ i.a ∧ i.a.toNat < F.p.hs.length ∧ 0 ≤ argsOf F.p.hs i.a
  who : 0 ≤ F.who ∧ F.who.toNat < F.p.as.length
  rl : m.regs.length ≤ 1000
  nl : m.notes.length < 1000
  pc : 0 ≤ m.pc ∧ m.pc < 1000
  sl : m.st.length < 900
theorem do_v (F : Fx) (st : Nat) (m : Mach) (i : Ins) (ok : DoOk F i m) {S : St} {k : AV → St → Prop} {u : Dep k} (harg : ArgIs F S) (h : MS F st m S)
    (hk : ∀ S', Fr Lm S S' → MS F st (doV F i m).1 S' → k (iv (doV F i m).2) S') : CallG Tryz.prog (.fn 43 []) [.ptr 84026 st 14 0 0, i.av] S k u := by
  obtain ⟨⟨o1, o2⟩, tk, rg, ag, sd, ⟨w1, w2⟩, rl, nl, pc, sl⟩ := ok
  have tk' : popsV i.op ≤ m.st.length := by
    have : 0 ≤ (if i.op = 22 then argsOf F.p.hs i.a else 0) := by
      split
      · exact (sd ‹_›).2.2
      · omega
    unfold takesV at tk; omega
  rcases lit25 o1 o2 with e | e | e | e | e | e | e | e | e | e | e | e | e | e | e | e | e | e | e | e | e | e | e | e | e
  · -- 1
    have tp : popsV 1 ≤ m.st.length := e ▸ tk'
    exact do1_v F st m i e pc sl h (by simpa [doV, e] using hk)
  · -- 2
    have tp : popsV 2 ≤ m.st.length := e ▸ tk'
    simp only [popsV] at tp
    simp at tp
    exact do2_v F st m i e (by omega) pc sl h (by simpa [doV, e] using hk)
  · -- 3
    have tp : popsV 3 ≤ m.st.length := e ▸ tk'
    simp only [popsV] at tp
    simp at tp
    exact do3_v F st m i e (by omega) pc sl h (by simpa [doV, e] using hk)
  · -- 4
    have tp : popsV 4 ≤ m.st.length := e ▸ tk'
    simp only [popsV] at tp
    simp at tp
    exact do4_v F st m i e (by omega) pc sl h (by simpa [doV, e] using hk)
  · -- 5
    have tp : popsV 5 ≤ m.st.length := e ▸ tk'
    exact do5_v F st m i e (rg (.inl e)) rl pc sl h (by simpa [doV, e] using hk)
  · -- 6
    have tp : popsV 6 ≤ m.st.length := e ▸ tk'
    simp only [popsV] at tp
    simp at tp
    exact do6_v F st m i e (by omega) (rg (.inr e)) rl pc sl h (by simpa [doV, e] using hk)
  · -- 7
    have tp : popsV 7 ≤ m.st.length := e ▸ tk'
    exact do7_v F st m i e (ag e).1 (ag e).2 pc sl harg h (by simpa [doV, e, List.getElem?_eq_getElem (ag e).2] using hk)
  · -- 8
    have tp : popsV 8 ≤ m.st.length := e ▸ tk'
    exact do8_v F st m i e pc sl h (by simpa [doV, e] using hk)
  · -- 9
    have tp : popsV 9 ≤ m.st.length := e ▸ tk'
    simp only [popsV] at tp
    simp at tp
    have ho : (oneV i.op (top m.st)).2 = false := by simp [oneV, e]
    have hd : doV F i m = ({ m with pc := m.pc + 1, st := m.st.dropLast.dropLast ++ [(twoV i.op (top m.st.dropLast) (top m.st)).1] }, (twoV i.op (top m.st.dropLast) (top m.st)).2) := by
      unfold doV; rw [if_neg (by omega), if_neg (by omega), if_neg (by omega), if_neg (by omega), if_neg (by omega), if_neg (by omega), if_neg (by omega), if_neg (by omega), if_neg (by omega), if_neg (by omega), if_neg (by omega), if_neg (by omega), if_neg (by omega), if_neg (by omega), if_neg (by rw [ho]; simp)]
    rw [hd] at hk
    exact doc2_v F st m i (by omega) (by omega) ho pc sl h hk
  · -- 10
    have tp : popsV 10 ≤ m.st.length := e ▸ tk'
    simp only [popsV] at tp
    simp at tp
    have ho : (oneV i.op (top m.st)).2 = false := by simp [oneV, e]
    have hd : doV F i m = ({ m with pc := m.pc + 1, st := m.st.dropLast.dropLast ++ [(twoV i.op (top m.st.dropLast) (top m.st)).1] }, (twoV i.op (top m.st.dropLast) (top m.st)).2) := by
      unfold doV; rw [if_neg (by omega), if_neg (by omega), if_neg (by omega), if_neg (by omega), if_neg (by omega), if_neg (by omega), if_neg (by omega), if_neg (by omega), if_neg (by omega), if_neg (by omega), if_neg (by omega), if_neg (by omega), if_neg (by omega), if_neg (by omega), if_neg (by rw [ho]; simp)]
    rw [hd] at hk
    exact doc2_v F st m i (by omega) (by omega) ho pc sl h hk
  · -- 11
    have tp : popsV 11 ≤ m.st.length := e ▸ tk'
    simp only [popsV] at tp
    simp at tp
    have ho : (oneV i.op (top m.st)).2 = false := by simp [oneV, e]
    have hd : doV F i m = ({ m with pc := m.pc + 1, st := m.st.dropLast.dropLast ++ [(twoV i.op (top m.st.dropLast) (top m.st)).1] }, (twoV i.op (top m.st.dropLast) (top m.st)).2) := by
      unfold doV; rw [if_neg (by omega), if_neg (by omega), if_neg (by omega), if_neg (by omega), if_neg (by omega), if_neg (by omega), if_neg (by omega), if_neg (by omega), if_neg (by omega), if_neg (by omega), if_neg (by omega), if_neg (by omega), if_neg (by omega), if_neg (by omega), if_neg (by rw [ho]; simp)]
    rw [hd] at hk
    exact doc2_v F st m i (by omega) (by omega) ho pc sl h hk
  · -- 12
    have tp : popsV 12 ≤ m.st.length := e ▸ tk'
    simp only [popsV] at tp
    simp at tp
    have ho : (oneV i.op (top m.st)).2 = false := by simp [oneV, e]
    have hd : doV F i m = ({ m with pc := m.pc + 1, st := m.st.dropLast.dropLast ++ [(twoV i.op (top m.st.dropLast) (top m.st)).1] }, (twoV i.op (top m.st.dropLast) (top m.st)).2) := by
      unfold doV; rw [if_neg (by omega), if_neg (by omega), if_neg (by omega), if_neg (by omega), if_neg (by omega), if_neg (by omega), if_neg (by omega), if_neg (by omega), if_neg (by omega), if_neg (by omega), if_neg (by omega), if_neg (by omega), if_neg (by omega), if_neg (by omega), if_neg (by rw [ho]; simp)]
    rw [hd] at hk
    exact doc2_v F st m i (by omega) (by omega) ho pc sl h hk
  · -- 13
    have tp : popsV 13 ≤ m.st.length := e ▸ tk'
    simp only [popsV] at tp
    simp at tp
    have ho : (oneV i.op (top m.st)).2 = false := by simp [oneV, e]
    have hd : doV F i m = ({ m with pc := m.pc + 1, st := m.st.dropLast.dropLast ++ [(twoV i.op (top m.st.dropLast) (top m.st)).1] }, (twoV i.op (top m.st.dropLast) (top m.st)).2) := by
      unfold doV; rw [if_neg (by omega), if_neg (by omega), if_neg (by omega), if_neg (by omega), if_neg (by omega), if_neg (by omega), if_neg (by omega), if_neg (by omega), if_neg (by omega), if_neg (by omega), if_neg (by omega), if_neg (by omega), if_neg (by omega), if_neg (by omega), if_neg (by rw [ho]; simp)]
    rw [hd] at hk
    exact doc2_v F st m i (by omega) (by omega) ho pc sl h hk
  · -- 14
    have tp : popsV 14 ≤ m.st.length := e ▸ tk'
    simp only [popsV] at tp
    simp at tp
    have ho : (oneV i.op (top m.st)).2 = true := by simp [oneV, e]
    have hd : doV F i m = ({ m with pc := m.pc + 1, st := m.st.dropLast ++ [(oneV i.op (top m.st)).1] }, 0) := by
      unfold doV; rw [if_neg (by omega), if_neg (by omega), if_neg (by omega), if_neg (by omega), if_neg (by omega), if_neg (by omega), if_neg (by omega), if_neg (by omega), if_neg (by omega), if_neg (by omega), if_neg (by omega), if_neg (by omega), if_neg (by omega), if_neg (by omega), if_pos ho]
    rw [hd] at hk
    exact doc1_v F st m i (by omega) (by omega) ho pc sl h hk
  · -- 15
    have tp : popsV 15 ≤ m.st.length := e ▸ tk'
    simp only [popsV] at tp
    simp at tp
    have ho : (oneV i.op (top m.st)).2 = false := by simp [oneV, e]
    have hd : doV F i m = ({ m with pc := m.pc + 1, st := m.st.dropLast.dropLast ++ [(twoV i.op (top m.st.dropLast) (top m.st)).1] }, (twoV i.op (top m.st.dropLast) (top m.st)).2) := by
      unfold doV; rw [if_neg (by omega), if_neg (by omega), if_neg (by omega), if_neg (by omega), if_neg (by omega), if_neg (by omega), if_neg (by omega), if_neg (by omega), if_neg (by omega), if_neg (by omega), if_neg (by omega), if_neg (by omega), if_neg (by omega), if_neg (by omega), if_neg (by rw [ho]; simp)]
    rw [hd] at hk
    exact doc2_v F st m i (by omega) (by omega) ho pc sl h hk
  · -- 16
    have tp : popsV 16 ≤ m.st.length := e ▸ tk'
    simp only [popsV] at tp
    simp at tp
    have ho : (oneV i.op (top m.st)).2 = false := by simp [oneV, e]
    have hd : doV F i m = ({ m with pc := m.pc + 1, st := m.st.dropLast.dropLast ++ [(twoV i.op (top m.st.dropLast) (top m.st)).1] }, (twoV i.op (top m.st.dropLast) (top m.st)).2) := by
      unfold doV; rw [if_neg (by omega), if_neg (by omega), if_neg (by omega), if_neg (by omega), if_neg (by omega), if_neg (by omega), if_neg (by omega), if_neg (by omega), if_neg (by omega), if_neg (by omega), if_neg (by omega), if_neg (by omega), if_neg (by omega), if_neg (by omega), if_neg (by rw [ho]; simp)]
    rw [hd] at hk
    exact doc2_v F st m i (by omega) (by omega) ho pc sl h hk
  · -- 17
    have tp : popsV 17 ≤ m.st.length := e ▸ tk'
    simp only [popsV] at tp
    simp at tp
    have ho : (oneV i.op (top m.st)).2 = false := by simp [oneV, e]
    have hd : doV F i m = ({ m with pc := m.pc + 1, st := m.st.dropLast.dropLast ++ [(twoV i.op (top m.st.dropLast) (top m.st)).1] }, (twoV i.op (top m.st.dropLast) (top m.st)).2) := by
      unfold doV; rw [if_neg (by omega), if_neg (by omega), if_neg (by omega), if_neg (by omega), if_neg (by omega), if_neg (by omega), if_neg (by omega), if_neg (by omega), if_neg (by omega), if_neg (by omega), if_neg (by omega), if_neg (by omega), if_neg (by omega), if_neg (by omega), if_neg (by rw [ho]; simp)]
    rw [hd] at hk
    exact doc2_v F st m i (by omega) (by omega) ho pc sl h hk
  · -- 18
    have tp : popsV 18 ≤ m.st.length := e ▸ tk'
    simp only [popsV] at tp
    simp at tp
    have ho : (oneV i.op (top m.st)).2 = false := by simp [oneV, e]
    have hd : doV F i m = ({ m with pc := m.pc + 1, st := m.st.dropLast.dropLast ++ [(twoV i.op (top m.st.dropLast) (top m.st)).1] }, (twoV i.op (top m.st.dropLast) (top m.st)).2) := by
      unfold doV; rw [if_neg (by omega), if_neg (by omega), if_neg (by omega), if_neg (by omega), if_neg (by omega), if_neg (by omega), if_neg (by omega), if_neg (by omega), if_neg (by omega), if_neg (by omega), if_neg (by omega), if_neg (by omega), if_neg (by omega), if_neg (by omega), if_neg (by rw [ho]; simp)]
    rw [hd] at hk
    exact doc2_v F st m i (by omega) (by omega) ho pc sl h hk
  · -- 19
    have tp : popsV 19 ≤ m.st.length := e ▸ tk'
    simp only [popsV] at tp
    simp at tp
    have ho : (oneV i.op (top m.st)).2 = true := by simp [oneV, e]
    have hd : doV F i m = ({ m with pc := m.pc + 1, st := m.st.dropLast ++ [(oneV i.op (top m.st)).1] }, 0) := by
      unfold doV; rw [if_neg (by omega), if_neg (by omega), if_neg (by omega), if_neg (by omega), if_neg (by omega), if_neg (by omega), if_neg (by omega), if_neg (by omega), if_neg (by omega), if_neg (by omega), if_neg (by omega), if_neg (by omega), if_neg (by omega), if_neg (by omega), if_pos ho]
    rw [hd] at hk
    exact doc1_v F st m i (by omega) (by omega) ho pc sl h hk
  · -- 20
    have tp : popsV 20 ≤ m.st.length := e ▸ tk'
    exact do20_v F st m i e pc sl h (by simpa [doV, e] using hk)
  · -- 21
    have tp : popsV 21 ≤ m.st.length := e ▸ tk'
    simp only [popsV] at tp
    simp at tp
    exact do21_v F st m i e (by omega) pc sl h (by simpa [doV, e] using hk)
  · -- 22
    obtain ⟨a0, a1, a2⟩ := sd e
    have ht : 1 + argsOf F.p.hs i.a ≤ m.st.length := by
      unfold takesV at tk; rw [if_pos e, e] at tk
      simpa [popsV] using tk
    have hh : F.p.hs[i.a.toNat]? = some F.p.hs[i.a.toNat] := List.getElem?_eq_getElem a1
    have hargs : F.p.hs[i.a.toNat].args = argsOf F.p.hs i.a := by unfold argsOf; rw [hh]; rfl
    have hN : (argsN F i.a : Int) = argsOf F.p.hs i.a := by unfold argsN; omega
    have hb : (m.st.dropLast.drop (m.st.length - 1 - argsN F i.a)).length = argsN F i.a := by simp; omega
    have hx : m.st = m.st.take (m.st.length - 1 - argsN F i.a) ++ m.st.dropLast.drop (m.st.length - 1 - argsN F i.a) ++ [top m.st] := by
      have e1 : m.st.take (m.st.length - 1 - argsN F i.a) = m.st.dropLast.take (m.st.length - 1 - argsN F i.a) := by
        rw [List.dropLast_eq_take, List.take_take, Nat.min_eq_left (by omega)]
      rw [e1, List.take_append_drop]
      exact top_split (by omega)
    have hdl : m.st.take (m.st.length - 1 - argsN F i.a) ++ m.st.dropLast.drop (m.st.length - 1 - argsN F i.a) = m.st.dropLast := by
      have e1 : m.st.take (m.st.length - 1 - argsN F i.a) = m.st.dropLast.take (m.st.length - 1 - argsN F i.a) := by
        rw [List.dropLast_eq_take, List.take_take, Nat.min_eq_left (by omega)]
      rw [e1, List.take_append_drop]
    refine do22_v F st m i e _ _ _ hx a0 _ hh (by rw [hargs, hb, hN]) nl pc sl h ?_ ?_
    · intro hc
      rw [hdl]
      have hd : doV F i m = ({ m with pc := m.pc + 1, st := m.st.dropLast }, 4) := by
        unfold doV; rw [if_neg (by omega), if_neg (by omega), if_neg (by omega), if_neg (by omega), if_neg (by omega), if_neg (by omega), if_neg (by omega), if_neg (by omega), if_neg (by omega), if_neg (by omega), if_pos e, if_pos hc]
      rw [hd] at hk
      exact hk
    · intro hc
      have hd : doV F i m = ({ m with pc := m.pc + 1, st := m.st.take (m.st.length - 1 - argsN F i.a), notes := m.notes ++ [⟨top m.st, i.a, m.st.dropLast.drop (m.st.length - 1 - argsN F i.a)⟩] }, 0) := by
        unfold doV; rw [if_neg (by omega), if_neg (by omega), if_neg (by omega), if_neg (by omega), if_neg (by omega), if_neg (by omega), if_neg (by omega), if_neg (by omega), if_neg (by omega), if_neg (by omega), if_pos e, if_neg hc]
      rw [hd] at hk
      exact hk
  · -- 23
    have tp : popsV 23 ≤ m.st.length := e ▸ tk'
    have hx : F.p.as[F.who.toNat]? = some F.p.as[F.who.toNat] := List.getElem?_eq_getElem w2
    exact do23_v F st m i e w1 _ hx pc sl h (by simpa [doV, e, hx] using hk)
  · -- 24
    have tp : popsV 24 ≤ m.st.length := e ▸ tk'
    exact do24_v F st m i e pc sl h (by simpa [doV, e] using hk)
  · -- 25
    have tp : popsV 25 ≤ m.st.length := e ▸ tk'
    exact do25_v F st m i e pc sl h (by simpa [doV, e] using hk)

end Go.Gv

/- What vm.Go answers. Conditions: GoOk. -/
set_option linter.unusedVariables false
set_option linter.unusedSimpArgs false
namespace Go.Gv
open Go.Proofs

def cloneM_r0 : List AI := [⟨(some 2), none, (.op (.mv (.c .nils)))⟩]
def cloneM_r1 : List AI := [⟨(some 3), none, (.op (.mv (.t 0)))⟩, ⟨(some 4), none, (.nq 0 false (.t 3))⟩]
def cloneM_r2 : List AI := [⟨(some 2), none, (.op (.mv (.c .nils)))⟩]
def cloneM_r3 : List AI := [⟨(some 5), none, (.op (.bslm 1000163000 1 3 0 (.int .i64 0) []))⟩, ⟨(some 6), none, (.op (.mv (.t 0)))⟩, ⟨(some 7), none, (.op (.appw 1000163000 1 3 8 (.t 5) (.t 6)))⟩, ⟨(some 2), none, (.op (.mv (.t 7)))⟩]
def cloneM_c : AC := (.seq (.reg cloneM_r0) (.seq (.seq (.reg cloneM_r1) (.cond (.t 4) (.seq (.reg cloneM_r2) .ret) .skip)) (.seq (.reg cloneM_r3) .ret)))
def cloneM_res : List ARes := [(.tmp 2)]
set_option maxRecDepth 100000 in
theorem cloneM_get : getF Tryz.prog 28 163000 [(5, 1000000000), (7, 1000000000)] = some ("slices.Clone[[]int,int]", 8, cloneM_c, cloneM_res) := by kernel_rfl
def mgo_r0 : List AI := [⟨(some 5), none, (.op (.box 84005 4 (.t 0)))⟩, ⟨(some 7), none, (.op (.box 84007 5 (.t 2)))⟩, ⟨(some 10), none, (.op (.new 84010 7 (.agg [.nils, (.bool false), (.int .i64 0), (.int .i64 0), (.int .i64 0), .nils, (.int .i64 0)])))⟩]
def mgo_r1 : List AI := [⟨(some 15), none, (.op (.fld 0 (.t 5)))⟩, ⟨(some 16), none, (.op (.load none (.t 15)))⟩, ⟨(some 17), none, (.op (.mv (.t 3)))⟩, ⟨(some 18), none, (.op (.idx 2 (.t 16) (.t 17)))⟩, ⟨(some 19), none, (.op (.fld 1 (.t 18)))⟩, ⟨(some 20), none, (.op (.load none (.t 19)))⟩, ⟨(some 11), none, (.op (.mv (.t 20)))⟩]
def mgo_r2 : List AI := [⟨(some 21), none, (.op (.load (some 4) (.t 5)))⟩, ⟨(some 22), none, (.op (.mv (.t 1)))⟩, ⟨(some 23), none, (.op (.mv (.t 4)))⟩, ⟨(some 24), none, (.op (.load (some 5) (.t 7)))⟩, ⟨(some 25), none, (.op (.build [.nils, .nils, .nils, (.int .i64 0), (.int .i64 0), .nils, .nils, (.bool false), (.int .i64 0), (.int .i64 0), (.int .i64 0), .nils, .nils, (.int .i64 0)] [(0, (4, (.t 21))), (4, (1, (.t 22))), (5, (1, (.t 23))), (6, (5, (.t 24)))]))⟩, ⟨(some 26), none, (.op (.box 84026 14 (.t 25)))⟩, ⟨(some 12), none, (.op (.mv (.t 26)))⟩]
def mgo_r3 : List AI := [⟨(some 27), none, (.op (.mv (.t 12)))⟩, ⟨(some 28), none, (.op (.fld 0 (.t 7)))⟩, ⟨(some 29), none, (.op (.load none (.t 28)))⟩, ⟨(some 30), none, (.call (.c (.fn 28 [])) [(.t 29)])⟩, ⟨(some 31), none, (.op (.nilck (.t 27)))⟩, ⟨(some 32), none, (.op (.fld 6 (.t 31)))⟩, ⟨(some 33), none, (.op (.fld 0 (.t 32)))⟩, ⟨none, none, (.op (.store 1 (.t 33) (.t 30)))⟩]
def mgo_r4 : List AI := [⟨(some 13), none, (.op (.mv (.c (.int .i64 0))))⟩]
def mgo_r5 : List AI := [⟨(some 34), none, (.op (.mv (.t 12)))⟩, ⟨(some 35), none, (.op (.nilck (.t 34)))⟩, ⟨(some 36), none, (.op (.fld 13 (.t 35)))⟩, ⟨(some 37), none, (.op (.load none (.t 36)))⟩, ⟨(some 38), none, (.op (.ibin .geq (.t 37) (.c (.int .i64 0))))⟩, ⟨(some 39), none, (.op (.mv (.t 38)))⟩, ⟨(some 40), (some (39, true)), (.op (.mv (.t 12)))⟩, ⟨(some 41), (some (39, true)), (.op (.nilck (.t 40)))⟩, ⟨(some 42), (some (39, true)), (.op (.fld 13 (.t 41)))⟩, ⟨(some 43), (some (39, true)), (.op (.load none (.t 42)))⟩, ⟨(some 44), (some (39, true)), (.op (.mv (.t 11)))⟩, ⟨(some 45), (some (39, true)), (.op (.len (.t 44)))⟩, ⟨(some 46), (some (39, true)), (.op (.ibin .lss (.t 43) (.t 45)))⟩, ⟨(some 47), none, (.op (.pick (.t 39) (.t 46) (.c (.bool false))))⟩]
def mgo_r6 : List AI := [⟨(some 14), none, (.op (.mv (.c (.int .i64 2))))⟩]
def mgo_r7 : List AI := [⟨(some 48), none, (.op (.mv (.t 13)))⟩, ⟨(some 49), none, (.op (.fld 3 (.t 5)))⟩, ⟨(some 50), none, (.op (.load none (.t 49)))⟩, ⟨(some 51), none, (.op (.ibin .lss (.t 48) (.t 50)))⟩]
def mgo_r8 : List AI := [⟨(some 52), none, (.op (.mv (.t 13)))⟩, ⟨(some 53), none, (.op (.ibin .add (.t 52) (.c (.int .i64 1))))⟩, ⟨(some 13), none, (.op (.mv (.t 53)))⟩]
def mgo_r9 : List AI := [⟨(some 54), none, (.op (.mv (.t 12)))⟩, ⟨(some 55), none, (.op (.mv (.t 11)))⟩, ⟨(some 56), none, (.op (.mv (.t 12)))⟩, ⟨(some 57), none, (.op (.nilck (.t 56)))⟩, ⟨(some 58), none, (.op (.fld 13 (.t 57)))⟩, ⟨(some 59), none, (.op (.load none (.t 58)))⟩, ⟨(some 60), none, (.op (.idx 2 (.t 55) (.t 59)))⟩, ⟨(some 61), none, (.op (.load (some 2) (.t 60)))⟩, ⟨(some 62), none, (.call (.c (.fn 43 [])) [(.t 54), (.t 61)])⟩, ⟨(some 14), none, (.op (.mv (.t 62)))⟩]
def mgo_r10 : List AI := [⟨(some 63), none, (.op (.mv (.t 14)))⟩, ⟨(some 64), none, (.op (.ibin .neq (.t 63) (.c (.int .i64 0))))⟩]
def mgo_r11 : List AI := [⟨(some 65), none, (.op (.fld 0 (.t 7)))⟩, ⟨(some 66), none, (.op (.load none (.t 65)))⟩, ⟨(some 67), none, (.call (.c (.fn 28 [])) [(.t 66)])⟩, ⟨(some 68), none, (.op (.mv (.t 14)))⟩, ⟨(some 69), none, (.op (.fld 0 (.t 7)))⟩, ⟨none, none, (.op (.store 1 (.t 69) (.t 67)))⟩, ⟨(some 70), none, (.op (.fld 2 (.t 7)))⟩, ⟨none, none, (.op (.store 1 (.t 70) (.t 68)))⟩]
def mgo_r12 : List AI := [⟨(some 71), none, (.op (.load (some 5) (.t 7)))⟩, ⟨(some 72), none, (.op (.mv (.t 13)))⟩, ⟨(some 73), none, (.op (.build [.nils, (.bool false), (.int .i64 0), (.int .i64 0), (.int .i64 0), .nils, (.int .i64 0)] [(0, (5, (.t 71))), (6, (1, (.t 72)))]))⟩, ⟨none, none, (.op (.store 7 (.t 10) (.t 73)))⟩]
def mgo_l0 : AC := (.seq (.seq (.reg mgo_r5) (.cond (.t 47) .skip (.exit 0))) (.block 1 (.seq (.reg mgo_r6) (.seq (.seq (.reg mgo_r7) (.cond (.t 51) (.seq (.reg mgo_r8) (.reg mgo_r9)) .skip)) (.seq (.reg mgo_r10) (.cond (.t 64) (.seq (.reg mgo_r11) (.seq (.reg mgo_r12) .ret)) .skip))))))
def mgo_r13 : List AI := [⟨(some 74), none, (.op (.mv (.t 12)))⟩, ⟨(some 75), none, (.op (.nilck (.t 74)))⟩, ⟨(some 76), none, (.op (.fld 6 (.t 75)))⟩, ⟨(some 77), none, (.op (.fld 3 (.t 76)))⟩, ⟨(some 78), none, (.op (.load none (.t 77)))⟩, ⟨(some 79), none, (.op (.mv (.t 12)))⟩, ⟨(some 80), none, (.op (.nilck (.t 79)))⟩, ⟨(some 81), none, (.op (.fld 12 (.t 80)))⟩, ⟨(some 82), none, (.op (.load none (.t 81)))⟩, ⟨(some 83), none, (.op (.len (.t 82)))⟩, ⟨(some 84), none, (.op (.ibin .add (.t 78) (.t 83)))⟩, ⟨(some 85), none, (.op (.nilck (.t 74)))⟩, ⟨(some 86), none, (.op (.fld 6 (.t 85)))⟩, ⟨(some 87), none, (.op (.fld 3 (.t 86)))⟩, ⟨none, none, (.op (.store 1 (.t 87) (.t 84)))⟩]
def mgo_p13 : List (List Nat) := [[], [0], [1, 0], [2, 1, 0], [3, 2, 1, 0], [], [5], [6, 5], [7, 6, 5], [8, 7, 6, 5], [4, 9, 3, 2, 1, 0, 8, 7, 6, 5], [0, 1, 2, 3, 4, 5, 6, 7, 8, 9, 10], [11, 0, 1, 2, 3, 4, 5, 6, 7, 8, 9, 10], [12, 0, 1, 2, 3, 4, 5, 6, 7, 8, 9, 10, 11], [13, 10, 0, 1, 2, 3, 4, 5, 6, 7, 8, 9, 12, 11]]
def mgo_r14 : List AI := [⟨(some 88), none, (.op (.mv (.t 12)))⟩, ⟨(some 89), none, (.op (.nilck (.t 88)))⟩, ⟨(some 90), none, (.op (.fld 6 (.t 89)))⟩, ⟨(some 91), none, (.op (.load (some 5) (.t 90)))⟩, ⟨(some 92), none, (.op (.mv (.t 12)))⟩, ⟨(some 93), none, (.op (.nilck (.t 92)))⟩, ⟨(some 94), none, (.op (.fld 12 (.t 93)))⟩, ⟨(some 95), none, (.op (.load none (.t 94)))⟩, ⟨(some 96), none, (.op (.mv (.t 13)))⟩, ⟨(some 97), none, (.op (.build [.nils, (.bool false), (.int .i64 0), (.int .i64 0), (.int .i64 0), .nils, (.int .i64 0)] [(0, (5, (.t 91))), (5, (1, (.t 95))), (6, (1, (.t 96)))]))⟩, ⟨none, none, (.op (.store 7 (.t 10) (.t 97)))⟩]
def mgo_p14 : List (List Nat) := [[], [0], [1, 0], [2, 1, 0], [], [4], [5, 4], [6, 5, 4], [], [3, 7, 8, 2, 1, 0, 6, 5, 4], [9, 0, 1, 2, 3, 4, 5, 6, 7, 8]]
def mgo_c : AC := (.seq (.reg mgo_r0) (.seq (.reg mgo_r1) (.seq (.reg mgo_r2) (.seq (.reg mgo_r3) (.seq (.reg mgo_r4) (.seq (.block 0 (.loop mgo_l0)) (.seq (.regd mgo_r13 mgo_p13) (.seq (.regd mgo_r14 mgo_p14) .ret))))))))
def mgo_res : List ARes := [(.cell (some 7) 10)]
set_option maxRecDepth 100000 in
theorem mgo_get : getF Tryz.prog 31 84000 [] = some ("gavotte/vm.Go", 98, mgo_c, mgo_res) := by kernel_rfl
attribute [simp] cloneM_r0 cloneM_r1 cloneM_r2 cloneM_r3 cloneM_res mgo_r0 mgo_r1 mgo_r2 mgo_r3 mgo_r4 mgo_r5 mgo_r6 mgo_r7 mgo_r8 mgo_r9 mgo_r10 mgo_r11 mgo_r12 mgo_r13 mgo_p13 mgo_r14 mgo_p14 mgo_res


theorem clonem_v (l : List Int) (hl : l.length ≤ 1000) {S : St} {k : AV → St → Prop} {u : Dep k}
    (hk : ∀ v S', Fr Lm S S' → S'.blk 84026 = S.blk 84026 → RegIs S' v l → k v S') : CallG Tryz.prog (.fn 28 []) [ints l] S k u := by
  refine callV cloneM_get (by simp) (by simp) ?_
  unfold cloneM_c
  cases l with
  | nil =>
    simp [ints]
    refine opG_none _ _ ?_ ?_
    · simp
      exact hk _ _ (Fr.here (fun n hn => by simp [ne_of_Lm hn, Lm]) (fun n hn => by first | rfl | simp [ne_of_Lm hn, Lm]) (by omega)) rfl (.inl ⟨rfl, rfl⟩)
    · simp
      exact hk _ _ (Fr.here (fun n hn => by simp [ne_of_Lm hn, Lm]) (fun n hn => by first | rfl | simp [ne_of_Lm hn, Lm]) (by omega)) (by simp) (.inr ⟨_, rfl, by simp⟩)
  | cons x l =>
    simp at hl
    simp [ints, show (l.length + 1) * 8 ≤ 140737488355328 by omega]
    exact hk _ _ (Fr.here (fun n hn => by simp [ne_of_Lm hn, Lm]) (fun n hn => by first | rfl | simp [ne_of_Lm hn, Lm]) (by omega)) (by simp) (.inr ⟨_, rfl, by simp⟩)
theorem RegIs.out {S : St} {v : AV} {xs : List Int} (h : RegIs S v xs) : v.one = true ∧ v.cells = [v] := by
  rcases h with ⟨rfl, _⟩ | ⟨st, rfl, _⟩ <;> exact ⟨rfl, rfl⟩
/-- The run of a handler: the machine at its end, or nothing and why it fell; the steps. -/
def runG (F : Fx) (code : List Ins) : Nat → Mach → Int → Option Mach × Int × Int
  | 0, m, s => (none, 2, s)
  | f + 1, m, s =>
    if 0 ≤ m.pc ∧ m.pc < code.length then
      (if s < F.p.fuel then
        (match code[m.pc.toNat]? with
         | some i => if (doV F i m).2 ≠ 0 then (none, (doV F i m).2, s + 1) else runG F code f (doV F i m).1 (s + 1)
         | none => (none, 2, s))
       else (none, 2, s))
    else (some m, 0, s)
structure Res where
  l : Lcl
  notes : List Nt
  steps : Int
def Res.av (r : Res) : AV := .agg [ints r.l.regs, .bool r.l.armed, iv r.l.down, iv r.l.sent, iv r.l.over, .lst 3 (r.notes.map Nt.av), iv r.steps]
def fxOf (p : Prg) (who : Int) (l : Lcl) (args : List Int) : Fx := ⟨p, who, args, l.down, l.sent, l.over, ints args⟩
def m0Of (l : Lcl) : Mach := ⟨0, [], l.regs, [], l.armed⟩
def goR (l : Lcl) : Option Mach × Int × Int → Res
  | (some m, _, s) => ⟨⟨m.regs, m.armed, l.down, w64 (l.sent + m.notes.length), l.over⟩, m.notes, s⟩
  | (none, d, s) => ⟨{ l with down := d }, [], s⟩
/-- All that the machine comes to on its way is in order. -/
def RunOk (F : Fx) (code : List Ins) : Nat → Mach → Int → Prop
  | 0, _, _ => True
  | f + 1, m, s => (0 ≤ m.pc ∧ m.pc < code.length) → s < F.p.fuel → ∀ i, code[m.pc.toNat]? = some i → DoOk F i m ∧ ((doV F i m).2 = 0 → RunOk F code f (doV F i m).1 (s + 1))
theorem ite_notes {c : Prop} [Decidable c] {a b : Mach × Int} {n : Nat} (h1 : a.1.notes.length ≤ n) (h2 : b.1.notes.length ≤ n) : (if c then a else b).1.notes.length ≤ n := by
  by_cases h : c
  · rw [if_pos h]; exact h1
  · rw [if_neg h]; exact h2
theorem doV_notes (F : Fx) (i : Ins) (m : Mach) : (doV F i m).1.notes.length ≤ m.notes.length + 1 := by
  unfold doV
  repeat' apply ite_notes
  all_goals simp
/-- The state of vm.Go ahead of a round. -/
def GI (F : Fx) (p : Prg) (l : Lcl) (x : Hnd) (R : Option Mach × Int × Int) (f : Nat) (S : St) : Prop :=
  ∃ m s, MS F 15 m S ∧ S.t 12 = .ptr 84026 15 14 0 0 ∧ S.t 13 = iv s ∧ S.t 11 = .lst 2 (x.code.map Ins.av) ∧ S.t 5 = .ptr 84005 0 4 0 0 ∧ S.t 7 = .ptr 84007 1 5 0 0 ∧ S.t 10 = .ptr 84010 2 7 0 0 ∧
    S.blk 84005 = some ⟨0, 4, [p.av]⟩ ∧ S.blk 84007 = some ⟨1, 5, [l.av]⟩ ∧ S.blk 84010 = some ⟨2, 7, [.agg [.nils, .bool false, iv 0, iv 0, iv 0, .nils, iv 0]]⟩ ∧ 0 ≤ s ∧ s ≤ p.fuel ∧ (f : Int) = p.fuel - s + 1 ∧ runG F x.code f m s = R ∧ RunOk F x.code f m s ∧ (m.notes.length : Int) ≤ s
theorem go_pc (p : Prg) (who : Int) (l : Lcl) (h : Int) (args : List Int) (x : Hnd) (h0 : 0 ≤ h) (hx : p.hs[h.toNat]? = some x) (hf : 0 ≤ p.fuel ∧ p.fuel ≤ 1000) (hl : l.regs.length ≤ 1000)
    (hok : RunOk (fxOf p who l args) x.code (p.fuel.toNat + 1) (m0Of l) 0) : PC Tryz.prog 31 [p.av, iv who, l.av, iv h, ints args] (goR l (runG (fxOf p who l args) x.code (p.fuel.toNat + 1) (m0Of l) 0)).av := by
  refine pc_of_get mgo_get (by simp) _ (by simp) _ ?_
  unfold mgo_c
  simp [h0, hx]
  simp [Lcl.av]
  refine clonem_v l.regs hl ?_
  rintro v S1 ⟨ht1, hb1, hk1, hc1⟩ hM hR
  simp at hM
  have hp : S1.blk 84005 = some ⟨0, 4, [p.av]⟩ := by rw [hb1 84005 rfl]; simp [Prg.av]
  have hq : S1.blk 84007 = some ⟨1, 5, [l.av]⟩ := by rw [hb1 84007 rfl]; simp [Lcl.av]
  have hz : S1.blk 84010 = some ⟨2, 7, [.agg [.nils, .bool false, iv 0, iv 0, iv 0, .nils, iv 0]]⟩ := by rw [hb1 84010 rfl]; simp
  obtain ⟨v1, v2⟩ := hR.out
  simp [ht1, hM, v1, v2]
  generalize hF : fxOf p who l args = F at *
  generalize hRR : runG F x.code (p.fuel.toNat + 1) (m0Of l) 0 = R at *
  refine loopM (GI F p l x R) (p.fuel.toNat + 1) ?_ ?_
  · refine ⟨m0Of l, 0, ?_, by simp, by simp, by simp, by simp, by simp, by simp, by simp [hp], by simp [hq], by simp [hz], by omega, by omega, by omega, hRR, hok, by simp [m0Of]⟩
    subst hF
    refine MS.mk' (upd_same _ _ _) ?_ (.inl ⟨rfl, rfl⟩) (.inl ⟨rfl, rfl⟩)
    simpa [RegIs, m0Of] using hR
  · clear hR hM hp hq hz hb1 hk1 hc1 ht1 S1 hRR hok
    rintro f S ⟨m, s, hMS, g12, g13, g11, g5, g7, g10, b5, b7, b10, s0, s1, hfs, hrun, hok, hnl⟩
    obtain ⟨f, rfl⟩ : ∃ f', f = f' + 1 := ⟨f - 1, by omega⟩
    obtain ⟨r, sk, nt, hb, hr, hs, hn⟩ := hMS
    by_cases hpc : 0 ≤ m.pc ∧ m.pc < x.code.length
    · by_cases hsf : s < p.fuel
      · have hat : m.pc.toNat < x.code.length := by omega
        have hget : x.code[m.pc.toNat]? = some x.code[m.pc.toNat] := List.getElem?_eq_getElem hat
        have hpf : F.p.fuel = p.fuel := by rw [← hF]; rfl
        obtain ⟨hdo, hnx⟩ := hok hpc (by rw [hpf]; exact hsf) _ hget
        have ws : IntKind.i64.wrap (s + 1) = s + 1 := wrap_in _ (by omega) (by omega)
        have hstep : runG F x.code (f + 1) m s = if (doV F x.code[m.pc.toNat] m).2 ≠ 0 then (none, (doV F x.code[m.pc.toNat] m).2, s + 1) else runG F x.code f (doV F x.code[m.pc.toNat] m).1 (s + 1) := by
          rw [runG, if_pos hpc, if_pos (by rw [hpf]; exact hsf), hget]
        rw [hstep] at hrun
        simp [mgo_l0, g12, g13, g11, g5, b5, hb, hpc, hsf, ws, hat]
        refine do_v F 15 m x.code[m.pc.toNat] hdo (.inl (by rw [← hF]; rfl)) (MS.to ⟨r, sk, nt, hb, hr, hs, hn⟩) ?_
        rintro S1 ⟨ht1, hb1, hk1, hc1⟩ hM1
        have c5 : S1.blk 84005 = some ⟨0, 4, [p.av]⟩ := by rw [hb1 84005 rfl]; simpa using b5
        have c7 : S1.blk 84007 = some ⟨1, 5, [l.av]⟩ := by rw [hb1 84007 rfl]; simpa using b7
        have c10 : S1.blk 84010 = some ⟨2, 7, [.agg [.nils, .bool false, iv 0, iv 0, iv 0, .nils, iv 0]]⟩ := by rw [hb1 84010 rfl]; simpa using b10
        by_cases hd : (doV F x.code[m.pc.toNat] m).2 = 0
        · rw [if_neg (by rw [hd]; simp)] at hrun
          simp [ht1, hd, g12, g11, g5, g7, g10]
          exact ⟨f, by omega, _, s + 1, hM1.to, by simp [g12], by simp, by simp [g11], by simp [g5], by simp [g7], by simp [g10], c5, c7, c10, by omega, by omega, by omega, hrun, hnx hd, by have := doV_notes F x.code[m.pc.toNat] m; omega⟩
        · rw [if_pos hd] at hrun
          simp [ht1, hd, g12, g11, g5, g7, g10, c7]
          refine call (cloneInts_pc l.regs hl) (by simp) ?_
          simp [ht1, g7, g10, c7, c10, Lcl.av]
          rw [← hrun]
          simp [goR, Res.av]
      · have hrn : runG F x.code (f + 1) m s = (none, 2, s) := by
          have hpf : F.p.fuel = p.fuel := by rw [← hF]; rfl
          rw [runG, if_pos hpc, if_neg (by rw [hpf]; exact hsf)]
        rw [hrn] at hrun
        simp [mgo_l0, g12, g13, g11, g5, g7, b5, b7, hb, hpc, hsf, Lcl.av]
        refine call (cloneInts_pc l.regs hl) (by simp) ?_
        simp [g7, g10, g13, b7, b10, Lcl.av]
        rw [← hrun]
        simp [goR, Res.av]
    · have hrn : runG F x.code (f + 1) m s = (some m, 0, s) := by rw [runG, if_neg hpc]
      rw [hrn] at hrun
      have hli : ∀ st blk, blk 1000163000 = some ⟨st, 1, m.regs.map iv⟩ → listOf blk 1 (.sl 1000163000 st 1 0 m.regs.length) = some (m.regs.map iv) := fun st blk hb => list_ints m.regs blk 1000163000 st hb
      have f1 : F.d = l.down := by rw [← hF]; rfl
      have f2 : F.s = l.sent := by rw [← hF]; rfl
      have f3 : F.o = l.over := by rw [← hF]; rfl
      by_cases h1 : 0 ≤ m.pc
      · rcases hr with ⟨rfl, e⟩ | ⟨sr, rfl, hr⟩ <;> rcases hn with ⟨rfl, e'⟩ | ⟨sn, rfl, hn⟩
        · simp [mgo_l0, g12, g11, g10, g13, b10, hb, h1, show ¬ m.pc < x.code.length by omega]
          rw [← hrun]
          simp [goR, Res.av, f1, f2, f3, e, (by simpa using e' : m.notes = [])]
        · simp [mgo_l0, g12, g11, g10, g13, b10, hb, h1, show ¬ m.pc < x.code.length by omega]
          rw [← hrun]
          simp [goR, Res.av, f1, f2, f3, e]
        · simp [mgo_l0, g12, g11, g10, g13, b10, hb, h1, show ¬ m.pc < x.code.length by omega, hr]
          rw [← hrun]
          simp [goR, Res.av, f1, f2, f3, hli, hr, (by simpa using e' : m.notes = [])]
        · simp [mgo_l0, g12, g11, g10, g13, b10, hb, h1, show ¬ m.pc < x.code.length by omega, hr]
          rw [← hrun]
          simp [goR, Res.av, f1, f2, f3, hli, hr]
      · rcases hr with ⟨rfl, e⟩ | ⟨sr, rfl, hr⟩ <;> rcases hn with ⟨rfl, e'⟩ | ⟨sn, rfl, hn⟩
        · simp [mgo_l0, g12, g11, g10, g13, b10, hb, h1]
          rw [← hrun]
          simp [goR, Res.av, f1, f2, f3, e, (by simpa using e' : m.notes = [])]
        · simp [mgo_l0, g12, g11, g10, g13, b10, hb, h1]
          rw [← hrun]
          simp [goR, Res.av, f1, f2, f3, e]
        · simp [mgo_l0, g12, g11, g10, g13, b10, hb, h1, hr]
          rw [← hrun]
          simp [goR, Res.av, f1, f2, f3, hli, hr, (by simpa using e' : m.notes = [])]
        · simp [mgo_l0, g12, g11, g10, g13, b10, hb, h1, hr]
          rw [← hrun]
          simp [goR, Res.av, f1, f2, f3, hli, hr]

end Go.Gv

/- The law FlowTells answers true, for all programs. No condition. -/
set_option linter.unusedVariables false
set_option linter.unusedSimpArgs false
namespace Go.Gv
open Go.Proofs


def hdlP (code : List Ins) : Prg := ⟨[⟨0, code⟩], [⟨[0], 0, -1, false⟩], [], 100⟩
def awk4 : List Ins := [⟨1, 1⟩, ⟨21, 4⟩, ⟨1, 2⟩, ⟨20, 5⟩, ⟨1, 3⟩, ⟨2, 0⟩]
theorem rdep_err {p : Prg} (hc : checkV p = 0) {i : Nat} (hi : i < p.hs.length) : (rdepV p i).2.2 = walkE p.hs p.hs[i] := by
  have e : p.hs[((i : Int)).toNat]? = some p.hs[i] := by simp [hi]
  unfold rdepV walkE
  rw [if_neg (by omega), e]
  simp only
  rw [walk_eq (codeOk_of hc (List.getElem_mem hi))]
  cases walkV p.hs p.hs[i].code <;> rfl
theorem rflow_eq (p : Prg) : rflowV p = flowV p := by
  unfold rflowV flowV
  by_cases hc : checkV p = 0
  · rw [hc, if_neg (by simp)]
    have key : ∀ (k i : Nat), i + k = p.hs.length → rflowGo p ((List.range' i k).map fun n : Nat => (n : Int)) 0 = firstNZ ((p.hs.drop i).map (walkE p.hs)) := by
      intro k
      induction k with
      | zero => intro i hi; rw [List.drop_of_length_le (by omega)]; rfl
      | succ k ih =>
        intro i hi
        have hlt : i < p.hs.length := by omega
        rw [List.range'_succ, List.map_cons, rflowGo, if_pos rfl, rdep_err hc hlt, List.drop_eq_getElem_cons hlt, List.map_cons, firstNZ]
        by_cases hw : walkE p.hs p.hs[i] = 0
        · rw [hw, if_neg (by simp), ih (i + 1) (by omega)]
        · rw [if_pos hw]
          cases k with
          | zero => rfl
          | succ k => rw [List.range'_succ, List.map_cons, rflowGo, if_neg hw]
    have := key p.hs.length 0 (by omega)
    rw [List.range_eq_range']
    simpa using this
  · rw [if_pos hc]
    cases hl : p.hs.length with
    | zero => simp [rflowGo]
    | succ n => rw [List.range_succ_eq_map, List.map_cons, rflowGo, if_neg hc]
theorem tells_eq {p : Prg} (hc : checkV p = 0) (h : Int) : depthsV p h = ((rdepV p h).1, (rdepV p h).2.2) ∧ mostV p h = (rdepV p h).2.1 := by
  by_cases hr : h < 0 ∨ h ≥ p.hs.length
  · have e1 : depthsV p h = ([], 7) := by unfold depthsV; rw [if_neg (by simpa using hc), if_pos hr]
    have e2 : rdepV p h = ([], -1, 7) := by unfold rdepV; rw [if_pos hr]
    refine ⟨by rw [e1, e2], ?_⟩
    unfold mostV
    rw [e1, e2, if_pos (by simp)]
  · cases hx : p.hs[h.toNat]? with
    | none => rw [List.getElem?_eq_none_iff] at hx; omega
    | some x =>
      have hw := walk_eq (codeOk_of hc (List.mem_of_getElem? hx))
      cases hv : walkV p.hs x.code with
      | none =>
        have e1 : depthsV p h = ([], 5) := by unfold depthsV; rw [if_neg (by simpa using hc), if_neg hr, hx]; simp only [hv]
        have e2 : rdepV p h = ([], -1, 5) := by unfold rdepV; rw [if_neg hr, hx]; simp only [hw, hv]
        refine ⟨by rw [e1, e2], ?_⟩
        unfold mostV
        rw [e1, e2, if_pos (by simp)]
      | some r =>
        have e1 : depthsV p h = (r.1, 0) := by unfold depthsV; rw [if_neg (by simpa using hc), if_neg hr, hx]; simp only [hv]
        have e2 : rdepV p h = (r.1, r.2, 0) := by unfold rdepV; rw [if_neg hr, hx]; simp only [hw, hv]
        refine ⟨by rw [e1, e2], ?_⟩
        unfold mostV
        rw [e1, e2, if_neg (by simp), hx]
        simp only [hv]
theorem depthsV_len (p : Prg) (h : Int) : (depthsV p h).1.length < 4611686018427387904 := by
  unfold depthsV
  split
  · simp
  · rename_i h1
    split
    · simp
    · split
      · rename_i x hx
        have hok := codeOk_of (by simpa using h1) (List.mem_of_getElem? hx)
        rcases walk_good hok with ⟨o, m, e, g⟩ | ⟨e, _⟩
        · rw [e]; simp only [g.len]; have := hok.1; omega
        · rw [e]; simp
      · simp
end Go.Gv

/- What vm.May and vm.Run answer. -/
set_option linter.unusedVariables false
set_option linter.unusedSimpArgs false
namespace Go.Gv
open Go.Proofs

def may_r0 : List AI := [⟨(some 5), none, (.op (.box 42005 4 (.t 0)))⟩, ⟨(some 7), none, (.op (.box 42007 5 (.t 2)))⟩, ⟨(some 10), none, (.op (.mv (.c (.bool false))))⟩]
def may_r1 : List AI := [⟨(some 11), none, (.op (.load (some 4) (.t 5)))⟩, ⟨(some 12), none, (.call (.c (.fn 23 [])) [(.t 11)])⟩, ⟨(some 13), none, (.op (.ibin .eql (.t 12) (.c (.int .i64 0))))⟩, ⟨(some 14), none, (.op (.mv (.t 13)))⟩, ⟨(some 15), (some (14, true)), (.op (.mv (.t 1)))⟩, ⟨(some 16), (some (14, true)), (.op (.ibin .geq (.t 15) (.c (.int .i64 0))))⟩, ⟨(some 17), none, (.op (.pick (.t 14) (.t 16) (.c (.bool false))))⟩, ⟨(some 18), none, (.op (.mv (.t 17)))⟩, ⟨(some 19), (some (18, true)), (.op (.mv (.t 1)))⟩, ⟨(some 20), (some (18, true)), (.op (.fld 1 (.t 5)))⟩, ⟨(some 21), (some (18, true)), (.op (.load none (.t 20)))⟩, ⟨(some 22), (some (18, true)), (.op (.len (.t 21)))⟩, ⟨(some 23), (some (18, true)), (.op (.ibin .lss (.t 19) (.t 22)))⟩, ⟨(some 24), none, (.op (.pick (.t 18) (.t 23) (.c (.bool false))))⟩, ⟨(some 25), none, (.op (.mv (.t 24)))⟩, ⟨(some 26), (some (25, true)), (.op (.mv (.t 3)))⟩, ⟨(some 27), (some (25, true)), (.op (.ibin .geq (.t 26) (.c (.int .i64 0))))⟩, ⟨(some 28), none, (.op (.pick (.t 25) (.t 27) (.c (.bool false))))⟩, ⟨(some 29), none, (.op (.mv (.t 28)))⟩, ⟨(some 30), (some (29, true)), (.op (.mv (.t 3)))⟩, ⟨(some 31), (some (29, true)), (.op (.fld 0 (.t 5)))⟩, ⟨(some 32), (some (29, true)), (.op (.load none (.t 31)))⟩, ⟨(some 33), (some (29, true)), (.op (.len (.t 32)))⟩, ⟨(some 34), (some (29, true)), (.op (.ibin .lss (.t 30) (.t 33)))⟩, ⟨(some 35), none, (.op (.pick (.t 29) (.t 34) (.c (.bool false))))⟩, ⟨(some 36), none, (.op (.mv (.t 35)))⟩, ⟨(some 37), (some (36, true)), (.op (.mv (.t 4)))⟩, ⟨(some 38), (some (36, true)), (.op (.len (.t 37)))⟩, ⟨(some 39), (some (36, true)), (.op (.fld 0 (.t 5)))⟩, ⟨(some 40), (some (36, true)), (.op (.load none (.t 39)))⟩, ⟨(some 41), (some (36, true)), (.op (.mv (.t 3)))⟩, ⟨(some 42), (some (36, true)), (.op (.idx 2 (.t 40) (.t 41)))⟩, ⟨(some 43), (some (36, true)), (.op (.fld 0 (.t 42)))⟩, ⟨(some 44), (some (36, true)), (.op (.load none (.t 43)))⟩, ⟨(some 45), (some (36, true)), (.op (.ibin .eql (.t 38) (.t 44)))⟩, ⟨(some 46), none, (.op (.pick (.t 36) (.t 45) (.c (.bool false))))⟩, ⟨(some 47), none, (.op (.mv (.t 46)))⟩, ⟨(some 48), (some (47, true)), (.op (.fld 0 (.t 7)))⟩, ⟨(some 49), (some (47, true)), (.op (.load none (.t 48)))⟩, ⟨(some 50), (some (47, true)), (.op (.len (.t 49)))⟩, ⟨(some 51), (some (47, true)), (.op (.ibin .leq (.t 50) (.c (.int .i64 8))))⟩, ⟨(some 52), none, (.op (.pick (.t 47) (.t 51) (.c (.bool false))))⟩, ⟨(some 53), none, (.op (.mv (.t 52)))⟩, ⟨(some 54), (some (53, true)), (.op (.fld 2 (.t 7)))⟩, ⟨(some 55), (some (53, true)), (.op (.load none (.t 54)))⟩, ⟨(some 56), (some (53, true)), (.op (.ibin .eql (.t 55) (.c (.int .i64 0))))⟩, ⟨(some 57), none, (.op (.pick (.t 53) (.t 56) (.c (.bool false))))⟩, ⟨(some 10), none, (.op (.mv (.t 57)))⟩]
def may_c : AC := (.seq (.reg may_r0) (.seq (.reg may_r1) .ret))
def may_res : List ARes := [(.tmp 10)]
set_option maxRecDepth 100000 in
theorem may_get : getF Tryz.prog 18 42000 [] = some ("gavotte/vm.May", 58, may_c, may_res) := by kernel_rfl
def mrun_r0 : List AI := [⟨(some 5), none, (.op (.box 45005 4 (.t 0)))⟩, ⟨(some 7), none, (.op (.box 45007 5 (.t 2)))⟩, ⟨(some 10), none, (.op (.new 45010 7 (.agg [.nils, (.bool false), (.int .i64 0), (.int .i64 0), (.int .i64 0), .nils, (.int .i64 0)])))⟩]
def mrun_r1 : List AI := [⟨(some 11), none, (.op (.load (some 4) (.t 5)))⟩, ⟨(some 12), none, (.op (.mv (.t 1)))⟩, ⟨(some 13), none, (.op (.load (some 5) (.t 7)))⟩, ⟨(some 14), none, (.op (.mv (.t 3)))⟩, ⟨(some 15), none, (.op (.mv (.t 4)))⟩, ⟨(some 16), none, (.call (.c (.fn 18 [])) [(.t 11), (.t 12), (.t 13), (.t 14), (.t 15)])⟩, ⟨(some 17), none, (.op (.not (.t 16)))⟩]
def mrun_r2 : List AI := [⟨(some 18), none, (.op (.build [.nils, (.bool false), (.int .i64 0), (.int .i64 0), (.int .i64 0), .nils, (.int .i64 0)] []))⟩, ⟨none, none, (.op (.store 7 (.t 10) (.t 18)))⟩]
def mrun_r3 : List AI := [⟨(some 19), none, (.op (.load (some 4) (.t 5)))⟩, ⟨(some 20), none, (.op (.mv (.t 1)))⟩, ⟨(some 21), none, (.op (.load (some 5) (.t 7)))⟩, ⟨(some 22), none, (.op (.mv (.t 3)))⟩, ⟨(some 23), none, (.op (.mv (.t 4)))⟩, ⟨(some 24), none, (.call (.c (.fn 31 [])) [(.t 19), (.t 20), (.t 21), (.t 22), (.t 23)])⟩, ⟨none, none, (.op (.store 7 (.t 10) (.t 24)))⟩]
def mrun_c : AC := (.seq (.reg mrun_r0) (.seq (.seq (.reg mrun_r1) (.cond (.t 17) (.seq (.reg mrun_r2) .ret) .skip)) (.seq (.reg mrun_r3) .ret)))
def mrun_res : List ARes := [(.cell (some 7) 10)]
set_option maxRecDepth 100000 in
theorem mrun_get : getF Tryz.prog 19 45000 [] = some ("gavotte/vm.Run", 25, mrun_c, mrun_res) := by kernel_rfl
attribute [simp] may_r0 may_r1 may_res mrun_r0 mrun_r1 mrun_r2 mrun_r3 mrun_res


def mayV (p : Prg) (who : Int) (l : Lcl) (h : Int) (args : List Int) : Prop :=
  flowV p = 0 ∧ 0 ≤ who ∧ who < p.as.length ∧ 0 ≤ h ∧ h < p.hs.length ∧ (args.length : Int) = argsOf p.hs h ∧ l.regs.length ≤ 8 ∧ l.down = 0
instance (p : Prg) (who : Int) (l : Lcl) (h : Int) (args : List Int) : Decidable (mayV p who l h args) := by unfold mayV; exact inferInstance
theorem may_pc (p : Prg) (who : Int) (l : Lcl) (h : Int) (args : List Int) : PC Tryz.prog 18 [p.av, iv who, l.av, iv h, ints args] (.bool (decide (mayV p who l h args))) := by
  refine pc_of_get may_get (by simp) _ (by simp) _ ?_
  unfold may_c mayV
  simp
  refine call (fcheck_pc p) (by simp) ?_
  simp
  by_cases h1 : flowV p = 0
  rotate_left
  · simp [h1]
  by_cases h2 : 0 ≤ who
  rotate_left
  · simp [h1, h2]
  by_cases h3 : who < p.as.length
  rotate_left
  · simp [h1, h2, h3]
  by_cases h4 : 0 ≤ h
  rotate_left
  · simp [h1, h2, h3, h4]
  by_cases h5 : h < p.hs.length
  rotate_left
  · simp [h1, h2, h3, h4, h5]
  have hj : h.toNat < p.hs.length := by omega
  have ha : argsOf p.hs h = p.hs[h.toNat].args := by unfold argsOf; rw [List.getElem?_eq_getElem hj]; rfl
  skip
  by_cases h6 : (args.length : Int) = p.hs[h.toNat].args
  rotate_left
  · simp [ha, h1, h2, h3, h4, h5, h6, hj]
  by_cases h7 : (l.regs.length : Int) ≤ 8
  rotate_left
  · simp [ha, h1, h2, h3, h4, h5, h6, h7, hj, Lcl.av, show ¬ l.regs.length ≤ 8 by omega]
  simp [ha, h1, h2, h3, h4, h5, h6, h7, hj, Lcl.av, show l.regs.length ≤ 8 by omega]
def zeroRes : Res := ⟨⟨[], false, 0, 0, 0⟩, [], 0⟩
def runR (p : Prg) (who : Int) (l : Lcl) (h : Int) (args : List Int) : Res :=
  if mayV p who l h args then goR l (runG (fxOf p who l args) ((p.hs[h.toNat]?.map Hnd.code).getD []) (p.fuel.toNat + 1) (m0Of l) 0) else zeroRes
theorem mrun_pc (p : Prg) (who : Int) (l : Lcl) (h : Int) (args : List Int) (hok : mayV p who l h args → RunOk (fxOf p who l args) ((p.hs[h.toNat]?.map Hnd.code).getD []) (p.fuel.toNat + 1) (m0Of l) 0) (hf : mayV p who l h args → 0 ≤ p.fuel ∧ p.fuel ≤ 1000) :
    PC Tryz.prog 19 [p.av, iv who, l.av, iv h, ints args] (runR p who l h args).av := by
  refine pc_of_get mrun_get (by simp) _ (by simp) _ ?_
  unfold mrun_c
  simp
  refine call (may_pc p who l h args) (by simp [Lcl.av]) ?_
  by_cases hm : mayV p who l h args
  · have hm0 := hm
    obtain ⟨_, _, _, h4, h5, _, h7, _⟩ := hm0
    have hj : h.toNat < p.hs.length := by omega
    have hx : p.hs[h.toNat]? = some p.hs[h.toNat] := List.getElem?_eq_getElem hj
    simp [hm]
    have hok' := hok hm
    rw [hx] at hok'
    refine call (go_pc p who l h args _ h4 hx (hf hm) (by omega) hok') (by simp [Lcl.av]) ?_
    simp [runR, hm, hx, Res.av]
  · simp [hm, runR, zeroRes, Res.av]

end Go.Gv
