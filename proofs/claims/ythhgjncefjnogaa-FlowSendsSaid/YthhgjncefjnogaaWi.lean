/- The law FlowSends answers true. No condition. -/
import Derived.Test.YthhgjncefjnogaaProg
import Derived.Test.YthhgjncefjnogaaWh
import Derived.Test.YthhgjncefjnogaaGw5
set_option linter.unusedVariables false
set_option linter.unusedSimpArgs false
namespace Go.Gv
open Go.Proofs

def fsends_r0 : List AI := [⟨(some 4), none, (.op (.mv (.c (.bool false))))⟩]
def fsends_r1 : List AI := [⟨(some 11), none, (.op (.mv (.t 0)))⟩, ⟨(some 12), none, (.op (.ibin .lss (.t 11) (.c (.int .i64 0))))⟩, ⟨(some 13), none, (.op (.mv (.t 12)))⟩, ⟨(some 14), (some (13, false)), (.op (.mv (.t 0)))⟩, ⟨(some 15), (some (13, false)), (.op (.ibin .gtr (.t 14) (.c (.int .i64 4))))⟩, ⟨(some 16), none, (.op (.pick (.t 13) (.c (.bool true)) (.t 15)))⟩, ⟨(some 17), none, (.op (.mv (.t 16)))⟩, ⟨(some 18), (some (17, false)), (.op (.mv (.t 1)))⟩, ⟨(some 19), (some (17, false)), (.op (.ibin .lss (.t 18) (.c (.int .i64 0))))⟩, ⟨(some 20), none, (.op (.pick (.t 17) (.c (.bool true)) (.t 19)))⟩, ⟨(some 21), none, (.op (.mv (.t 20)))⟩, ⟨(some 22), (some (21, false)), (.op (.mv (.t 1)))⟩, ⟨(some 23), (some (21, false)), (.op (.ibin .gtr (.t 22) (.c (.int .i64 8))))⟩, ⟨(some 24), none, (.op (.pick (.t 21) (.c (.bool true)) (.t 23)))⟩]
def fsends_r2 : List AI := [⟨(some 25), none, (.call (.c (.fn 32 [])) [])⟩, ⟨(some 4), none, (.op (.mv (.t 25)))⟩]
def fsends_r3 : List AI := [⟨(some 5), none, (.op (.mv (.c .nils)))⟩]
def fsends_r4 : List AI := [⟨(some 26), none, (.op (.bsl 11006 1 3 1 (.int .i64 0) [(0, (.c (.int .i64 0)))]))⟩, ⟨(some 6), none, (.op (.mv (.t 26)))⟩]
def fsends_r5 : List AI := [⟨(some 7), none, (.op (.mv (.c (.int .i64 0))))⟩]
def fsends_r6 : List AI := [⟨(some 27), none, (.op (.mv (.t 7)))⟩, ⟨(some 28), none, (.op (.mv (.t 1)))⟩, ⟨(some 29), none, (.op (.ibin .lss (.t 27) (.t 28)))⟩]
def fsends_r7 : List AI := [⟨(some 32), none, (.op (.mv (.t 5)))⟩, ⟨(some 33), none, (.op (.build [(.int .i64 0), (.int .i64 0)] [(0, (1, (.c (.int .i64 1))))]))⟩, ⟨(some 34), none, (.op (.bsl 11034 2 35 1 (.agg [(.int .i64 0), (.int .i64 0)]) [(0, (.t 33))]))⟩, ⟨(some 35), none, (.op (.app 11005 2 35 16 (.t 32) (.t 34)))⟩, ⟨(some 5), none, (.op (.mv (.t 35)))⟩]
def fsends_r8 : List AI := [⟨(some 36), none, (.op (.mv (.t 6)))⟩, ⟨(some 37), none, (.op (.mv (.t 7)))⟩, ⟨(some 38), none, (.op (.ibin .add (.t 37) (.c (.int .i64 1))))⟩, ⟨(some 39), none, (.op (.bsl 11039 1 3 1 (.int .i64 0) [(0, (.t 38))]))⟩, ⟨(some 40), none, (.op (.app 11006 1 3 8 (.t 36) (.t 39)))⟩, ⟨(some 6), none, (.op (.mv (.t 40)))⟩]
def fsends_r9 : List AI := [⟨(some 30), none, (.op (.mv (.t 7)))⟩, ⟨(some 31), none, (.op (.ibin .add (.t 30) (.c (.int .i64 1))))⟩, ⟨(some 7), none, (.op (.mv (.t 31)))⟩]
def fsends_l0 : AC := (.seq (.seq (.reg fsends_r6) (.cond (.t 29) .skip (.exit 0))) (.seq (.block 1 (.seq (.reg fsends_r7) (.reg fsends_r8))) (.reg fsends_r9)))
def fsends_r10 : List AI := [⟨(some 41), none, (.op (.mv (.t 5)))⟩, ⟨(some 42), none, (.op (.build [(.int .i64 0), (.int .i64 0)] [(0, (1, (.c (.int .i64 22)))), (1, (1, (.c (.int .i64 1))))]))⟩, ⟨(some 43), none, (.op (.bsl 11043 2 35 1 (.agg [(.int .i64 0), (.int .i64 0)]) [(0, (.t 42))]))⟩, ⟨(some 44), none, (.op (.app 11005 2 35 16 (.t 41) (.t 43)))⟩, ⟨(some 5), none, (.op (.mv (.t 44)))⟩]
def fsends_r11 : List AI := [⟨(some 45), none, (.op (.mv (.t 5)))⟩, ⟨(some 46), none, (.op (.build [(.int .i64 0), .nils] [(1, (1, (.t 45)))]))⟩, ⟨(some 47), none, (.op (.mv (.t 0)))⟩, ⟨(some 48), none, (.op (.build [(.int .i64 0), .nils] [(0, (1, (.t 47)))]))⟩, ⟨(some 49), none, (.op (.bsl 11049 2 33 2 (.agg [(.int .i64 0), .nils]) [(0, (.t 46)), (1, (.t 48))]))⟩, ⟨(some 50), none, (.op (.build [.nils, (.int .i64 0), (.int .i64 0), (.bool false)] [(2, (1, (.c (.int .i64 (-1)))))]))⟩, ⟨(some 51), none, (.op (.bsl 11051 4 38 1 (.agg [.nils, (.int .i64 0), (.int .i64 0), (.bool false)]) [(0, (.t 50))]))⟩, ⟨(some 52), none, (.op (.build [.nils, .nils, .nils, (.int .i64 0)] [(0, (1, (.t 49))), (1, (1, (.t 51))), (3, (1, (.c (.int .i64 50))))]))⟩, ⟨(some 8), none, (.op (.new 11008 4 (.agg [.nils, .nils, .nils, (.int .i64 0)])))⟩, ⟨none, none, (.op (.store 4 (.t 8) (.t 52)))⟩]
def fsends_r12 : List AI := [⟨(some 54), none, (.op (.load (some 4) (.t 8)))⟩, ⟨(some 55), none, (.call (.c (.fn 33 [])) [(.t 54), (.c (.int .i64 0))])⟩, ⟨(some 53), none, (.op (.mv (.t 55)))⟩, ⟨(some 56), none, (.op (.ext (.t 53) 0))⟩, ⟨(some 57), none, (.op (.ext (.t 53) 1))⟩, ⟨(some 9), none, (.op (.mv (.t 56)))⟩, ⟨(some 10), none, (.op (.mv (.t 57)))⟩]
def fsends_r13 : List AI := [⟨(some 58), none, (.op (.mv (.t 1)))⟩, ⟨(some 59), none, (.op (.mv (.t 0)))⟩, ⟨(some 60), none, (.op (.ibin .add (.t 59) (.c (.int .i64 1))))⟩, ⟨(some 61), none, (.op (.ibin .lss (.t 58) (.t 60)))⟩]
def fsends_r14 : List AI := [⟨(some 62), none, (.op (.mv (.t 10)))⟩, ⟨(some 63), none, (.op (.ibin .eql (.t 62) (.c (.int .i64 5))))⟩, ⟨(some 64), none, (.op (.mv (.t 63)))⟩, ⟨(some 65), (some (64, true)), (.op (.mv (.t 9)))⟩, ⟨(some 66), (some (64, true)), (.op (.len (.t 65)))⟩, ⟨(some 67), (some (64, true)), (.op (.ibin .eql (.t 66) (.c (.int .i64 0))))⟩, ⟨(some 68), none, (.op (.pick (.t 64) (.t 67) (.c (.bool false))))⟩, ⟨(some 69), none, (.op (.mv (.t 68)))⟩, ⟨(some 70), (some (69, true)), (.call (.c (.fn 32 [])) [])⟩, ⟨(some 71), none, (.op (.pick (.t 69) (.t 70) (.c (.bool false))))⟩, ⟨(some 4), none, (.op (.mv (.t 71)))⟩]
def fsends_r15 : List AI := [⟨(some 72), none, (.op (.mv (.t 10)))⟩, ⟨(some 73), none, (.op (.ibin .eql (.t 72) (.c (.int .i64 0))))⟩, ⟨(some 74), none, (.op (.mv (.t 73)))⟩, ⟨(some 75), (some (74, true)), (.op (.mv (.t 9)))⟩, ⟨(some 76), (some (74, true)), (.op (.mv (.t 6)))⟩, ⟨(some 77), (some (74, true)), (.op (.mv (.t 1)))⟩, ⟨(some 78), (some (74, true)), (.op (.mv (.t 0)))⟩, ⟨(some 79), (some (74, true)), (.op (.ibin .sub (.t 77) (.t 78)))⟩, ⟨(some 80), (some (74, true)), (.op (.ibin .sub (.t 79) (.c (.int .i64 1))))⟩, ⟨(some 81), (some (74, true)), (.op (.bsl 11081 1 3 1 (.int .i64 0) [(0, (.t 80))]))⟩, ⟨(some 82), (some (74, true)), (.op (.app 11006 1 3 8 (.t 76) (.t 81)))⟩, ⟨(some 83), (some (74, true)), (.call (.c (.fn 39 [])) [(.t 75), (.t 82)])⟩, ⟨(some 84), none, (.op (.pick (.t 74) (.t 83) (.c (.bool false))))⟩, ⟨(some 85), none, (.op (.mv (.t 84)))⟩, ⟨(some 86), (some (85, true)), (.op (.load (some 4) (.t 8)))⟩, ⟨(some 87), (some (85, true)), (.call (.c (.fn 34 [])) [(.t 86), (.c (.int .i64 0))])⟩, ⟨(some 88), (some (85, true)), (.op (.mv (.t 1)))⟩, ⟨(some 89), (some (85, true)), (.op (.ibin .eql (.t 87) (.t 88)))⟩, ⟨(some 90), none, (.op (.pick (.t 85) (.t 89) (.c (.bool false))))⟩, ⟨(some 91), none, (.op (.mv (.t 90)))⟩, ⟨(some 92), (some (91, true)), (.call (.c (.fn 32 [])) [])⟩, ⟨(some 93), none, (.op (.pick (.t 91) (.t 92) (.c (.bool false))))⟩, ⟨(some 4), none, (.op (.mv (.t 93)))⟩]
def fsends_c : AC := (.seq (.reg fsends_r0) (.seq (.seq (.reg fsends_r1) (.cond (.t 24) (.seq (.reg fsends_r2) .ret) .skip)) (.seq (.reg fsends_r3) (.seq (.reg fsends_r4) (.seq (.seq (.reg fsends_r5) (.block 0 (.loop fsends_l0))) (.seq (.reg fsends_r10) (.seq (.reg fsends_r11) (.seq (.reg fsends_r12) (.seq (.seq (.reg fsends_r13) (.cond (.t 61) (.seq (.reg fsends_r14) .ret) .skip)) (.seq (.reg fsends_r15) .ret))))))))))
def fsends_res : List ARes := [(.tmp 4)]
set_option maxRecDepth 100000 in
theorem fsends_get : getF Try.prog 11 11000 [(35, 5), (44, 5), (26, 6), (40, 6), (82, 6)] = some ("gavotte/gavottelaw4.FlowSends", 94, fsends_c, fsends_res) := by kernel_rfl
attribute [simp] fsends_r0 fsends_r1 fsends_r2 fsends_r3 fsends_r4 fsends_r5 fsends_r6 fsends_r7 fsends_r8 fsends_r9 fsends_r10 fsends_r11 fsends_r12 fsends_r13 fsends_r14 fsends_r15 fsends_res

def wantS (i : Nat) : List Int := (List.range (i + 1)).map fun n : Nat => (n : Int)
theorem wantS_av (i : Nat) : (wantS (i + 1)).map iv = (wantS i).map iv ++ [iv ((i : Int) + 1)] := by
  simp [wantS, List.range_succ]
theorem wantS_len (i : Nat) : (wantS i).length = i + 1 := by simp [wantS]
def sendC (n : Nat) : List Ins := reps [] n ⟨1, 0⟩ ++ [⟨22, 1⟩]
def sendP (args : Int) (c : List Ins) : Prg := ⟨[⟨0, c⟩, ⟨args, []⟩], [⟨[], 0, -1, false⟩], [], 50⟩
set_option maxRecDepth 100000 in
theorem send_law : ∀ (a : Fin 5) (h : Fin 9), depthsV (sendP (a.val : Int) (sendC h.val)) 0 = (if h.val < a.val + 1 then ([], 5) else (wantS h.val ++ [(h.val : Int) - (a.val : Int) - 1], 0)) ∧ (¬ h.val < a.val + 1 → mostV (sendP (a.val : Int) (sendC h.val)) 0 = (h.val : Int)) := by decide +kernel
theorem flowSends_pc (a h : Int) : PC Try.prog 11 [iv a, iv h] (.bool true) := by
  refine pc_of_get fsends_get (by simp) _ (by simp) _ ?_
  unfold fsends_c
  simp
  by_cases h1 : a < 0
  · simp [h1]; refine call awake4_pc (by simp) ?_; simp
  by_cases h2 : 4 < a
  · simp [h1, h2]; refine call awake4_pc (by simp) ?_; simp
  by_cases h3 : h < 0
  · simp [h1, h2, h3]; refine call awake4_pc (by simp) ?_; simp
  by_cases h4 : 8 < h
  · simp [h1, h2, h3, h4]; refine call awake4_pc (by simp) ?_; simp
  simp [h1, h2, h3, h4]
  obtain ⟨a, rfl⟩ := Int.eq_ofNat_of_zero_le (show 0 ≤ a by omega)
  obtain ⟨n, rfl⟩ := Int.eq_ofNat_of_zero_le (show 0 ≤ h by omega)
  have ha : a ≤ 4 := by omega
  have hn : n ≤ 8 := by omega
  clear h1 h2 h3 h4
  refine loopN (fun i S => S.t 7 = iv i ∧ S.t 0 = iv a ∧ S.t 1 = iv n ∧ AccIs S (S.t 5) 11005 2 35 ((reps [] i ⟨1, 0⟩ : List Ins).map Ins.av) ∧ AccIs S (S.t 6) 11006 1 3 ((wantS i).map iv)) n ?_ ?_
  · rw [reps_zero]; simp [AccIs, wantS]
  · rintro i S hi ⟨g0, g1, g2, hv, hw⟩
    have e := reps_av Ins.av [] i ⟨1, 0⟩
    have el := reps_len [] i (⟨1, 0⟩ : Ins)
    by_cases hlt : i < n
    · simp [fsends_l0, g0, g1, g2, hlt]
      have ws := wrap_succ i _ hlt (by omega)
      have e' := wantS_av i
      have el' := wantS_len i
      rcases hw with ⟨q3, q4⟩ | ⟨st', q3, q4⟩
      · simp at q4; rw [q4] at el'; simp at el'
      rcases hv with ⟨q1, q2⟩ | ⟨st, q1, q2⟩
      · simp [q1, q3, q4, g0, g1, g2, hlt, ws, el', show (i + 1 + 1) * 8 ≤ 140737488355328 by omega]
        simp [AccIs, e, e', q2, g1, g2]
      · simp [q1, q2, q3, q4, g0, g1, g2, hlt, ws, el, el', show (i + 1) * 16 ≤ 140737488355328 by omega, show (i + 1 + 1) * 8 ≤ 140737488355328 by omega]
        simp [AccIs, e, e', q2, g1, g2]
    · have e1 : i = n := by omega
      subst e1
      simp [fsends_l0, g0, g1, g2]
      clear g0 hlt hi e
      have e := snoc_av Ins.av (reps [] i ⟨1, 0⟩) ⟨22, 1⟩
      have hj : sendC i = reps [] i ⟨1, 0⟩ ++ [⟨22, 1⟩] := rfl
      obtain ⟨hd, hm⟩ := send_law ⟨a, by omega⟩ ⟨i, by omega⟩
      simp only at hd hm
      rw [← hj] at e
      have el' := wantS_len i
      generalize sendC i = c at *
      generalize (reps [] i ⟨1, 0⟩ : List Ins) = c1 at *
      have wr : IntKind.i64.wrap ((a : Int) + 1) = (a : Int) + 1 := wrap_in _ (by omega) (by omega)
      have w1 : IntKind.i64.wrap ((i : Int) - (a : Int)) = (i : Int) - (a : Int) := wrap_in _ (by omega) (by omega)
      have w2 : IntKind.i64.wrap ((i : Int) - (a : Int) - 1) = (i : Int) - (a : Int) - 1 := wrap_in _ (by omega) (by omega)
      rcases hw with ⟨q3, q4⟩ | ⟨st', q3, q4⟩
      · simp at q4; rw [q4] at el'; simp at el'
      have ew : ints (wantS i ++ [(i : Int) - (a : Int) - 1]) = .lst 1 ((wantS i).map iv ++ [iv ((i : Int) - (a : Int) - 1)]) := by simp [ints]
      rcases hv with ⟨q1, q2⟩ | ⟨st, q1, q2⟩
      · simp [q1, q3, q4, g1, g2]
        refine callC (depths_pc (sendP a c) 0) 2 (by simp [sendP, Prg.av, Hnd.av, Actr.av, Ins.av, e, q2, dco, elemR, coL, co1, ints]) ?_
        rw [hd]
        by_cases hc : i < a + 1
        · simp [hc, g1, g2, wr, show (i : Int) < (a : Int) + 1 by omega]
          refine call awake4_pc (by simp) ?_
          simp
        · simp [hc, g1, g2, wr, w1, w2, q3, q4, el', show ¬ (i : Int) < (a : Int) + 1 by omega, show (i + 1 + 1) * 8 ≤ 140737488355328 by omega]
          refine call (aints_pc (wantS i ++ [(i : Int) - (a : Int) - 1]) (wantS i ++ [(i : Int) - (a : Int) - 1]) (by simp [el']; omega)) (by simp [ew]) ?_
          simp
          refine callC (most_pc (sendP a c) 0) 2 (by simp [sendP, Prg.av, Hnd.av, Actr.av, Ins.av, e, q2, dco, elemR, coL, co1, ints]) ?_
          rw [hm hc]
          simp [g2]
          refine call awake4_pc (by simp) ?_
          simp
      · simp [q1, q2, q3, q4, g1, g2, el, show (i + 1) * 16 ≤ 140737488355328 by omega]
        refine callC (depths_pc (sendP a c) 0) 2 (by simp [sendP, Prg.av, Hnd.av, Actr.av, Ins.av, e, q2, dco, elemR, coL, co1, ints]) ?_
        rw [hd]
        by_cases hc : i < a + 1
        · simp [hc, g1, g2, wr, show (i : Int) < (a : Int) + 1 by omega]
          refine call awake4_pc (by simp) ?_
          simp
        · simp [hc, g1, g2, wr, w1, w2, q3, q4, el', show ¬ (i : Int) < (a : Int) + 1 by omega, show (i + 1 + 1) * 8 ≤ 140737488355328 by omega]
          refine call (aints_pc (wantS i ++ [(i : Int) - (a : Int) - 1]) (wantS i ++ [(i : Int) - (a : Int) - 1]) (by simp [el']; omega)) (by simp [ew]) ?_
          simp
          refine callC (most_pc (sendP a c) 0) 2 (by simp [sendP, Prg.av, Hnd.av, Actr.av, Ins.av, e, q2, dco, elemR, coL, co1, ints]) ?_
          rw [hm hc]
          simp [g2]
          refine call awake4_pc (by simp) ?_
          simp

end Go.Gv
