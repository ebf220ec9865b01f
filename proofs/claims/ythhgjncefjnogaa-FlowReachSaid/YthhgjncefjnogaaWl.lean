/- The law FlowReach answers true. No condition. -/
import Derived.Test.YthhgjncefjnogaaProg
import Derived.Test.YthhgjncefjnogaaWk
set_option linter.unusedVariables false
set_option linter.unusedSimpArgs false
namespace Go.Gv
open Go.Proofs

def freach_r0 : List AI := [⟨(some 6), none, (.op (.mv (.c (.bool false))))⟩]
def freach_r1 : List AI := [⟨(some 15), none, (.op (.mv (.t 0)))⟩, ⟨(some 16), none, (.op (.ibin .lss (.t 15) (.c (.int .i64 0))))⟩, ⟨(some 17), none, (.op (.mv (.t 16)))⟩, ⟨(some 18), (some (17, false)), (.op (.mv (.t 0)))⟩, ⟨(some 19), (some (17, false)), (.op (.ibin .gtr (.t 18) (.c (.int .i64 20))))⟩, ⟨(some 20), none, (.op (.pick (.t 17) (.c (.bool true)) (.t 19)))⟩, ⟨(some 21), none, (.op (.mv (.t 20)))⟩, ⟨(some 22), (some (21, false)), (.op (.mv (.t 2)))⟩, ⟨(some 23), (some (21, false)), (.op (.ibin .lss (.t 22) (.c (.int .i64 0))))⟩, ⟨(some 24), none, (.op (.pick (.t 21) (.c (.bool true)) (.t 23)))⟩, ⟨(some 25), none, (.op (.mv (.t 24)))⟩, ⟨(some 26), (some (25, false)), (.op (.mv (.t 2)))⟩, ⟨(some 27), (some (25, false)), (.op (.ibin .gtr (.t 26) (.c (.int .i64 20))))⟩, ⟨(some 28), none, (.op (.pick (.t 25) (.c (.bool true)) (.t 27)))⟩]
def freach_r2 : List AI := [⟨(some 29), none, (.call (.c (.fn 32 [])) [])⟩, ⟨(some 6), none, (.op (.mv (.t 29)))⟩]
def freach_r3 : List AI := [⟨(some 7), none, (.op (.mv (.c .nils)))⟩]
def freach_r4 : List AI := [⟨(some 30), none, (.op (.bsl 9008 1 3 0 (.int .i64 0) []))⟩, ⟨(some 8), none, (.op (.mv (.t 30)))⟩]
def freach_r5 : List AI := [⟨(some 9), none, (.op (.mv (.c (.int .i64 0))))⟩]
def freach_r6 : List AI := [⟨(some 31), none, (.op (.mv (.t 9)))⟩, ⟨(some 32), none, (.op (.mv (.t 0)))⟩, ⟨(some 33), none, (.op (.ibin .lss (.t 31) (.t 32)))⟩]
def freach_r7 : List AI := [⟨(some 36), none, (.op (.mv (.t 7)))⟩, ⟨(some 37), none, (.op (.build [(.int .i64 0), (.int .i64 0)] [(0, (1, (.c (.int .i64 8))))]))⟩, ⟨(some 38), none, (.op (.build [(.int .i64 0), (.int .i64 0)] [(0, (1, (.c (.int .i64 2))))]))⟩, ⟨(some 39), none, (.op (.bsl 9039 2 35 2 (.agg [(.int .i64 0), (.int .i64 0)]) [(0, (.t 37)), (1, (.t 38))]))⟩, ⟨(some 40), none, (.op (.app 9007 2 35 16 (.t 36) (.t 39)))⟩, ⟨(some 7), none, (.op (.mv (.t 40)))⟩]
def freach_r8 : List AI := [⟨(some 41), none, (.op (.mv (.t 8)))⟩, ⟨(some 42), none, (.op (.bsl 9042 1 3 2 (.int .i64 0) [(0, (.c (.int .i64 0))), (1, (.c (.int .i64 1)))]))⟩, ⟨(some 43), none, (.op (.app 9008 1 3 8 (.t 41) (.t 42)))⟩, ⟨(some 8), none, (.op (.mv (.t 43)))⟩]
def freach_r9 : List AI := [⟨(some 34), none, (.op (.mv (.t 9)))⟩, ⟨(some 35), none, (.op (.ibin .add (.t 34) (.c (.int .i64 1))))⟩, ⟨(some 9), none, (.op (.mv (.t 35)))⟩]
def freach_l0 : AC := (.seq (.seq (.reg freach_r6) (.cond (.t 33) .skip (.exit 0))) (.seq (.block 1 (.seq (.reg freach_r7) (.reg freach_r8))) (.reg freach_r9)))
def freach_r10 : List AI := [⟨(some 44), none, (.op (.mv (.t 0)))⟩, ⟨(some 45), none, (.op (.ibin .mul (.c (.int .i64 2)) (.t 44)))⟩, ⟨(some 46), none, (.op (.ibin .add (.t 45) (.c (.int .i64 1))))⟩, ⟨(some 47), none, (.op (.mv (.t 2)))⟩, ⟨(some 48), none, (.op (.ibin .add (.t 46) (.t 47)))⟩, ⟨(some 49), none, (.op (.build [(.int .i64 0), (.int .i64 0)] [(0, (1, (.c (.int .i64 20)))), (1, (1, (.t 48)))]))⟩, ⟨(some 10), none, (.op (.new 9010 2 (.agg [(.int .i64 0), (.int .i64 0)])))⟩, ⟨none, none, (.op (.store 2 (.t 10) (.t 49)))⟩]
def freach_r11 : List AI := [⟨(some 50), none, (.op (.mv (.t 1)))⟩]
def freach_r12 : List AI := [⟨(some 51), none, (.op (.build [(.int .i64 0), (.int .i64 0)] [(0, (1, (.c (.int .i64 25))))]))⟩, ⟨none, none, (.op (.store 2 (.t 10) (.t 51)))⟩]
def freach_r13 : List AI := [⟨(some 52), none, (.op (.mv (.t 7)))⟩, ⟨(some 53), none, (.op (.load (some 2) (.t 10)))⟩, ⟨(some 54), none, (.op (.bsl 9054 2 35 1 (.agg [(.int .i64 0), (.int .i64 0)]) [(0, (.t 53))]))⟩, ⟨(some 55), none, (.op (.app 9007 2 35 16 (.t 52) (.t 54)))⟩, ⟨(some 7), none, (.op (.mv (.t 55)))⟩]
def freach_r14 : List AI := [⟨(some 56), none, (.op (.mv (.t 8)))⟩, ⟨(some 57), none, (.op (.bsl 9057 1 3 1 (.int .i64 0) [(0, (.c (.int .i64 0)))]))⟩, ⟨(some 58), none, (.op (.app 9008 1 3 8 (.t 56) (.t 57)))⟩, ⟨(some 8), none, (.op (.mv (.t 58)))⟩]
def freach_r15 : List AI := [⟨(some 11), none, (.op (.mv (.c (.int .i64 0))))⟩]
def freach_r16 : List AI := [⟨(some 59), none, (.op (.mv (.t 11)))⟩, ⟨(some 60), none, (.op (.mv (.t 2)))⟩, ⟨(some 61), none, (.op (.ibin .lss (.t 59) (.t 60)))⟩]
def freach_r17 : List AI := [⟨(some 64), none, (.op (.mv (.t 7)))⟩, ⟨(some 65), none, (.op (.build [(.int .i64 0), (.int .i64 0)] [(0, (1, (.c (.int .i64 2))))]))⟩, ⟨(some 66), none, (.op (.bsl 9066 2 35 1 (.agg [(.int .i64 0), (.int .i64 0)]) [(0, (.t 65))]))⟩, ⟨(some 67), none, (.op (.app 9007 2 35 16 (.t 64) (.t 66)))⟩, ⟨(some 7), none, (.op (.mv (.t 67)))⟩]
def freach_r18 : List AI := [⟨(some 68), none, (.op (.mv (.t 8)))⟩, ⟨(some 69), none, (.op (.bsl 9069 1 3 1 (.int .i64 0) [(0, (.c (.int .i64 (-1))))]))⟩, ⟨(some 70), none, (.op (.app 9008 1 3 8 (.t 68) (.t 69)))⟩, ⟨(some 8), none, (.op (.mv (.t 70)))⟩]
def freach_r19 : List AI := [⟨(some 62), none, (.op (.mv (.t 11)))⟩, ⟨(some 63), none, (.op (.ibin .add (.t 62) (.c (.int .i64 1))))⟩, ⟨(some 11), none, (.op (.mv (.t 63)))⟩]
def freach_l1 : AC := (.seq (.seq (.reg freach_r16) (.cond (.t 61) .skip (.exit 2))) (.seq (.block 3 (.seq (.reg freach_r17) (.reg freach_r18))) (.reg freach_r19)))
def freach_r20 : List AI := [⟨(some 12), none, (.op (.mv (.c (.int .i64 0))))⟩]
def freach_r21 : List AI := [⟨(some 71), none, (.op (.mv (.t 1)))⟩]
def freach_r22 : List AI := [⟨(some 12), none, (.op (.mv (.c (.int .i64 (-1)))))⟩]
def freach_r23 : List AI := [⟨(some 73), none, (.op (.mv (.t 7)))⟩, ⟨(some 74), none, (.call (.c (.fn 40 [])) [(.t 73)])⟩, ⟨(some 75), none, (.call (.c (.fn 33 [])) [(.t 74), (.c (.int .i64 0))])⟩, ⟨(some 72), none, (.op (.mv (.t 75)))⟩, ⟨(some 76), none, (.op (.ext (.t 72) 0))⟩, ⟨(some 77), none, (.op (.ext (.t 72) 1))⟩, ⟨(some 13), none, (.op (.mv (.t 76)))⟩, ⟨(some 14), none, (.op (.mv (.t 77)))⟩]
def freach_r24 : List AI := [⟨(some 78), none, (.op (.mv (.t 14)))⟩, ⟨(some 79), none, (.op (.ibin .eql (.t 78) (.c (.int .i64 0))))⟩, ⟨(some 80), none, (.op (.mv (.t 79)))⟩, ⟨(some 81), (some (80, true)), (.op (.mv (.t 13)))⟩, ⟨(some 82), (some (80, true)), (.op (.mv (.t 8)))⟩, ⟨(some 83), (some (80, true)), (.op (.mv (.t 12)))⟩, ⟨(some 84), (some (80, true)), (.op (.bsl 9084 1 3 1 (.int .i64 0) [(0, (.t 83))]))⟩, ⟨(some 85), (some (80, true)), (.op (.app 9008 1 3 8 (.t 82) (.t 84)))⟩, ⟨(some 86), (some (80, true)), (.call (.c (.fn 39 [])) [(.t 81), (.t 85)])⟩, ⟨(some 87), none, (.op (.pick (.t 80) (.t 86) (.c (.bool false))))⟩, ⟨(some 88), none, (.op (.mv (.t 87)))⟩, ⟨(some 89), (some (88, true)), (.call (.c (.fn 32 [])) [])⟩, ⟨(some 90), none, (.op (.pick (.t 88) (.t 89) (.c (.bool false))))⟩, ⟨(some 6), none, (.op (.mv (.t 90)))⟩]
def freach_c : AC := (.seq (.reg freach_r0) (.seq (.seq (.reg freach_r1) (.cond (.t 28) (.seq (.reg freach_r2) .ret) .skip)) (.seq (.reg freach_r3) (.seq (.reg freach_r4) (.seq (.seq (.reg freach_r5) (.block 0 (.loop freach_l0))) (.seq (.reg freach_r10) (.seq (.seq (.reg freach_r11) (.cond (.t 50) (.reg freach_r12) .skip)) (.seq (.reg freach_r13) (.seq (.reg freach_r14) (.seq (.seq (.reg freach_r15) (.block 2 (.loop freach_l1))) (.seq (.reg freach_r20) (.seq (.seq (.reg freach_r21) (.cond (.t 71) (.reg freach_r22) .skip)) (.seq (.reg freach_r23) (.seq (.reg freach_r24) .ret))))))))))))))
def freach_res : List ARes := [(.tmp 6)]
set_option maxRecDepth 100000 in
theorem freach_get : getF Try.prog 9 9000 [(40, 7), (55, 7), (67, 7), (30, 8), (43, 8), (58, 8), (70, 8), (85, 8)] = some ("gavotte/gavottelaw4.FlowReach", 91, freach_c, freach_res) := by kernel_rfl
attribute [simp] freach_r0 freach_r1 freach_r2 freach_r3 freach_r4 freach_r5 freach_r6 freach_r7 freach_r8 freach_r9 freach_r10 freach_r11 freach_r12 freach_r13 freach_r14 freach_r15 freach_r16 freach_r17 freach_r18 freach_r19 freach_r20 freach_r21 freach_r22 freach_r23 freach_r24 freach_res

theorem pairC_len (n : Nat) : (pairC n).length = 2 * n := by induction n <;> simp [pairC, *]; omega
theorem pairW_len (n : Nat) : (pairW n).length = 2 * n := by induction n <;> simp [pairW, *]; omega
theorem pairC_av (n : Nat) : (pairC (n + 1)).map Ins.av = (pairC n).map Ins.av ++ [.agg [iv 8, iv 0], .agg [iv 2, iv 0]] := by rw [pairC, List.map_append]; rfl
theorem pairW_av (n : Nat) : (pairW (n + 1)).map iv = (pairW n).map iv ++ [iv 0, iv 1] := by rw [pairW, List.map_append]; rfl
def FR (n m : Nat) (e : Bool) (S : St) (c : List Ins) (w : List Int) : Prop := S.t 0 = iv n ∧ S.t 1 = .bool e ∧ S.t 2 = iv m ∧ AccIs S (S.t 7) 9007 2 35 (c.map Ins.av) ∧ ∃ st, S.t 8 = .acc 9008 st 1 (w.map iv) ∧ S.tok 9008 = some ⟨st, 1, 3⟩
theorem flowReach_pc (n : Int) (e : Bool) (m : Int) : PC Try.prog 9 [iv n, .bool e, iv m] (.bool true) := by
  refine pc_of_get freach_get (by simp) _ (by simp) _ ?_
  unfold freach_c
  simp
  by_cases h1 : n < 0
  · simp [h1]; refine call awake4_pc (by simp) ?_; simp
  by_cases h2 : 20 < n
  · simp [h1, h2]; refine call awake4_pc (by simp) ?_; simp
  by_cases h3 : m < 0
  · simp [h1, h2, h3]; refine call awake4_pc (by simp) ?_; simp
  by_cases h4 : 20 < m
  · simp [h1, h2, h3, h4]; refine call awake4_pc (by simp) ?_; simp
  simp [h1, h2, h3, h4]
  obtain ⟨n, rfl⟩ := Int.eq_ofNat_of_zero_le (show 0 ≤ n by omega)
  obtain ⟨m, rfl⟩ := Int.eq_ofNat_of_zero_le (show 0 ≤ m by omega)
  have hn : n ≤ 20 := by omega
  have hm : m ≤ 20 := by omega
  clear h1 h2 h3 h4
  refine loopN (fun i S => S.t 9 = iv i ∧ FR n m e S (pairC i) (pairW i)) n ?_ ?_
  · simp [FR, AccIs, pairC, pairW]
  · rintro i S hi ⟨g0, g1, g2, g3, hv, st', q3, q4⟩
    have el := pairC_len i
    have el' := pairW_len i
    by_cases hlt : i < n
    · simp [freach_l0, g0, g1, g2, g3, hlt]
      have ws := wrap_succ i _ hlt (by omega)
      have e1 := pairC_av i
      have e2 := pairW_av i
      rcases hv with ⟨q1, q2⟩ | ⟨st, q1, q2⟩
      · simp [q1, q3, q4, g0, g1, g2, g3, hlt, ws, el', show (2 * i + 2) * 8 ≤ 140737488355328 by omega]
        simp [FR, AccIs, e1, e2, q2, g1, g2, g3]
      · simp [q1, q2, q3, q4, g0, g1, g2, g3, hlt, ws, el, el', show (2 * i + 2) * 16 ≤ 140737488355328 by omega, show (2 * i + 2) * 8 ≤ 140737488355328 by omega]
        simp [FR, AccIs, e1, e2, q2, g1, g2, g3]
    · have e1 : i = n := by omega
      subst e1
      have hl := reach_law i m hn hm e
      have w1 : IntKind.i64.wrap (2 * (i : Int)) = 2 * (i : Int) := wrap_in _ (by omega) (by omega)
      have w2 : IntKind.i64.wrap (2 * (i : Int) + 1) = 2 * (i : Int) + 1 := wrap_in _ (by omega) (by omega)
      have w3 : IntKind.i64.wrap (2 * (i : Int) + 1 + (m : Int)) = 2 * (i : Int) + 1 + (m : Int) := wrap_in _ (by omega) (by omega)
      generalize hci : pairC i = c at *
      generalize hwi : pairW i = wl at *
      have ex : (c ++ [if e = true then (⟨25, 0⟩ : Ins) else ⟨20, (2 * i + 1 + m : Nat)⟩]).map Ins.av = c.map Ins.av ++ [if e = true then .agg [iv 25, iv 0] else .agg [iv 20, iv (2 * (i : Int) + 1 + (m : Int))]] := by
        rw [snoc_av]; cases e <;> simp [Ins.av]
      have exl : (c ++ [if e = true then (⟨25, 0⟩ : Ins) else ⟨20, (2 * i + 1 + m : Nat)⟩]).length = 2 * i + 1 := by simp [el]
      have ew : (wl ++ [(0 : Int)]).map iv = wl.map iv ++ [iv 0] := by simp
      have ewl : (wl ++ [(0 : Int)]).length = 2 * i + 1 := by simp [el']
      rw [reachC, reachW, hci, hwi] at hl
      generalize hcc : c ++ [if e = true then (⟨25, 0⟩ : Ins) else ⟨20, (2 * i + 1 + m : Nat)⟩] = c1 at *
      generalize hww : wl ++ [(0 : Int)] = w1' at *
      have key : ∀ (κ : Ex → St → Prop) (S : St) (u : Dep (blockK 2 κ)), FR i m e S c1 w1' → S.t 11 = iv 0 → (∀ S', FR i m e S' (reps c1 m ⟨2, 0⟩) (reps w1' m (-1)) → κ .normal S') → LoopG Try.prog freach_l1 (blockK 2 κ) S u := by
        intro κ S u h0 h11 hκ
        refine loopN (fun j S => S.t 11 = iv j ∧ FR i m e S (reps c1 j ⟨2, 0⟩) (reps w1' j (-1))) m ?_ ?_
        · rw [reps_zero, reps_zero]; exact ⟨h11, h0⟩
        · clear h0 h11 hv q3 q4 g0 g1 g2 g3 S st'
          rintro j S hj ⟨g0, g1, g2, g3, hv, st', q3, q4⟩
          by_cases hlt : j < m
          · simp [freach_l1, g0, g1, g2, g3, hlt]
            have ws := wrap_succ j _ hlt (by omega)
            have e1 := reps_av Ins.av c1 j ⟨2, 0⟩
            have e2 := reps_av iv w1' j (-1)
            have l1 := reps_len c1 j (⟨2, 0⟩ : Ins)
            have l2 := reps_len w1' j (-1)
            rcases hv with ⟨q1, q2⟩ | ⟨st, q1, q2⟩
            · simp [q1, q3, q4, g0, g1, g2, g3, hlt, ws, l2, ewl, show (2 * i + 1 + j + 1) * 8 ≤ 140737488355328 by omega]
              simp [FR, AccIs, e1, e2, q2, g1, g2, g3]
            · simp [q1, q2, q3, q4, g0, g1, g2, g3, hlt, ws, l1, l2, ewl, exl, show (2 * i + 1 + j + 1) * 16 ≤ 140737488355328 by omega, show (2 * i + 1 + j + 1) * 8 ≤ 140737488355328 by omega]
              simp [FR, AccIs, e1, e2, q2, g1, g2, g3]
          · have e1 : j = m := by omega
            subst e1
            simp [freach_l1, g0, g1, g2, g3]
            refine hκ _ ?_
            simp [FR, g1, g2, g3, q3, q4]
            simpa [AccIs] using hv
      have l1 := reps_len c1 m (⟨2, 0⟩ : Ins)
      have l2 := reps_len w1' m (-1)
      have fin : ∀ S : St, FR i m e S (reps c1 m ⟨2, 0⟩) (reps w1' m (-1)) → V Try.prog (.seq (.reg freach_r20) (.seq (.seq (.reg freach_r21) (.cond (.t 71) (.reg freach_r22) .skip)) (.seq (.reg freach_r23) (.seq (.reg freach_r24) .ret)))) (Ends freach_res (.bool true)) S := by
        clear hv q3 q4 g0 g1 g2 g3 S st' key
        rintro S ⟨g1, g2, g3, hv, st', q3, q4⟩
        have o3 := hv.co
        generalize reps c1 m (⟨2, 0⟩ : Ins) = c2 at *
        generalize reps w1' m (-1) = w2' at *
        have ew : ∀ z : Int, ints (w2' ++ [z]) = .lst 1 (w2'.map iv ++ [iv z]) := by intro z; simp [ints]
        cases e
        · simp [g1, g2, g3]
          refine call (handler4_pc c2) (by simp [o3]) ?_
          simp
          refine call (depths_pc (hdlP c2) 0) (by simp) ?_
          rw [hl]
          simp [q3, q4, l2, ewl, show (2 * i + 1 + m + 1) * 8 ≤ 140737488355328 by omega]
          refine call (aints_pc (w2' ++ [0]) (w2' ++ [0]) (by simp [l2, ewl]; omega)) (by simp [ew]) ?_
          simp
          refine call awake4_pc (by simp) ?_
          simp
        · simp [g1, g2, g3]
          refine call (handler4_pc c2) (by simp [o3]) ?_
          simp
          refine call (depths_pc (hdlP c2) 0) (by simp) ?_
          rw [hl]
          simp [q3, q4, l2, ewl, show (2 * i + 1 + m + 1) * 8 ≤ 140737488355328 by omega]
          refine call (aints_pc (w2' ++ [-1]) (w2' ++ [-1]) (by simp [l2, ewl]; omega)) (by simp [ew]) ?_
          simp
          refine call awake4_pc (by simp) ?_
          simp
      cases e
      · simp at ex
        rcases hv with ⟨q1, q2⟩ | ⟨st, q1, q2⟩
        · simp [freach_l0, g0, g1, g2, g3, q1, q3, q4, w1, w2, w3, el', show (2 * i + 1) * 8 ≤ 140737488355328 by omega]
          refine key _ _ _ ?_ ?_ (fun S' h => fin S' h) <;> simp [FR, AccIs, g1, g2, g3, ex, ew, q2]
        · simp [freach_l0, g0, g1, g2, g3, q1, q2, q3, q4, w1, w2, w3, el, el', show (2 * i + 1) * 8 ≤ 140737488355328 by omega, show (2 * i + 1) * 16 ≤ 140737488355328 by omega]
          refine key _ _ _ ?_ ?_ (fun S' h => fin S' h) <;> simp [FR, AccIs, g1, g2, g3, ex, ew, q2]
      · simp at ex
        rcases hv with ⟨q1, q2⟩ | ⟨st, q1, q2⟩
        · simp [freach_l0, g0, g1, g2, g3, q1, q3, q4, w1, w2, w3, el', show (2 * i + 1) * 8 ≤ 140737488355328 by omega]
          refine key _ _ _ ?_ ?_ (fun S' h => fin S' h) <;> simp [FR, AccIs, g1, g2, g3, ex, ew, q2]
        · simp [freach_l0, g0, g1, g2, g3, q1, q2, q3, q4, w1, w2, w3, el, el', show (2 * i + 1) * 8 ≤ 140737488355328 by omega, show (2 * i + 1) * 16 ≤ 140737488355328 by omega]
          refine key _ _ _ ?_ ?_ (fun S' h => fin S' h) <;> simp [FR, AccIs, g1, g2, g3, ex, ew, q2]

end Go.Gv
