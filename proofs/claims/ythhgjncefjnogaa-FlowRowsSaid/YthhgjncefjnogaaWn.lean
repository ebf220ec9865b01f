/- The law FlowRows answers true. No condition. -/
import Derived.Test.YthhgjncefjnogaaProg
import Derived.Test.YthhgjncefjnogaaWm
set_option linter.unusedVariables false
set_option linter.unusedSimpArgs false
namespace Go.Gv
open Go.Proofs

def frows_r0 : List AI := [⟨(some 2), none, (.op (.mv (.c (.bool false))))⟩]
def frows_r1 : List AI := [⟨(some 11), none, (.op (.mv (.t 0)))⟩, ⟨(some 12), none, (.op (.len (.t 11)))⟩, ⟨(some 13), none, (.op (.ibin .gtr (.t 12) (.c (.int .i64 60))))⟩]
def frows_r2 : List AI := [⟨(some 14), none, (.call (.c (.fn 32 [])) [])⟩, ⟨(some 2), none, (.op (.mv (.t 14)))⟩]
def frows_r3 : List AI := [⟨(some 3), none, (.op (.mv (.c .nils)))⟩]
def frows_r4 : List AI := [⟨(some 15), none, (.op (.bsl 8004 1 3 1 (.int .i64 0) [(0, (.c (.int .i64 0)))]))⟩, ⟨(some 4), none, (.op (.mv (.t 15)))⟩]
def frows_r5 : List AI := [⟨(some 5), none, (.op (.mv (.c (.int .i64 0))))⟩, ⟨(some 6), none, (.op (.mv (.c (.int .i64 0))))⟩]
def frows_r6 : List AI := [⟨(some 7), none, (.op (.mv (.c (.bool true))))⟩]
def frows_r7 : List AI := [⟨(some 8), none, (.op (.mv (.c (.int .i64 0))))⟩]
def frows_r8 : List AI := [⟨(some 16), none, (.op (.mv (.t 8)))⟩, ⟨(some 17), none, (.op (.mv (.t 0)))⟩, ⟨(some 18), none, (.op (.len (.t 17)))⟩, ⟨(some 19), none, (.op (.ibin .lss (.t 16) (.t 18)))⟩, ⟨(some 20), none, (.op (.mv (.t 19)))⟩, ⟨(some 21), (some (20, true)), (.op (.mv (.t 7)))⟩, ⟨(some 22), none, (.op (.pick (.t 20) (.t 21) (.c (.bool false))))⟩]
def frows_r9 : List AI := [⟨(some 25), none, (.op (.mv (.t 0)))⟩, ⟨(some 26), none, (.op (.mv (.t 8)))⟩, ⟨(some 27), none, (.op (.idx 1 (.t 25) (.t 26)))⟩, ⟨(some 28), none, (.op (.load none (.t 27)))⟩]
def frows_r10 : List AI := [⟨(some 29), none, (.op (.mv (.t 3)))⟩, ⟨(some 30), none, (.op (.build [(.int .i64 0), (.int .i64 0)] [(0, (1, (.c (.int .i64 1))))]))⟩, ⟨(some 31), none, (.op (.bsl 8031 2 35 1 (.agg [(.int .i64 0), (.int .i64 0)]) [(0, (.t 30))]))⟩, ⟨(some 32), none, (.op (.app 8003 2 35 16 (.t 29) (.t 31)))⟩, ⟨(some 3), none, (.op (.mv (.t 32)))⟩]
def frows_r11 : List AI := [⟨(some 33), none, (.op (.mv (.t 5)))⟩, ⟨(some 34), none, (.op (.ibin .add (.t 33) (.c (.int .i64 1))))⟩, ⟨(some 5), none, (.op (.mv (.t 34)))⟩]
def frows_r12 : List AI := [⟨(some 35), none, (.op (.mv (.t 3)))⟩, ⟨(some 36), none, (.op (.build [(.int .i64 0), (.int .i64 0)] [(0, (1, (.c (.int .i64 2))))]))⟩, ⟨(some 37), none, (.op (.bsl 8037 2 35 1 (.agg [(.int .i64 0), (.int .i64 0)]) [(0, (.t 36))]))⟩, ⟨(some 38), none, (.op (.app 8003 2 35 16 (.t 35) (.t 37)))⟩, ⟨(some 3), none, (.op (.mv (.t 38)))⟩]
def frows_r13 : List AI := [⟨(some 39), none, (.op (.mv (.t 5)))⟩, ⟨(some 40), none, (.op (.ibin .sub (.t 39) (.c (.int .i64 1))))⟩, ⟨(some 5), none, (.op (.mv (.t 40)))⟩]
def frows_k0 : AC := (.cond (.t 28) (.seq (.reg frows_r10) (.reg frows_r11)) (.seq (.reg frows_r12) (.reg frows_r13)))
def frows_r14 : List AI := [⟨(some 41), none, (.op (.mv (.t 5)))⟩, ⟨(some 42), none, (.op (.ibin .geq (.t 41) (.c (.int .i64 0))))⟩, ⟨(some 43), none, (.op (.mv (.t 42)))⟩, ⟨(some 44), (some (43, true)), (.op (.mv (.t 5)))⟩, ⟨(some 45), (some (43, true)), (.op (.ibin .leq (.t 44) (.c (.int .i64 8))))⟩, ⟨(some 46), none, (.op (.pick (.t 43) (.t 45) (.c (.bool false))))⟩, ⟨(some 7), none, (.op (.mv (.t 46)))⟩]
def frows_r15 : List AI := [⟨(some 47), none, (.op (.mv (.t 4)))⟩, ⟨(some 48), none, (.op (.mv (.t 5)))⟩, ⟨(some 49), none, (.op (.bsl 8049 1 3 1 (.int .i64 0) [(0, (.t 48))]))⟩, ⟨(some 50), none, (.op (.app 8004 1 3 8 (.t 47) (.t 49)))⟩, ⟨(some 4), none, (.op (.mv (.t 50)))⟩]
def frows_r16 : List AI := [⟨(some 51), none, (.op (.mv (.t 6)))⟩, ⟨(some 52), none, (.op (.mv (.t 5)))⟩, ⟨(some 53), none, (.op (.mm true (.t 51) [(.t 52)]))⟩, ⟨(some 6), none, (.op (.mv (.t 53)))⟩]
def frows_r17 : List AI := [⟨(some 23), none, (.op (.mv (.t 8)))⟩, ⟨(some 24), none, (.op (.ibin .add (.t 23) (.c (.int .i64 1))))⟩, ⟨(some 8), none, (.op (.mv (.t 24)))⟩]
def frows_l0 : AC := (.seq (.seq (.reg frows_r8) (.cond (.t 22) .skip (.exit 0))) (.seq (.block 1 (.seq (.seq (.reg frows_r9) frows_k0) (.seq (.reg frows_r14) (.seq (.reg frows_r15) (.reg frows_r16))))) (.reg frows_r17)))
def frows_r18 : List AI := [⟨(some 55), none, (.op (.mv (.t 3)))⟩, ⟨(some 56), none, (.call (.c (.fn 40 [])) [(.t 55)])⟩, ⟨(some 57), none, (.call (.c (.fn 33 [])) [(.t 56), (.c (.int .i64 0))])⟩, ⟨(some 54), none, (.op (.mv (.t 57)))⟩, ⟨(some 58), none, (.op (.ext (.t 54) 0))⟩, ⟨(some 59), none, (.op (.ext (.t 54) 1))⟩, ⟨(some 9), none, (.op (.mv (.t 58)))⟩, ⟨(some 10), none, (.op (.mv (.t 59)))⟩]
def frows_r19 : List AI := [⟨(some 60), none, (.op (.mv (.t 7)))⟩, ⟨(some 61), none, (.op (.not (.t 60)))⟩]
def frows_r20 : List AI := [⟨(some 62), none, (.op (.mv (.t 10)))⟩, ⟨(some 63), none, (.op (.ibin .eql (.t 62) (.c (.int .i64 5))))⟩, ⟨(some 64), none, (.op (.mv (.t 63)))⟩, ⟨(some 65), (some (64, true)), (.op (.mv (.t 9)))⟩, ⟨(some 66), (some (64, true)), (.op (.len (.t 65)))⟩, ⟨(some 67), (some (64, true)), (.op (.ibin .eql (.t 66) (.c (.int .i64 0))))⟩, ⟨(some 68), none, (.op (.pick (.t 64) (.t 67) (.c (.bool false))))⟩, ⟨(some 69), none, (.op (.mv (.t 68)))⟩, ⟨(some 70), (some (69, true)), (.op (.mv (.t 3)))⟩, ⟨(some 71), (some (69, true)), (.call (.c (.fn 40 [])) [(.t 70)])⟩, ⟨(some 72), (some (69, true)), (.call (.c (.fn 34 [])) [(.t 71), (.c (.int .i64 0))])⟩, ⟨(some 73), (some (69, true)), (.op (.ibin .eql (.t 72) (.c (.int .i64 (-1)))))⟩, ⟨(some 74), none, (.op (.pick (.t 69) (.t 73) (.c (.bool false))))⟩, ⟨(some 75), none, (.op (.mv (.t 74)))⟩, ⟨(some 76), (some (75, true)), (.call (.c (.fn 32 [])) [])⟩, ⟨(some 77), none, (.op (.pick (.t 75) (.t 76) (.c (.bool false))))⟩, ⟨(some 2), none, (.op (.mv (.t 77)))⟩]
def frows_r21 : List AI := [⟨(some 78), none, (.op (.mv (.t 10)))⟩, ⟨(some 79), none, (.op (.ibin .eql (.t 78) (.c (.int .i64 0))))⟩, ⟨(some 80), none, (.op (.mv (.t 79)))⟩, ⟨(some 81), (some (80, true)), (.op (.mv (.t 9)))⟩, ⟨(some 82), (some (80, true)), (.op (.mv (.t 4)))⟩, ⟨(some 83), (some (80, true)), (.call (.c (.fn 39 [])) [(.t 81), (.t 82)])⟩, ⟨(some 84), none, (.op (.pick (.t 80) (.t 83) (.c (.bool false))))⟩, ⟨(some 85), none, (.op (.mv (.t 84)))⟩, ⟨(some 86), (some (85, true)), (.op (.mv (.t 3)))⟩, ⟨(some 87), (some (85, true)), (.call (.c (.fn 40 [])) [(.t 86)])⟩, ⟨(some 88), (some (85, true)), (.call (.c (.fn 34 [])) [(.t 87), (.c (.int .i64 0))])⟩, ⟨(some 89), (some (85, true)), (.op (.mv (.t 6)))⟩, ⟨(some 90), (some (85, true)), (.op (.ibin .eql (.t 88) (.t 89)))⟩, ⟨(some 91), none, (.op (.pick (.t 85) (.t 90) (.c (.bool false))))⟩, ⟨(some 92), none, (.op (.mv (.t 91)))⟩, ⟨(some 93), (some (92, true)), (.call (.c (.fn 32 [])) [])⟩, ⟨(some 94), none, (.op (.pick (.t 92) (.t 93) (.c (.bool false))))⟩, ⟨(some 2), none, (.op (.mv (.t 94)))⟩]
def frows_c : AC := (.seq (.reg frows_r0) (.seq (.seq (.reg frows_r1) (.cond (.t 13) (.seq (.reg frows_r2) .ret) .skip)) (.seq (.reg frows_r3) (.seq (.reg frows_r4) (.seq (.reg frows_r5) (.seq (.reg frows_r6) (.seq (.seq (.reg frows_r7) (.block 0 (.loop frows_l0))) (.seq (.reg frows_r18) (.seq (.seq (.reg frows_r19) (.cond (.t 61) (.seq (.reg frows_r20) .ret) .skip)) (.seq (.reg frows_r21) .ret))))))))))
def frows_res : List ARes := [(.tmp 2)]
set_option maxRecDepth 100000 in
theorem frows_get : getF Try.prog 8 8000 [(32, 3), (38, 3), (15, 4), (50, 4)] = some ("gavotte/gavottelaw4.FlowRows", 95, frows_c, frows_res) := by kernel_rfl
attribute [simp] frows_r0 frows_r1 frows_r2 frows_r3 frows_r4 frows_r5 frows_r6 frows_r7 frows_r8 frows_r9 frows_r10 frows_r11 frows_r12 frows_r13 frows_r14 frows_r15 frows_r16 frows_r17 frows_r18 frows_r19 frows_r20 frows_r21 frows_res

def FU (ups : List Bool) (k : Nat) (S : St) : Prop :=
  S.t 0 = .lst 1 (ups.map AV.bool) ∧ S.t 5 = iv (depU ups k) ∧ S.t 6 = iv (mostU ups k) ∧ S.t 7 = .bool (decide (0 ≤ depU ups k ∧ depU ups k ≤ 8)) ∧
  AccIs S (S.t 3) 8003 2 35 ((codeU (ups.take k)).map Ins.av) ∧ ∃ st, S.t 4 = .acc 8004 st 1 ((wantU ups k).map iv) ∧ S.tok 8004 = some ⟨st, 1, 3⟩
theorem codeU_av (ups : List Bool) (k : Nat) (h : k < ups.length) : (codeU (ups.take (k + 1))).map Ins.av = (codeU (ups.take k)).map Ins.av ++ [(insU ups[k]).av] := by
  rw [← List.take_append_getElem h, codeU, codeU, List.map_append, List.map_append]; rfl
theorem wantU_av (ups : List Bool) (k : Nat) : (wantU ups (k + 1)).map iv = (wantU ups k).map iv ++ [iv (depU ups (k + 1))] := by
  rw [wantU_succ, List.map_append]; rfl
theorem rows_loop (ups : List Bool) (hlen : ups.length ≤ 60) (κ : Ex → St → Prop) (S : St) (u : Dep (blockK 0 κ)) (h8 : S.t 8 = iv 0) (h0 : FU ups 0 S)
    (hκ : ∀ i S, i ≤ ups.length → FU ups i S → (∀ b, b < i → 0 ≤ depU ups b ∧ depU ups b ≤ 8) → (i = ups.length ∨ ¬ (0 ≤ depU ups i ∧ depU ups i ≤ 8)) → κ .normal S) : LoopG Try.prog frows_l0 (blockK 0 κ) S u := by
  refine loopN (fun i S => S.t 8 = iv i ∧ i ≤ ups.length ∧ FU ups i S ∧ ∀ b, b < i → 0 ≤ depU ups b ∧ depU ups b ≤ 8) ups.length ?_ ?_
  · exact ⟨h8, by omega, h0, fun b hb => by omega⟩
  · clear h8 h0 S
    rintro i S hi ⟨g0, hle, ⟨g1, g2, g3, g4, hv, st', q3, q4⟩, hg⟩
    by_cases hgd : 0 ≤ depU ups i ∧ depU ups i ≤ 8
    · by_cases hlt : i < ups.length
      · have e1 := codeU_av ups i hlt
        have e2 := wantU_av ups i
        have l1 : (codeU (ups.take i)).length = i := by simp [codeU]; omega
        have l2 := wantU_len ups i
        have ed := depU_succ ups i hlt
        have em : mostU ups (i + 1) = max (mostU ups i) (depU ups (i + 1)) := rfl
        have ws := wrap_succ i _ hlt (by omega)
        have hg' : ∀ b, b < i + 1 → 0 ≤ depU ups b ∧ depU ups b ≤ 8 := by
          intro b hb
          by_cases e : b = i
          · subst e; exact hgd
          · exact hg b (by omega)
        have wd : IntKind.i64.wrap (depU ups i + dlt ups[i]) = depU ups (i + 1) := by rw [ed]; exact wrap_in _ (by unfold dlt; split <;> omega) (by unfold dlt; split <;> omega)
        simp [frows_l0, g0, g1, g2, g3, g4, hlt, hgd]
        refine V_cut (fun S => S.t 8 = iv i ∧ S.t 0 = .lst 1 (ups.map AV.bool) ∧ S.t 5 = iv (depU ups (i + 1)) ∧ S.t 6 = iv (mostU ups i) ∧
          AccIs S (S.t 3) 8003 2 35 ((codeU (ups.take (i + 1))).map Ins.av) ∧ ∃ st, S.t 4 = .acc 8004 st 1 ((wantU ups i).map iv) ∧ S.tok 8004 = some ⟨st, 1, 3⟩) ?_ ?_
        · cases hu : ups[i] with
          | true =>
            rw [hu] at e1 wd
            simp only [dlt, if_true, insU, Ins.av] at e1 wd
            rcases hv with ⟨q1, q2⟩ | ⟨st, q1, q2⟩
            · simp [frows_k0, g0, g1, g2, g3, g4, q1, q3, q4, wd, hu]
              simp [AccIs, e1, q2]
            · simp [frows_k0, g0, g1, g2, g3, g4, q1, q2, q3, q4, wd, hu, l1, show (i + 1) * 16 ≤ 140737488355328 by omega]
              simp [AccIs, e1, q2]
          | false =>
            rw [hu] at e1 wd
            simp only [dlt, insU, Ins.av] at e1 wd
            have wd' : IntKind.i64.wrap (depU ups i - 1) = depU ups (i + 1) := by rw [← wd]; rfl
            rcases hv with ⟨q1, q2⟩ | ⟨st, q1, q2⟩
            · simp [frows_k0, g0, g1, g2, g3, g4, q1, q3, q4, wd', hu]
              simp [AccIs, e1, q2]
            · simp [frows_k0, g0, g1, g2, g3, g4, q1, q2, q3, q4, wd', hu, l1, show (i + 1) * 16 ≤ 140737488355328 by omega]
              simp [AccIs, e1, q2]
        · clear hv q3 q4 g0 g1 g2 g3 g4 S st'
          rintro S ⟨g0, g1, g2, g3, hv, st', q3, q4⟩
          by_cases h0 : 0 ≤ depU ups (i + 1)
          · simp [g0, g1, g2, g3, q3, q4, h0, ws, l2, show (i + 1 + 1) * 8 ≤ 140737488355328 by omega]
            refine ⟨by omega, ?_, hg'⟩
            simp [FU, e2, em, g1, g2, h0]
            simpa [AccIs] using hv
          · simp [g0, g1, g2, g3, q3, q4, h0, ws, l2, show (i + 1 + 1) * 8 ≤ 140737488355328 by omega]
            refine ⟨by omega, ?_, hg'⟩
            simp [FU, e2, em, g1, g2, h0]
            simpa [AccIs] using hv
      · have e : i = ups.length := by omega
        simp [frows_l0, g0, g1, hlt]
        refine hκ i _ hle ?_ hg (.inl e)
        simp [FU, g1, g2, g3, g4, q3, q4]
        simpa [AccIs] using hv
    · by_cases hlt : i < ups.length
      · simp [frows_l0, g0, g1, g4, hlt, hgd]
        refine hκ i _ hle ?_ hg (.inr hgd)
        simp [FU, g1, g2, g3, g4, q3, q4]
        simpa [AccIs] using hv
      · simp [frows_l0, g0, g1, g4, hlt]
        refine hκ i _ hle ?_ hg (.inr hgd)
        simp [FU, g1, g2, g3, g4, q3, q4]
        simpa [AccIs] using hv
theorem wantU_take (ups : List Bool) (k : Nat) : wantU (ups.take k) k = wantU ups k := by
  unfold wantU
  apply List.map_congr_left
  intro a ha
  simp at ha
  exact depU_take ups k a (by omega)
theorem flowRows_pc (ups : List Bool) : PC Try.prog 8 [.lst 1 (ups.map AV.bool)] (.bool true) := by
  refine pc_of_get frows_get (by simp) _ (by simp) _ ?_
  unfold frows_c
  simp
  by_cases h1 : (60 : Int) < ups.length
  · simp [h1]; refine call awake4_pc (by simp) ?_; simp
  simp [h1]
  have hlen : ups.length ≤ 60 := by omega
  clear h1
  refine rows_loop ups hlen _ _ _ (by simp) ?_ ?_
  · simp [FU, AccIs, depU_zero, mostU, codeU, wantU]
  · rintro i S hi ⟨g1, g2, g3, g4, hv, st', q3, q4⟩ hg he
    have o3 := hv.co
    have hll : (ups.take i).length = i := by simp; omega
    have hgt : ∀ b, b < (ups.take i).length → 0 ≤ depU (ups.take i) b ∧ depU (ups.take i) b ≤ 8 := by
      intro b hb; rw [hll] at hb; rw [depU_take ups i b (by omega)]; exact hg b hb
    have hdl : depU (ups.take i) (ups.take i).length = depU ups i := by rw [hll, depU_take ups i i (Nat.le_refl _)]
    simp
    refine call (handler4_pc (codeU (ups.take i))) (by simp [o3]) ?_
    simp
    refine call (depths_pc (hdlP (codeU (ups.take i))) 0) (by simp) ?_
    by_cases hgd : 0 ≤ depU ups i ∧ depU ups i ≤ 8
    · obtain ⟨r1, r2⟩ := rowsGood (ups.take i) (by omega) (by
        intro b hb
        by_cases e : b = (ups.take i).length
        · subst e; rw [hdl]; exact hgd
        · exact hgt b (by omega))
      rw [hll, wantU_take] at r1
      rw [hll, mostU_take ups i i (Nat.le_refl _)] at r2
      rw [r1]
      simp [g4, hgd, q3, q4]
      refine call (aints_pc (wantU ups i) (wantU ups i) (by rw [wantU_len]; omega)) (by simp) ?_
      simp
      refine call (handler4_pc (codeU (ups.take i))) (by simp [o3]) ?_
      simp
      refine call (most_pc (hdlP (codeU (ups.take i))) 0) (by simp) ?_
      rw [r2]
      simp [g3]
      refine call awake4_pc (by simp) ?_
      simp
    · obtain ⟨r1, r2⟩ := rowsBad (ups.take i) (by omega) hgt (by rw [hdl]; exact hgd)
      rw [r1]
      simp [g4, hgd]
      refine call (handler4_pc (codeU (ups.take i))) (by simp [o3]) ?_
      simp
      refine call (most_pc (hdlP (codeU (ups.take i))) 0) (by simp) ?_
      rw [r2]
      simp
      refine call awake4_pc (by simp) ?_
      simp

end Go.Gv
