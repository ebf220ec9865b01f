/- Texts of this proof, one behind the other. What is proved, and on which conditions, stands ahead of each. -/
import Derived.Test.YthhgjncefjnogaaProg
import Derived.Test.YthhgjncefjnogaaM14ba58e4

/- The law VmLoops answers true. No condition. -/
set_option linter.unusedVariables false
set_option linter.unusedSimpArgs false
namespace Go.Gv
open Go.Proofs

def vloops_r0 : List AI := [⟨(some 4), none, (.op (.mv (.c (.bool false))))⟩]
def vloops_r1 : List AI := [⟨(some 8), none, (.op (.mv (.t 0)))⟩, ⟨(some 9), none, (.op (.ibin .lss (.t 8) (.c (.int .i64 0))))⟩, ⟨(some 10), none, (.op (.mv (.t 9)))⟩, ⟨(some 11), (some (10, false)), (.op (.mv (.t 0)))⟩, ⟨(some 12), (some (10, false)), (.op (.ibin .gtr (.t 11) (.c (.int .i64 40))))⟩, ⟨(some 13), none, (.op (.pick (.t 10) (.c (.bool true)) (.t 12)))⟩, ⟨(some 14), none, (.op (.mv (.t 13)))⟩, ⟨(some 15), (some (14, false)), (.op (.mv (.t 1)))⟩, ⟨(some 16), (some (14, false)), (.op (.ibin .lss (.t 15) (.c (.int .i64 1))))⟩, ⟨(some 17), none, (.op (.pick (.t 14) (.c (.bool true)) (.t 16)))⟩, ⟨(some 18), none, (.op (.mv (.t 17)))⟩, ⟨(some 19), (some (18, false)), (.op (.mv (.t 1)))⟩, ⟨(some 20), (some (18, false)), (.op (.ibin .gtr (.t 19) (.c (.int .i64 256))))⟩, ⟨(some 21), none, (.op (.pick (.t 18) (.c (.bool true)) (.t 20)))⟩]
def vloops_r2 : List AI := [⟨(some 22), none, (.call (.c (.fn 41 [])) [])⟩, ⟨(some 4), none, (.op (.mv (.t 22)))⟩]
def vloops_r3 : List AI := [⟨(some 23), none, (.op (.mv (.t 1)))⟩, ⟨(some 24), none, (.op (.build [(.int .i64 0), (.int .i64 0)] [(0, (1, (.c (.int .i64 5))))]))⟩, ⟨(some 25), none, (.op (.build [(.int .i64 0), (.int .i64 0)] [(0, (1, (.c (.int .i64 21)))), (1, (1, (.c (.int .i64 9))))]))⟩, ⟨(some 26), none, (.op (.build [(.int .i64 0), (.int .i64 0)] [(0, (1, (.c (.int .i64 5))))]))⟩, ⟨(some 27), none, (.op (.build [(.int .i64 0), (.int .i64 0)] [(0, (1, (.c (.int .i64 1)))), (1, (1, (.c (.int .i64 1))))]))⟩, ⟨(some 28), none, (.op (.build [(.int .i64 0), (.int .i64 0)] [(0, (1, (.c (.int .i64 10))))]))⟩, ⟨(some 29), none, (.op (.build [(.int .i64 0), (.int .i64 0)] [(0, (1, (.c (.int .i64 6))))]))⟩, ⟨(some 30), none, (.op (.build [(.int .i64 0), (.int .i64 0)] [(0, (1, (.c (.int .i64 8))))]))⟩, ⟨(some 31), none, (.op (.build [(.int .i64 0), (.int .i64 0)] [(0, (1, (.c (.int .i64 22))))]))⟩, ⟨(some 32), none, (.op (.build [(.int .i64 0), (.int .i64 0)] [(0, (1, (.c (.int .i64 20))))]))⟩, ⟨(some 33), none, (.op (.bsl 15033 2 35 9 (.agg [(.int .i64 0), (.int .i64 0)]) [(0, (.t 24)), (1, (.t 25)), (2, (.t 26)), (3, (.t 27)), (4, (.t 28)), (5, (.t 29)), (6, (.t 30)), (7, (.t 31)), (8, (.t 32))]))⟩, ⟨(some 34), none, (.call (.c (.fn 47 [])) [(.t 23), (.t 33)])⟩, ⟨(some 5), none, (.op (.new 15005 4 (.agg [.nils, .nils, .nils, (.int .i64 0)])))⟩, ⟨none, none, (.op (.store 4 (.t 5) (.t 34)))⟩]
def vloops_r4 : List AI := [⟨(some 35), none, (.op (.load (some 4) (.t 5)))⟩, ⟨(some 36), none, (.op (.mv (.t 0)))⟩, ⟨(some 37), none, (.call (.c (.fn 48 [])) [(.t 36), (.c (.int .i64 0))])⟩, ⟨(some 38), none, (.call (.c (.fn 45 [])) [(.t 35), (.c (.int .i64 0)), (.t 37), (.c (.int .i64 0)), (.c .nils)])⟩, ⟨(some 6), none, (.op (.new 15006 7 (.agg [.nils, (.bool false), (.int .i64 0), (.int .i64 0), (.int .i64 0), .nils, (.int .i64 0)])))⟩, ⟨none, none, (.op (.store 7 (.t 6) (.t 38)))⟩]
def vloops_p4 : List (List Nat) := [[], [], [1], [0, 2, 1], [], [4, 3, 0, 1, 2]]
def vloops_r5 : List AI := [⟨(some 39), none, (.op (.mv (.t 0)))⟩, ⟨(some 40), none, (.op (.ibin .mul (.c (.int .i64 9)) (.t 39)))⟩, ⟨(some 41), none, (.op (.ibin .add (.t 40) (.c (.int .i64 2))))⟩, ⟨(some 42), none, (.op (.mv (.t 1)))⟩, ⟨(some 43), none, (.op (.ibin .gtr (.t 41) (.t 42)))⟩]
def vloops_r6 : List AI := [⟨(some 44), none, (.op (.fld 0 (.t 6)))⟩, ⟨(some 45), none, (.op (.fld 2 (.t 44)))⟩, ⟨(some 46), none, (.op (.load none (.t 45)))⟩, ⟨(some 47), none, (.op (.ibin .eql (.t 46) (.c (.int .i64 2))))⟩, ⟨(some 48), none, (.op (.mv (.t 47)))⟩, ⟨(some 49), (some (48, true)), (.op (.fld 6 (.t 6)))⟩, ⟨(some 50), (some (48, true)), (.op (.load none (.t 49)))⟩, ⟨(some 51), (some (48, true)), (.op (.mv (.t 1)))⟩, ⟨(some 52), (some (48, true)), (.op (.ibin .eql (.t 50) (.t 51)))⟩, ⟨(some 53), none, (.op (.pick (.t 48) (.t 52) (.c (.bool false))))⟩, ⟨(some 54), none, (.op (.mv (.t 53)))⟩, ⟨(some 55), (some (54, true)), (.op (.fld 5 (.t 6)))⟩, ⟨(some 56), (some (54, true)), (.op (.load none (.t 55)))⟩, ⟨(some 57), (some (54, true)), (.op (.len (.t 56)))⟩, ⟨(some 58), (some (54, true)), (.op (.ibin .eql (.t 57) (.c (.int .i64 0))))⟩, ⟨(some 59), none, (.op (.pick (.t 54) (.t 58) (.c (.bool false))))⟩, ⟨(some 60), none, (.op (.mv (.t 59)))⟩, ⟨(some 61), (some (60, true)), (.call (.c (.fn 41 [])) [])⟩, ⟨(some 62), none, (.op (.pick (.t 60) (.t 61) (.c (.bool false))))⟩, ⟨(some 4), none, (.op (.mv (.t 62)))⟩]
def vloops_r7 : List AI := [⟨(some 7), none, (.op (.mv (.c (.int .i64 0))))⟩]
def vloops_r8 : List AI := [⟨(some 63), none, (.op (.mv (.t 7)))⟩, ⟨(some 64), none, (.op (.fld 5 (.t 6)))⟩, ⟨(some 65), none, (.op (.load none (.t 64)))⟩, ⟨(some 66), none, (.op (.len (.t 65)))⟩, ⟨(some 67), none, (.op (.ibin .lss (.t 63) (.t 66)))⟩]
def vloops_r9 : List AI := [⟨(some 70), none, (.op (.fld 5 (.t 6)))⟩, ⟨(some 71), none, (.op (.load none (.t 70)))⟩, ⟨(some 72), none, (.op (.mv (.t 7)))⟩, ⟨(some 73), none, (.op (.idx 3 (.t 71) (.t 72)))⟩, ⟨(some 74), none, (.op (.fld 0 (.t 73)))⟩, ⟨(some 75), none, (.op (.load none (.t 74)))⟩, ⟨(some 76), none, (.op (.ibin .neq (.t 75) (.c (.int .i64 0))))⟩, ⟨(some 77), none, (.op (.mv (.t 76)))⟩, ⟨(some 78), (some (77, false)), (.op (.fld 5 (.t 6)))⟩, ⟨(some 79), (some (77, false)), (.op (.load none (.t 78)))⟩, ⟨(some 80), (some (77, false)), (.op (.mv (.t 7)))⟩, ⟨(some 81), (some (77, false)), (.op (.idx 3 (.t 79) (.t 80)))⟩, ⟨(some 82), (some (77, false)), (.op (.fld 1 (.t 81)))⟩, ⟨(some 83), (some (77, false)), (.op (.load none (.t 82)))⟩, ⟨(some 84), (some (77, false)), (.op (.ibin .neq (.t 83) (.c (.int .i64 0))))⟩, ⟨(some 85), none, (.op (.pick (.t 77) (.c (.bool true)) (.t 84)))⟩, ⟨(some 86), none, (.op (.mv (.t 85)))⟩, ⟨(some 87), (some (86, false)), (.op (.fld 5 (.t 6)))⟩, ⟨(some 88), (some (86, false)), (.op (.load none (.t 87)))⟩, ⟨(some 89), (some (86, false)), (.op (.mv (.t 7)))⟩, ⟨(some 90), (some (86, false)), (.op (.idx 3 (.t 88) (.t 89)))⟩, ⟨(some 91), (some (86, false)), (.op (.fld 2 (.t 90)))⟩, ⟨(some 92), (some (86, false)), (.op (.load none (.t 91)))⟩, ⟨(some 93), (some (86, false)), (.op (.len (.t 92)))⟩, ⟨(some 94), (some (86, false)), (.op (.ibin .neq (.t 93) (.c (.int .i64 0))))⟩, ⟨(some 95), none, (.op (.pick (.t 86) (.c (.bool true)) (.t 94)))⟩]
def vloops_r10 : List AI := [⟨(some 4), none, (.op (.mv (.c (.bool false))))⟩]
def vloops_r11 : List AI := [⟨(some 68), none, (.op (.mv (.t 7)))⟩, ⟨(some 69), none, (.op (.ibin .add (.t 68) (.c (.int .i64 1))))⟩, ⟨(some 7), none, (.op (.mv (.t 69)))⟩]
def vloops_l0 : AC := (.seq (.seq (.reg vloops_r8) (.cond (.t 67) .skip (.exit 0))) (.seq (.block 1 (.seq (.reg vloops_r9) (.cond (.t 95) (.seq (.reg vloops_r10) .ret) .skip))) (.reg vloops_r11)))
def vloops_r12 : List AI := [⟨(some 96), none, (.op (.fld 5 (.t 6)))⟩, ⟨(some 97), none, (.op (.load none (.t 96)))⟩, ⟨(some 98), none, (.op (.len (.t 97)))⟩, ⟨(some 99), none, (.op (.mv (.t 0)))⟩, ⟨(some 100), none, (.op (.ibin .eql (.t 98) (.t 99)))⟩, ⟨(some 101), none, (.op (.mv (.t 100)))⟩, ⟨(some 102), (some (101, true)), (.op (.fld 6 (.t 6)))⟩, ⟨(some 103), (some (101, true)), (.op (.load none (.t 102)))⟩, ⟨(some 104), (some (101, true)), (.op (.mv (.t 0)))⟩, ⟨(some 105), (some (101, true)), (.op (.ibin .mul (.c (.int .i64 9)) (.t 104)))⟩, ⟨(some 106), (some (101, true)), (.op (.ibin .add (.t 105) (.c (.int .i64 2))))⟩, ⟨(some 107), (some (101, true)), (.op (.ibin .eql (.t 103) (.t 106)))⟩, ⟨(some 108), none, (.op (.pick (.t 101) (.t 107) (.c (.bool false))))⟩, ⟨(some 109), none, (.op (.mv (.t 108)))⟩, ⟨(some 110), (some (109, true)), (.op (.fld 0 (.t 6)))⟩, ⟨(some 111), (some (109, true)), (.op (.fld 0 (.t 110)))⟩, ⟨(some 112), (some (109, true)), (.op (.load none (.t 111)))⟩, ⟨(some 113), (some (109, true)), (.op (.bsl 15113 1 3 2 (.int .i64 0) [(0, (.c (.int .i64 0))), (1, (.c (.int .i64 0)))]))⟩, ⟨(some 114), (some (109, true)), (.call (.c (.fn 39 [])) [(.t 112), (.t 113)])⟩, ⟨(some 115), none, (.op (.pick (.t 109) (.t 114) (.c (.bool false))))⟩, ⟨(some 116), none, (.op (.mv (.t 115)))⟩, ⟨(some 117), (some (116, true)), (.op (.fld 0 (.t 6)))⟩, ⟨(some 118), (some (116, true)), (.op (.fld 3 (.t 117)))⟩, ⟨(some 119), (some (116, true)), (.op (.load none (.t 118)))⟩, ⟨(some 120), (some (116, true)), (.op (.mv (.t 0)))⟩, ⟨(some 121), (some (116, true)), (.op (.ibin .eql (.t 119) (.t 120)))⟩, ⟨(some 122), none, (.op (.pick (.t 116) (.t 121) (.c (.bool false))))⟩, ⟨(some 123), none, (.op (.mv (.t 122)))⟩, ⟨(some 124), (some (123, true)), (.call (.c (.fn 41 [])) [])⟩, ⟨(some 125), none, (.op (.pick (.t 123) (.t 124) (.c (.bool false))))⟩, ⟨(some 4), none, (.op (.mv (.t 125)))⟩]
def vloops_c : AC := (.seq (.reg vloops_r0) (.seq (.seq (.reg vloops_r1) (.cond (.t 21) (.seq (.reg vloops_r2) .ret) .skip)) (.seq (.reg vloops_r3) (.seq (.regd vloops_r4 vloops_p4) (.seq (.seq (.reg vloops_r5) (.cond (.t 43) (.seq (.reg vloops_r6) .ret) .skip)) (.seq (.seq (.reg vloops_r7) (.block 0 (.loop vloops_l0))) (.seq (.reg vloops_r12) .ret)))))))
def vloops_res : List ARes := [(.tmp 4)]
set_option maxRecDepth 100000 in
theorem vloops_get : getF Try.prog 15 15000 [] = some ("gavotte/gavottelaw6.VmLoops", 126, vloops_c, vloops_res) := by kernel_rfl
attribute [simp] vloops_r0 vloops_r1 vloops_r2 vloops_r3 vloops_r4 vloops_p4 vloops_r5 vloops_r6 vloops_r7 vloops_r8 vloops_r9 vloops_r10 vloops_r11 vloops_r12 vloops_res

def lpC : List Ins := [⟨5, 0⟩, ⟨21, 9⟩, ⟨5, 0⟩, ⟨1, 1⟩, ⟨10, 0⟩, ⟨6, 0⟩, ⟨8, 0⟩, ⟨22, 0⟩, ⟨20, 0⟩]
set_option maxRecDepth 100000 in
theorem lp_run0 : ∀ n : Fin 41, runU (fxOf (oneP6 1 lpC) 0 ⟨[(n.val : Int), 0], false, 0, 0, 0⟩ []) lpC 400 (m0Of ⟨[(n.val : Int), 0], false, 0, 0, 0⟩) 0 = some (some ⟨9, [], [0, 0], List.replicate n.val ⟨0, 0, []⟩, false⟩, 0, 9 * (n.val : Int) + 2) := by decide +kernel
theorem lp_flow : flowV (oneP6 1 lpC) = 0 := by decide
theorem lp_run (n : Nat) (hn : n ≤ 40) (f : Int) (h1 : 1 ≤ f) (h2 : f ≤ 256) : runR (oneP6 f lpC) 0 ⟨[(n : Int), 0], false, 0, 0, 0⟩ 0 [] =
    if 9 * (n : Int) + 2 ≤ f then ⟨⟨[0, 0], false, 0, n, 0⟩, List.replicate n ⟨0, 0, []⟩, 9 * (n : Int) + 2⟩ else ⟨⟨[(n : Int), 0], false, 2, 0, 0⟩, [], f⟩ := by
  rw [run_one f lpC 0 _ h1 h2 lp_flow (by omega) (by simp) rfl 400 _ (lp_run0 ⟨n, by omega⟩)]
  simp only
  by_cases h : 9 * (n : Int) + 2 ≤ f
  · rw [if_pos h, if_pos h]
    have w : w64 (n : Int) = n := wrap_in _ (by omega) (by omega)
    simp [goR, w]
  · rw [if_neg h, if_neg h]
    simp [goR]
theorem vmLoops_pc (n f : Int) : PC Try.prog 15 [iv n, iv f] (.bool true) := by
  refine pc_of_get vloops_get (by simp) _ (by simp) _ ?_
  unfold vloops_c
  simp
  by_cases h1 : n < 0
  · simp [h1]; refine call awake6_pc (by simp) ?_; simp
  by_cases h2 : 40 < n
  · simp [h1, h2]; refine call awake6_pc (by simp) ?_; simp
  by_cases h3 : f < 1
  · simp [h1, h2, h3]; refine call awake6_pc (by simp) ?_; simp
  by_cases h4 : 256 < f
  · simp [h1, h2, h3, h4]; refine call awake6_pc (by simp) ?_; simp
  simp [h1, h2, h3, h4]
  obtain ⟨n, rfl⟩ := Int.eq_ofNat_of_zero_le (show 0 ≤ n by omega)
  have hn : n ≤ 40 := by omega
  have hrun := lp_run n hn f (by omega) (by omega)
  have w9 : IntKind.i64.wrap (9 * (n : Int)) = 9 * (n : Int) := wrap_in _ (by omega) (by omega)
  have w92 : IntKind.i64.wrap (9 * (n : Int) + 2) = 9 * (n : Int) + 2 := wrap_in _ (by omega) (by omega)
  refine call (one6_pc f lpC) (by simp [lpC]) ?_
  simp [oneA6]
  refine calld (local6_pc n 0) (by simp) ?_
  simp [Lcl.av]
  refine calldC (run_pc (oneP6 f lpC) 0 ⟨[(n : Int), 0], false, 0, 0, 0⟩ 0 []) 2 (by simp [oneP6, Prg.av, Lcl.av, dco, elemR, coL, co1, ints]) ?_
  rw [hrun]
  by_cases hf : 9 * (n : Int) + 2 ≤ f
  · rw [if_pos hf]
    simp [Res.av, Lcl.av, w9, w92, show ¬ f < 9 * (n : Int) + 2 by omega]
    refine loopN (fun i S => S.t 7 = iv i ∧ S.t 0 = iv n ∧ S.t 4 = .bool false ∧ ∃ st, S.t 6 = .ptr 15006 st 7 0 0 ∧ S.blk 15006 = some ⟨st, 7, [.agg [ints [0, 0], .bool false, iv 0, iv n, iv 0, .lst 3 ((List.replicate n (⟨0, 0, []⟩ : Nt)).map Nt.av), iv (9 * (n : Int) + 2)]]⟩) n ?_ ?_
    · simp
    · rintro i S hi ⟨g0, g1, g2, st, g3, g4⟩
      by_cases hlt : i < n
      · have ws := wrap_succ i _ hlt (by omega)
        simp [vloops_l0, g0, g1, g2, g3, g4, hlt, ws]
      · have e1 : i = n := by omega
        subst e1
        simp [vloops_l0, g0, g1, g2, g3, g4, w9, w92]
        refine call (aints_pc [0, 0] [0, 0] (by simp)) (by simp) ?_
        simp [g0, g1, g2, g3, g4]
        refine call awake6_pc (by simp) ?_
        simp
  · rw [if_neg hf]
    simp [Res.av, Lcl.av, w9, w92, show f < 9 * (n : Int) + 2 by omega]
    refine call awake6_pc (by simp) ?_
    simp

end Go.Gv
