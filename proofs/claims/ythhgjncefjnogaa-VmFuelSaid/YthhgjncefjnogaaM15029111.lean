/- Texts of this proof, one behind the other. What is proved, and on which conditions, stands ahead of each. -/
import Derived.Test.YthhgjncefjnogaaProg
import Derived.Test.YthhgjncefjnogaaM14ba58e4

/- The law VmFuel answers true. No condition. -/
set_option linter.unusedVariables false
set_option linter.unusedSimpArgs false
namespace Go.Gv
open Go.Proofs

def vfuel_r0 : List AI := [⟨(some 6), none, (.op (.mv (.c (.bool false))))⟩]
def vfuel_r1 : List AI := [⟨(some 12), none, (.op (.mv (.t 0)))⟩, ⟨(some 13), none, (.op (.ibin .lss (.t 12) (.c (.int .i64 0))))⟩, ⟨(some 14), none, (.op (.mv (.t 13)))⟩, ⟨(some 15), (some (14, false)), (.op (.mv (.t 0)))⟩, ⟨(some 16), (some (14, false)), (.op (.ibin .gtr (.t 15) (.c (.int .i64 30))))⟩, ⟨(some 17), none, (.op (.pick (.t 14) (.c (.bool true)) (.t 16)))⟩, ⟨(some 18), none, (.op (.mv (.t 17)))⟩, ⟨(some 19), (some (18, false)), (.op (.mv (.t 1)))⟩, ⟨(some 20), (some (18, false)), (.op (.ibin .lss (.t 19) (.c (.int .i64 1))))⟩, ⟨(some 21), none, (.op (.pick (.t 18) (.c (.bool true)) (.t 20)))⟩, ⟨(some 22), none, (.op (.mv (.t 21)))⟩, ⟨(some 23), (some (22, false)), (.op (.mv (.t 1)))⟩, ⟨(some 24), (some (22, false)), (.op (.ibin .gtr (.t 23) (.c (.int .i64 256))))⟩, ⟨(some 25), none, (.op (.pick (.t 22) (.c (.bool true)) (.t 24)))⟩]
def vfuel_r2 : List AI := [⟨(some 26), none, (.call (.c (.fn 41 [])) [])⟩, ⟨(some 6), none, (.op (.mv (.t 26)))⟩]
def vfuel_r3 : List AI := [⟨(some 7), none, (.op (.mv (.c .nils)))⟩]
def vfuel_r4 : List AI := [⟨(some 8), none, (.op (.mv (.c (.int .i64 0))))⟩]
def vfuel_r5 : List AI := [⟨(some 27), none, (.op (.mv (.t 8)))⟩, ⟨(some 28), none, (.op (.mv (.t 0)))⟩, ⟨(some 29), none, (.op (.ibin .lss (.t 27) (.t 28)))⟩]
def vfuel_r6 : List AI := [⟨(some 32), none, (.op (.mv (.t 7)))⟩, ⟨(some 33), none, (.op (.build [(.int .i64 0), (.int .i64 0)] [(0, (1, (.c (.int .i64 5))))]))⟩, ⟨(some 34), none, (.op (.build [(.int .i64 0), (.int .i64 0)] [(0, (1, (.c (.int .i64 6)))), (1, (1, (.c (.int .i64 1))))]))⟩, ⟨(some 35), none, (.op (.bsl 14035 2 35 2 (.agg [(.int .i64 0), (.int .i64 0)]) [(0, (.t 33)), (1, (.t 34))]))⟩, ⟨(some 36), none, (.op (.app 14007 2 35 16 (.t 32) (.t 35)))⟩, ⟨(some 7), none, (.op (.mv (.t 36)))⟩]
def vfuel_r7 : List AI := [⟨(some 30), none, (.op (.mv (.t 8)))⟩, ⟨(some 31), none, (.op (.ibin .add (.t 30) (.c (.int .i64 1))))⟩, ⟨(some 8), none, (.op (.mv (.t 31)))⟩]
def vfuel_l0 : AC := (.seq (.seq (.reg vfuel_r5) (.cond (.t 29) .skip (.exit 0))) (.seq (.block 1 (.reg vfuel_r6)) (.reg vfuel_r7)))
def vfuel_r8 : List AI := [⟨(some 37), none, (.op (.mv (.t 7)))⟩, ⟨(some 38), none, (.op (.build [(.int .i64 0), (.int .i64 0)] [(0, (1, (.c (.int .i64 8))))]))⟩, ⟨(some 39), none, (.op (.build [(.int .i64 0), (.int .i64 0)] [(0, (1, (.c (.int .i64 22))))]))⟩, ⟨(some 40), none, (.op (.bsl 14040 2 35 2 (.agg [(.int .i64 0), (.int .i64 0)]) [(0, (.t 38)), (1, (.t 39))]))⟩, ⟨(some 41), none, (.op (.app 14041 2 35 16 (.t 37) (.t 40)))⟩, ⟨(some 7), none, (.op (.mv (.t 41)))⟩]
def vfuel_r9 : List AI := [⟨(some 42), none, (.op (.mv (.t 1)))⟩, ⟨(some 43), none, (.op (.mv (.t 7)))⟩, ⟨(some 44), none, (.call (.c (.fn 47 [])) [(.t 42), (.t 43)])⟩, ⟨(some 9), none, (.op (.new 14009 4 (.agg [.nils, .nils, .nils, (.int .i64 0)])))⟩, ⟨none, none, (.op (.store 4 (.t 9) (.t 44)))⟩]
def vfuel_r10 : List AI := [⟨(some 45), none, (.op (.load (some 4) (.t 9)))⟩, ⟨(some 46), none, (.op (.mv (.t 2)))⟩, ⟨(some 47), none, (.call (.c (.fn 48 [])) [(.t 46), (.c (.int .i64 5))])⟩, ⟨(some 48), none, (.call (.c (.fn 45 [])) [(.t 45), (.c (.int .i64 0)), (.t 47), (.c (.int .i64 0)), (.c .nils)])⟩, ⟨(some 10), none, (.op (.new 14010 7 (.agg [.nils, (.bool false), (.int .i64 0), (.int .i64 0), (.int .i64 0), .nils, (.int .i64 0)])))⟩, ⟨none, none, (.op (.store 7 (.t 10) (.t 48)))⟩]
def vfuel_p10 : List (List Nat) := [[], [], [1], [0, 2, 1], [], [4, 3, 0, 1, 2]]
def vfuel_r11 : List AI := [⟨(some 49), none, (.op (.mv (.t 1)))⟩, ⟨(some 50), none, (.op (.mv (.t 7)))⟩, ⟨(some 51), none, (.op (.len (.t 50)))⟩, ⟨(some 52), none, (.op (.ibin .lss (.t 49) (.t 51)))⟩]
def vfuel_r12 : List AI := [⟨(some 53), none, (.op (.fld 0 (.t 10)))⟩, ⟨(some 54), none, (.op (.fld 2 (.t 53)))⟩, ⟨(some 55), none, (.op (.load none (.t 54)))⟩, ⟨(some 56), none, (.op (.ibin .eql (.t 55) (.c (.int .i64 2))))⟩, ⟨(some 57), none, (.op (.mv (.t 56)))⟩, ⟨(some 58), (some (57, true)), (.op (.fld 6 (.t 10)))⟩, ⟨(some 59), (some (57, true)), (.op (.load none (.t 58)))⟩, ⟨(some 60), (some (57, true)), (.op (.mv (.t 1)))⟩, ⟨(some 61), (some (57, true)), (.op (.ibin .eql (.t 59) (.t 60)))⟩, ⟨(some 62), none, (.op (.pick (.t 57) (.t 61) (.c (.bool false))))⟩, ⟨(some 63), none, (.op (.mv (.t 62)))⟩, ⟨(some 64), (some (63, true)), (.op (.fld 5 (.t 10)))⟩, ⟨(some 65), (some (63, true)), (.op (.load none (.t 64)))⟩, ⟨(some 66), (some (63, true)), (.op (.len (.t 65)))⟩, ⟨(some 67), (some (63, true)), (.op (.ibin .eql (.t 66) (.c (.int .i64 0))))⟩, ⟨(some 68), none, (.op (.pick (.t 63) (.t 67) (.c (.bool false))))⟩, ⟨(some 69), none, (.op (.mv (.t 68)))⟩, ⟨(some 70), (some (69, true)), (.op (.fld 0 (.t 10)))⟩, ⟨(some 71), (some (69, true)), (.op (.fld 0 (.t 70)))⟩, ⟨(some 72), (some (69, true)), (.op (.load none (.t 71)))⟩, ⟨(some 73), (some (69, true)), (.op (.mv (.t 2)))⟩, ⟨(some 74), (some (69, true)), (.op (.bsl 14074 1 3 2 (.int .i64 0) [(0, (.t 73)), (1, (.c (.int .i64 5)))]))⟩, ⟨(some 75), (some (69, true)), (.call (.c (.fn 39 [])) [(.t 72), (.t 74)])⟩, ⟨(some 76), none, (.op (.pick (.t 69) (.t 75) (.c (.bool false))))⟩, ⟨(some 77), none, (.op (.mv (.t 76)))⟩, ⟨(some 78), (some (77, true)), (.op (.fld 0 (.t 10)))⟩, ⟨(some 79), (some (77, true)), (.op (.fld 3 (.t 78)))⟩, ⟨(some 80), (some (77, true)), (.op (.load none (.t 79)))⟩, ⟨(some 81), (some (77, true)), (.op (.ibin .eql (.t 80) (.c (.int .i64 0))))⟩, ⟨(some 82), none, (.op (.pick (.t 77) (.t 81) (.c (.bool false))))⟩, ⟨(some 83), none, (.op (.mv (.t 82)))⟩, ⟨(some 84), (some (83, true)), (.call (.c (.fn 41 [])) [])⟩, ⟨(some 85), none, (.op (.pick (.t 83) (.t 84) (.c (.bool false))))⟩, ⟨(some 6), none, (.op (.mv (.t 85)))⟩]
def vfuel_r13 : List AI := [⟨(some 11), none, (.op (.mv (.c (.int .i64 5))))⟩]
def vfuel_r14 : List AI := [⟨(some 86), none, (.op (.mv (.t 0)))⟩, ⟨(some 87), none, (.op (.ibin .gtr (.t 86) (.c (.int .i64 0))))⟩]
def vfuel_r15 : List AI := [⟨(some 88), none, (.op (.mv (.t 2)))⟩, ⟨(some 11), none, (.op (.mv (.t 88)))⟩]
def vfuel_r16 : List AI := [⟨(some 89), none, (.op (.fld 0 (.t 10)))⟩, ⟨(some 90), none, (.op (.fld 2 (.t 89)))⟩, ⟨(some 91), none, (.op (.load none (.t 90)))⟩, ⟨(some 92), none, (.op (.ibin .eql (.t 91) (.c (.int .i64 0))))⟩, ⟨(some 93), none, (.op (.mv (.t 92)))⟩, ⟨(some 94), (some (93, true)), (.op (.fld 6 (.t 10)))⟩, ⟨(some 95), (some (93, true)), (.op (.load none (.t 94)))⟩, ⟨(some 96), (some (93, true)), (.op (.mv (.t 7)))⟩, ⟨(some 97), (some (93, true)), (.op (.len (.t 96)))⟩, ⟨(some 98), (some (93, true)), (.op (.ibin .eql (.t 95) (.t 97)))⟩, ⟨(some 99), none, (.op (.pick (.t 93) (.t 98) (.c (.bool false))))⟩, ⟨(some 100), none, (.op (.mv (.t 99)))⟩, ⟨(some 101), (some (100, true)), (.op (.fld 5 (.t 10)))⟩, ⟨(some 102), (some (100, true)), (.op (.load none (.t 101)))⟩, ⟨(some 103), (some (100, true)), (.op (.len (.t 102)))⟩, ⟨(some 104), (some (100, true)), (.op (.ibin .eql (.t 103) (.c (.int .i64 1))))⟩, ⟨(some 105), none, (.op (.pick (.t 100) (.t 104) (.c (.bool false))))⟩, ⟨(some 106), none, (.op (.mv (.t 105)))⟩, ⟨(some 107), (some (106, true)), (.op (.fld 0 (.t 10)))⟩, ⟨(some 108), (some (106, true)), (.op (.fld 0 (.t 107)))⟩, ⟨(some 109), (some (106, true)), (.op (.load none (.t 108)))⟩, ⟨(some 110), (some (106, true)), (.op (.mv (.t 2)))⟩, ⟨(some 111), (some (106, true)), (.op (.mv (.t 11)))⟩, ⟨(some 112), (some (106, true)), (.op (.bsl 14112 1 3 2 (.int .i64 0) [(0, (.t 110)), (1, (.t 111))]))⟩, ⟨(some 113), (some (106, true)), (.call (.c (.fn 39 [])) [(.t 109), (.t 112)])⟩, ⟨(some 114), none, (.op (.pick (.t 106) (.t 113) (.c (.bool false))))⟩, ⟨(some 115), none, (.op (.mv (.t 114)))⟩, ⟨(some 116), (some (115, true)), (.op (.fld 0 (.t 10)))⟩, ⟨(some 117), (some (115, true)), (.op (.fld 3 (.t 116)))⟩, ⟨(some 118), (some (115, true)), (.op (.load none (.t 117)))⟩, ⟨(some 119), (some (115, true)), (.op (.ibin .eql (.t 118) (.c (.int .i64 1))))⟩, ⟨(some 120), none, (.op (.pick (.t 115) (.t 119) (.c (.bool false))))⟩, ⟨(some 121), none, (.op (.mv (.t 120)))⟩, ⟨(some 122), (some (121, true)), (.call (.c (.fn 41 [])) [])⟩, ⟨(some 123), none, (.op (.pick (.t 121) (.t 122) (.c (.bool false))))⟩, ⟨(some 6), none, (.op (.mv (.t 123)))⟩]
def vfuel_c : AC := (.seq (.reg vfuel_r0) (.seq (.seq (.reg vfuel_r1) (.cond (.t 25) (.seq (.reg vfuel_r2) .ret) .skip)) (.seq (.reg vfuel_r3) (.seq (.seq (.reg vfuel_r4) (.block 0 (.loop vfuel_l0))) (.seq (.reg vfuel_r8) (.seq (.reg vfuel_r9) (.seq (.regd vfuel_r10 vfuel_p10) (.seq (.seq (.reg vfuel_r11) (.cond (.t 52) (.seq (.reg vfuel_r12) .ret) .skip)) (.seq (.reg vfuel_r13) (.seq (.seq (.reg vfuel_r14) (.cond (.t 87) (.reg vfuel_r15) .skip)) (.seq (.reg vfuel_r16) .ret)))))))))))
def vfuel_res : List ARes := [(.tmp 6)]
set_option maxRecDepth 100000 in
theorem vfuel_get : getF Try.prog 14 14000 [(36, 7)] = some ("gavotte/gavottelaw6.VmFuel", 124, vfuel_c, vfuel_res) := by kernel_rfl
attribute [simp] vfuel_r0 vfuel_r1 vfuel_r2 vfuel_r3 vfuel_r4 vfuel_r5 vfuel_r6 vfuel_r7 vfuel_r8 vfuel_r9 vfuel_r10 vfuel_p10 vfuel_r11 vfuel_r12 vfuel_r13 vfuel_r14 vfuel_r15 vfuel_r16 vfuel_res

def fuR : Nat → List Ins
  | 0 => []
  | n + 1 => ⟨5, 0⟩ :: ⟨6, 1⟩ :: fuR n
theorem fuR_succ (n : Nat) : fuR (n + 1) = fuR n ++ [⟨5, 0⟩, ⟨6, 1⟩] := by
  induction n with
  | zero => rfl
  | succ n ih =>
    show (⟨5, 0⟩ : Ins) :: ⟨6, 1⟩ :: fuR (n + 1) = (⟨5, 0⟩ :: ⟨6, 1⟩ :: fuR n) ++ _
    rw [ih]; rfl
theorem fuR_len (n : Nat) : (fuR n).length = 2 * n := by
  induction n with
  | zero => rfl
  | succ n ih => simp [fuR, ih]; omega
theorem fuR_av (n : Nat) : (fuR (n + 1)).map Ins.av = (fuR n).map Ins.av ++ [.agg [iv 5, iv 0], .agg [iv 6, iv 1]] := by
  rw [fuR_succ, List.map_append]; rfl
def fuC (n : Nat) : List Ins := fuR n ++ [⟨8, 0⟩, ⟨22, 0⟩]
theorem fuC_len (n : Nat) : (fuC n).length = 2 * n + 2 := by simp [fuC, fuR_len]
set_option maxRecDepth 100000 in
theorem fu_flow : ∀ n : Fin 31, flowV (oneP6 1 (fuC n.val)) = 0 := by decide +kernel
theorem fu_run0 (c : List Ins) (x : Int) : ∀ (j : Nat) (pre : List Ins) (y s : Int), c = pre ++ (fuR j ++ [⟨8, 0⟩, ⟨22, 0⟩]) →
    runU (fxOf (oneP6 1 c) 0 ⟨[x, 5], false, 0, 0, 0⟩ []) c (2 * j + 3) ⟨pre.length, [], [x, y], [], false⟩ s = some (some ⟨c.length, [], [x, if j = 0 then y else x], [⟨0, 0, []⟩], false⟩, 0, s + 2 * j + 2) := by
  intro j
  induction j with
  | zero =>
    intro pre y s hc
    have g0 : c[pre.length]? = some ⟨8, 0⟩ := by rw [hc]; simp [fuR]
    have g1 : c[pre.length + 1]? = some ⟨22, 0⟩ := by rw [hc]; simp [fuR]
    have hl : c.length = pre.length + 2 := by rw [hc]; simp [fuR]
    rw [runU, if_pos ⟨by simp only; omega, by simp only; omega⟩]
    have hp : ((pre.length : Int)).toNat = pre.length := by omega
    simp only [hp, g0]
    have hd : doV (fxOf (oneP6 1 c) 0 ⟨[x, 5], false, 0, 0, 0⟩ []) ⟨8, 0⟩ ⟨pre.length, [], [x, y], [], false⟩ = (⟨(pre.length : Int) + 1, [0], [x, y], [], false⟩, 0) := rfl
    rw [hd]
    simp only
    rw [if_neg (by simp), runU, if_pos ⟨by simp only; omega, by simp only; omega⟩]
    have hp1 : ((pre.length : Int) + 1).toNat = pre.length + 1 := by omega
    simp only [hp1, g1]
    have hd1 : doV (fxOf (oneP6 1 c) 0 ⟨[x, 5], false, 0, 0, 0⟩ []) ⟨22, 0⟩ ⟨(pre.length : Int) + 1, [0], [x, y], [], false⟩ = (⟨(pre.length : Int) + 1 + 1, [], [x, y], [⟨0, 0, []⟩], false⟩, 0) := rfl
    rw [hd1]
    simp only
    rw [if_neg (by simp), runU, if_neg (by simp only; omega), show (pre.length : Int) + 1 + 1 = (c.length : Int) by omega, show s + 1 + 1 = s + 2 * ((0 : Nat) : Int) + 2 by omega]
    rfl
  | succ j ih =>
    intro pre y s hc
    have g0 : c[pre.length]? = some ⟨5, 0⟩ := by rw [hc]; simp [fuR]
    have g1 : c[pre.length + 1]? = some ⟨6, 1⟩ := by rw [hc]; simp [fuR]
    have hl : pre.length + 1 < c.length := (List.getElem?_eq_some_iff.1 g1).1
    rw [show 2 * (j + 1) + 3 = 2 * j + 3 + 1 + 1 by omega, runU, if_pos ⟨by simp only; omega, by simp only; omega⟩]
    have hp : ((pre.length : Int)).toNat = pre.length := by omega
    simp only [hp, g0]
    have hd : doV (fxOf (oneP6 1 c) 0 ⟨[x, 5], false, 0, 0, 0⟩ []) ⟨5, 0⟩ ⟨pre.length, [], [x, y], [], false⟩ = (⟨(pre.length : Int) + 1, [x], [x, y], [], false⟩, 0) := rfl
    rw [hd]
    simp only
    rw [if_neg (by simp), runU, if_pos ⟨by simp only; omega, by simp only; omega⟩]
    have hp1 : ((pre.length : Int) + 1).toNat = pre.length + 1 := by omega
    simp only [hp1, g1]
    have hd1 : doV (fxOf (oneP6 1 c) 0 ⟨[x, 5], false, 0, 0, 0⟩ []) ⟨6, 1⟩ ⟨(pre.length : Int) + 1, [x], [x, y], [], false⟩ = (⟨(pre.length : Int) + 1 + 1, [], [x, x], [], false⟩, 0) := rfl
    rw [hd1]
    simp only
    rw [if_neg (by simp)]
    have := ih (pre ++ [⟨5, 0⟩, ⟨6, 1⟩]) x (s + 1 + 1) (by rw [hc]; simp [fuR])
    rw [show (((pre ++ [(⟨5, 0⟩ : Ins), ⟨6, 1⟩]).length : Nat) : Int) = (pre.length : Int) + 1 + 1 by simp; omega] at this
    rw [this, show s + 1 + 1 + 2 * (j : Int) + 2 = s + 2 * ((j + 1 : Nat) : Int) + 2 by omega]
    simp
theorem fu_run (n : Nat) (hn : n ≤ 30) (f x : Int) (h1 : 1 ≤ f) (h2 : f ≤ 256) : runR (oneP6 f (fuC n)) 0 ⟨[x, 5], false, 0, 0, 0⟩ 0 [] =
    if f < 2 * (n : Int) + 2 then ⟨⟨[x, 5], false, 2, 0, 0⟩, [], f⟩ else ⟨⟨[x, if n = 0 then 5 else x], false, 0, 1, 0⟩, [⟨0, 0, []⟩], 2 * (n : Int) + 2⟩ := by
  have h := fu_run0 (fuC n) x n [] 5 0 rfl
  rw [run_one f (fuC n) 0 ⟨[x, 5], false, 0, 0, 0⟩ h1 h2 (fu_flow ⟨n, by omega⟩) (by omega) (by simp) rfl _ _ h]
  simp only
  by_cases hf : f < 2 * (n : Int) + 2
  · rw [if_pos hf, if_neg (by omega)]
    simp [goR]
  · rw [if_neg hf, if_pos (by omega)]
    simp [goR]; rfl
theorem vmFuel_pc (n f x : Int) : PC Try.prog 14 [iv n, iv f, iv x] (.bool true) := by
  refine pc_of_get vfuel_get (by simp) _ (by simp) _ ?_
  unfold vfuel_c
  simp
  by_cases h1 : n < 0
  · simp [h1]; refine call awake6_pc (by simp) ?_; simp
  by_cases h2 : 30 < n
  · simp [h1, h2]; refine call awake6_pc (by simp) ?_; simp
  by_cases h3 : f < 1
  · simp [h1, h2, h3]; refine call awake6_pc (by simp) ?_; simp
  by_cases h4 : 256 < f
  · simp [h1, h2, h3, h4]; refine call awake6_pc (by simp) ?_; simp
  simp [h1, h2, h3, h4]
  obtain ⟨n, rfl⟩ := Int.eq_ofNat_of_zero_le (show 0 ≤ n by omega)
  have hn : n ≤ 30 := by omega
  refine loopN (fun i S => S.t 8 = iv i ∧ S.t 0 = iv n ∧ S.t 1 = iv f ∧ S.t 2 = iv x ∧ AccIs S (S.t 7) 14007 2 35 ((fuR i).map Ins.av)) n ?_ ?_
  · simp [AccIs, fuR]
  · rintro i S hi ⟨g0, g1, g2, g3, hv⟩
    have e := fuR_av i
    have hml : ((fuR i).map Ins.av).length = 2 * i := by simp [fuR_len]
    by_cases hlt : i < n
    · have ws := wrap_succ i _ hlt (by omega)
      have z : (2 * i + 2) * 16 ≤ 140737488355328 := by omega
      generalize (fuR i).map Ins.av = C at *
      generalize (fuR (i + 1)).map Ins.av = C' at *
      rcases hv with ⟨q1, q2⟩ | ⟨st, q1, q2⟩
      · simp [vfuel_l0, g0, g1, g2, g3, hlt, ws, q1]
        simp [AccIs, e, q2]
      · simp [vfuel_l0, g0, g1, g2, g3, hlt, ws, q1, q2, hml, z]
        simp [AccIs, e]
    · have e1 : i = n := by omega
      subst e1
      have hrun := fu_run i hn f x (by omega) (by omega)
      have hc : (fuC i).map Ins.av = (fuR i).map Ins.av ++ [.agg [iv 8, iv 0], .agg [iv 22, iv 0]] := by
        unfold fuC; rw [List.map_append]; rfl
      have hcl := fuC_len i
      have z : (2 * i + 2) * 16 ≤ 140737488355328 := by omega
      have hco : coL (elemR (dco (fun _ => none) 2)) ([.agg [.lst 2 [.agg [iv 0, .lst 2 ((fuC i).map Ins.av)]], .lst 4 [.agg [ints [0, 0], iv 0, iv 0, .bool false], .agg [.nils, iv 0, iv (-1), .bool false]], .nils, iv f]] ++ []) [(oneP6 f (fuC i)).av] := by
        simp [oneP6, Prg.av, Lcl.av, dco, elemR, coL, co1, ints]
      have hcall : PC Try.prog 47 [iv f, .lst 2 ((fuR i).map Ins.av ++ [.agg [iv 8, iv 0], .agg [iv 22, iv 0]])] (oneA6 f (fuC i)) := by
        rw [← hc]; exact one6_pc f (fuC i)
      generalize hG : (fuR i).map Ins.av = C at *
      rcases hv with ⟨q1, q2⟩ | ⟨st, q1, q2⟩
      · have h0 : i = 0 := by rw [q2] at hml; simp at hml; omega
        subst h0
        subst q2
        simp [vfuel_l0, g0, g1, g2, g3, q1]
        refine call hcall (by simp) ?_
        simp [oneA6, g0, g1, g2, g3]
        refine calld (local6_pc x 5) (by simp) ?_
        simp [Lcl.av]
        refine calldC (run_pc (oneP6 f (fuC 0)) 0 ⟨[x, 5], false, 0, 0, 0⟩ 0 []) 2 (by simp [oneP6, Prg.av, Lcl.av, dco, elemR, coL, co1, ints]) ?_
        rw [hrun]
        by_cases hf : f < 2 * ((0 : Nat) : Int) + 2
        · rw [if_pos hf]
          simp [Res.av, Lcl.av, g0, g1, g2, g3, hf, show f < 2 by omega]
          refine call (aints_pc [x, 5] [x, 5] (by simp)) (by simp) ?_
          simp
          refine call awake6_pc (by simp) ?_
          simp
        · rw [if_neg hf]
          simp [Res.av, Lcl.av, g0, g1, g2, g3, hf, show ¬ f < 2 by omega]
          refine call (aints_pc [x, 5] [x, 5] (by simp)) (by simp) ?_
          simp
          refine call awake6_pc (by simp) ?_
          simp
      · simp [vfuel_l0, g0, g1, g2, g3, q1, q2, hml, z]
        refine call hcall (by simp) ?_
        simp [oneA6, g0, g1, g2, g3]
        refine calld (local6_pc x 5) (by simp) ?_
        simp [Lcl.av]
        refine calldC (run_pc (oneP6 f (fuC i)) 0 ⟨[x, 5], false, 0, 0, 0⟩ 0 []) 2 (by simp [oneP6, Prg.av, Lcl.av, dco, elemR, coL, co1, ints]) ?_
        rw [hrun]
        by_cases hf : f < 2 * (i : Int) + 2
        · rw [if_pos hf]
          simp [Res.av, Lcl.av, g0, g1, g2, g3, hf, q2, hml, z]
          refine call (aints_pc [x, 5] [x, 5] (by simp)) (by simp) ?_
          simp
          refine call awake6_pc (by simp) ?_
          simp
        · rw [if_neg hf]
          by_cases h0 : i = 0
          · subst h0
            simp [Res.av, Lcl.av, g0, g1, g2, g3, hf, q2, hml, z, show ¬ f < 2 by omega]
            refine call (aints_pc [x, 5] [x, 5] (by simp)) (by simp) ?_
            simp
            refine call awake6_pc (by simp) ?_
            simp
          · simp [Res.av, Lcl.av, g0, g1, g2, g3, hf, h0, q2, hml, z, show 0 < i by omega]
            refine call (aints_pc [x, x] [x, x] (by simp)) (by simp) ?_
            simp
            refine call awake6_pc (by simp) ?_
            simp

end Go.Gv
