/- The law ProgTells answers true, for all programs. No condition. -/
import Derived.Test.YthlipofajdaijaaProg
import Derived.Test.YthlipofajdaijaaVg
set_option linter.unusedVariables false
set_option linter.unusedSimpArgs false
namespace Go.Gv
open Go.Proofs

def ptells_r0 : List AI := [⟨(some 2), none, (.op (.box 7002 4 (.t 0)))⟩, ⟨(some 3), none, (.op (.box 7003 4 (.t 1)))⟩, ⟨(some 4), none, (.op (.mv (.c (.bool false))))⟩]
def ptells_r1 : List AI := [⟨(some 7), none, (.op (.load (some 4) (.t 2)))⟩, ⟨(some 8), none, (.call (.c (.fn 19 [])) [(.t 7)])⟩, ⟨(some 9), none, (.op (.not (.t 8)))⟩, ⟨(some 10), none, (.op (.mv (.t 9)))⟩, ⟨(some 11), (some (10, false)), (.op (.load (some 4) (.t 3)))⟩, ⟨(some 12), (some (10, false)), (.call (.c (.fn 19 [])) [(.t 11)])⟩, ⟨(some 13), (some (10, false)), (.op (.not (.t 12)))⟩, ⟨(some 14), none, (.op (.pick (.t 10) (.c (.bool true)) (.t 13)))⟩]
def ptells_r2 : List AI := [⟨(some 15), none, (.call (.c (.fn 20 [])) [])⟩, ⟨(some 4), none, (.op (.mv (.t 15)))⟩]
def ptells_r3 : List AI := [⟨(some 5), none, (.op (.mv (.c (.int .i64 0))))⟩]
def ptells_r4 : List AI := [⟨(some 6), none, (.op (.mv (.c (.int .i64 0))))⟩]
def ptells_r5 : List AI := [⟨(some 16), none, (.op (.mv (.t 6)))⟩, ⟨(some 17), none, (.op (.fld 0 (.t 2)))⟩, ⟨(some 18), none, (.op (.load none (.t 17)))⟩, ⟨(some 19), none, (.op (.len (.t 18)))⟩, ⟨(some 20), none, (.op (.ibin .lss (.t 16) (.t 19)))⟩]
def ptells_r6 : List AI := [⟨(some 23), none, (.op (.mv (.t 5)))⟩, ⟨(some 24), none, (.op (.fld 0 (.t 2)))⟩, ⟨(some 25), none, (.op (.load none (.t 24)))⟩, ⟨(some 26), none, (.op (.mv (.t 6)))⟩, ⟨(some 27), none, (.op (.idx 2 (.t 25) (.t 26)))⟩, ⟨(some 28), none, (.op (.fld 1 (.t 27)))⟩, ⟨(some 29), none, (.op (.load none (.t 28)))⟩, ⟨(some 30), none, (.op (.len (.t 29)))⟩, ⟨(some 31), none, (.op (.ibin .add (.t 23) (.t 30)))⟩, ⟨(some 5), none, (.op (.mv (.t 31)))⟩]
def ptells_r7 : List AI := [⟨(some 21), none, (.op (.mv (.t 6)))⟩, ⟨(some 22), none, (.op (.ibin .add (.t 21) (.c (.int .i64 1))))⟩, ⟨(some 6), none, (.op (.mv (.t 22)))⟩]
def ptells_l0 : AC := (.seq (.seq (.reg ptells_r5) (.cond (.t 20) .skip (.exit 0))) (.seq (.block 1 (.reg ptells_r6)) (.reg ptells_r7)))
def ptells_r8 : List AI := [⟨(some 32), none, (.op (.load (some 4) (.t 2)))⟩, ⟨(some 33), none, (.call (.c (.fn 21 [])) [(.t 32)])⟩, ⟨(some 34), none, (.op (.load (some 4) (.t 2)))⟩, ⟨(some 35), none, (.call (.c (.fn 22 [])) [(.t 34)])⟩, ⟨(some 36), none, (.op (.ibin .eql (.t 33) (.t 35)))⟩, ⟨(some 37), none, (.op (.mv (.t 36)))⟩, ⟨(some 38), (some (37, true)), (.op (.load (some 4) (.t 2)))⟩, ⟨(some 39), (some (37, true)), (.op (.load (some 4) (.t 3)))⟩, ⟨(some 40), (some (37, true)), (.call (.c (.fn 23 [])) [(.t 38), (.t 39)])⟩, ⟨(some 41), (some (37, true)), (.op (.load (some 4) (.t 2)))⟩, ⟨(some 42), (some (37, true)), (.op (.load (some 4) (.t 3)))⟩, ⟨(some 43), (some (37, true)), (.call (.c (.fn 24 [])) [(.t 41), (.t 42)])⟩, ⟨(some 44), (some (37, true)), (.op (.eqv false (.t 40) (.t 43)))⟩, ⟨(some 45), none, (.op (.pick (.t 37) (.t 44) (.c (.bool false))))⟩, ⟨(some 46), none, (.op (.mv (.t 45)))⟩, ⟨(some 47), (some (46, true)), (.op (.load (some 4) (.t 2)))⟩, ⟨(some 48), (some (46, true)), (.op (.load (some 4) (.t 2)))⟩, ⟨(some 49), (some (46, true)), (.call (.c (.fn 23 [])) [(.t 47), (.t 48)])⟩, ⟨(some 50), none, (.op (.pick (.t 46) (.t 49) (.c (.bool false))))⟩, ⟨(some 51), none, (.op (.mv (.t 50)))⟩, ⟨(some 52), (some (51, true)), (.op (.load (some 4) (.t 2)))⟩, ⟨(some 53), (some (51, true)), (.call (.c (.fn 25 [])) [(.t 52)])⟩, ⟨(some 54), (some (51, true)), (.op (.mv (.t 5)))⟩, ⟨(some 55), (some (51, true)), (.op (.ibin .eql (.t 53) (.t 54)))⟩, ⟨(some 56), none, (.op (.pick (.t 51) (.t 55) (.c (.bool false))))⟩, ⟨(some 57), none, (.op (.mv (.t 56)))⟩, ⟨(some 58), (some (57, true)), (.call (.c (.fn 20 [])) [])⟩, ⟨(some 59), none, (.op (.pick (.t 57) (.t 58) (.c (.bool false))))⟩, ⟨(some 4), none, (.op (.mv (.t 59)))⟩]
def ptells_p8 : List (List Nat) := [[], [0], [], [2, 1, 0], [1, 3, 0, 2], [4, 3, 1, 0, 2], [5, 4, 3, 1, 0, 2], [5, 4, 3, 1, 0, 2], [6, 7, 5, 4, 3, 1, 0, 2], [5, 4, 3, 1, 0, 2], [5, 4, 3, 1, 0, 2], [9, 10, 8, 5, 4, 3, 1, 0, 2, 6, 7], [8, 11, 5, 6, 7, 4, 3, 1, 0, 2, 9, 10], [5, 12, 4, 3, 1, 0, 2, 8, 11, 6, 7, 9, 10], [13, 11, 5, 12, 4, 3, 1, 0, 2, 8, 6, 7, 9, 10], [14, 13, 11, 5, 12, 4, 3, 1, 0, 2, 8, 6, 7, 9, 10], [14, 13, 11, 5, 12, 4, 3, 1, 0, 2, 8, 6, 7, 9, 10], [15, 16, 14, 13, 11, 5, 12, 4, 3, 1, 0, 2, 8, 6, 7, 9, 10], [14, 17, 13, 11, 5, 12, 4, 3, 1, 0, 2, 8, 6, 7, 9, 10, 15, 16], [18, 17, 14, 13, 11, 5, 12, 4, 3, 1, 0, 2, 8, 6, 7, 9, 10, 15, 16], [19, 18, 17, 14, 13, 11, 5, 12, 4, 3, 1, 0, 2, 8, 6, 7, 9, 10, 15, 16], [20, 19, 18, 17, 14, 13, 11, 5, 12, 4, 3, 1, 0, 2, 8, 6, 7, 9, 10, 15, 16], [19, 18, 17, 14, 13, 11, 5, 12, 4, 3, 1, 0, 2, 8, 6, 7, 9, 10, 15, 16], [21, 22, 19, 20, 18, 17, 14, 13, 11, 5, 12, 4, 3, 1, 0, 2, 8, 6, 7, 9, 10, 15, 16], [19, 23, 18, 17, 14, 13, 11, 5, 12, 4, 3, 1, 0, 2, 8, 6, 7, 9, 10, 15, 16, 21, 22, 20], [24, 21, 19, 23, 18, 17, 14, 13, 11, 5, 12, 4, 3, 1, 0, 2, 8, 6, 7, 9, 10, 15, 16, 22, 20], [25, 24, 21, 19, 23, 18, 17, 14, 13, 11, 5, 12, 4, 3, 1, 0, 2, 8, 6, 7, 9, 10, 15, 16, 22, 20], [25, 26, 24, 21, 19, 23, 18, 17, 14, 13, 11, 5, 12, 4, 3, 1, 0, 2, 8, 6, 7, 9, 10, 15, 16, 22, 20], [27, 26, 0, 1, 2, 3, 4, 5, 6, 7, 8, 9, 10, 11, 12, 13, 14, 15, 16, 17, 18, 19, 20, 21, 22, 23, 24, 25]]
def ptells_c : AC := (.seq (.reg ptells_r0) (.seq (.seq (.reg ptells_r1) (.cond (.t 14) (.seq (.reg ptells_r2) .ret) .skip)) (.seq (.reg ptells_r3) (.seq (.seq (.reg ptells_r4) (.block 0 (.loop ptells_l0))) (.seq (.regd ptells_r8 ptells_p8) .ret)))))
def ptells_res : List ARes := [(.tmp 4)]
theorem ptells_get : getF Try.prog 7 7000 [] = some ("gavotte/gavottelaw3.ProgTells", 60, ptells_c, ptells_res) := by kernel_rfl
attribute [simp] ptells_r0 ptells_r1 ptells_r2 ptells_r3 ptells_r4 ptells_r5 ptells_r6 ptells_r7 ptells_r8 ptells_p8 ptells_res

theorem sizeN_small (l : List Hnd) (h : ∀ x ∈ l, x.code.length ≤ 70) : sizeN l ≤ 70 * l.length := by
  induction l with
  | nil => simp [sizeN]
  | cons a l ih =>
    have h1 := h a (by simp)
    have h2 := ih (fun x hx => h x (by simp [hx]))
    simp only [sizeN, List.length_cons]; omega
theorem progTells_pc (p q : Prg) : PC Try.prog 7 [p.av, q.av] (.bool true) := by
  refine pc_of_get ptells_get (by simp) _ (by simp) _ ?_
  unfold ptells_c
  simp
  refine call (small_pc p) (by simp) ?_
  simp
  by_cases h1 : smallV p
  rotate_left
  · simp [h1]
    refine call awake_pc (by simp) ?_
    simp
  simp [h1]
  refine call (small_pc q) (by simp) ?_
  simp
  by_cases h2 : smallV q
  rotate_left
  · simp [h2]
    refine call awake_pc (by simp) ?_
    simp
  simp [h2]
  have hp := okP_of_small p h1
  have hsz := sizeN_small p.hs h1.2.2.2.1
  have hl := h1.1
  refine loopN (fun i S => S.t 6 = iv i ∧ S.t 5 = iv (sizeN (p.hs.take i)) ∧ (∃ st, S.t 2 = .ptr 7002 st 4 0 0 ∧ S.blk 7002 = some ⟨st, 4, [p.av]⟩) ∧ (∃ st, S.t 3 = .ptr 7003 st 4 0 0 ∧ S.blk 7003 = some ⟨st, 4, [q.av]⟩)) p.hs.length ?_ ?_
  · simp [sizeN]
  · rintro i S hi ⟨g1, g2, ⟨st, g3, g4⟩, ⟨st', g5, g6⟩⟩
    by_cases hlt : i < p.hs.length
    · simp [ptells_l0, g1, g2, g3, g4, g5, g6, hlt, wrap_succ i _ hlt (by omega)]
      have := sizeN_take p.hs i hlt
      have := sizeN_le p.hs (i + 1)
      rw [wrap_in _ (by omega) (by omega)]
      omega
    · have e1 : i = p.hs.length := by omega
      subst e1
      rw [List.take_length] at g2
      simp [ptells_l0, g1, g2, g3, g4, g5, g6]
      refine calld (check_pc p) (by simp) ?_
      simp [g1, g2, g3, g4, g5, g6]
      refine calld (rcheck_pc p) (by simp) ?_
      simp [g1, g2, g3, g4, g5, g6]
      refine calld (same_pc p q hp) (by simp) ?_
      simp [g1, g2, g3, g4, g5, g6]
      refine calld (rsame_pc p q hp) (by simp) ?_
      simp [g1, g2, g3, g4, g5, g6]
      refine calld (same_pc p p hp) (by simp) ?_
      simp [g1, g2, g3, g4, g5, g6]
      refine calld (size_pc p (by omega) (by omega)) (by simp) ?_
      simp [g1, g2, g3, g4, g5, g6]
      refine calld awake_pc (by simp) ?_
      simp

end Go.Gv
