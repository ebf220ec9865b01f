/- Texts of this proof, one behind the other. What is proved, and on which conditions, stands ahead of each. -/
import Derived.Test.YthhgjncefjnogaaProg
import Derived.Test.YthhgjncefjnogaaM8a79871

/- The document's fixed examples of chapter 3. No condition. -/
set_option linter.unusedVariables false
set_option linter.unusedSimpArgs false
namespace Go.Gv
open Go.Proofs

def one_r0 : List AI := [⟨(some 0), none, (.op (.new 27000 4 (.agg [.nils, .nils, .nils, (.int .i64 0)])))⟩]
def one_r1 : List AI := [⟨(some 1), none, (.op (.build [(.int .i64 0), (.int .i64 0)] [(0, (1, (.c (.int .i64 7))))]))⟩, ⟨(some 2), none, (.op (.build [(.int .i64 0), (.int .i64 0)] [(0, (1, (.c (.int .i64 6))))]))⟩, ⟨(some 3), none, (.op (.bsl 27003 2 35 2 (.agg [(.int .i64 0), (.int .i64 0)]) [(0, (.t 1)), (1, (.t 2))]))⟩, ⟨(some 4), none, (.op (.build [(.int .i64 0), .nils] [(0, (1, (.c (.int .i64 1)))), (1, (1, (.t 3)))]))⟩, ⟨(some 5), none, (.op (.bsl 27005 2 33 1 (.agg [(.int .i64 0), .nils]) [(0, (.t 4))]))⟩, ⟨(some 6), none, (.op (.bsl 27006 1 3 1 (.int .i64 0) [(0, (.c (.int .i64 3)))]))⟩, ⟨(some 7), none, (.op (.build [.nils, (.int .i64 0), (.int .i64 0), (.bool false)] [(0, (1, (.t 6))), (1, (1, (.c (.int .i64 2)))), (2, (1, (.c (.int .i64 (-1)))))]))⟩, ⟨(some 8), none, (.op (.bsl 27008 4 38 1 (.agg [.nils, (.int .i64 0), (.int .i64 0), (.bool false)]) [(0, (.t 7))]))⟩, ⟨(some 9), none, (.op (.bsl 27009 1 3 1 (.int .i64 0) [(0, (.c (.int .i64 5)))]))⟩, ⟨(some 10), none, (.op (.build [(.int .i64 0), (.int .i64 0), .nils] [(2, (1, (.t 9)))]))⟩, ⟨(some 11), none, (.op (.bsl 27011 3 40 1 (.agg [(.int .i64 0), (.int .i64 0), .nils]) [(0, (.t 10))]))⟩, ⟨(some 12), none, (.op (.build [.nils, .nils, .nils, (.int .i64 0)] [(0, (1, (.t 5))), (1, (1, (.t 8))), (2, (1, (.t 11))), (3, (1, (.c (.int .i64 10))))]))⟩, ⟨none, none, (.op (.store 4 (.t 0) (.t 12)))⟩]
def one_c : AC := (.seq (.reg one_r0) (.seq (.reg one_r1) .ret))
def one_res : List ARes := [(.cell (some 4) 0)]
set_option maxRecDepth 100000 in
theorem one_get : getF Try.prog 29 27000 [] = some ("gavotte/gavottelaw3.one", 13, one_c, one_res) := by kernel_rfl
def awake_r0 : List AI := [⟨(some 0), none, (.op (.mv (.c (.bool false))))⟩]
def awake_r1 : List AI := [⟨(some 4), none, (.call (.c (.fn 29 [])) [])⟩, ⟨(some 1), none, (.op (.new 20001 4 (.agg [.nils, .nils, .nils, (.int .i64 0)])))⟩, ⟨none, none, (.op (.store 4 (.t 1) (.t 4)))⟩]
def awake_r2 : List AI := [⟨(some 5), none, (.op (.load (some 4) (.t 1)))⟩, ⟨(some 6), none, (.call (.c (.fn 26 [])) [(.t 5)])⟩, ⟨(some 2), none, (.op (.new 20002 4 (.agg [.nils, .nils, .nils, (.int .i64 0)])))⟩, ⟨none, none, (.op (.store 4 (.t 2) (.t 6)))⟩]
def awake_r3 : List AI := [⟨(some 7), none, (.call (.c (.fn 29 [])) [])⟩, ⟨(some 3), none, (.op (.new 20003 4 (.agg [.nils, .nils, .nils, (.int .i64 0)])))⟩, ⟨none, none, (.op (.store 4 (.t 3) (.t 7)))⟩]
def awake_r4 : List AI := [⟨(some 8), none, (.op (.fld 3 (.t 3)))⟩, ⟨none, none, (.op (.store 1 (.t 8) (.c (.int .i64 0))))⟩]
def awake_r5 : List AI := [⟨(some 9), none, (.op (.load (some 4) (.t 1)))⟩, ⟨(some 10), none, (.call (.c (.fn 31 [])) [(.t 9)])⟩, ⟨(some 11), none, (.op (.ibin .eql (.t 10) (.c (.int .i64 0))))⟩, ⟨(some 12), none, (.op (.mv (.t 11)))⟩, ⟨(some 13), (some (12, true)), (.op (.load (some 4) (.t 3)))⟩, ⟨(some 14), (some (12, true)), (.call (.c (.fn 31 [])) [(.t 13)])⟩, ⟨(some 15), (some (12, true)), (.op (.ibin .eql (.t 14) (.c (.int .i64 1))))⟩, ⟨(some 16), none, (.op (.pick (.t 12) (.t 15) (.c (.bool false))))⟩, ⟨(some 17), none, (.op (.mv (.t 16)))⟩, ⟨(some 18), (some (17, true)), (.op (.load (some 4) (.t 1)))⟩, ⟨(some 19), (some (17, true)), (.op (.load (some 4) (.t 2)))⟩, ⟨(some 20), (some (17, true)), (.call (.c (.fn 28 [])) [(.t 18), (.t 19)])⟩, ⟨(some 21), none, (.op (.pick (.t 17) (.t 20) (.c (.bool false))))⟩, ⟨(some 22), none, (.op (.mv (.t 21)))⟩, ⟨(some 23), (some (22, true)), (.op (.load (some 4) (.t 1)))⟩, ⟨(some 24), (some (22, true)), (.op (.load (some 4) (.t 3)))⟩, ⟨(some 25), (some (22, true)), (.call (.c (.fn 28 [])) [(.t 23), (.t 24)])⟩, ⟨(some 26), (some (22, true)), (.op (.not (.t 25)))⟩, ⟨(some 27), none, (.op (.pick (.t 22) (.t 26) (.c (.bool false))))⟩, ⟨(some 28), none, (.op (.mv (.t 27)))⟩, ⟨(some 29), (some (28, true)), (.op (.load (some 4) (.t 1)))⟩, ⟨(some 30), (some (28, true)), (.call (.c (.fn 60 [])) [(.t 29)])⟩, ⟨(some 31), (some (28, true)), (.op (.ibin .eql (.t 30) (.c (.int .i64 2))))⟩, ⟨(some 32), none, (.op (.pick (.t 28) (.t 31) (.c (.bool false))))⟩, ⟨(some 33), none, (.op (.mv (.t 32)))⟩, ⟨(some 34), (some (33, true)), (.op (.fld 2 (.t 1)))⟩, ⟨(some 35), (some (33, true)), (.op (.load none (.t 34)))⟩, ⟨(some 36), (some (33, true)), (.op (.idx 3 (.t 35) (.c (.int .i64 0))))⟩, ⟨(some 37), (some (33, true)), (.op (.load (some 3) (.t 36)))⟩, ⟨(some 38), (some (33, true)), (.op (.bsl 20038 1 3 1 (.int .i64 0) [(0, (.c (.int .i64 5)))]))⟩, ⟨(some 39), (some (33, true)), (.op (.build [(.int .i64 0), (.int .i64 0), .nils] [(2, (1, (.t 38)))]))⟩, ⟨(some 40), (some (33, true)), (.call (.c (.fn 61 [])) [(.t 37), (.t 39)])⟩, ⟨(some 41), none, (.op (.pick (.t 33) (.t 40) (.c (.bool false))))⟩, ⟨(some 42), none, (.op (.mv (.t 41)))⟩, ⟨(some 43), (some (42, true)), (.op (.fld 2 (.t 1)))⟩, ⟨(some 44), (some (42, true)), (.op (.load none (.t 43)))⟩, ⟨(some 45), (some (42, true)), (.op (.idx 3 (.t 44) (.c (.int .i64 0))))⟩, ⟨(some 46), (some (42, true)), (.op (.load (some 3) (.t 45)))⟩, ⟨(some 47), (some (42, true)), (.op (.build [(.int .i64 0), (.int .i64 0), .nils] []))⟩, ⟨(some 48), (some (42, true)), (.call (.c (.fn 61 [])) [(.t 46), (.t 47)])⟩, ⟨(some 49), (some (42, true)), (.op (.not (.t 48)))⟩, ⟨(some 50), none, (.op (.pick (.t 42) (.t 49) (.c (.bool false))))⟩, ⟨(some 51), none, (.op (.mv (.t 50)))⟩, ⟨(some 52), (some (51, true)), (.op (.build [.nils, .nils, .nils, (.int .i64 0)] []))⟩, ⟨(some 53), (some (51, true)), (.call (.c (.fn 31 [])) [(.t 52)])⟩, ⟨(some 54), (some (51, true)), (.op (.ibin .eql (.t 53) (.c (.int .i64 1))))⟩, ⟨(some 55), none, (.op (.pick (.t 51) (.t 54) (.c (.bool false))))⟩, ⟨(some 0), none, (.op (.mv (.t 55)))⟩]
def awake_c : AC := (.seq (.reg awake_r0) (.seq (.reg awake_r1) (.seq (.reg awake_r2) (.seq (.reg awake_r3) (.seq (.reg awake_r4) (.seq (.reg awake_r5) .ret))))))
def awake_res : List ARes := [(.tmp 0)]
set_option maxRecDepth 100000 in
theorem awake_get : getF Try.prog 25 20000 [] = some ("gavotte/gavottelaw3.awake", 56, awake_c, awake_res) := by kernel_rfl
attribute [simp] one_r0 one_r1 one_res awake_r0 awake_r1 awake_r2 awake_r3 awake_r4 awake_r5 awake_res

def oneP : Prg := ⟨[⟨1, [⟨7, 0⟩, ⟨6, 0⟩]⟩], [⟨[3], 2, -1, false⟩], [⟨0, 0, [5]⟩], 10⟩
def oneR : Prg := ⟨[⟨1, [⟨7, 0⟩, ⟨6, 0⟩]⟩], [⟨[3], 2, -1, false⟩], [⟨0, 0, [5]⟩], 0⟩
def noP : Prg := ⟨[], [], [], 0⟩
theorem one_pc : PC Try.prog 29 [] oneP.av := by
  refine pc_of_get one_get (by simp) _ (by simp) _ ?_
  unfold one_c
  simp [oneP]
theorem fitOne : fitP oneP := by simp [fitP, oneP]
theorem okOne : okP oneP := by simp [okP, oneP]
theorem awake_pc : PC Try.prog 25 [] (.bool true) := by
  refine pc_of_get awake_get (by simp) _ (by simp) _ ?_
  unfold awake_c
  simp
  refine call one_pc (by simp) ?_
  simp
  refine call (copy_pc oneP fitOne) (by simp) ?_
  simp
  refine call one_pc (by simp) ?_
  simp
  refine call (check_pc oneP) (by simp) ?_
  rw [show checkV oneP = 0 by decide]
  simp
  refine call (check_pc oneR) (by simp [oneP, oneR]) ?_
  rw [show checkV oneR = 1 by decide]
  simp
  refine call (same_pc oneP oneP okOne) (by simp) ?_
  simp
  refine call (same_pc oneP oneR okOne) (by simp [oneP, oneR]) ?_
  rw [show decide (oneP = oneR) = false by decide]
  simp
  refine call (size_pc oneP (by simp [oneP]) (by simp [oneP, sizeN])) (by simp) ?_
  rw [show sizeN oneP.hs = 2 by decide]
  simp [oneP]
  refine call (sameNote_pc ⟨0, 0, [5]⟩ ⟨0, 0, [5]⟩ (by simp)) (by simp) ?_
  simp
  refine call (sameNote_pc ⟨0, 0, [5]⟩ ⟨0, 0, []⟩ (by simp)) (by simp) ?_
  simp
  refine call (check_pc noP) (by simp [noP]) ?_
  rw [show checkV noP = 1 by decide]
  simp


end Go.Gv
