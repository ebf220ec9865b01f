/- Texts of this proof, one behind the other. What is proved, and on which conditions, stands ahead of each. -/
import Derived.Test.YthhgjncefjnogaaProg
import Derived.Test.YthhgjncefjnogaaM14ba58e4

/- The law VmStack answers true. No condition. -/
set_option linter.unusedVariables false
set_option linter.unusedSimpArgs false
namespace Go.Gv
open Go.Proofs

def vstack_r0 : List AI := [⟨(some 4), none, (.op (.mv (.c (.bool false))))⟩]
def vstack_r1 : List AI := [⟨(some 8), none, (.op (.mv (.t 0)))⟩, ⟨(some 9), none, (.op (.build [(.int .i64 0), (.int .i64 0)] [(0, (1, (.c (.int .i64 1)))), (1, (1, (.t 8)))]))⟩, ⟨(some 10), none, (.op (.mv (.t 1)))⟩, ⟨(some 11), none, (.op (.build [(.int .i64 0), (.int .i64 0)] [(0, (1, (.c (.int .i64 1)))), (1, (1, (.t 10)))]))⟩, ⟨(some 12), none, (.op (.build [(.int .i64 0), (.int .i64 0)] [(0, (1, (.c (.int .i64 4))))]))⟩, ⟨(some 13), none, (.op (.build [(.int .i64 0), (.int .i64 0)] [(0, (1, (.c (.int .i64 3))))]))⟩, ⟨(some 14), none, (.op (.build [(.int .i64 0), (.int .i64 0)] [(0, (1, (.c (.int .i64 2))))]))⟩, ⟨(some 15), none, (.op (.build [(.int .i64 0), (.int .i64 0)] [(0, (1, (.c (.int .i64 6))))]))⟩, ⟨(some 16), none, (.op (.build [(.int .i64 0), (.int .i64 0)] [(0, (1, (.c (.int .i64 6)))), (1, (1, (.c (.int .i64 1))))]))⟩, ⟨(some 17), none, (.op (.bsl 17017 2 35 7 (.agg [(.int .i64 0), (.int .i64 0)]) [(0, (.t 9)), (1, (.t 11)), (2, (.t 12)), (3, (.t 13)), (4, (.t 14)), (5, (.t 15)), (6, (.t 16))]))⟩, ⟨(some 18), none, (.call (.c (.fn 47 [])) [(.c (.int .i64 20)), (.t 17)])⟩, ⟨(some 5), none, (.op (.new 17005 4 (.agg [.nils, .nils, .nils, (.int .i64 0)])))⟩, ⟨none, none, (.op (.store 4 (.t 5) (.t 18)))⟩]
def vstack_r2 : List AI := [⟨(some 19), none, (.op (.load (some 4) (.t 5)))⟩, ⟨(some 20), none, (.call (.c (.fn 48 [])) [(.c (.int .i64 7)), (.c (.int .i64 8))])⟩, ⟨(some 21), none, (.call (.c (.fn 45 [])) [(.t 19), (.c (.int .i64 0)), (.t 20), (.c (.int .i64 0)), (.c .nils)])⟩, ⟨(some 6), none, (.op (.new 17006 7 (.agg [.nils, (.bool false), (.int .i64 0), (.int .i64 0), (.int .i64 0), .nils, (.int .i64 0)])))⟩, ⟨none, none, (.op (.store 7 (.t 6) (.t 21)))⟩]
def vstack_p2 : List (List Nat) := [[], [], [0, 1], [], [3, 2, 0, 1]]
def vstack_r3 : List AI := [⟨(some 22), none, (.op (.mv (.t 0)))⟩, ⟨(some 23), none, (.op (.build [(.int .i64 0), (.int .i64 0)] [(0, (1, (.c (.int .i64 1)))), (1, (1, (.t 22)))]))⟩, ⟨(some 24), none, (.op (.build [(.int .i64 0), (.int .i64 0)] [(0, (1, (.c (.int .i64 3))))]))⟩, ⟨(some 25), none, (.op (.build [(.int .i64 0), (.int .i64 0)] [(0, (1, (.c (.int .i64 10))))]))⟩, ⟨(some 26), none, (.op (.build [(.int .i64 0), (.int .i64 0)] [(0, (1, (.c (.int .i64 6))))]))⟩, ⟨(some 27), none, (.op (.bsl 17027 2 35 4 (.agg [(.int .i64 0), (.int .i64 0)]) [(0, (.t 23)), (1, (.t 24)), (2, (.t 25)), (3, (.t 26))]))⟩, ⟨(some 28), none, (.call (.c (.fn 47 [])) [(.c (.int .i64 20)), (.t 27)])⟩, ⟨(some 29), none, (.call (.c (.fn 48 [])) [(.c (.int .i64 7)), (.c (.int .i64 8))])⟩, ⟨(some 30), none, (.call (.c (.fn 45 [])) [(.t 28), (.c (.int .i64 0)), (.t 29), (.c (.int .i64 0)), (.c .nils)])⟩, ⟨(some 7), none, (.op (.new 17007 7 (.agg [.nils, (.bool false), (.int .i64 0), (.int .i64 0), (.int .i64 0), .nils, (.int .i64 0)])))⟩, ⟨none, none, (.op (.store 7 (.t 7) (.t 30)))⟩]
def vstack_r4 : List AI := [⟨(some 31), none, (.op (.fld 0 (.t 6)))⟩, ⟨(some 32), none, (.op (.fld 0 (.t 31)))⟩, ⟨(some 33), none, (.op (.load none (.t 32)))⟩, ⟨(some 34), none, (.op (.mv (.t 0)))⟩, ⟨(some 35), none, (.op (.mv (.t 1)))⟩, ⟨(some 36), none, (.op (.bsl 17036 1 3 2 (.int .i64 0) [(0, (.t 34)), (1, (.t 35))]))⟩, ⟨(some 37), none, (.call (.c (.fn 39 [])) [(.t 33), (.t 36)])⟩, ⟨(some 38), none, (.op (.mv (.t 37)))⟩, ⟨(some 39), (some (38, true)), (.op (.fld 6 (.t 6)))⟩, ⟨(some 40), (some (38, true)), (.op (.load none (.t 39)))⟩, ⟨(some 41), (some (38, true)), (.op (.ibin .eql (.t 40) (.c (.int .i64 7))))⟩, ⟨(some 42), none, (.op (.pick (.t 38) (.t 41) (.c (.bool false))))⟩, ⟨(some 43), none, (.op (.mv (.t 42)))⟩, ⟨(some 44), (some (43, true)), (.op (.fld 0 (.t 7)))⟩, ⟨(some 45), (some (43, true)), (.op (.fld 0 (.t 44)))⟩, ⟨(some 46), (some (43, true)), (.op (.load none (.t 45)))⟩, ⟨(some 47), (some (43, true)), (.op (.bsl 17047 1 3 2 (.int .i64 0) [(0, (.c (.int .i64 0))), (1, (.c (.int .i64 8)))]))⟩, ⟨(some 48), (some (43, true)), (.call (.c (.fn 39 [])) [(.t 46), (.t 47)])⟩, ⟨(some 49), none, (.op (.pick (.t 43) (.t 48) (.c (.bool false))))⟩, ⟨(some 50), none, (.op (.mv (.t 49)))⟩, ⟨(some 51), (some (50, true)), (.op (.fld 0 (.t 7)))⟩, ⟨(some 52), (some (50, true)), (.op (.fld 2 (.t 51)))⟩, ⟨(some 53), (some (50, true)), (.op (.load none (.t 52)))⟩, ⟨(some 54), (some (50, true)), (.op (.ibin .eql (.t 53) (.c (.int .i64 0))))⟩, ⟨(some 55), none, (.op (.pick (.t 50) (.t 54) (.c (.bool false))))⟩, ⟨(some 56), none, (.op (.mv (.t 55)))⟩, ⟨(some 57), (some (56, true)), (.call (.c (.fn 41 [])) [])⟩, ⟨(some 58), none, (.op (.pick (.t 56) (.t 57) (.c (.bool false))))⟩, ⟨(some 4), none, (.op (.mv (.t 58)))⟩]
def vstack_c : AC := (.seq (.reg vstack_r0) (.seq (.reg vstack_r1) (.seq (.regd vstack_r2 vstack_p2) (.seq (.reg vstack_r3) (.seq (.reg vstack_r4) .ret)))))
def vstack_res : List ARes := [(.tmp 4)]
set_option maxRecDepth 100000 in
theorem vstack_get : getF Try.prog 17 17000 [] = some ("gavotte/gavottelaw6.VmStack", 59, vstack_c, vstack_res) := by kernel_rfl
attribute [simp] vstack_r0 vstack_r1 vstack_r2 vstack_p2 vstack_r3 vstack_r4 vstack_res

def stkA (a b : Int) : List Ins := [⟨1, a⟩, ⟨1, b⟩, ⟨4, 0⟩, ⟨3, 0⟩, ⟨2, 0⟩, ⟨6, 0⟩, ⟨6, 1⟩]
def stkB (a : Int) : List Ins := [⟨1, a⟩, ⟨3, 0⟩, ⟨10, 0⟩, ⟨6, 0⟩]
theorem stkA_flow (a b : Int) : flowV (oneP6 1 (stkA a b)) = 0 := by rfl
theorem stkB_flow (a : Int) : flowV (oneP6 1 (stkB a)) = 0 := by rfl
theorem stkA_run (a b : Int) : runR (oneP6 20 (stkA a b)) 0 ⟨[7, 8], false, 0, 0, 0⟩ 0 [] = ⟨⟨[a, b], false, 0, 0, 0⟩, [], 7⟩ := by
  rw [run_one 20 (stkA a b) 0 _ (by omega) (by omega) (stkA_flow a b) (by omega) (by simp) rfl 8 (some ⟨7, [], [a, b], [], false⟩, 0, 7) (by rfl)]
  simp [goR]; rfl
theorem stkB_run (a : Int) : runR (oneP6 20 (stkB a)) 0 ⟨[7, 8], false, 0, 0, 0⟩ 0 [] = ⟨⟨[0, 8], false, 0, 0, 0⟩, [], 4⟩ := by
  have h : w64 (a - a) = 0 := by rw [Int.sub_self]; decide
  rw [run_one 20 (stkB a) 0 _ (by omega) (by omega) (stkB_flow a) (by omega) (by simp) rfl 8 (some ⟨4, [], [w64 (a - a), 8], [], false⟩, 0, 4) (by rfl)]
  rw [h]; simp [goR]; rfl
theorem vmStack_pc (a b : Int) : PC Try.prog 17 [iv a, iv b] (.bool true) := by
  refine pc_of_get vstack_get (by simp) _ (by simp) _ ?_
  unfold vstack_c
  simp
  refine call (one6_pc 20 (stkA a b)) (by simp [stkA]) ?_
  simp [oneA6]
  refine calld (local6_pc 7 8) (by simp) ?_
  simp [Lcl.av]
  refine calldC (run_pc (oneP6 20 (stkA a b)) 0 ⟨[7, 8], false, 0, 0, 0⟩ 0 []) 2 (by simp [oneP6, Prg.av, Lcl.av, dco, elemR, coL, co1, ints]) ?_
  rw [stkA_run]
  simp [Res.av, Lcl.av]
  refine call (one6_pc 20 (stkB a)) (by simp [stkB]) ?_
  simp [oneA6]
  refine call (local6_pc 7 8) (by simp) ?_
  simp [Lcl.av]
  refine callC (run_pc (oneP6 20 (stkB a)) 0 ⟨[7, 8], false, 0, 0, 0⟩ 0 []) 2 (by simp [oneP6, Prg.av, Lcl.av, dco, elemR, coL, co1, ints]) ?_
  rw [stkB_run]
  simp [Res.av, Lcl.av]
  refine call (aints_pc [a, b] [a, b] (by simp)) (by simp) ?_
  simp
  refine call (aints_pc [0, 8] [0, 8] (by simp)) (by simp) ?_
  simp
  refine call awake6_pc (by simp) ?_
  simp

end Go.Gv
