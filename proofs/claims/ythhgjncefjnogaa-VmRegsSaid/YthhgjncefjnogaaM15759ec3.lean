/- Texts of this proof, one behind the other. What is proved, and on which conditions, stands ahead of each. -/
import Derived.Test.YthhgjncefjnogaaProg
import Derived.Test.YthhgjncefjnogaaM14ba58e4

/- The law VmRegs answers true. No condition. -/
set_option linter.unusedVariables false
set_option linter.unusedSimpArgs false
namespace Go.Gv
open Go.Proofs

def vregs_r0 : List AI := [⟨(some 6), none, (.op (.mv (.c (.bool false))))⟩]
def vregs_r1 : List AI := [⟨(some 12), none, (.op (.mv (.t 0)))⟩, ⟨(some 13), none, (.op (.ibin .lss (.t 12) (.c (.int .i64 0))))⟩, ⟨(some 14), none, (.op (.mv (.t 13)))⟩, ⟨(some 15), (some (14, false)), (.op (.mv (.t 0)))⟩, ⟨(some 16), (some (14, false)), (.op (.ibin .gtr (.t 15) (.c (.int .i64 8))))⟩, ⟨(some 17), none, (.op (.pick (.t 14) (.c (.bool true)) (.t 16)))⟩, ⟨(some 18), none, (.op (.mv (.t 17)))⟩, ⟨(some 19), (some (18, false)), (.op (.mv (.t 1)))⟩, ⟨(some 20), (some (18, false)), (.op (.ibin .lss (.t 19) (.c (.int .i64 0))))⟩, ⟨(some 21), none, (.op (.pick (.t 18) (.c (.bool true)) (.t 20)))⟩, ⟨(some 22), none, (.op (.mv (.t 21)))⟩, ⟨(some 23), (some (22, false)), (.op (.mv (.t 1)))⟩, ⟨(some 24), (some (22, false)), (.op (.ibin .gtr (.t 23) (.c (.int .i64 7))))⟩, ⟨(some 25), none, (.op (.pick (.t 22) (.c (.bool true)) (.t 24)))⟩]
def vregs_r2 : List AI := [⟨(some 26), none, (.call (.c (.fn 41 [])) [])⟩, ⟨(some 6), none, (.op (.mv (.t 26)))⟩]
def vregs_r3 : List AI := [⟨(some 7), none, (.op (.mv (.c .nils)))⟩, ⟨(some 8), none, (.op (.mv (.c .nils)))⟩]
def vregs_r4 : List AI := [⟨(some 9), none, (.op (.mv (.c (.int .i64 0))))⟩]
def vregs_r5 : List AI := [⟨(some 27), none, (.op (.mv (.t 9)))⟩, ⟨(some 28), none, (.op (.mv (.t 0)))⟩, ⟨(some 29), none, (.op (.ibin .lss (.t 27) (.t 28)))⟩]
def vregs_r6 : List AI := [⟨(some 32), none, (.op (.mv (.t 7)))⟩, ⟨(some 33), none, (.op (.mv (.t 9)))⟩, ⟨(some 34), none, (.op (.ibin .add (.c (.int .i64 10)) (.t 33)))⟩, ⟨(some 35), none, (.op (.bsl 20035 1 3 1 (.int .i64 0) [(0, (.t 34))]))⟩, ⟨(some 36), none, (.op (.app 20007 1 3 8 (.t 32) (.t 35)))⟩, ⟨(some 7), none, (.op (.mv (.t 36)))⟩]
def vregs_r7 : List AI := [⟨(some 37), none, (.op (.mv (.t 8)))⟩, ⟨(some 38), none, (.op (.mv (.t 9)))⟩, ⟨(some 39), none, (.op (.ibin .add (.c (.int .i64 10)) (.t 38)))⟩, ⟨(some 40), none, (.op (.bsl 20040 1 3 1 (.int .i64 0) [(0, (.t 39))]))⟩, ⟨(some 41), none, (.op (.appw 1000020008 1 3 8 (.t 37) (.t 40)))⟩, ⟨(some 8), none, (.op (.mv (.t 41)))⟩]
def vregs_r8 : List AI := [⟨(some 30), none, (.op (.mv (.t 9)))⟩, ⟨(some 31), none, (.op (.ibin .add (.t 30) (.c (.int .i64 1))))⟩, ⟨(some 9), none, (.op (.mv (.t 31)))⟩]
def vregs_l0 : AC := (.seq (.seq (.reg vregs_r5) (.cond (.t 29) .skip (.exit 0))) (.seq (.block 1 (.seq (.reg vregs_r6) (.reg vregs_r7))) (.reg vregs_r8)))
def vregs_r9 : List AI := [⟨(some 42), none, (.op (.mv (.t 1)))⟩, ⟨(some 43), none, (.op (.build [(.int .i64 0), (.int .i64 0)] [(0, (1, (.c (.int .i64 5)))), (1, (1, (.t 42)))]))⟩, ⟨(some 44), none, (.op (.mv (.t 2)))⟩, ⟨(some 45), none, (.op (.build [(.int .i64 0), (.int .i64 0)] [(0, (1, (.c (.int .i64 1)))), (1, (1, (.t 44)))]))⟩, ⟨(some 46), none, (.op (.build [(.int .i64 0), (.int .i64 0)] [(0, (1, (.c (.int .i64 9))))]))⟩, ⟨(some 47), none, (.op (.mv (.t 1)))⟩, ⟨(some 48), none, (.op (.build [(.int .i64 0), (.int .i64 0)] [(0, (1, (.c (.int .i64 6)))), (1, (1, (.t 47)))]))⟩, ⟨(some 49), none, (.op (.bsl 20049 2 35 4 (.agg [(.int .i64 0), (.int .i64 0)]) [(0, (.t 43)), (1, (.t 45)), (2, (.t 46)), (3, (.t 48))]))⟩, ⟨(some 50), none, (.op (.build [(.int .i64 0), .nils] [(1, (1, (.t 49)))]))⟩, ⟨(some 51), none, (.op (.bsl 20051 2 33 1 (.agg [(.int .i64 0), .nils]) [(0, (.t 50))]))⟩, ⟨(some 52), none, (.op (.build [.nils, (.int .i64 0), (.int .i64 0), (.bool false)] [(2, (1, (.c (.int .i64 (-1)))))]))⟩, ⟨(some 53), none, (.op (.bsl 20053 4 38 1 (.agg [.nils, (.int .i64 0), (.int .i64 0), (.bool false)]) [(0, (.t 52))]))⟩, ⟨(some 54), none, (.op (.build [.nils, .nils, .nils, (.int .i64 0)] [(0, (1, (.t 51))), (1, (1, (.t 53))), (3, (1, (.c (.int .i64 9))))]))⟩, ⟨(some 10), none, (.op (.new 20010 4 (.agg [.nils, .nils, .nils, (.int .i64 0)])))⟩, ⟨none, none, (.op (.store 4 (.t 10) (.t 54)))⟩]
def vregs_r10 : List AI := [⟨(some 55), none, (.op (.load (some 4) (.t 10)))⟩, ⟨(some 56), none, (.op (.mv (.t 7)))⟩, ⟨(some 57), none, (.op (.build [.nils, (.bool false), (.int .i64 0), (.int .i64 0), (.int .i64 0)] [(0, (1, (.t 56)))]))⟩, ⟨(some 58), none, (.call (.c (.fn 45 [])) [(.t 55), (.c (.int .i64 0)), (.t 57), (.c (.int .i64 0)), (.c .nils)])⟩, ⟨(some 11), none, (.op (.new 20011 7 (.agg [.nils, (.bool false), (.int .i64 0), (.int .i64 0), (.int .i64 0), .nils, (.int .i64 0)])))⟩, ⟨none, none, (.op (.store 7 (.t 11) (.t 58)))⟩]
def vregs_r11 : List AI := [⟨(some 59), none, (.op (.mv (.t 1)))⟩, ⟨(some 60), none, (.op (.mv (.t 0)))⟩, ⟨(some 61), none, (.op (.ibin .lss (.t 59) (.t 60)))⟩]
def vregs_r12 : List AI := [⟨(some 62), none, (.op (.mv (.t 8)))⟩, ⟨(some 63), none, (.op (.mv (.t 1)))⟩, ⟨(some 64), none, (.op (.mv (.t 8)))⟩, ⟨(some 65), none, (.op (.mv (.t 1)))⟩, ⟨(some 66), none, (.op (.idx 1 (.t 64) (.t 65)))⟩, ⟨(some 67), none, (.op (.load none (.t 66)))⟩, ⟨(some 68), none, (.op (.mv (.t 2)))⟩, ⟨(some 69), none, (.op (.ibin .add (.t 67) (.t 68)))⟩, ⟨(some 70), none, (.op (.idx 1 (.t 62) (.t 63)))⟩, ⟨none, none, (.op (.store 1 (.t 70) (.t 69)))⟩]
def vregs_r13 : List AI := [⟨(some 71), none, (.op (.fld 0 (.t 11)))⟩, ⟨(some 72), none, (.op (.fld 0 (.t 71)))⟩, ⟨(some 73), none, (.op (.load none (.t 72)))⟩, ⟨(some 74), none, (.op (.mv (.t 8)))⟩, ⟨(some 75), none, (.call (.c (.fn 39 [])) [(.t 73), (.t 74)])⟩, ⟨(some 76), none, (.op (.mv (.t 75)))⟩, ⟨(some 77), (some (76, true)), (.op (.fld 6 (.t 11)))⟩, ⟨(some 78), (some (76, true)), (.op (.load none (.t 77)))⟩, ⟨(some 79), (some (76, true)), (.op (.ibin .eql (.t 78) (.c (.int .i64 4))))⟩, ⟨(some 80), none, (.op (.pick (.t 76) (.t 79) (.c (.bool false))))⟩, ⟨(some 81), none, (.op (.mv (.t 80)))⟩, ⟨(some 82), (some (81, true)), (.call (.c (.fn 41 [])) [])⟩, ⟨(some 83), none, (.op (.pick (.t 81) (.t 82) (.c (.bool false))))⟩, ⟨(some 6), none, (.op (.mv (.t 83)))⟩]
def vregs_c : AC := (.seq (.reg vregs_r0) (.seq (.seq (.reg vregs_r1) (.cond (.t 25) (.seq (.reg vregs_r2) .ret) .skip)) (.seq (.reg vregs_r3) (.seq (.seq (.reg vregs_r4) (.block 0 (.loop vregs_l0))) (.seq (.reg vregs_r9) (.seq (.reg vregs_r10) (.seq (.seq (.reg vregs_r11) (.cond (.t 61) (.reg vregs_r12) .skip)) (.seq (.reg vregs_r13) .ret))))))))
def vregs_res : List ARes := [(.tmp 6)]
set_option maxRecDepth 100000 in
theorem vregs_get : getF Try.prog 20 20000 [(36, 7), (41, 1000000008)] = some ("gavotte/gavottelaw6.VmRegs", 84, vregs_c, vregs_res) := by kernel_rfl
attribute [simp] vregs_r0 vregs_r1 vregs_r2 vregs_r3 vregs_r4 vregs_r5 vregs_r6 vregs_r7 vregs_r8 vregs_r9 vregs_r10 vregs_r11 vregs_r12 vregs_r13 vregs_res

def regL (n : Nat) : List Int := (List.range n).map fun i : Nat => (10 : Int) + i
theorem regL_len (n : Nat) : (regL n).length = n := by simp [regL]
theorem regL_get (n i : Nat) (h : i < n) : (regL n)[i]'(by simp [regL, h]) = 10 + (i : Int) := by simp [regL]
theorem regL_av (n : Nat) : (regL (n + 1)).map iv = (regL n).map iv ++ [iv (10 + (n : Int))] := by simp [regL, List.range_succ]
def regC (a v : Int) : List Ins := [⟨5, a⟩, ⟨1, v⟩, ⟨9, 0⟩, ⟨6, a⟩]
def regP (a v : Int) : Prg := ⟨[⟨0, regC a v⟩], [⟨[], 0, -1, false⟩], [], 9⟩
theorem regP_flow (a : Fin 8) (v : Int) : flowV (regP a.val v) = 0 := by
  obtain ⟨a, h⟩ := a
  rcases a with _ | _ | _ | _ | _ | _ | _ | _ | a <;> first | rfl | omega
def regR (L : List Int) (a : Nat) (v : Int) : List Int := if (a : Int) < L.length then L.set a (w64 (loadV ⟨0, [], L, [], false⟩ a + v)) else L
theorem regP_run (L : List Int) (hL : L.length ≤ 8) (a : Nat) (ha : a < 8) (v : Int) : runR (regP a v) 0 ⟨L, false, 0, 0, 0⟩ 0 [] = ⟨⟨regR L a v, false, 0, 0, 0⟩, [], 4⟩ := by
  have hm : mayV (regP a v) 0 ⟨L, false, 0, 0, 0⟩ 0 [] := ⟨regP_flow ⟨a, ha⟩ v, by omega, by simp [regP], by omega, by simp [regP], by simp [regP, argsOf], hL, rfl⟩
  rw [runR_cut (regP a v) 0 ⟨L, false, 0, 0, 0⟩ 0 [] ⟨0, regC a v⟩ rfl hm 6 (some ⟨4, [], regR L a v, [], false⟩, 0, 4) (by rfl)]
  rfl
def WantS (S : St) (i : Nat) : Prop := (S.t 8 = .nils ∧ i = 0) ∨ ∃ st, S.t 8 = .sl 1000020008 st 1 0 i ∧ S.blk 1000020008 = some ⟨st, 1, (regL i).map iv⟩
theorem vmRegs_pc (n a v : Int) : PC Try.prog 20 [iv n, iv a, iv v] (.bool true) := by
  refine pc_of_get vregs_get (by simp) _ (by simp) _ ?_
  unfold vregs_c
  simp
  by_cases h1 : n < 0
  · simp [h1]; refine call awake6_pc (by simp) ?_; simp
  by_cases h2 : 8 < n
  · simp [h1, h2]; refine call awake6_pc (by simp) ?_; simp
  by_cases h3 : a < 0
  · simp [h1, h2, h3]; refine call awake6_pc (by simp) ?_; simp
  by_cases h4 : 7 < a
  · simp [h1, h2, h3, h4]; refine call awake6_pc (by simp) ?_; simp
  simp [h1, h2, h3, h4]
  obtain ⟨n, rfl⟩ := Int.eq_ofNat_of_zero_le (show 0 ≤ n by omega)
  obtain ⟨a, rfl⟩ := Int.eq_ofNat_of_zero_le (show 0 ≤ a by omega)
  have hn : n ≤ 8 := by omega
  have ha : a < 8 := by omega
  clear h1 h2 h3 h4
  refine loopN (fun i S => S.t 9 = iv i ∧ S.t 0 = iv n ∧ S.t 1 = iv a ∧ S.t 2 = iv v ∧ AccIs S (S.t 7) 20007 1 3 ((regL i).map iv) ∧ WantS S i) n ?_ ?_
  · simp [AccIs, regL, WantS]
  · rintro i S hi ⟨g0, g1, g2, g3, hv, hw⟩
    have e := regL_av i
    have el := regL_len i
    have hml : ((regL i).map iv).length = i := by simp [el]
    have u1 : IntKind.i64.wrap 1 = 1 := by decide
    have u10 : IntKind.i64.wrap 10 = 10 := by decide
    have w1 : IntKind.i64.wrap (10 + (i : Int)) = 10 + (i : Int) := wrap_in _ (by omega) (by omega)
    by_cases hlt : i < n
    · simp [vregs_l0, g0, g1, hlt]
      have ws := wrap_succ i _ hlt (by omega)
      rcases hv with ⟨q1, q2⟩ | ⟨st, q1, q2⟩ <;> rcases hw with ⟨p1, p2⟩ | ⟨st', p1, p2⟩
      · subst p2
        simp [q1, p1, g0, g1, g2, g3, hlt, ws, w1, u1, u10]
        simp [AccIs, WantS, regL]
      · have h0 : i = 0 := by rw [q2] at hml; simpa using hml.symm
        subst h0
        simp [q1, p1, p2, g0, g1, g2, g3, hlt, ws, w1, u1, u10, regL]
        simp [AccIs, WantS, regL]
      · subst p2
        simp [q1, q2, p1, g0, g1, g2, g3, hlt, ws, w1, u1, u10, regL]
        simp [AccIs, WantS, regL]
      · have z : (i + 1) * 8 ≤ 140737488355328 := by omega
        have tk : List.take i ((regL i).map iv) = (regL i).map iv := List.take_of_length_le (by simp [el])
        simp [q1, q2, p1, p2, g0, g1, g2, g3, hlt, ws, w1, el, z, tk]
        simp [AccIs, WantS, e]
    · have e1 : i = n := by omega
      subst e1
      have hrun := regP_run (regL i) (by omega) a ha v
      have hl0 : loadV ⟨0, [], regL i, [], false⟩ a = if a < i then 10 + (a : Int) else 0 := by
        unfold loadV
        simp only [el]
        by_cases h : a < i
        · rw [if_pos (by omega), if_pos h]
          have := regL_get i a h
          simp [el, h, this]
        · rw [if_neg (by omega), if_neg h]
      have hav : IntKind.i64.wrap (10 + (a : Int)) = 10 + (a : Int) := wrap_in _ (by omega) (by omega)
      rcases hw with ⟨p1, p2⟩ | ⟨st', p1, p2⟩
      · subst p2
        have hr0 : regR (regL 0) a v = [] := by simp [regR, regL]
        rw [hr0] at hrun
        rcases hv with ⟨q1, q2⟩ | ⟨st, q1, q2⟩
        · simp [vregs_l0, g0, g1, g2, g3, q1]
          refine callC (run_pc (regP a v) 0 ⟨regL 0, false, 0, 0, 0⟩ 0 []) 2 (by simp [regP, regC, Prg.av, Lcl.av, dco, elemR, coL, co1, ints, regL]) ?_
          rw [hrun]
          simp [Res.av, Lcl.av, g0, g1, g2, g3, p1, show ¬ (a : Int) < 0 by omega]
          refine call (aints_pc [] [] (by simp)) (by simp) ?_
          simp
          refine call awake6_pc (by simp) ?_
          simp
        · simp [regL] at q1
          simp [vregs_l0, g0, g1, g2, g3, q1]
          refine callC (run_pc (regP a v) 0 ⟨regL 0, false, 0, 0, 0⟩ 0 []) 2 (by simp [regP, regC, Prg.av, Lcl.av, dco, elemR, coL, co1, ints, regL]) ?_
          rw [hrun]
          simp [Res.av, Lcl.av, g0, g1, g2, g3, p1, show ¬ (a : Int) < 0 by omega]
          refine call (aints_pc [] [] (by simp)) (by simp) ?_
          simp
          refine call awake6_pc (by simp) ?_
          simp
      · have hli : ∀ (blk : Nat → Option Blk) (L : List Int), L.length = i → blk 1000020008 = some ⟨st', 1, L.map iv⟩ → listOf blk 1 (.sl 1000020008 st' 1 0 i) = some (L.map iv) := by
          intro blk L hL hb
          rw [← hL]; exact list_ints L blk 1000020008 st' hb
        have hq : S.t 7 = .nils ∧ i = 0 ∨ ∃ st, S.t 7 = .acc 20007 st 1 ((regL i).map iv) := by
          rcases hv with ⟨q1, q2⟩ | ⟨st, q1, q2⟩
          · exact .inl ⟨q1, by rw [q2] at hml; simpa using hml.symm⟩
          · exact .inr ⟨st, q1⟩
        rcases hq with ⟨q1, rfl⟩ | ⟨st, q1⟩
        · simp [vregs_l0, g0, g1, g2, g3, q1]
          refine callC (run_pc (regP a v) 0 ⟨regL 0, false, 0, 0, 0⟩ 0 []) 2 (by simp [regP, regC, Prg.av, Lcl.av, dco, elemR, coL, co1, ints, regL]) ?_
          rw [hrun]
          have hr1 : regR (regL 0) a v = regL 0 := by unfold regR; rw [if_neg (by rw [el]; omega)]
          rw [hr1]
          simp [Res.av, Lcl.av, g0, g1, g2, g3, p1, p2, show ¬ (a : Int) < 0 by omega]
          refine callH (aints_pc (regL 0) (regL 0) (by rw [el]; omega)) (by simp; exact hli _ _ el (by simp [p2])) rfl ?_
          simp
          refine call awake6_pc (by simp) ?_
          simp
        simp [vregs_l0, g0, g1, g2, g3, q1]
        refine callC (run_pc (regP a v) 0 ⟨regL i, false, 0, 0, 0⟩ 0 []) 2 (by simp [regP, regC, Prg.av, Lcl.av, dco, elemR, coL, co1, ints]) ?_
        rw [hrun]
        by_cases hai : a < i
        · have hr1 : regR (regL i) a v = (regL i).set a (w64 (10 + (a : Int) + v)) := by
            unfold regR; rw [if_pos (by rw [el]; omega), hl0, if_pos hai]
          rw [hr1]
          have hg : (regL i)[a]? = some (10 + (a : Int)) := by rw [List.getElem?_eq_getElem (by rw [el]; exact hai), regL_get i a hai]
          simp [Res.av, Lcl.av, g0, g1, g2, g3, p1, p2, hai, hg]
          refine callH (aints_pc ((regL i).set a (w64 (10 + (a : Int) + v))) ((regL i).set a (w64 (10 + (a : Int) + v))) (by simp [el]; omega)) (by simp; rw [← List.map_set]; exact hli _ _ (by simp [el]) (by simp [List.map_set])) rfl ?_
          simp
          refine call awake6_pc (by simp) ?_
          simp
        · have hr1 : regR (regL i) a v = regL i := by unfold regR; rw [if_neg (by rw [el]; omega)]
          rw [hr1]
          simp [Res.av, Lcl.av, g0, g1, g2, g3, p1, p2, hai]
          refine callH (aints_pc (regL i) (regL i) (by rw [el]; omega)) (by simp; exact hli _ _ el (by simp [p2])) rfl ?_
          simp
          refine call awake6_pc (by simp) ?_
          simp

end Go.Gv
