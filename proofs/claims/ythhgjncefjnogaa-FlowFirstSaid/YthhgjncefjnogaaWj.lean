/- The law FlowFirst answers true. No condition. -/
import Derived.Test.YthhgjncefjnogaaProg
import Derived.Test.YthhgjncefjnogaaWh
import Derived.Test.YthhgjncefjnogaaGw5
set_option linter.unusedVariables false
set_option linter.unusedSimpArgs false
namespace Go.Gv
open Go.Proofs

def ffirst_r0 : List AI := [⟨(some 6), none, (.op (.mv (.c (.bool false))))⟩]
def ffirst_r1 : List AI := [⟨(some 11), none, (.op (.mv (.t 0)))⟩, ⟨(some 12), none, (.op (.ibin .lss (.t 11) (.c (.int .i64 1))))⟩, ⟨(some 13), none, (.op (.mv (.t 12)))⟩, ⟨(some 14), (some (13, false)), (.op (.mv (.t 0)))⟩, ⟨(some 15), (some (13, false)), (.op (.ibin .gtr (.t 14) (.c (.int .i64 10))))⟩, ⟨(some 16), none, (.op (.pick (.t 13) (.c (.bool true)) (.t 15)))⟩, ⟨(some 17), none, (.op (.mv (.t 16)))⟩, ⟨(some 18), (some (17, false)), (.op (.mv (.t 2)))⟩, ⟨(some 19), (some (17, false)), (.op (.ibin .lss (.t 18) (.c (.int .i64 0))))⟩, ⟨(some 20), none, (.op (.pick (.t 17) (.c (.bool true)) (.t 19)))⟩, ⟨(some 21), none, (.op (.mv (.t 20)))⟩, ⟨(some 22), (some (21, false)), (.op (.mv (.t 2)))⟩, ⟨(some 23), (some (21, false)), (.op (.ibin .gtr (.t 22) (.c (.int .i64 300))))⟩, ⟨(some 24), none, (.op (.pick (.t 21) (.c (.bool true)) (.t 23)))⟩]
def ffirst_r2 : List AI := [⟨(some 25), none, (.call (.c (.fn 32 [])) [])⟩, ⟨(some 6), none, (.op (.mv (.t 25)))⟩]
def ffirst_r3 : List AI := [⟨(some 26), none, (.op (.build [.nils, (.int .i64 0), (.int .i64 0), (.bool false)] [(2, (1, (.c (.int .i64 (-1)))))]))⟩, ⟨(some 27), none, (.op (.bsl 12027 4 38 1 (.agg [.nils, (.int .i64 0), (.int .i64 0), (.bool false)]) [(0, (.t 26))]))⟩, ⟨(some 28), none, (.op (.mv (.t 2)))⟩, ⟨(some 29), none, (.op (.build [.nils, .nils, .nils, (.int .i64 0)] [(1, (1, (.t 27))), (3, (1, (.t 28)))]))⟩, ⟨(some 7), none, (.op (.new 12007 4 (.agg [.nils, .nils, .nils, (.int .i64 0)])))⟩, ⟨none, none, (.op (.store 4 (.t 7) (.t 29)))⟩]
def ffirst_r4 : List AI := [⟨(some 8), none, (.op (.mv (.c (.int .i64 0))))⟩]
def ffirst_r5 : List AI := [⟨(some 30), none, (.op (.mv (.t 8)))⟩, ⟨(some 31), none, (.op (.mv (.t 0)))⟩, ⟨(some 32), none, (.op (.ibin .lss (.t 30) (.t 31)))⟩]
def ffirst_r6 : List AI := [⟨(some 35), none, (.op (.build [(.int .i64 0), .nils] []))⟩, ⟨(some 9), none, (.op (.new 12009 2 (.agg [(.int .i64 0), .nils])))⟩, ⟨none, none, (.op (.store 2 (.t 9) (.t 35)))⟩]
def ffirst_r7 : List AI := [⟨(some 36), none, (.op (.mv (.t 8)))⟩, ⟨(some 37), none, (.op (.mv (.t 1)))⟩, ⟨(some 38), none, (.op (.ibin .eql (.t 36) (.t 37)))⟩]
def ffirst_r8 : List AI := [⟨(some 39), none, (.op (.build [(.int .i64 0), (.int .i64 0)] [(0, (1, (.c (.int .i64 2))))]))⟩, ⟨(some 40), none, (.op (.bsl 12040 2 35 1 (.agg [(.int .i64 0), (.int .i64 0)]) [(0, (.t 39))]))⟩, ⟨(some 41), none, (.op (.fld 1 (.t 9)))⟩, ⟨none, none, (.op (.store 1 (.t 41) (.t 40)))⟩]
def ffirst_r9 : List AI := [⟨(some 42), none, (.op (.fld 0 (.t 7)))⟩, ⟨(some 43), none, (.op (.load none (.t 42)))⟩, ⟨(some 44), none, (.op (.load (some 2) (.t 9)))⟩, ⟨(some 45), none, (.op (.bsl 12045 2 33 1 (.agg [(.int .i64 0), .nils]) [(0, (.t 44))]))⟩, ⟨(some 46), none, (.op (.app 12046 2 33 32 (.t 43) (.t 45)))⟩, ⟨(some 47), none, (.op (.fld 0 (.t 7)))⟩, ⟨none, none, (.op (.store 1 (.t 47) (.t 46)))⟩]
def ffirst_r10 : List AI := [⟨(some 33), none, (.op (.mv (.t 8)))⟩, ⟨(some 34), none, (.op (.ibin .add (.t 33) (.c (.int .i64 1))))⟩, ⟨(some 8), none, (.op (.mv (.t 34)))⟩]
def ffirst_l0 : AC := (.seq (.seq (.reg ffirst_r5) (.cond (.t 32) .skip (.exit 0))) (.seq (.block 1 (.seq (.reg ffirst_r6) (.seq (.seq (.reg ffirst_r7) (.cond (.t 38) (.reg ffirst_r8) .skip)) (.reg ffirst_r9)))) (.reg ffirst_r10)))
def ffirst_r11 : List AI := [⟨(some 10), none, (.op (.mv (.c (.int .i64 0))))⟩]
def ffirst_r12 : List AI := [⟨(some 49), none, (.op (.mv (.t 2)))⟩, ⟨(some 50), none, (.op (.ibin .lss (.t 49) (.c (.int .i64 1))))⟩, ⟨(some 51), none, (.op (.mv (.t 50)))⟩, ⟨(some 52), (some (51, false)), (.op (.mv (.t 2)))⟩, ⟨(some 53), (some (51, false)), (.op (.ibin .gtr (.t 52) (.c (.int .i64 256))))⟩, ⟨(some 54), none, (.op (.pick (.t 51) (.c (.bool true)) (.t 53)))⟩, ⟨(some 48), none, (.op (.mv (.t 54)))⟩]
def ffirst_r13 : List AI := [⟨(some 10), none, (.op (.mv (.c (.int .i64 1))))⟩]
def ffirst_r14 : List AI := [⟨(some 56), none, (.op (.mv (.t 1)))⟩, ⟨(some 57), none, (.op (.ibin .geq (.t 56) (.c (.int .i64 0))))⟩, ⟨(some 58), none, (.op (.mv (.t 57)))⟩, ⟨(some 59), (some (58, true)), (.op (.mv (.t 1)))⟩, ⟨(some 60), (some (58, true)), (.op (.mv (.t 0)))⟩, ⟨(some 61), (some (58, true)), (.op (.ibin .lss (.t 59) (.t 60)))⟩, ⟨(some 62), none, (.op (.pick (.t 58) (.t 61) (.c (.bool false))))⟩, ⟨(some 55), none, (.op (.mv (.t 62)))⟩]
def ffirst_r15 : List AI := [⟨(some 10), none, (.op (.mv (.c (.int .i64 5))))⟩]
def ffirst_r16 : List AI := [⟨(some 63), none, (.op (.load (some 4) (.t 7)))⟩, ⟨(some 64), none, (.call (.c (.fn 36 [])) [(.t 63)])⟩, ⟨(some 65), none, (.op (.mv (.t 10)))⟩, ⟨(some 66), none, (.op (.ibin .eql (.t 64) (.t 65)))⟩, ⟨(some 67), none, (.op (.mv (.t 66)))⟩, ⟨(some 68), (some (67, true)), (.call (.c (.fn 32 [])) [])⟩, ⟨(some 69), none, (.op (.pick (.t 67) (.t 68) (.c (.bool false))))⟩, ⟨(some 6), none, (.op (.mv (.t 69)))⟩]
def ffirst_c : AC := (.seq (.reg ffirst_r0) (.seq (.seq (.reg ffirst_r1) (.cond (.t 24) (.seq (.reg ffirst_r2) .ret) .skip)) (.seq (.reg ffirst_r3) (.seq (.seq (.reg ffirst_r4) (.block 0 (.loop ffirst_l0))) (.seq (.reg ffirst_r11) (.seq (.block 2 (.seq (.reg ffirst_r12) (.cond (.t 48) (.reg ffirst_r13) (.seq (.reg ffirst_r14) (.cond (.t 55) (.reg ffirst_r15) .skip))))) (.seq (.reg ffirst_r16) .ret)))))))
def ffirst_res : List ARes := [(.tmp 6)]
set_option maxRecDepth 100000 in
theorem ffirst_get : getF Try.prog 12 12000 [] = some ("gavotte/gavottelaw4.FlowFirst", 70, ffirst_c, ffirst_res) := by kernel_rfl
attribute [simp] ffirst_r0 ffirst_r1 ffirst_r2 ffirst_r3 ffirst_r4 ffirst_r5 ffirst_r6 ffirst_r7 ffirst_r8 ffirst_r9 ffirst_r10 ffirst_r11 ffirst_r12 ffirst_r13 ffirst_r14 ffirst_r15 ffirst_r16 ffirst_res

def firstH (n : Nat) (k : Int) : List Hnd := (List.range n).map fun j : Nat => if (j : Int) = k then ⟨0, [⟨2, 0⟩]⟩ else ⟨0, []⟩
def firstA (n : Nat) (k : Int) : List AV := (List.range n).map fun j : Nat => if (j : Int) = k then .agg [iv 0, .lst 2 [.agg [iv 2, iv 0]]] else .agg [iv 0, .nils]
theorem firstA_len (n : Nat) (k : Int) : (firstA n k).length = n := by simp [firstA]
theorem firstA_succ (n : Nat) (k : Int) : firstA (n + 1) k = firstA n k ++ [if (n : Int) = k then .agg [iv 0, .lst 2 [.agg [iv 2, iv 0]]] else .agg [iv 0, .nils]] := by simp [firstA, List.range_succ]
theorem first_co (k : Int) (l : List Nat) : coL (elemR (dco (fun _ => none) 1)) (l.map fun j : Nat => if (j : Int) = k then .agg [iv 0, .lst 2 [.agg [iv 2, iv 0]]] else .agg [iv 0, .nils]) ((l.map fun j : Nat => (if (j : Int) = k then ⟨0, [⟨2, 0⟩]⟩ else ⟨0, []⟩ : Hnd)).map Hnd.av) := by
  induction l with
  | nil => trivial
  | cons j l ih =>
    refine ⟨?_, ih⟩
    by_cases h : (j : Int) = k <;> simp [h, Hnd.av, Ins.av, elemR, coL, dco, co1]
def firstP (n : Nat) (k f : Int) : Prg := ⟨firstH n k, [⟨[], 0, -1, false⟩], [], f⟩
set_option maxRecDepth 100000 in
theorem first_law0 : ∀ (n : Fin 11) (k : Fin 11), flowV (firstP n.val (k.val : Int) 1) = if k.val < n.val then 5 else 0 := by decide +kernel
theorem firstH_none (n : Nat) (k : Int) (h : ¬ (0 ≤ k ∧ k < n)) : firstH n k = firstH n n := by
  unfold firstH
  apply List.map_congr_left
  intro j hj
  simp at hj
  rw [if_neg (by omega), if_neg (by omega)]
theorem flowV_fuel (p : Prg) (h1 : 1 ≤ p.fuel) (h2 : p.fuel ≤ 256) : flowV p = flowV { p with fuel := 1 } := by
  unfold flowV checkV
  simp [show ¬ p.fuel < 1 by omega, show ¬ 256 < p.fuel by omega]
theorem first_law (n : Nat) (hn : n ≤ 10) (k f : Int) : flowV (firstP n k f) = if f < 1 ∨ f > 256 then 1 else if 0 ≤ k ∧ k < n then 5 else 0 := by
  by_cases hf : f < 1 ∨ f > 256
  · rw [if_pos hf]
    have : checkV (firstP n k f) = 1 := by
      unfold checkV
      rw [if_neg (by simp [firstP, firstH]; omega), if_pos (by simp [firstP]; omega)]
    unfold flowV; rw [this]; rfl
  · rw [if_neg hf, flowV_fuel _ (by simp [firstP]; omega) (by simp [firstP]; omega)]
    show flowV (firstP n k 1) = _
    by_cases hk : 0 ≤ k ∧ k < n
    · rw [if_pos hk]
      have := first_law0 ⟨n, by omega⟩ ⟨k.toNat, by omega⟩
      simp only [Int.toNat_of_nonneg hk.1] at this
      rw [this, if_pos (by omega)]
    · rw [if_neg hk]
      have := first_law0 ⟨n, by omega⟩ ⟨n, by omega⟩
      simp only [Nat.lt_irrefl, if_false] at this
      rw [← this]; unfold firstP; rw [firstH_none n k hk]
theorem flowFirst_pc (n k f : Int) : PC Try.prog 12 [iv n, iv k, iv f] (.bool true) := by
  refine pc_of_get ffirst_get (by simp) _ (by simp) _ ?_
  unfold ffirst_c
  simp
  by_cases h1 : n < 1
  · simp [h1]; refine call awake4_pc (by simp) ?_; simp
  by_cases h2 : 10 < n
  · simp [h1, h2]; refine call awake4_pc (by simp) ?_; simp
  by_cases h3 : f < 0
  · simp [h1, h2, h3]; refine call awake4_pc (by simp) ?_; simp
  by_cases h4 : 300 < f
  · simp [h1, h2, h3, h4]; refine call awake4_pc (by simp) ?_; simp
  simp [h1, h2, h3, h4]
  obtain ⟨n, rfl⟩ := Int.eq_ofNat_of_zero_le (show 0 ≤ n by omega)
  have hn : n ≤ 10 := by omega
  clear h1 h2
  refine loopN (fun i S => S.t 8 = iv i ∧ S.t 0 = iv n ∧ S.t 1 = iv k ∧ S.t 2 = iv f ∧ (∃ st s2 v, S.t 7 = .ptr 12007 st 4 0 0 ∧ S.blk 12007 = some ⟨st, 4, [.agg [v, .acc 12027 s2 4 [.agg [.nils, iv 0, iv (-1), .bool false]], .nils, iv f]]⟩ ∧ AccIs S v 12046 2 33 (firstA i k))) n ?_ ?_
  · simp [AccIs, firstA]
  · rintro i S hi ⟨g0, g1, g2, g3, st, s2, v, g4, g5, hv⟩
    have e := firstA_succ i k
    have el := firstA_len i k
    have ws := wrap_succ i _ (show i < 11 by omega) (by omega)
    by_cases hlt : i < n
    · by_cases hik : (i : Int) = k
      · rw [if_pos hik] at e
        obtain rfl : k = i := hik.symm
        rcases hv with ⟨q1, q2⟩ | ⟨st', q1, q2⟩
        · simp [ffirst_l0, g0, g1, g2, g3, g4, g5, hlt, q1, ws]
          simp [AccIs, e, q2]
        · simp [ffirst_l0, g0, g1, g2, g3, g4, g5, hlt, q1, q2, ws, el, show (i + 1) * 32 ≤ 140737488355328 by omega]
          simp [AccIs, e, q2]
      · rw [if_neg hik] at e
        rcases hv with ⟨q1, q2⟩ | ⟨st', q1, q2⟩
        · simp [ffirst_l0, g0, g1, g2, g3, g4, g5, hlt, q1, ws, hik]
          simp [AccIs, e, q2]
        · simp [ffirst_l0, g0, g1, g2, g3, g4, g5, hlt, q1, q2, ws, el, hik, show (i + 1) * 32 ≤ 140737488355328 by omega]
          simp [AccIs, e, q2]
    · have e1 : i = n := by omega
      subst e1
      have hl := first_law i hn k f
      have hfit : coL (elemR (dco (fun _ => none) 2)) ([.agg [v, .acc 12027 s2 4 [.agg [.nils, iv 0, iv (-1), .bool false]], .nils, iv f]] ++ []) [(firstP i k f).av] := by
        have hco := first_co k (List.range i)
        have : dco (fun _ => none) 2 v (.lst 2 ((firstH i k).map Hnd.av)) := by
          rcases hv with ⟨q1, q2⟩ | ⟨st', q1, q2⟩
          · have h0 : i = 0 := by rw [← el, q2]; rfl
            subst h0
            simp [q1, firstH, dco]
          · rw [q1]; exact ⟨rfl, .inr hco⟩
        refine ⟨⟨this, ?_⟩, trivial⟩
        simp [firstP, Actr.av, coL, dco, elemR, co1, ints]
      simp [ffirst_l0, g0, g1, g2, g3]
      by_cases c1 : f < 1
      · simp [c1, g4, g5, g1, g2, g3]
        refine callC (fcheck_pc (firstP i k f)) 2 hfit ?_
        rw [hl, if_pos (.inl c1)]
        simp
        refine call awake4_pc (by simp) ?_
        simp
      by_cases c2 : 256 < f
      · simp [c1, c2, g4, g5, g1, g2, g3]
        refine callC (fcheck_pc (firstP i k f)) 2 hfit ?_
        rw [hl, if_pos (.inr c2)]
        simp
        refine call awake4_pc (by simp) ?_
        simp
      rw [if_neg (by omega)] at hl
      by_cases c3 : 0 ≤ k
      · by_cases c4 : k < i
        · simp [c1, c2, c3, c4, g4, g5, g1, g2, g3]
          refine callC (fcheck_pc (firstP i k f)) 2 hfit ?_
          rw [hl, if_pos ⟨c3, c4⟩]
          simp
          refine call awake4_pc (by simp) ?_
          simp
        · simp [c1, c2, c3, c4, g4, g5, g1, g2, g3]
          refine callC (fcheck_pc (firstP i k f)) 2 hfit ?_
          rw [hl, if_neg (fun h => c4 h.2)]
          simp
          refine call awake4_pc (by simp) ?_
          simp
      · simp [c1, c2, c3, g4, g5, g1, g2, g3]
        refine callC (fcheck_pc (firstP i k f)) 2 hfit ?_
        rw [hl, if_neg (fun h => c3 h.1)]
        simp
        refine call awake4_pc (by simp) ?_
        simp

end Go.Gv
