/- The law FlowTells answers true, for all programs. No condition. -/
import Derived.Test.YthhgjncefjnogaaProg
import Derived.Test.YthhgjncefjnogaaWf
set_option linter.unusedVariables false
set_option linter.unusedSimpArgs false
namespace Go.Gv
open Go.Proofs

def handler4_r0 : List AI := [⟨(some 2), none, (.op (.new 40002 4 (.agg [.nils, .nils, .nils, (.int .i64 0)])))⟩]
def handler4_r1 : List AI := [⟨(some 3), none, (.op (.mv (.t 0)))⟩, ⟨(some 4), none, (.op (.build [(.int .i64 0), .nils] [(1, (1, (.t 3)))]))⟩, ⟨(some 5), none, (.op (.bsl 40005 2 33 1 (.agg [(.int .i64 0), .nils]) [(0, (.t 4))]))⟩, ⟨(some 6), none, (.op (.bsl 40006 1 3 1 (.int .i64 0) [(0, (.c (.int .i64 0)))]))⟩, ⟨(some 7), none, (.op (.build [.nils, (.int .i64 0), (.int .i64 0), (.bool false)] [(0, (1, (.t 6))), (2, (1, (.c (.int .i64 (-1)))))]))⟩, ⟨(some 8), none, (.op (.bsl 40008 4 38 1 (.agg [.nils, (.int .i64 0), (.int .i64 0), (.bool false)]) [(0, (.t 7))]))⟩, ⟨(some 9), none, (.op (.build [.nils, .nils, .nils, (.int .i64 0)] [(0, (1, (.t 5))), (1, (1, (.t 8))), (3, (1, (.c (.int .i64 100))))]))⟩, ⟨none, none, (.op (.store 4 (.t 2) (.t 9)))⟩]
def handler4_c : AC := (.seq (.reg handler4_r0) (.seq (.reg handler4_r1) .ret))
def handler4_res : List ARes := [(.cell (some 4) 2)]
set_option maxRecDepth 100000 in
theorem handler4_get : getF Try.prog 40 40000 [] = some ("gavotte/gavottelaw4.handler", 10, handler4_c, handler4_res) := by kernel_rfl
def awake4_r0 : List AI := [⟨(some 0), none, (.op (.mv (.c (.bool false))))⟩]
def awake4_r1 : List AI := [⟨(some 8), none, (.op (.build [(.int .i64 0), (.int .i64 0)] [(0, (1, (.c (.int .i64 1)))), (1, (1, (.c (.int .i64 1))))]))⟩, ⟨(some 9), none, (.op (.build [(.int .i64 0), (.int .i64 0)] [(0, (1, (.c (.int .i64 21)))), (1, (1, (.c (.int .i64 4))))]))⟩, ⟨(some 10), none, (.op (.build [(.int .i64 0), (.int .i64 0)] [(0, (1, (.c (.int .i64 1)))), (1, (1, (.c (.int .i64 2))))]))⟩, ⟨(some 11), none, (.op (.build [(.int .i64 0), (.int .i64 0)] [(0, (1, (.c (.int .i64 20)))), (1, (1, (.c (.int .i64 5))))]))⟩, ⟨(some 12), none, (.op (.build [(.int .i64 0), (.int .i64 0)] [(0, (1, (.c (.int .i64 1)))), (1, (1, (.c (.int .i64 3))))]))⟩, ⟨(some 13), none, (.op (.build [(.int .i64 0), (.int .i64 0)] [(0, (1, (.c (.int .i64 2))))]))⟩, ⟨(some 14), none, (.op (.bsl 32014 2 35 6 (.agg [(.int .i64 0), (.int .i64 0)]) [(0, (.t 8)), (1, (.t 9)), (2, (.t 10)), (3, (.t 11)), (4, (.t 12)), (5, (.t 13))]))⟩, ⟨(some 15), none, (.call (.c (.fn 40 [])) [(.t 14)])⟩, ⟨(some 1), none, (.op (.new 32001 4 (.agg [.nils, .nils, .nils, (.int .i64 0)])))⟩, ⟨none, none, (.op (.store 4 (.t 1) (.t 15)))⟩]
def awake4_r2 : List AI := [⟨(some 17), none, (.op (.load (some 4) (.t 1)))⟩, ⟨(some 18), none, (.call (.c (.fn 33 [])) [(.t 17), (.c (.int .i64 0))])⟩, ⟨(some 16), none, (.op (.mv (.t 18)))⟩, ⟨(some 19), none, (.op (.ext (.t 16) 0))⟩, ⟨(some 20), none, (.op (.ext (.t 16) 1))⟩, ⟨(some 2), none, (.op (.mv (.t 19)))⟩, ⟨(some 3), none, (.op (.mv (.t 20)))⟩]
def awake4_r3 : List AI := [⟨(some 22), none, (.op (.build [(.int .i64 0), (.int .i64 0)] [(0, (1, (.c (.int .i64 2))))]))⟩, ⟨(some 23), none, (.op (.bsl 32023 2 35 1 (.agg [(.int .i64 0), (.int .i64 0)]) [(0, (.t 22))]))⟩, ⟨(some 24), none, (.call (.c (.fn 40 [])) [(.t 23)])⟩, ⟨(some 25), none, (.call (.c (.fn 33 [])) [(.t 24), (.c (.int .i64 0))])⟩, ⟨(some 21), none, (.op (.mv (.t 25)))⟩, ⟨(some 26), none, (.op (.ext (.t 21) 0))⟩, ⟨(some 27), none, (.op (.ext (.t 21) 1))⟩, ⟨(some 4), none, (.op (.mv (.t 26)))⟩, ⟨(some 5), none, (.op (.mv (.t 27)))⟩]
def awake4_r4 : List AI := [⟨(some 29), none, (.op (.load (some 4) (.t 1)))⟩, ⟨(some 30), none, (.call (.c (.fn 33 [])) [(.t 29), (.c (.int .i64 1))])⟩, ⟨(some 28), none, (.op (.mv (.t 30)))⟩, ⟨(some 31), none, (.op (.ext (.t 28) 0))⟩, ⟨(some 32), none, (.op (.ext (.t 28) 1))⟩, ⟨(some 6), none, (.op (.mv (.t 31)))⟩, ⟨(some 7), none, (.op (.mv (.t 32)))⟩]
def awake4_r5 : List AI := [⟨(some 33), none, (.op (.mv (.t 3)))⟩, ⟨(some 34), none, (.op (.ibin .eql (.t 33) (.c (.int .i64 0))))⟩, ⟨(some 35), none, (.op (.mv (.t 34)))⟩, ⟨(some 36), (some (35, true)), (.op (.mv (.t 2)))⟩, ⟨(some 37), (some (35, true)), (.op (.bsl 32037 1 3 7 (.int .i64 0) [(0, (.c (.int .i64 0))), (1, (.c (.int .i64 1))), (2, (.c (.int .i64 0))), (3, (.c (.int .i64 1))), (4, (.c (.int .i64 0))), (5, (.c (.int .i64 1))), (6, (.c (.int .i64 0)))]))⟩, ⟨(some 38), (some (35, true)), (.call (.c (.fn 39 [])) [(.t 36), (.t 37)])⟩, ⟨(some 39), none, (.op (.pick (.t 35) (.t 38) (.c (.bool false))))⟩, ⟨(some 40), none, (.op (.mv (.t 39)))⟩, ⟨(some 41), (some (40, true)), (.op (.mv (.t 5)))⟩, ⟨(some 42), (some (40, true)), (.op (.ibin .eql (.t 41) (.c (.int .i64 5))))⟩, ⟨(some 43), none, (.op (.pick (.t 40) (.t 42) (.c (.bool false))))⟩, ⟨(some 44), none, (.op (.mv (.t 43)))⟩, ⟨(some 45), (some (44, true)), (.op (.mv (.t 7)))⟩, ⟨(some 46), (some (44, true)), (.op (.ibin .eql (.t 45) (.c (.int .i64 7))))⟩, ⟨(some 47), none, (.op (.pick (.t 44) (.t 46) (.c (.bool false))))⟩, ⟨(some 48), none, (.op (.mv (.t 47)))⟩, ⟨(some 49), (some (48, true)), (.op (.load (some 4) (.t 1)))⟩, ⟨(some 50), (some (48, true)), (.call (.c (.fn 36 [])) [(.t 49)])⟩, ⟨(some 51), (some (48, true)), (.op (.ibin .eql (.t 50) (.c (.int .i64 0))))⟩, ⟨(some 52), none, (.op (.pick (.t 48) (.t 51) (.c (.bool false))))⟩, ⟨(some 53), none, (.op (.mv (.t 52)))⟩, ⟨(some 54), (some (53, true)), (.op (.load (some 4) (.t 1)))⟩, ⟨(some 55), (some (53, true)), (.call (.c (.fn 34 [])) [(.t 54), (.c (.int .i64 0))])⟩, ⟨(some 56), (some (53, true)), (.op (.ibin .eql (.t 55) (.c (.int .i64 1))))⟩, ⟨(some 57), none, (.op (.pick (.t 53) (.t 56) (.c (.bool false))))⟩, ⟨(some 58), none, (.op (.mv (.t 57)))⟩, ⟨(some 59), (some (58, true)), (.op (.load (some 4) (.t 1)))⟩, ⟨(some 60), (some (58, true)), (.call (.c (.fn 34 [])) [(.t 59), (.c (.int .i64 1))])⟩, ⟨(some 61), (some (58, true)), (.op (.ibin .eql (.t 60) (.c (.int .i64 (-1)))))⟩, ⟨(some 62), none, (.op (.pick (.t 58) (.t 61) (.c (.bool false))))⟩, ⟨(some 0), none, (.op (.mv (.t 62)))⟩]
def awake4_c : AC := (.seq (.reg awake4_r0) (.seq (.reg awake4_r1) (.seq (.reg awake4_r2) (.seq (.reg awake4_r3) (.seq (.reg awake4_r4) (.seq (.reg awake4_r5) .ret))))))
def awake4_res : List ARes := [(.tmp 0)]
set_option maxRecDepth 100000 in
theorem awake4_get : getF Try.prog 32 32000 [] = some ("gavotte/gavottelaw4.awake", 63, awake4_c, awake4_res) := by kernel_rfl
def ftells_r0 : List AI := [⟨(some 2), none, (.op (.box 7002 4 (.t 0)))⟩, ⟨(some 4), none, (.op (.mv (.c (.bool false))))⟩]
def ftells_r1 : List AI := [⟨(some 12), none, (.op (.load (some 4) (.t 2)))⟩, ⟨(some 13), none, (.call (.c (.fn 24 [])) [(.t 12)])⟩, ⟨(some 14), none, (.op (.not (.t 13)))⟩]
def ftells_r2 : List AI := [⟨(some 15), none, (.call (.c (.fn 32 [])) [])⟩, ⟨(some 4), none, (.op (.mv (.t 15)))⟩]
def ftells_r3 : List AI := [⟨(some 17), none, (.op (.load (some 4) (.t 2)))⟩, ⟨(some 18), none, (.op (.mv (.t 1)))⟩, ⟨(some 19), none, (.call (.c (.fn 33 [])) [(.t 17), (.t 18)])⟩, ⟨(some 16), none, (.op (.mv (.t 19)))⟩, ⟨(some 20), none, (.op (.ext (.t 16) 0))⟩, ⟨(some 21), none, (.op (.ext (.t 16) 1))⟩, ⟨(some 5), none, (.op (.mv (.t 20)))⟩, ⟨(some 6), none, (.op (.mv (.t 21)))⟩]
def ftells_r4 : List AI := [⟨(some 22), none, (.op (.load (some 4) (.t 2)))⟩, ⟨(some 23), none, (.op (.mv (.t 1)))⟩, ⟨(some 24), none, (.call (.c (.fn 34 [])) [(.t 22), (.t 23)])⟩, ⟨(some 7), none, (.op (.mv (.t 24)))⟩]
def ftells_r5 : List AI := [⟨(some 25), none, (.op (.load (some 4) (.t 2)))⟩, ⟨(some 26), none, (.call (.c (.fn 35 [])) [(.t 25)])⟩, ⟨(some 8), none, (.op (.mv (.t 26)))⟩]
def ftells_r6 : List AI := [⟨(some 27), none, (.op (.load (some 4) (.t 2)))⟩, ⟨(some 28), none, (.call (.c (.fn 36 [])) [(.t 27)])⟩, ⟨(some 29), none, (.op (.load (some 4) (.t 2)))⟩, ⟨(some 30), none, (.call (.c (.fn 37 [])) [(.t 29)])⟩, ⟨(some 31), none, (.op (.ibin .neq (.t 28) (.t 30)))⟩]
def ftells_p6 : List (List Nat) := [[], [0], [], [2, 1, 0], [1, 3, 0, 2]]
def ftells_r7 : List AI := [⟨(some 4), none, (.op (.mv (.c (.bool false))))⟩]
def ftells_r8 : List AI := [⟨(some 32), none, (.op (.mv (.t 8)))⟩, ⟨(some 33), none, (.op (.ibin .neq (.t 32) (.c (.int .i64 0))))⟩]
def ftells_r9 : List AI := [⟨(some 34), none, (.op (.mv (.t 6)))⟩, ⟨(some 35), none, (.op (.mv (.t 8)))⟩, ⟨(some 36), none, (.op (.ibin .eql (.t 34) (.t 35)))⟩, ⟨(some 37), none, (.op (.mv (.t 36)))⟩, ⟨(some 38), (some (37, true)), (.op (.mv (.t 5)))⟩, ⟨(some 39), (some (37, true)), (.op (.len (.t 38)))⟩, ⟨(some 40), (some (37, true)), (.op (.ibin .eql (.t 39) (.c (.int .i64 0))))⟩, ⟨(some 41), none, (.op (.pick (.t 37) (.t 40) (.c (.bool false))))⟩, ⟨(some 42), none, (.op (.mv (.t 41)))⟩, ⟨(some 43), (some (42, true)), (.op (.mv (.t 7)))⟩, ⟨(some 44), (some (42, true)), (.op (.ibin .eql (.t 43) (.c (.int .i64 (-1)))))⟩, ⟨(some 45), none, (.op (.pick (.t 42) (.t 44) (.c (.bool false))))⟩, ⟨(some 46), none, (.op (.mv (.t 45)))⟩, ⟨(some 47), (some (46, true)), (.call (.c (.fn 32 [])) [])⟩, ⟨(some 48), none, (.op (.pick (.t 46) (.t 47) (.c (.bool false))))⟩, ⟨(some 4), none, (.op (.mv (.t 48)))⟩]
def ftells_r10 : List AI := [⟨(some 50), none, (.op (.load (some 4) (.t 2)))⟩, ⟨(some 51), none, (.op (.mv (.t 1)))⟩, ⟨(some 52), none, (.call (.c (.fn 38 [])) [(.t 50), (.t 51)])⟩, ⟨(some 49), none, (.op (.mv (.t 52)))⟩, ⟨(some 53), none, (.op (.ext (.t 49) 0))⟩, ⟨(some 54), none, (.op (.ext (.t 49) 1))⟩, ⟨(some 55), none, (.op (.ext (.t 49) 2))⟩, ⟨(some 9), none, (.op (.mv (.t 53)))⟩, ⟨(some 10), none, (.op (.mv (.t 54)))⟩, ⟨(some 11), none, (.op (.mv (.t 55)))⟩]
def ftells_r11 : List AI := [⟨(some 56), none, (.op (.mv (.t 5)))⟩, ⟨(some 57), none, (.op (.mv (.t 9)))⟩, ⟨(some 58), none, (.call (.c (.fn 39 [])) [(.t 56), (.t 57)])⟩, ⟨(some 59), none, (.op (.mv (.t 58)))⟩, ⟨(some 60), (some (59, true)), (.op (.mv (.t 6)))⟩, ⟨(some 61), (some (59, true)), (.op (.mv (.t 11)))⟩, ⟨(some 62), (some (59, true)), (.op (.ibin .eql (.t 60) (.t 61)))⟩, ⟨(some 63), none, (.op (.pick (.t 59) (.t 62) (.c (.bool false))))⟩, ⟨(some 64), none, (.op (.mv (.t 63)))⟩, ⟨(some 65), (some (64, true)), (.op (.mv (.t 7)))⟩, ⟨(some 66), (some (64, true)), (.op (.mv (.t 10)))⟩, ⟨(some 67), (some (64, true)), (.op (.ibin .eql (.t 65) (.t 66)))⟩, ⟨(some 68), none, (.op (.pick (.t 64) (.t 67) (.c (.bool false))))⟩, ⟨(some 69), none, (.op (.mv (.t 68)))⟩, ⟨(some 70), (some (69, true)), (.call (.c (.fn 32 [])) [])⟩, ⟨(some 71), none, (.op (.pick (.t 69) (.t 70) (.c (.bool false))))⟩, ⟨(some 4), none, (.op (.mv (.t 71)))⟩]
def ftells_c : AC := (.seq (.reg ftells_r0) (.seq (.seq (.reg ftells_r1) (.cond (.t 14) (.seq (.reg ftells_r2) .ret) .skip)) (.seq (.reg ftells_r3) (.seq (.reg ftells_r4) (.seq (.reg ftells_r5) (.seq (.seq (.regd ftells_r6 ftells_p6) (.cond (.t 31) (.seq (.reg ftells_r7) .ret) .skip)) (.seq (.seq (.reg ftells_r8) (.cond (.t 33) (.seq (.reg ftells_r9) .ret) .skip)) (.seq (.reg ftells_r10) (.seq (.reg ftells_r11) .ret)))))))))
def ftells_res : List ARes := [(.tmp 4)]
set_option maxRecDepth 100000 in
theorem ftells_get : getF Try.prog 7 7000 [] = some ("gavotte/gavottelaw4.FlowTells", 72, ftells_c, ftells_res) := by kernel_rfl
attribute [simp] handler4_r0 handler4_r1 handler4_res awake4_r0 awake4_r1 awake4_r2 awake4_r3 awake4_r4 awake4_r5 awake4_res ftells_r0 ftells_r1 ftells_r2 ftells_r3 ftells_r4 ftells_r5 ftells_r6 ftells_p6 ftells_r7 ftells_r8 ftells_r9 ftells_r10 ftells_r11 ftells_res

def hdlP (code : List Ins) : Prg := ⟨[⟨0, code⟩], [⟨[0], 0, -1, false⟩], [], 100⟩
theorem handler4_pc (code : List Ins) : PC Try.prog 40 [.lst 2 (code.map Ins.av)] (hdlP code).av := by
  refine pc_of_get handler4_get (by simp) _ (by simp) _ ?_
  unfold handler4_c
  simp [hdlP]
def awk4 : List Ins := [⟨1, 1⟩, ⟨21, 4⟩, ⟨1, 2⟩, ⟨20, 5⟩, ⟨1, 3⟩, ⟨2, 0⟩]
theorem awake4_pc : PC Try.prog 32 [] (.bool true) := by
  refine pc_of_get awake4_get (by simp) _ (by simp) _ ?_
  unfold awake4_c
  simp
  refine call (handler4_pc awk4) (by simp [awk4]) ?_
  simp
  refine call (depths_pc (hdlP awk4) 0) (by simp) ?_
  rw [show depthsV (hdlP awk4) 0 = ([0, 1, 0, 1, 0, 1, 0], 0) by decide]
  simp
  refine call (handler4_pc [⟨2, 0⟩]) (by simp) ?_
  simp
  refine call (depths_pc (hdlP [⟨2, 0⟩]) 0) (by simp) ?_
  rw [show depthsV (hdlP [⟨2, 0⟩]) 0 = ([], 5) by decide]
  simp
  refine call (depths_pc (hdlP awk4) 1) (by simp) ?_
  rw [show depthsV (hdlP awk4) 1 = ([], 7) by decide]
  simp
  refine call (aints_pc [0, 1, 0, 1, 0, 1, 0] [0, 1, 0, 1, 0, 1, 0] (by simp)) (by simp) ?_
  simp
  refine call (fcheck_pc (hdlP awk4)) (by simp) ?_
  rw [show flowV (hdlP awk4) = 0 by decide]
  simp
  refine call (most_pc (hdlP awk4) 0) (by simp) ?_
  rw [show mostV (hdlP awk4) 0 = 1 by decide]
  simp
  refine call (most_pc (hdlP awk4) 1) (by simp) ?_
  rw [show mostV (hdlP awk4) 1 = -1 by decide]
  simp
theorem rdep_err {p : Prg} (hc : checkV p = 0) {i : Nat} (hi : i < p.hs.length) : (rdepV p i).2.2 = walkE p.hs p.hs[i] := by
  have e : p.hs[((i : Int)).toNat]? = some p.hs[i] := by simp [hi]
  unfold rdepV walkE
  rw [if_neg (by omega), e]
  simp only
  rw [walk_eq (codeOk_of hc (List.getElem_mem hi))]
  cases walkV p.hs p.hs[i].code <;> rfl
theorem rflow_eq (p : Prg) : rflowV p = flowV p := by
  unfold rflowV flowV
  by_cases hc : checkV p = 0
  · rw [hc, if_neg (by simp)]
    have key : ∀ (k i : Nat), i + k = p.hs.length → rflowGo p ((List.range' i k).map fun n : Nat => (n : Int)) 0 = firstNZ ((p.hs.drop i).map (walkE p.hs)) := by
      intro k
      induction k with
      | zero => intro i hi; rw [List.drop_of_length_le (by omega)]; rfl
      | succ k ih =>
        intro i hi
        have hlt : i < p.hs.length := by omega
        rw [List.range'_succ, List.map_cons, rflowGo, if_pos rfl, rdep_err hc hlt, List.drop_eq_getElem_cons hlt, List.map_cons, firstNZ]
        by_cases hw : walkE p.hs p.hs[i] = 0
        · rw [hw, if_neg (by simp), ih (i + 1) (by omega)]
        · rw [if_pos hw]
          cases k with
          | zero => rfl
          | succ k => rw [List.range'_succ, List.map_cons, rflowGo, if_neg hw]
    have := key p.hs.length 0 (by omega)
    rw [List.range_eq_range']
    simpa using this
  · rw [if_pos hc]
    cases hl : p.hs.length with
    | zero => simp [rflowGo]
    | succ n => rw [List.range_succ_eq_map, List.map_cons, rflowGo, if_neg hc]
theorem tells_eq {p : Prg} (hc : checkV p = 0) (h : Int) : depthsV p h = ((rdepV p h).1, (rdepV p h).2.2) ∧ mostV p h = (rdepV p h).2.1 := by
  by_cases hr : h < 0 ∨ h ≥ p.hs.length
  · have e1 : depthsV p h = ([], 7) := by unfold depthsV; rw [if_neg (by simpa using hc), if_pos hr]
    have e2 : rdepV p h = ([], -1, 7) := by unfold rdepV; rw [if_pos hr]
    refine ⟨by rw [e1, e2], ?_⟩
    unfold mostV
    rw [e1, e2, if_pos (by simp)]
  · cases hx : p.hs[h.toNat]? with
    | none => rw [List.getElem?_eq_none_iff] at hx; omega
    | some x =>
      have hw := walk_eq (codeOk_of hc (List.mem_of_getElem? hx))
      cases hv : walkV p.hs x.code with
      | none =>
        have e1 : depthsV p h = ([], 5) := by unfold depthsV; rw [if_neg (by simpa using hc), if_neg hr, hx]; simp only [hv]
        have e2 : rdepV p h = ([], -1, 5) := by unfold rdepV; rw [if_neg hr, hx]; simp only [hw, hv]
        refine ⟨by rw [e1, e2], ?_⟩
        unfold mostV
        rw [e1, e2, if_pos (by simp)]
      | some r =>
        have e1 : depthsV p h = (r.1, 0) := by unfold depthsV; rw [if_neg (by simpa using hc), if_neg hr, hx]; simp only [hv]
        have e2 : rdepV p h = (r.1, r.2, 0) := by unfold rdepV; rw [if_neg hr, hx]; simp only [hw, hv]
        refine ⟨by rw [e1, e2], ?_⟩
        unfold mostV
        rw [e1, e2, if_neg (by simp), hx]
        simp only [hv]
theorem depthsV_len (p : Prg) (h : Int) : (depthsV p h).1.length < 4611686018427387904 := by
  unfold depthsV
  split
  · simp
  · rename_i h1
    split
    · simp
    · split
      · rename_i x hx
        have hok := codeOk_of (by simpa using h1) (List.mem_of_getElem? hx)
        rcases walk_good hok with ⟨o, m, e, g⟩ | ⟨e, _⟩
        · rw [e]; simp only [g.len]; have := hok.1; omega
        · rw [e]; simp
      · simp
theorem flowTells_pc (p : Prg) (h : Int) : PC Try.prog 7 [p.av, iv h] (.bool true) := by
  refine pc_of_get ftells_get (by simp) _ (by simp) _ ?_
  unfold ftells_c
  simp
  refine call (small_pc p) (by simp) ?_
  simp
  by_cases h1 : smallV p
  rotate_left
  · simp [h1]
    refine call awake4_pc (by simp) ?_
    simp
  simp [h1]
  refine call (depths_pc p h) (by simp) ?_
  simp
  refine call (most_pc p h) (by simp) ?_
  simp
  refine call (rcheck_pc p) (by simp) ?_
  simp
  refine calld (fcheck_pc p) (by simp) ?_
  simp
  refine calld (rcflow_pc p (by have := h1.1; omega)) (by simp) ?_
  simp [rflow_eq]
  refine split (fun h2 => ?_) (fun h2 => ?_) <;> simp [h2]
  · have hc := h2
    obtain ⟨e1, e2⟩ := tells_eq hc h
    refine call (rdep_pc p h (fun x hx => codeOk_of hc hx)) (by simp) ?_
    have hl := depthsV_len p h
    rw [e1, e2]
    rw [e1] at hl
    simp
    refine call (aints_pc (rdepV p h).1 (rdepV p h).1 hl) (by simp) ?_
    simp
    refine call awake4_pc (by simp) ?_
    simp
  · have e1 : depthsV p h = ([], checkV p) := by unfold depthsV; rw [if_pos h2]
    have e2 : mostV p h = -1 := by unfold mostV; rw [e1, if_pos h2]
    rw [e1, e2]
    simp
    refine call awake4_pc (by simp) ?_
    simp

end Go.Gv
