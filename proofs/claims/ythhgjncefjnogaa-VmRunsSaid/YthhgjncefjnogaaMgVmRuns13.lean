/- Texts of this proof, one behind the other. What is proved, and on which conditions, stands ahead of each. -/
import Derived.Test.YthhgjncefjnogaaProg
import Derived.Test.YthhgjncefjnogaaMgVmRuns12

/- The law FlowTells answers true, for all programs. No condition. -/
set_option linter.unusedVariables false
set_option linter.unusedSimpArgs false
namespace Go.Gv
open Go.Proofs

def handler4_r0 : List AI := [⟨(some 2), none, (.op (.new 40002 4 (.agg [.nils, .nils, .nils, (.int .i64 0)])))⟩]
def handler4_r1 : List AI := [⟨(some 3), none, (.op (.mv (.t 0)))⟩, ⟨(some 4), none, (.op (.build [(.int .i64 0), .nils] [(1, (1, (.t 3)))]))⟩, ⟨(some 5), none, (.op (.bsl 40005 2 33 1 (.agg [(.int .i64 0), .nils]) [(0, (.t 4))]))⟩, ⟨(some 6), none, (.op (.bsl 40006 1 3 1 (.int .i64 0) [(0, (.c (.int .i64 0)))]))⟩, ⟨(some 7), none, (.op (.build [.nils, (.int .i64 0), (.int .i64 0), (.bool false)] [(0, (1, (.t 6))), (2, (1, (.c (.int .i64 (-1)))))]))⟩, ⟨(some 8), none, (.op (.bsl 40008 4 38 1 (.agg [.nils, (.int .i64 0), (.int .i64 0), (.bool false)]) [(0, (.t 7))]))⟩, ⟨(some 9), none, (.op (.build [.nils, .nils, .nils, (.int .i64 0)] [(0, (1, (.t 5))), (1, (1, (.t 8))), (3, (1, (.c (.int .i64 100))))]))⟩, ⟨none, none, (.op (.store 4 (.t 2) (.t 9)))⟩]
def handler4_c : AC := (.seq (.reg handler4_r0) (.seq (.reg handler4_r1) .ret))
def handler4_res : List ARes := [(.cell (some 4) 2)]
set_option maxRecDepth 100000 in
theorem handler4_get : getF Try.prog 40 40000 [] = some ("gavotte/gavottelaw4.handler", 10, handler4_c, handler4_res) := by kernel_rfl
def awake4_r0 : List AI := [⟨(some 0), none, (.op (.mv (.c (.bool false))))⟩]
def awake4_r1 : List AI := [⟨(some 8), none, (.op (.build [(.int .i64 0), (.int .i64 0)] [(0, (1, (.c (.int .i64 1)))), (1, (1, (.c (.int .i64 1))))]))⟩, ⟨(some 9), none, (.op (.build [(.int .i64 0), (.int .i64 0)] [(0, (1, (.c (.int .i64 21)))), (1, (1, (.c (.int .i64 4))))]))⟩, ⟨(some 10), none, (.op (.build [(.int .i64 0), (.int .i64 0)] [(0, (1, (.c (.int .i64 1)))), (1, (1, (.c (.int .i64 2))))]))⟩, ⟨(some 11), none, (.op (.build [(.int .i64 0), (.int .i64 0)] [(0, (1, (.c (.int .i64 20)))), (1, (1, (.c (.int .i64 5))))]))⟩, ⟨(some 12), none, (.op (.build [(.int .i64 0), (.int .i64 0)] [(0, (1, (.c (.int .i64 1)))), (1, (1, (.c (.int .i64 3))))]))⟩, ⟨(some 13), none, (.op (.build [(.int .i64 0), (.int .i64 0)] [(0, (1, (.c (.int .i64 2))))]))⟩, ⟨(some 14), none, (.op (.bsl 32014 2 35 6 (.agg [(.int .i64 0), (.int .i64 0)]) [(0, (.t 8)), (1, (.t 9)), (2, (.t 10)), (3, (.t 11)), (4, (.t 12)), (5, (.t 13))]))⟩, ⟨(some 15), none, (.call (.c (.fn 40 [])) [(.t 14)])⟩, ⟨(some 1), none, (.op (.new 32001 4 (.agg [.nils, .nils, .nils, (.int .i64 0)])))⟩, ⟨none, none, (.op (.store 4 (.t 1) (.t 15)))⟩]
def awake4_r2 : List AI := [⟨(some 17), none, (.op (.load (some 4) (.t 1)))⟩, ⟨(some 18), none, (.call (.c (.fn 33 [])) [(.t 17), (.c (.int .i64 0))])⟩, ⟨(some 16), none, (.op (.mv (.t 18)))⟩, ⟨(some 19), none, (.op (.ext (.t 16) 0))⟩, ⟨(some 20), none, (.op (.ext (.t 16) 1))⟩, ⟨(some 2), none, (.op (.mv (.t 19)))⟩, ⟨(some 3), none, (.op (.mv (.t 20)))⟩]
def awake4_r3 : List AI := [⟨(some 22), none, (.op (.build [(.int .i64 0), (.int .i64 0)] [(0, (1, (.c (.int .i64 2))))]))⟩, ⟨(some 23), none, (.op (.bsl 32023 2 35 1 (.agg [(.int .i64 0), (.int .i64 0)]) [(0, (.t 22))]))⟩, ⟨(some 24), none, (.call (.c (.fn 40 [])) [(.t 23)])⟩, ⟨(some 25), none, (.call (.c (.fn 33 [])) [(.t 24), (.c (.int .i64 0))])⟩, ⟨(some 21), none, (.op (.mv (.t 25)))⟩, ⟨(some 26), none, (.op (.ext (.t 21) 0))⟩, ⟨(some 27), none, (.op (.ext (.t 21) 1))⟩, ⟨(some 4), none, (.op (.mv (.t 26)))⟩, ⟨(some 5), none, (.op (.mv (.t 27)))⟩]
def awake4_r4 : List AI := [⟨(some 29), none, (.op (.load (some 4) (.t 1)))⟩, ⟨(some 30), none, (.call (.c (.fn 33 [])) [(.t 29), (.c (.int .i64 1))])⟩, ⟨(some 28), none, (.op (.mv (.t 30)))⟩, ⟨(some 31), none, (.op (.ext (.t 28) 0))⟩, ⟨(some 32), none, (.op (.ext (.t 28) 1))⟩, ⟨(some 6), none, (.op (.mv (.t 31)))⟩, ⟨(some 7), none, (.op (.mv (.t 32)))⟩]
def awake4_r5 : List AI := [⟨(some 33), none, (.op (.mv (.t 3)))⟩, ⟨(some 34), none, (.op (.ibin .eql (.t 33) (.c (.int .i64 0))))⟩, ⟨(some 35), none, (.op (.mv (.t 34)))⟩, ⟨(some 36), (some (35, true)), (.op (.mv (.t 2)))⟩, ⟨(some 37), (some (35, true)), (.op (.bsl 32037 1 3 7 (.int .i64 0) [(0, (.c (.int .i64 0))), (1, (.c (.int .i64 1))), (2, (.c (.int .i64 0))), (3, (.c (.int .i64 1))), (4, (.c (.int .i64 0))), (5, (.c (.int .i64 1))), (6, (.c (.int .i64 0)))]))⟩, ⟨(some 38), (some (35, true)), (.call (.c (.fn 39 [])) [(.t 36), (.t 37)])⟩, ⟨(some 39), none, (.op (.pick (.t 35) (.t 38) (.c (.bool false))))⟩, ⟨(some 40), none, (.op (.mv (.t 39)))⟩, ⟨(some 41), (some (40, true)), (.op (.mv (.t 5)))⟩, ⟨(some 42), (some (40, true)), (.op (.ibin .eql (.t 41) (.c (.int .i64 5))))⟩, ⟨(some 43), none, (.op (.pick (.t 40) (.t 42) (.c (.bool false))))⟩, ⟨(some 44), none, (.op (.mv (.t 43)))⟩, ⟨(some 45), (some (44, true)), (.op (.mv (.t 7)))⟩, ⟨(some 46), (some (44, true)), (.op (.ibin .eql (.t 45) (.c (.int .i64 7))))⟩, ⟨(some 47), none, (.op (.pick (.t 44) (.t 46) (.c (.bool false))))⟩, ⟨(some 48), none, (.op (.mv (.t 47)))⟩, ⟨(some 49), (some (48, true)), (.op (.load (some 4) (.t 1)))⟩, ⟨(some 50), (some (48, true)), (.call (.c (.fn 36 [])) [(.t 49)])⟩, ⟨(some 51), (some (48, true)), (.op (.ibin .eql (.t 50) (.c (.int .i64 0))))⟩, ⟨(some 52), none, (.op (.pick (.t 48) (.t 51) (.c (.bool false))))⟩, ⟨(some 53), none, (.op (.mv (.t 52)))⟩, ⟨(some 54), (some (53, true)), (.op (.load (some 4) (.t 1)))⟩, ⟨(some 55), (some (53, true)), (.call (.c (.fn 34 [])) [(.t 54), (.c (.int .i64 0))])⟩, ⟨(some 56), (some (53, true)), (.op (.ibin .eql (.t 55) (.c (.int .i64 1))))⟩, ⟨(some 57), none, (.op (.pick (.t 53) (.t 56) (.c (.bool false))))⟩, ⟨(some 58), none, (.op (.mv (.t 57)))⟩, ⟨(some 59), (some (58, true)), (.op (.load (some 4) (.t 1)))⟩, ⟨(some 60), (some (58, true)), (.call (.c (.fn 34 [])) [(.t 59), (.c (.int .i64 1))])⟩, ⟨(some 61), (some (58, true)), (.op (.ibin .eql (.t 60) (.c (.int .i64 (-1)))))⟩, ⟨(some 62), none, (.op (.pick (.t 58) (.t 61) (.c (.bool false))))⟩, ⟨(some 0), none, (.op (.mv (.t 62)))⟩]
def awake4_c : AC := (.seq (.reg awake4_r0) (.seq (.reg awake4_r1) (.seq (.reg awake4_r2) (.seq (.reg awake4_r3) (.seq (.reg awake4_r4) (.seq (.reg awake4_r5) .ret))))))
def awake4_res : List ARes := [(.tmp 0)]
set_option maxRecDepth 100000 in
theorem awake4_get : getF Try.prog 32 32000 [] = some ("gavotte/gavottelaw4.awake", 63, awake4_c, awake4_res) := by kernel_rfl
def ftells_r0 : List AI := [⟨(some 2), none, (.op (.box 7002 4 (.t 0)))⟩, ⟨(some 4), none, (.op (.mv (.c (.bool false))))⟩]
def ftells_r1 : List AI := [⟨(some 12), none, (.op (.load (some 4) (.t 2)))⟩, ⟨(some 13), none, (.call (.c (.fn 24 [])) [(.t 12)])⟩, ⟨(some 14), none, (.op (.not (.t 13)))⟩]
def ftells_r2 : List AI := [⟨(some 15), none, (.call (.c (.fn 32 [])) [])⟩, ⟨(some 4), none, (.op (.mv (.t 15)))⟩]
def ftells_r3 : List AI := [⟨(some 17), none, (.op (.load (some 4) (.t 2)))⟩, ⟨(some 18), none, (.op (.mv (.t 1)))⟩, ⟨(some 19), none, (.call (.c (.fn 33 [])) [(.t 17), (.t 18)])⟩, ⟨(some 16), none, (.op (.mv (.t 19)))⟩, ⟨(some 20), none, (.op (.ext (.t 16) 0))⟩, ⟨(some 21), none, (.op (.ext (.t 16) 1))⟩, ⟨(some 5), none, (.op (.mv (.t 20)))⟩, ⟨(some 6), none, (.op (.mv (.t 21)))⟩]
def ftells_r4 : List AI := [⟨(some 22), none, (.op (.load (some 4) (.t 2)))⟩, ⟨(some 23), none, (.op (.mv (.t 1)))⟩, ⟨(some 24), none, (.call (.c (.fn 34 [])) [(.t 22), (.t 23)])⟩, ⟨(some 7), none, (.op (.mv (.t 24)))⟩]
def ftells_r5 : List AI := [⟨(some 25), none, (.op (.load (some 4) (.t 2)))⟩, ⟨(some 26), none, (.call (.c (.fn 35 [])) [(.t 25)])⟩, ⟨(some 8), none, (.op (.mv (.t 26)))⟩]
def ftells_r6 : List AI := [⟨(some 27), none, (.op (.load (some 4) (.t 2)))⟩, ⟨(some 28), none, (.call (.c (.fn 36 [])) [(.t 27)])⟩, ⟨(some 29), none, (.op (.load (some 4) (.t 2)))⟩, ⟨(some 30), none, (.call (.c (.fn 37 [])) [(.t 29)])⟩, ⟨(some 31), none, (.op (.ibin .neq (.t 28) (.t 30)))⟩]
def ftells_p6 : List (List Nat) := [[], [0], [], [2, 1, 0], [1, 3, 0, 2]]
def ftells_r7 : List AI := [⟨(some 4), none, (.op (.mv (.c (.bool false))))⟩]
def ftells_r8 : List AI := [⟨(some 32), none, (.op (.mv (.t 8)))⟩, ⟨(some 33), none, (.op (.ibin .neq (.t 32) (.c (.int .i64 0))))⟩]
def ftells_r9 : List AI := [⟨(some 34), none, (.op (.mv (.t 6)))⟩, ⟨(some 35), none, (.op (.mv (.t 8)))⟩, ⟨(some 36), none, (.op (.ibin .eql (.t 34) (.t 35)))⟩, ⟨(some 37), none, (.op (.mv (.t 36)))⟩, ⟨(some 38), (some (37, true)), (.op (.mv (.t 5)))⟩, ⟨(some 39), (some (37, true)), (.op (.len (.t 38)))⟩, ⟨(some 40), (some (37, true)), (.op (.ibin .eql (.t 39) (.c (.int .i64 0))))⟩, ⟨(some 41), none, (.op (.pick (.t 37) (.t 40) (.c (.bool false))))⟩, ⟨(some 42), none, (.op (.mv (.t 41)))⟩, ⟨(some 43), (some (42, true)), (.op (.mv (.t 7)))⟩, ⟨(some 44), (some (42, true)), (.op (.ibin .eql (.t 43) (.c (.int .i64 (-1)))))⟩, ⟨(some 45), none, (.op (.pick (.t 42) (.t 44) (.c (.bool false))))⟩, ⟨(some 46), none, (.op (.mv (.t 45)))⟩, ⟨(some 47), (some (46, true)), (.call (.c (.fn 32 [])) [])⟩, ⟨(some 48), none, (.op (.pick (.t 46) (.t 47) (.c (.bool false))))⟩, ⟨(some 4), none, (.op (.mv (.t 48)))⟩]
def ftells_r10 : List AI := [⟨(some 50), none, (.op (.load (some 4) (.t 2)))⟩, ⟨(some 51), none, (.op (.mv (.t 1)))⟩, ⟨(some 52), none, (.call (.c (.fn 38 [])) [(.t 50), (.t 51)])⟩, ⟨(some 49), none, (.op (.mv (.t 52)))⟩, ⟨(some 53), none, (.op (.ext (.t 49) 0))⟩, ⟨(some 54), none, (.op (.ext (.t 49) 1))⟩, ⟨(some 55), none, (.op (.ext (.t 49) 2))⟩, ⟨(some 9), none, (.op (.mv (.t 53)))⟩, ⟨(some 10), none, (.op (.mv (.t 54)))⟩, ⟨(some 11), none, (.op (.mv (.t 55)))⟩]
def ftells_r11 : List AI := [⟨(some 56), none, (.op (.mv (.t 5)))⟩, ⟨(some 57), none, (.op (.mv (.t 9)))⟩, ⟨(some 58), none, (.call (.c (.fn 39 [])) [(.t 56), (.t 57)])⟩, ⟨(some 59), none, (.op (.mv (.t 58)))⟩, ⟨(some 60), (some (59, true)), (.op (.mv (.t 6)))⟩, ⟨(some 61), (some (59, true)), (.op (.mv (.t 11)))⟩, ⟨(some 62), (some (59, true)), (.op (.ibin .eql (.t 60) (.t 61)))⟩, ⟨(some 63), none, (.op (.pick (.t 59) (.t 62) (.c (.bool false))))⟩, ⟨(some 64), none, (.op (.mv (.t 63)))⟩, ⟨(some 65), (some (64, true)), (.op (.mv (.t 7)))⟩, ⟨(some 66), (some (64, true)), (.op (.mv (.t 10)))⟩, ⟨(some 67), (some (64, true)), (.op (.ibin .eql (.t 65) (.t 66)))⟩, ⟨(some 68), none, (.op (.pick (.t 64) (.t 67) (.c (.bool false))))⟩, ⟨(some 69), none, (.op (.mv (.t 68)))⟩, ⟨(some 70), (some (69, true)), (.call (.c (.fn 32 [])) [])⟩, ⟨(some 71), none, (.op (.pick (.t 69) (.t 70) (.c (.bool false))))⟩, ⟨(some 4), none, (.op (.mv (.t 71)))⟩]
def ftells_c : AC := (.seq (.reg ftells_r0) (.seq (.seq (.reg ftells_r1) (.cond (.t 14) (.seq (.reg ftells_r2) .ret) .skip)) (.seq (.reg ftells_r3) (.seq (.reg ftells_r4) (.seq (.reg ftells_r5) (.seq (.seq (.regd ftells_r6 ftells_p6) (.cond (.t 31) (.seq (.reg ftells_r7) .ret) .skip)) (.seq (.seq (.reg ftells_r8) (.cond (.t 33) (.seq (.reg ftells_r9) .ret) .skip)) (.seq (.reg ftells_r10) (.seq (.reg ftells_r11) .ret)))))))))
def ftells_res : List ARes := [(.tmp 4)]
set_option maxRecDepth 100000 in
theorem ftells_get : getF Try.prog 7 7000 [] = some ("gavotte/gavottelaw4.FlowTells", 72, ftells_c, ftells_res) := by kernel_rfl
attribute [simp] handler4_r0 handler4_r1 handler4_res awake4_r0 awake4_r1 awake4_r2 awake4_r3 awake4_r4 awake4_r5 awake4_res ftells_r0 ftells_r1 ftells_r2 ftells_r3 ftells_r4 ftells_r5 ftells_r6 ftells_p6 ftells_r7 ftells_r8 ftells_r9 ftells_r10 ftells_r11 ftells_res

def hdlP (code : List Ins) : Prg := ⟨[⟨0, code⟩], [⟨[0], 0, -1, false⟩], [], 100⟩
theorem handler4_pc (code : List Ins) : PC Try.prog 40 [.lst 2 (code.map Ins.av)] (hdlP code).av := by
  refine pc_of_get handler4_get (by simp) _ (by simp) _ ?_
  unfold handler4_c
  simp [hdlP]
def awk4 : List Ins := [⟨1, 1⟩, ⟨21, 4⟩, ⟨1, 2⟩, ⟨20, 5⟩, ⟨1, 3⟩, ⟨2, 0⟩]
theorem awake4_pc : PC Try.prog 32 [] (.bool true) := by
  refine pc_of_get awake4_get (by simp) _ (by simp) _ ?_
  unfold awake4_c
  simp
  refine call (handler4_pc awk4) (by simp [awk4]) ?_
  simp
  refine call (depths_pc (hdlP awk4) 0) (by simp) ?_
  rw [show depthsV (hdlP awk4) 0 = ([0, 1, 0, 1, 0, 1, 0], 0) by decide]
  simp
  refine call (handler4_pc [⟨2, 0⟩]) (by simp) ?_
  simp
  refine call (depths_pc (hdlP [⟨2, 0⟩]) 0) (by simp) ?_
  rw [show depthsV (hdlP [⟨2, 0⟩]) 0 = ([], 5) by decide]
  simp
  refine call (depths_pc (hdlP awk4) 1) (by simp) ?_
  rw [show depthsV (hdlP awk4) 1 = ([], 7) by decide]
  simp
  refine call (aints_pc [0, 1, 0, 1, 0, 1, 0] [0, 1, 0, 1, 0, 1, 0] (by simp)) (by simp) ?_
  simp
  refine call (fcheck_pc (hdlP awk4)) (by simp) ?_
  rw [show flowV (hdlP awk4) = 0 by decide]
  simp
  refine call (most_pc (hdlP awk4) 0) (by simp) ?_
  rw [show mostV (hdlP awk4) 0 = 1 by decide]
  simp
  refine call (most_pc (hdlP awk4) 1) (by simp) ?_
  rw [show mostV (hdlP awk4) 1 = -1 by decide]
  simp
theorem rdep_err {p : Prg} (hc : checkV p = 0) {i : Nat} (hi : i < p.hs.length) : (rdepV p i).2.2 = walkE p.hs p.hs[i] := by
  have e : p.hs[((i : Int)).toNat]? = some p.hs[i] := by simp [hi]
  unfold rdepV walkE
  rw [if_neg (by omega), e]
  simp only
  rw [walk_eq (codeOk_of hc (List.getElem_mem hi))]
  cases walkV p.hs p.hs[i].code <;> rfl
theorem rflow_eq (p : Prg) : rflowV p = flowV p := by
  unfold rflowV flowV
  by_cases hc : checkV p = 0
  · rw [hc, if_neg (by simp)]
    have key : ∀ (k i : Nat), i + k = p.hs.length → rflowGo p ((List.range' i k).map fun n : Nat => (n : Int)) 0 = firstNZ ((p.hs.drop i).map (walkE p.hs)) := by
      intro k
      induction k with
      | zero => intro i hi; rw [List.drop_of_length_le (by omega)]; rfl
      | succ k ih =>
        intro i hi
        have hlt : i < p.hs.length := by omega
        rw [List.range'_succ, List.map_cons, rflowGo, if_pos rfl, rdep_err hc hlt, List.drop_eq_getElem_cons hlt, List.map_cons, firstNZ]
        by_cases hw : walkE p.hs p.hs[i] = 0
        · rw [hw, if_neg (by simp), ih (i + 1) (by omega)]
        · rw [if_pos hw]
          cases k with
          | zero => rfl
          | succ k => rw [List.range'_succ, List.map_cons, rflowGo, if_neg hw]
    have := key p.hs.length 0 (by omega)
    rw [List.range_eq_range']
    simpa using this
  · rw [if_pos hc]
    cases hl : p.hs.length with
    | zero => simp [rflowGo]
    | succ n => rw [List.range_succ_eq_map, List.map_cons, rflowGo, if_neg hc]
theorem tells_eq {p : Prg} (hc : checkV p = 0) (h : Int) : depthsV p h = ((rdepV p h).1, (rdepV p h).2.2) ∧ mostV p h = (rdepV p h).2.1 := by
  by_cases hr : h < 0 ∨ h ≥ p.hs.length
  · have e1 : depthsV p h = ([], 7) := by unfold depthsV; rw [if_neg (by simpa using hc), if_pos hr]
    have e2 : rdepV p h = ([], -1, 7) := by unfold rdepV; rw [if_pos hr]
    refine ⟨by rw [e1, e2], ?_⟩
    unfold mostV
    rw [e1, e2, if_pos (by simp)]
  · cases hx : p.hs[h.toNat]? with
    | none => rw [List.getElem?_eq_none_iff] at hx; omega
    | some x =>
      have hw := walk_eq (codeOk_of hc (List.mem_of_getElem? hx))
      cases hv : walkV p.hs x.code with
      | none =>
        have e1 : depthsV p h = ([], 5) := by unfold depthsV; rw [if_neg (by simpa using hc), if_neg hr, hx]; simp only [hv]
        have e2 : rdepV p h = ([], -1, 5) := by unfold rdepV; rw [if_neg hr, hx]; simp only [hw, hv]
        refine ⟨by rw [e1, e2], ?_⟩
        unfold mostV
        rw [e1, e2, if_pos (by simp)]
      | some r =>
        have e1 : depthsV p h = (r.1, 0) := by unfold depthsV; rw [if_neg (by simpa using hc), if_neg hr, hx]; simp only [hv]
        have e2 : rdepV p h = (r.1, r.2, 0) := by unfold rdepV; rw [if_neg hr, hx]; simp only [hw, hv]
        refine ⟨by rw [e1, e2], ?_⟩
        unfold mostV
        rw [e1, e2, if_neg (by simp), hx]
        simp only [hv]
theorem depthsV_len (p : Prg) (h : Int) : (depthsV p h).1.length < 4611686018427387904 := by
  unfold depthsV
  split
  · simp
  · rename_i h1
    split
    · simp
    · split
      · rename_i x hx
        have hok := codeOk_of (by simpa using h1) (List.mem_of_getElem? hx)
        rcases walk_good hok with ⟨o, m, e, g⟩ | ⟨e, _⟩
        · rw [e]; simp only [g.len]; have := hok.1; omega
        · rw [e]; simp
      · simp
theorem flowTells_pc (p : Prg) (h : Int) : PC Try.prog 7 [p.av, iv h] (.bool true) := by
  refine pc_of_get ftells_get (by simp) _ (by simp) _ ?_
  unfold ftells_c
  simp
  refine call (small_pc p) (by simp) ?_
  simp
  by_cases h1 : smallV p
  rotate_left
  · simp [h1]
    refine call awake4_pc (by simp) ?_
    simp
  simp [h1]
  refine call (depths_pc p h) (by simp) ?_
  simp
  refine call (most_pc p h) (by simp) ?_
  simp
  refine call (rcheck_pc p) (by simp) ?_
  simp
  refine calld (fcheck_pc p) (by simp) ?_
  simp
  refine calld (rcflow_pc p (by have := h1.1; omega)) (by simp) ?_
  simp [rflow_eq]
  refine split (fun h2 => ?_) (fun h2 => ?_) <;> simp [h2]
  · have hc := h2
    obtain ⟨e1, e2⟩ := tells_eq hc h
    refine call (rdep_pc p h (fun x hx => codeOk_of hc hx)) (by simp) ?_
    have hl := depthsV_len p h
    rw [e1, e2]
    rw [e1] at hl
    simp
    refine call (aints_pc (rdepV p h).1 (rdepV p h).1 hl) (by simp) ?_
    simp
    refine call awake4_pc (by simp) ?_
    simp
  · have e1 : depthsV p h = ([], checkV p) := by unfold depthsV; rw [if_pos h2]
    have e2 : mostV p h = -1 := by unfold mostV; rw [e1, if_pos h2]
    rw [e1, e2]
    simp
    refine call awake4_pc (by simp) ?_
    simp

end Go.Gv

/- What vm.May and vm.Run answer. -/
set_option linter.unusedVariables false
set_option linter.unusedSimpArgs false
namespace Go.Gv
open Go.Proofs

def may_r0 : List AI := [⟨(some 5), none, (.op (.box 42005 4 (.t 0)))⟩, ⟨(some 7), none, (.op (.box 42007 5 (.t 2)))⟩, ⟨(some 10), none, (.op (.mv (.c (.bool false))))⟩]
def may_r1 : List AI := [⟨(some 11), none, (.op (.load (some 4) (.t 5)))⟩, ⟨(some 12), none, (.call (.c (.fn 36 [])) [(.t 11)])⟩, ⟨(some 13), none, (.op (.ibin .eql (.t 12) (.c (.int .i64 0))))⟩, ⟨(some 14), none, (.op (.mv (.t 13)))⟩, ⟨(some 15), (some (14, true)), (.op (.mv (.t 1)))⟩, ⟨(some 16), (some (14, true)), (.op (.ibin .geq (.t 15) (.c (.int .i64 0))))⟩, ⟨(some 17), none, (.op (.pick (.t 14) (.t 16) (.c (.bool false))))⟩, ⟨(some 18), none, (.op (.mv (.t 17)))⟩, ⟨(some 19), (some (18, true)), (.op (.mv (.t 1)))⟩, ⟨(some 20), (some (18, true)), (.op (.fld 1 (.t 5)))⟩, ⟨(some 21), (some (18, true)), (.op (.load none (.t 20)))⟩, ⟨(some 22), (some (18, true)), (.op (.len (.t 21)))⟩, ⟨(some 23), (some (18, true)), (.op (.ibin .lss (.t 19) (.t 22)))⟩, ⟨(some 24), none, (.op (.pick (.t 18) (.t 23) (.c (.bool false))))⟩, ⟨(some 25), none, (.op (.mv (.t 24)))⟩, ⟨(some 26), (some (25, true)), (.op (.mv (.t 3)))⟩, ⟨(some 27), (some (25, true)), (.op (.ibin .geq (.t 26) (.c (.int .i64 0))))⟩, ⟨(some 28), none, (.op (.pick (.t 25) (.t 27) (.c (.bool false))))⟩, ⟨(some 29), none, (.op (.mv (.t 28)))⟩, ⟨(some 30), (some (29, true)), (.op (.mv (.t 3)))⟩, ⟨(some 31), (some (29, true)), (.op (.fld 0 (.t 5)))⟩, ⟨(some 32), (some (29, true)), (.op (.load none (.t 31)))⟩, ⟨(some 33), (some (29, true)), (.op (.len (.t 32)))⟩, ⟨(some 34), (some (29, true)), (.op (.ibin .lss (.t 30) (.t 33)))⟩, ⟨(some 35), none, (.op (.pick (.t 29) (.t 34) (.c (.bool false))))⟩, ⟨(some 36), none, (.op (.mv (.t 35)))⟩, ⟨(some 37), (some (36, true)), (.op (.mv (.t 4)))⟩, ⟨(some 38), (some (36, true)), (.op (.len (.t 37)))⟩, ⟨(some 39), (some (36, true)), (.op (.fld 0 (.t 5)))⟩, ⟨(some 40), (some (36, true)), (.op (.load none (.t 39)))⟩, ⟨(some 41), (some (36, true)), (.op (.mv (.t 3)))⟩, ⟨(some 42), (some (36, true)), (.op (.idx 2 (.t 40) (.t 41)))⟩, ⟨(some 43), (some (36, true)), (.op (.fld 0 (.t 42)))⟩, ⟨(some 44), (some (36, true)), (.op (.load none (.t 43)))⟩, ⟨(some 45), (some (36, true)), (.op (.ibin .eql (.t 38) (.t 44)))⟩, ⟨(some 46), none, (.op (.pick (.t 36) (.t 45) (.c (.bool false))))⟩, ⟨(some 47), none, (.op (.mv (.t 46)))⟩, ⟨(some 48), (some (47, true)), (.op (.fld 0 (.t 7)))⟩, ⟨(some 49), (some (47, true)), (.op (.load none (.t 48)))⟩, ⟨(some 50), (some (47, true)), (.op (.len (.t 49)))⟩, ⟨(some 51), (some (47, true)), (.op (.ibin .leq (.t 50) (.c (.int .i64 8))))⟩, ⟨(some 52), none, (.op (.pick (.t 47) (.t 51) (.c (.bool false))))⟩, ⟨(some 53), none, (.op (.mv (.t 52)))⟩, ⟨(some 54), (some (53, true)), (.op (.fld 2 (.t 7)))⟩, ⟨(some 55), (some (53, true)), (.op (.load none (.t 54)))⟩, ⟨(some 56), (some (53, true)), (.op (.ibin .eql (.t 55) (.c (.int .i64 0))))⟩, ⟨(some 57), none, (.op (.pick (.t 53) (.t 56) (.c (.bool false))))⟩, ⟨(some 10), none, (.op (.mv (.t 57)))⟩]
def may_c : AC := (.seq (.reg may_r0) (.seq (.reg may_r1) .ret))
def may_res : List ARes := [(.tmp 10)]
set_option maxRecDepth 100000 in
theorem may_get : getF Try.prog 42 42000 [] = some ("gavotte/vm.May", 58, may_c, may_res) := by kernel_rfl
def mrun_r0 : List AI := [⟨(some 5), none, (.op (.box 45005 4 (.t 0)))⟩, ⟨(some 7), none, (.op (.box 45007 5 (.t 2)))⟩, ⟨(some 10), none, (.op (.new 45010 7 (.agg [.nils, (.bool false), (.int .i64 0), (.int .i64 0), (.int .i64 0), .nils, (.int .i64 0)])))⟩]
def mrun_r1 : List AI := [⟨(some 11), none, (.op (.load (some 4) (.t 5)))⟩, ⟨(some 12), none, (.op (.mv (.t 1)))⟩, ⟨(some 13), none, (.op (.load (some 5) (.t 7)))⟩, ⟨(some 14), none, (.op (.mv (.t 3)))⟩, ⟨(some 15), none, (.op (.mv (.t 4)))⟩, ⟨(some 16), none, (.call (.c (.fn 42 [])) [(.t 11), (.t 12), (.t 13), (.t 14), (.t 15)])⟩, ⟨(some 17), none, (.op (.not (.t 16)))⟩]
def mrun_r2 : List AI := [⟨(some 18), none, (.op (.build [.nils, (.bool false), (.int .i64 0), (.int .i64 0), (.int .i64 0), .nils, (.int .i64 0)] []))⟩, ⟨none, none, (.op (.store 7 (.t 10) (.t 18)))⟩]
def mrun_r3 : List AI := [⟨(some 19), none, (.op (.load (some 4) (.t 5)))⟩, ⟨(some 20), none, (.op (.mv (.t 1)))⟩, ⟨(some 21), none, (.op (.load (some 5) (.t 7)))⟩, ⟨(some 22), none, (.op (.mv (.t 3)))⟩, ⟨(some 23), none, (.op (.mv (.t 4)))⟩, ⟨(some 24), none, (.call (.c (.fn 84 [])) [(.t 19), (.t 20), (.t 21), (.t 22), (.t 23)])⟩, ⟨none, none, (.op (.store 7 (.t 10) (.t 24)))⟩]
def mrun_c : AC := (.seq (.reg mrun_r0) (.seq (.seq (.reg mrun_r1) (.cond (.t 17) (.seq (.reg mrun_r2) .ret) .skip)) (.seq (.reg mrun_r3) .ret)))
def mrun_res : List ARes := [(.cell (some 7) 10)]
set_option maxRecDepth 100000 in
theorem mrun_get : getF Try.prog 45 45000 [] = some ("gavotte/vm.Run", 25, mrun_c, mrun_res) := by kernel_rfl
attribute [simp] may_r0 may_r1 may_res mrun_r0 mrun_r1 mrun_r2 mrun_r3 mrun_res

def mayV (p : Prg) (who : Int) (l : Lcl) (h : Int) (args : List Int) : Prop :=
  flowV p = 0 ∧ 0 ≤ who ∧ who < p.as.length ∧ 0 ≤ h ∧ h < p.hs.length ∧ (args.length : Int) = argsOf p.hs h ∧ l.regs.length ≤ 8 ∧ l.down = 0
instance (p : Prg) (who : Int) (l : Lcl) (h : Int) (args : List Int) : Decidable (mayV p who l h args) := by unfold mayV; exact inferInstance
theorem may_pc (p : Prg) (who : Int) (l : Lcl) (h : Int) (args : List Int) : PC Try.prog 42 [p.av, iv who, l.av, iv h, ints args] (.bool (decide (mayV p who l h args))) := by
  refine pc_of_get may_get (by simp) _ (by simp) _ ?_
  unfold may_c mayV
  simp
  refine call (fcheck_pc p) (by simp) ?_
  simp
  by_cases h1 : flowV p = 0
  rotate_left
  · simp [h1]
  by_cases h2 : 0 ≤ who
  rotate_left
  · simp [h1, h2]
  by_cases h3 : who < p.as.length
  rotate_left
  · simp [h1, h2, h3]
  by_cases h4 : 0 ≤ h
  rotate_left
  · simp [h1, h2, h3, h4]
  by_cases h5 : h < p.hs.length
  rotate_left
  · simp [h1, h2, h3, h4, h5]
  have hj : h.toNat < p.hs.length := by omega
  have ha : argsOf p.hs h = p.hs[h.toNat].args := by unfold argsOf; rw [List.getElem?_eq_getElem hj]; rfl
  skip
  by_cases h6 : (args.length : Int) = p.hs[h.toNat].args
  rotate_left
  · simp [ha, h1, h2, h3, h4, h5, h6, hj]
  by_cases h7 : (l.regs.length : Int) ≤ 8
  rotate_left
  · simp [ha, h1, h2, h3, h4, h5, h6, h7, hj, Lcl.av, show ¬ l.regs.length ≤ 8 by omega]
  simp [ha, h1, h2, h3, h4, h5, h6, h7, hj, Lcl.av, show l.regs.length ≤ 8 by omega]
def zeroRes : Res := ⟨⟨[], false, 0, 0, 0⟩, [], 0⟩
def runR (p : Prg) (who : Int) (l : Lcl) (h : Int) (args : List Int) : Res :=
  if mayV p who l h args then goR l (runG (fxOf p who l args) ((p.hs[h.toNat]?.map Hnd.code).getD []) (p.fuel.toNat + 1) (m0Of l) 0) else zeroRes
theorem mrun_pc (p : Prg) (who : Int) (l : Lcl) (h : Int) (args : List Int) (hok : mayV p who l h args → RunOk (fxOf p who l args) ((p.hs[h.toNat]?.map Hnd.code).getD []) (p.fuel.toNat + 1) (m0Of l) 0) (hf : mayV p who l h args → 0 ≤ p.fuel ∧ p.fuel ≤ 1000) :
    PC Try.prog 45 [p.av, iv who, l.av, iv h, ints args] (runR p who l h args).av := by
  refine pc_of_get mrun_get (by simp) _ (by simp) _ ?_
  unfold mrun_c
  simp
  refine call (may_pc p who l h args) (by simp [Lcl.av]) ?_
  by_cases hm : mayV p who l h args
  · have hm0 := hm
    obtain ⟨_, _, _, h4, h5, _, h7, _⟩ := hm0
    have hj : h.toNat < p.hs.length := by omega
    have hx : p.hs[h.toNat]? = some p.hs[h.toNat] := List.getElem?_eq_getElem hj
    simp [hm]
    have hok' := hok hm
    rw [hx] at hok'
    refine call (go_pc p who l h args _ h4 hx (hf hm) (by omega) hok') (by simp [Lcl.av]) ?_
    simp [runR, hm, hx, Res.av]
  · simp [hm, runR, zeroRes, Res.av]

end Go.Gv

/- All that a handler comes to on its way is in order where it may be run: the stack is as deep as the walk tells. -/
set_option linter.unusedVariables false
set_option linter.unusedSimpArgs false
namespace Go.Gv
open Go.Proofs

theorem len_of (l : List Int) (n : Int) (h : n ≤ l.length) (h0 : 1 ≤ n) : l ≠ [] := by
  intro e; rw [e] at h; simp at h; omega
theorem doV_depth (F : Fx) (i : Ins) (m : Mach) (o : 1 ≤ i.op ∧ i.op ≤ 25) (tk : takesV F.p.hs i ≤ m.st.length) (sn : i.op = 22 → 0 ≤ argsOf F.p.hs i.a) (hz : (doV F i m).2 = 0) :
    ((doV F i m).1.st.length : Int) = m.st.length - takesV F.p.hs i + putsV i.op := by
  have tk' : popsV i.op + (if i.op = 22 then argsOf F.p.hs i.a else 0) ≤ m.st.length := tk
  unfold takesV
  rcases lit25 o.1 o.2 with e | e | e | e | e | e | e | e | e | e | e | e | e | e | e | e | e | e | e | e | e | e | e | e | e
  case inr.inr.inr.inr.inr.inr.inr.inr.inr.inr.inr.inr.inr.inr.inr.inr.inr.inr.inr.inr.inr.inl =>
    have s0 := sn e
    have h1 : 1 ≤ m.st.length := by simp [e, popsV] at tk'; omega
    by_cases hc : top m.st < 0 ∨ top m.st ≥ F.p.as.length
    · simp [doV, e, hc] at hz
    · have hd : (doV F i m).1.st = m.st.take (m.st.length - 1 - argsN F i.a) := by simp [doV, e, hc]
      have hn : (argsN F i.a : Int) = argsOf F.p.hs i.a := by unfold argsN; omega
      rw [hd, e, if_pos rfl]
      simp [e, popsV] at tk'
      simp [popsV, putsV]
      omega
  all_goals
    simp [e, popsV] at tk'
    simp [doV, e, popsV, putsV, oneV] <;> omega
theorem doV_pc (F : Fx) (i : Ins) (m : Mach) (o : 1 ≤ i.op ∧ i.op ≤ 25) (p0 : 0 ≤ m.pc) (jp : i.op = 20 ∨ i.op = 21 → 0 ≤ i.a) : (doV F i m).1.pc = -1 ∨ 0 ≤ (doV F i m).1.pc ∧ (doV F i m).1.pc.toNat ∈ nextV m.pc.toNat i := by
  have e1 : (m.pc + 1).toNat = m.pc.toNat + 1 := by omega
  rcases lit25 o.1 o.2 with e | e | e | e | e | e | e | e | e | e | e | e | e | e | e | e | e | e | e | e | e | e | e | e | e
  case inr.inr.inr.inr.inr.inr.inr.inr.inr.inr.inr.inr.inr.inr.inr.inr.inr.inr.inr.inr.inr.inl =>
    have hd : (doV F i m).1.pc = m.pc + 1 := by
      by_cases hc : top m.st < 0 ∨ top m.st ≥ F.p.as.length <;> simp [doV, e, hc]
    rw [hd]
    exact .inr ⟨by omega, by simp [nextV, e, e1]⟩
  case inr.inr.inr.inr.inr.inr.inr.inr.inr.inr.inr.inr.inr.inr.inr.inr.inr.inr.inr.inr.inl =>
    have hj := jp (.inr e)
    by_cases hc : top m.st = 0
    · have hd : (doV F i m).1.pc = i.a := by simp [doV, e, hc]
      rw [hd]
      exact .inr ⟨hj, by simp [nextV, e]⟩
    · have hd : (doV F i m).1.pc = m.pc + 1 := by simp [doV, e, hc]
      rw [hd]
      exact .inr ⟨by omega, by simp [nextV, e, e1]⟩
  case inr.inr.inr.inr.inr.inr.inr.inr.inr.inr.inr.inr.inr.inr.inr.inr.inr.inr.inr.inl =>
    have hj := jp (.inl e)
    have hd : (doV F i m).1.pc = i.a := by simp [doV, e]
    rw [hd]
    exact .inr ⟨hj, by simp [nextV, e]⟩
  case inr.inr.inr.inr.inr.inr.inr.inr.inr.inr.inr.inr.inr.inr.inr.inr.inr.inr.inr.inr.inr.inr.inr.inr =>
    left; simp [doV, e]
  all_goals
    right
    simp [doV, e, nextV, oneV, e1] <;> omega
theorem ite_regs {c : Prop} [Decidable c] {a b : Mach × Int} {n : Nat} (h1 : a.1.regs.length = n) (h2 : b.1.regs.length = n) : (if c then a else b).1.regs.length = n := by
  by_cases h : c
  · rw [if_pos h]; exact h1
  · rw [if_neg h]; exact h2
theorem doV_regs (F : Fx) (i : Ins) (m : Mach) : (doV F i m).1.regs.length = m.regs.length := by
  unfold doV
  repeat' apply ite_regs
  all_goals first
    | rfl
    | (by_cases h : i.a < m.regs.length <;> simp [h])
structure MI (F : Fx) (code : List Ins) (m : Mach) (s : Int) : Prop where
  pc : m.pc ≤ code.length
  st : 0 ≤ m.pc → Rch F.p.hs code m.pc.toNat m.st.length
  rl : m.regs.length ≤ 8
  nl : (m.notes.length : Int) ≤ s
  s0 : 0 ≤ s
theorem Rch.le {hs : List Hnd} {code : List Ins} {a : Nat} {d : Int} (h : Rch hs code a d) : d ≤ 8 := by
  cases h <;> omega
/-- What is fixed and needed. -/
structure RFix (F : Fx) (code : List Ins) : Prop where
  ok : codeOk F.p.hs code
  good : ∃ o m, Good F.p.hs code o m
  ins : ∃ (n k : Int), ∀ i ∈ code, instrV n F.args.length k i = 0
  who : 0 ≤ F.who ∧ F.who.toNat < F.p.as.length
  fuel : F.p.fuel ≤ 256
theorem RFix.doOk {F : Fx} {code : List Ins} (h : RFix F code) {m : Mach} {s : Int} (hm : MI F code m s) (hp : 0 ≤ m.pc ∧ m.pc < code.length) (hs : s < F.p.fuel) {i : Ins} (hi : code[m.pc.toNat]? = some i) : DoOk F i m := by
  obtain ⟨o, mo, hg⟩ := h.good
  obtain ⟨n, k, hins⟩ := h.ins
  have hr := hm.st hp.1
  obtain ⟨g1, g2⟩ := hg.rch hr
  have hcl := hg.closed _ _ _ g1 (by omega) hi
  have him := List.mem_of_getElem? hi
  obtain ⟨q1, q2, q3, q4, q5, q6⟩ := instrV_zero (hins i him)
  have hio := (h.ok.2 i him).1
  have hle := hr.le
  have hc9 := h.ok.1
  have h1 := hm.rl
  have h2 := hm.nl
  have h3 := h.fuel
  exact ⟨⟨q1, q2⟩, hcl.1, fun e => (q4 e).1, fun e => by have := q5 e; omega, fun e => ⟨(hio e).1, (hio e).2.1, (hio e).2.2.1⟩, h.who, by omega, by omega, by omega, by omega⟩
theorem RFix.next {F : Fx} {code : List Ins} (h : RFix F code) {m : Mach} {s : Int} (hm : MI F code m s) (hp : 0 ≤ m.pc ∧ m.pc < code.length) (hs : s < F.p.fuel) {i : Ins} (hi : code[m.pc.toNat]? = some i) (hz : (doV F i m).2 = 0) : MI F code (doV F i m).1 (s + 1) := by
  have hd := h.doOk hm hp hs hi
  obtain ⟨o, mo, hg⟩ := h.good
  have hr := hm.st hp.1
  obtain ⟨g1, g2⟩ := hg.rch hr
  have hcl := hg.closed _ _ _ g1 (by omega) hi
  have him := List.mem_of_getElem? hi
  have hdep := doV_depth F i m hd.op hd.takes (fun e => (hd.snd e).2.2) hz
  have hjmp := (h.ok.2 i him).2
  have hpc := doV_pc F i m hd.op hp.1 (fun e => (hjmp e).1)
  refine ⟨?_, ?_, by rw [doV_regs]; exact hm.rl, by have := doV_notes F i m; have := hm.nl; omega, by have := hm.s0; omega⟩
  · rcases hpc with e | ⟨e1, e2⟩
    · omega
    · have := nextV_le h.ok hi _ e2
      omega
  · intro h0
    rcases hpc with e | ⟨e1, e2⟩
    · omega
    · rw [hdep]
      exact .step hr hi hcl.1 hcl.2.1 e2
theorem RFix.run {F : Fx} {code : List Ins} (h : RFix F code) : ∀ (f : Nat) (m : Mach) (s : Int), MI F code m s → RunOk F code f m s
  | 0, _, _, _ => trivial
  | f + 1, m, s, hm => fun hp hs i hi => ⟨h.doOk hm hp hs hi, fun hz => h.run f _ _ (h.next hm hp hs hi hz)⟩
theorem firstNZ_all {l : List Int} (h : firstNZ l = 0) : ∀ x ∈ l, x = 0 := firstNZ_zero h
/-- What holds where a handler may be run. -/
theorem mayV.ro {p : Prg} {who : Int} {l : Lcl} {h : Int} {args : List Int} (hm : mayV p who l h args) :
    ∃ x, p.hs[h.toNat]? = some x ∧ x ∈ p.hs ∧ checkV p = 0 ∧ RFix (fxOf p who l args) x.code ∧ MI (fxOf p who l args) x.code (m0Of l) 0 ∧ 1 ≤ p.fuel ∧ p.fuel ≤ 256 ∧ (args.length : Int) = x.args := by
  obtain ⟨h1, h2, h3, h4, h5, h6, h7, h8⟩ := hm
  have hj : h.toNat < p.hs.length := by omega
  have hx : p.hs[h.toNat]? = some p.hs[h.toNat] := List.getElem?_eq_getElem hj
  have hmem : p.hs[h.toNat] ∈ p.hs := List.getElem_mem hj
  have hc : checkV p = 0 := by
    unfold flowV at h1
    split at h1
    · rename_i q; exact absurd h1 q
    · rename_i q; simpa using q
  have hw : walkE p.hs p.hs[h.toNat] = 0 := by
    unfold flowV at h1
    rw [if_neg (by simpa using hc)] at h1
    exact firstNZ_zero h1 _ (List.mem_map_of_mem hmem)
  have hco := codeOk_of hc hmem
  have ha : argsOf p.hs h = p.hs[h.toNat].args := by unfold argsOf; rw [hx]; rfl
  obtain ⟨_, _, _, _, c5, c6, c7, _, _⟩ := checkV_zero hc
  obtain ⟨_, _, d3, d4⟩ := handlerV_zero (c7 _ hmem)
  refine ⟨_, hx, hmem, hc, ⟨hco, ?_, ⟨p.hs.length, p.hs[h.toNat].code.length, ?_⟩, ⟨h2, by simp only [fxOf]; omega⟩, c6⟩, ⟨by simp [m0Of], fun _ => ?_, h7, by simp [m0Of], by omega⟩, c5, c6, by rw [← ha]; exact h6⟩
  · rcases walk_good hco with ⟨o, m, e, g⟩ | ⟨e, _⟩
    · exact ⟨o, m, g⟩
    · unfold walkE at hw; rw [e] at hw; simp at hw
  · intro i hi
    have := d4 i hi
    simp only [fxOf]
    rw [h6, ha]
    exact this
  · exact .start
theorem run_pc (p : Prg) (who : Int) (l : Lcl) (h : Int) (args : List Int) : PC Try.prog 45 [p.av, iv who, l.av, iv h, ints args] (runR p who l h args).av := by
  refine mrun_pc p who l h args (fun hm => ?_) (fun hm => ?_)
  · obtain ⟨x, hx, _, _, hro, hmi, _, _, _⟩ := hm.ro
    rw [hx]
    exact hro.run _ _ _ hmi
  · obtain ⟨_, _, _, _, _, _, h1, h2, _⟩ := hm.ro
    omega

end Go.Gv

/- The helpers of chapter 6's laws. -/
set_option linter.unusedVariables false
set_option linter.unusedSimpArgs false
namespace Go.Gv
open Go.Proofs

def one6_r0 : List AI := [⟨(some 4), none, (.op (.new 47004 4 (.agg [.nils, .nils, .nils, (.int .i64 0)])))⟩]
def one6_r1 : List AI := [⟨(some 5), none, (.op (.mv (.t 1)))⟩, ⟨(some 6), none, (.op (.build [(.int .i64 0), .nils] [(1, (1, (.t 5)))]))⟩, ⟨(some 7), none, (.op (.bsl 47007 2 33 1 (.agg [(.int .i64 0), .nils]) [(0, (.t 6))]))⟩, ⟨(some 8), none, (.op (.bsl 47008 1 3 2 (.int .i64 0) [(0, (.c (.int .i64 0))), (1, (.c (.int .i64 0)))]))⟩, ⟨(some 9), none, (.op (.build [.nils, (.int .i64 0), (.int .i64 0), (.bool false)] [(0, (1, (.t 8))), (2, (1, (.c (.int .i64 0))))]))⟩, ⟨(some 10), none, (.op (.build [.nils, (.int .i64 0), (.int .i64 0), (.bool false)] [(2, (1, (.c (.int .i64 (-1)))))]))⟩, ⟨(some 11), none, (.op (.bsl 47011 4 38 2 (.agg [.nils, (.int .i64 0), (.int .i64 0), (.bool false)]) [(0, (.t 9)), (1, (.t 10))]))⟩, ⟨(some 12), none, (.op (.mv (.t 0)))⟩, ⟨(some 13), none, (.op (.build [.nils, .nils, .nils, (.int .i64 0)] [(0, (1, (.t 7))), (1, (1, (.t 11))), (3, (1, (.t 12)))]))⟩, ⟨none, none, (.op (.store 4 (.t 4) (.t 13)))⟩]
def one6_c : AC := (.seq (.reg one6_r0) (.seq (.reg one6_r1) .ret))
def one6_res : List ARes := [(.cell (some 4) 4)]
set_option maxRecDepth 100000 in
theorem one6_get : getF Try.prog 47 47000 [] = some ("gavotte/gavottelaw6.one", 14, one6_c, one6_res) := by kernel_rfl
def local6_r0 : List AI := [⟨(some 4), none, (.op (.new 48004 5 (.agg [.nils, (.bool false), (.int .i64 0), (.int .i64 0), (.int .i64 0)])))⟩]
def local6_r1 : List AI := [⟨(some 5), none, (.op (.mv (.t 0)))⟩, ⟨(some 6), none, (.op (.mv (.t 1)))⟩, ⟨(some 7), none, (.op (.bsl 48007 1 3 2 (.int .i64 0) [(0, (.t 5)), (1, (.t 6))]))⟩, ⟨(some 8), none, (.op (.build [.nils, (.bool false), (.int .i64 0), (.int .i64 0), (.int .i64 0)] [(0, (1, (.t 7)))]))⟩, ⟨none, none, (.op (.store 5 (.t 4) (.t 8)))⟩]
def local6_c : AC := (.seq (.reg local6_r0) (.seq (.reg local6_r1) .ret))
def local6_res : List ARes := [(.cell (some 5) 4)]
set_option maxRecDepth 100000 in
theorem local6_get : getF Try.prog 48 48000 [] = some ("gavotte/gavottelaw6.local", 9, local6_c, local6_res) := by kernel_rfl
attribute [simp] one6_r0 one6_r1 one6_res local6_r0 local6_r1 local6_res

def oneP6 (fuel : Int) (code : List Ins) : Prg := ⟨[⟨0, code⟩], [⟨[0, 0], 0, 0, false⟩, ⟨[], 0, -1, false⟩], [], fuel⟩
def oneA6 (fuel : Int) (code : List Ins) : AV := .agg [.lst 2 [.agg [iv 0, .lst 2 (code.map Ins.av)]], .lst 4 [.agg [ints [0, 0], iv 0, iv 0, .bool false], .agg [.nils, iv 0, iv (-1), .bool false]], .nils, iv fuel]
theorem one6_pc (fuel : Int) (code : List Ins) : PC Try.prog 47 [iv fuel, .lst 2 (code.map Ins.av)] (oneA6 fuel code) := by
  refine pc_of_get one6_get (by simp) _ (by simp) _ ?_
  unfold one6_c
  simp [oneA6, ints]
theorem local6_pc (a b : Int) : PC Try.prog 48 [iv a, iv b] (Lcl.av ⟨[a, b], false, 0, 0, 0⟩) := by
  refine pc_of_get local6_get (by simp) _ (by simp) _ ?_
  unfold local6_c
  simp [Lcl.av, ints]

end Go.Gv

/- What the reference's May answers. -/
set_option linter.unusedVariables false
set_option linter.unusedSimpArgs false
namespace Go.Gv
open Go.Proofs

def rmay_r0 : List AI := [⟨(some 5), none, (.op (.box 43005 4 (.t 0)))⟩, ⟨(some 7), none, (.op (.box 43007 5 (.t 2)))⟩, ⟨(some 10), none, (.op (.mv (.c (.bool false))))⟩]
def rmay_r1 : List AI := [⟨(some 11), none, (.op (.load (some 4) (.t 5)))⟩, ⟨(some 12), none, (.call (.c (.fn 37 [])) [(.t 11)])⟩, ⟨(some 13), none, (.op (.ibin .eql (.t 12) (.c (.int .i64 0))))⟩, ⟨(some 14), none, (.op (.mv (.t 13)))⟩, ⟨(some 15), (some (14, true)), (.op (.mv (.t 1)))⟩, ⟨(some 16), (some (14, true)), (.op (.ibin .geq (.t 15) (.c (.int .i64 0))))⟩, ⟨(some 17), none, (.op (.pick (.t 14) (.t 16) (.c (.bool false))))⟩, ⟨(some 18), none, (.op (.mv (.t 17)))⟩, ⟨(some 19), (some (18, true)), (.op (.mv (.t 1)))⟩, ⟨(some 20), (some (18, true)), (.op (.fld 1 (.t 5)))⟩, ⟨(some 21), (some (18, true)), (.op (.load none (.t 20)))⟩, ⟨(some 22), (some (18, true)), (.op (.len (.t 21)))⟩, ⟨(some 23), (some (18, true)), (.op (.ibin .lss (.t 19) (.t 22)))⟩, ⟨(some 24), none, (.op (.pick (.t 18) (.t 23) (.c (.bool false))))⟩, ⟨(some 25), none, (.op (.mv (.t 24)))⟩, ⟨(some 26), (some (25, true)), (.op (.mv (.t 3)))⟩, ⟨(some 27), (some (25, true)), (.op (.ibin .geq (.t 26) (.c (.int .i64 0))))⟩, ⟨(some 28), none, (.op (.pick (.t 25) (.t 27) (.c (.bool false))))⟩, ⟨(some 29), none, (.op (.mv (.t 28)))⟩, ⟨(some 30), (some (29, true)), (.op (.mv (.t 3)))⟩, ⟨(some 31), (some (29, true)), (.op (.fld 0 (.t 5)))⟩, ⟨(some 32), (some (29, true)), (.op (.load none (.t 31)))⟩, ⟨(some 33), (some (29, true)), (.op (.len (.t 32)))⟩, ⟨(some 34), (some (29, true)), (.op (.ibin .lss (.t 30) (.t 33)))⟩, ⟨(some 35), none, (.op (.pick (.t 29) (.t 34) (.c (.bool false))))⟩, ⟨(some 36), none, (.op (.mv (.t 35)))⟩, ⟨(some 37), (some (36, true)), (.op (.mv (.t 4)))⟩, ⟨(some 38), (some (36, true)), (.op (.len (.t 37)))⟩, ⟨(some 39), (some (36, true)), (.op (.fld 0 (.t 5)))⟩, ⟨(some 40), (some (36, true)), (.op (.load none (.t 39)))⟩, ⟨(some 41), (some (36, true)), (.op (.mv (.t 3)))⟩, ⟨(some 42), (some (36, true)), (.op (.idx 2 (.t 40) (.t 41)))⟩, ⟨(some 43), (some (36, true)), (.op (.fld 0 (.t 42)))⟩, ⟨(some 44), (some (36, true)), (.op (.load none (.t 43)))⟩, ⟨(some 45), (some (36, true)), (.op (.ibin .eql (.t 38) (.t 44)))⟩, ⟨(some 46), none, (.op (.pick (.t 36) (.t 45) (.c (.bool false))))⟩, ⟨(some 47), none, (.op (.mv (.t 46)))⟩, ⟨(some 48), (some (47, true)), (.op (.fld 0 (.t 7)))⟩, ⟨(some 49), (some (47, true)), (.op (.load none (.t 48)))⟩, ⟨(some 50), (some (47, true)), (.op (.len (.t 49)))⟩, ⟨(some 51), (some (47, true)), (.op (.ibin .leq (.t 50) (.c (.int .i64 8))))⟩, ⟨(some 52), none, (.op (.pick (.t 47) (.t 51) (.c (.bool false))))⟩, ⟨(some 53), none, (.op (.mv (.t 52)))⟩, ⟨(some 54), (some (53, true)), (.op (.fld 2 (.t 7)))⟩, ⟨(some 55), (some (53, true)), (.op (.load none (.t 54)))⟩, ⟨(some 56), (some (53, true)), (.op (.ibin .eql (.t 55) (.c (.int .i64 0))))⟩, ⟨(some 57), none, (.op (.pick (.t 53) (.t 56) (.c (.bool false))))⟩, ⟨(some 10), none, (.op (.mv (.t 57)))⟩]
def rmay_c : AC := (.seq (.reg rmay_r0) (.seq (.reg rmay_r1) .ret))
def rmay_res : List ARes := [(.tmp 10)]
set_option maxRecDepth 100000 in
theorem rmay_get : getF Try.prog 43 43000 [] = some ("gavotte/gavotteref1.May", 58, rmay_c, rmay_res) := by kernel_rfl
attribute [simp] rmay_r0 rmay_r1 rmay_res

theorem rmay_pc (p : Prg) (hl : p.hs.length < 1000000) (who : Int) (l : Lcl) (h : Int) (args : List Int) : PC Try.prog 43 [p.av, iv who, l.av, iv h, ints args] (.bool (decide (mayV p who l h args))) := by
  refine pc_of_get rmay_get (by simp) _ (by simp) _ ?_
  unfold rmay_c mayV
  simp
  refine call (rcflow_pc p hl) (by simp) ?_
  rw [rflow_eq]
  simp
  by_cases h1 : flowV p = 0
  rotate_left
  · simp [h1]
  by_cases h2 : 0 ≤ who
  rotate_left
  · simp [h1, h2]
  by_cases h3 : who < p.as.length
  rotate_left
  · simp [h1, h2, h3]
  by_cases h4 : 0 ≤ h
  rotate_left
  · simp [h1, h2, h3, h4]
  by_cases h5 : h < p.hs.length
  rotate_left
  · simp [h1, h2, h3, h4, h5]
  have hj : h.toNat < p.hs.length := by omega
  have ha : argsOf p.hs h = p.hs[h.toNat].args := by unfold argsOf; rw [List.getElem?_eq_getElem hj]; rfl
  skip
  by_cases h6 : (args.length : Int) = p.hs[h.toNat].args
  rotate_left
  · simp [ha, h1, h2, h3, h4, h5, h6, hj]
  by_cases h7 : (l.regs.length : Int) ≤ 8
  rotate_left
  · simp [ha, h1, h2, h3, h4, h5, h6, h7, hj, Lcl.av, show ¬ l.regs.length ≤ 8 by omega]
  simp [ha, h1, h2, h3, h4, h5, h6, h7, hj, Lcl.av, show l.regs.length ≤ 8 by omega]

end Go.Gv

/- The reference's run of a handler: the state of its loop, what its stack tells. -/
set_option linter.unusedVariables false
set_option linter.unusedSimpArgs false
namespace Go.Gv
open Go.Proofs

def rrun_r0 : List AI := [⟨(some 5), none, (.op (.box 46005 4 (.t 0)))⟩, ⟨(some 7), none, (.op (.box 46007 5 (.t 2)))⟩, ⟨(some 10), none, (.op (.new 46010 7 (.agg [.nils, (.bool false), (.int .i64 0), (.int .i64 0), (.int .i64 0), .nils, (.int .i64 0)])))⟩]
def rrun_r1 : List AI := [⟨(some 27), none, (.op (.load (some 4) (.t 5)))⟩, ⟨(some 28), none, (.op (.mv (.t 1)))⟩, ⟨(some 29), none, (.op (.load (some 5) (.t 7)))⟩, ⟨(some 30), none, (.op (.mv (.t 3)))⟩, ⟨(some 31), none, (.op (.mv (.t 4)))⟩, ⟨(some 32), none, (.call (.c (.fn 43 [])) [(.t 27), (.t 28), (.t 29), (.t 30), (.t 31)])⟩, ⟨(some 33), none, (.op (.not (.t 32)))⟩]
def rrun_r2 : List AI := [⟨(some 34), none, (.op (.build [.nils, (.bool false), (.int .i64 0), (.int .i64 0), (.int .i64 0), .nils, (.int .i64 0)] []))⟩, ⟨none, none, (.op (.store 7 (.t 10) (.t 34)))⟩]
def rrun_r3 : List AI := [⟨(some 35), none, (.op (.fld 0 (.t 5)))⟩, ⟨(some 36), none, (.op (.load none (.t 35)))⟩, ⟨(some 37), none, (.op (.mv (.t 3)))⟩, ⟨(some 38), none, (.op (.idx 2 (.t 36) (.t 37)))⟩, ⟨(some 39), none, (.op (.fld 1 (.t 38)))⟩, ⟨(some 40), none, (.op (.load none (.t 39)))⟩, ⟨(some 11), none, (.op (.mv (.t 40)))⟩]
def rrun_r4 : List AI := [⟨(some 41), none, (.op (.load (some 5) (.t 7)))⟩, ⟨(some 12), none, (.op (.new 46012 5 (.agg [.nils, (.bool false), (.int .i64 0), (.int .i64 0), (.int .i64 0)])))⟩, ⟨none, none, (.op (.store 5 (.t 12) (.t 41)))⟩]
def rrun_r5 : List AI := [⟨(some 42), none, (.op (.bslm 1000046012 1 3 0 (.int .i64 0) []))⟩, ⟨(some 43), none, (.op (.fld 0 (.t 7)))⟩, ⟨(some 44), none, (.op (.load none (.t 43)))⟩, ⟨(some 45), none, (.op (.appw 1000046012 1 3 8 (.t 42) (.t 44)))⟩, ⟨(some 46), none, (.op (.fld 0 (.t 12)))⟩, ⟨none, none, (.op (.store 1 (.t 46) (.t 45)))⟩]
def rrun_r6 : List AI := [⟨(some 47), none, (.op (.load (some 5) (.t 7)))⟩, ⟨(some 13), none, (.op (.new 46013 5 (.agg [.nils, (.bool false), (.int .i64 0), (.int .i64 0), (.int .i64 0)])))⟩, ⟨none, none, (.op (.store 5 (.t 13) (.t 47)))⟩]
def rrun_r7 : List AI := [⟨(some 48), none, (.op (.bsl 46048 1 3 0 (.int .i64 0) []))⟩, ⟨(some 49), none, (.op (.fld 0 (.t 7)))⟩, ⟨(some 50), none, (.op (.load none (.t 49)))⟩, ⟨(some 51), none, (.op (.app 46051 1 3 8 (.t 48) (.t 50)))⟩, ⟨(some 52), none, (.op (.fld 0 (.t 13)))⟩, ⟨none, none, (.op (.store 1 (.t 52) (.t 51)))⟩]
def rrun_r8 : List AI := [⟨(some 14), none, (.op (.mv (.c .nils)))⟩]
def rrun_r9 : List AI := [⟨(some 15), none, (.op (.mv (.c .nils)))⟩]
def rrun_r10 : List AI := [⟨(some 16), none, (.op (.mv (.c (.int .i64 0))))⟩]
def rrun_r11 : List AI := [⟨(some 17), none, (.op (.mv (.c (.int .i64 0))))⟩]
def rrun_r12 : List AI := [⟨(some 53), none, (.op (.mv (.t 17)))⟩, ⟨(some 54), none, (.op (.mv (.t 11)))⟩, ⟨(some 55), none, (.op (.len (.t 54)))⟩, ⟨(some 56), none, (.op (.ibin .lss (.t 53) (.t 55)))⟩]
def rrun_r13 : List AI := [⟨(some 57), none, (.op (.mv (.t 16)))⟩, ⟨(some 58), none, (.op (.fld 3 (.t 5)))⟩, ⟨(some 59), none, (.op (.load none (.t 58)))⟩, ⟨(some 60), none, (.op (.ibin .geq (.t 57) (.t 59)))⟩]
def rrun_r14 : List AI := [⟨(some 61), none, (.op (.fld 2 (.t 13)))⟩, ⟨none, none, (.op (.store 1 (.t 61) (.c (.int .i64 2))))⟩]
def rrun_r15 : List AI := [⟨(some 62), none, (.op (.load (some 5) (.t 13)))⟩, ⟨(some 63), none, (.op (.mv (.t 16)))⟩, ⟨(some 64), none, (.op (.build [.nils, (.bool false), (.int .i64 0), (.int .i64 0), (.int .i64 0), .nils, (.int .i64 0)] [(0, (5, (.t 62))), (6, (1, (.t 63)))]))⟩, ⟨none, none, (.op (.store 7 (.t 10) (.t 64)))⟩]
def rrun_r16 : List AI := [⟨(some 65), none, (.op (.mv (.t 16)))⟩, ⟨(some 66), none, (.op (.ibin .add (.t 65) (.c (.int .i64 1))))⟩, ⟨(some 16), none, (.op (.mv (.t 66)))⟩]
def rrun_r17 : List AI := [⟨(some 67), none, (.op (.mv (.t 11)))⟩, ⟨(some 68), none, (.op (.mv (.t 17)))⟩, ⟨(some 69), none, (.op (.idx 2 (.t 67) (.t 68)))⟩, ⟨(some 70), none, (.op (.load (some 2) (.t 69)))⟩, ⟨(some 18), none, (.op (.new 46018 2 (.agg [(.int .i64 0), (.int .i64 0)])))⟩, ⟨none, none, (.op (.store 2 (.t 18) (.t 70)))⟩]
def rrun_r18 : List AI := [⟨(some 71), none, (.op (.mv (.t 17)))⟩, ⟨(some 72), none, (.op (.ibin .add (.t 71) (.c (.int .i64 1))))⟩, ⟨(some 17), none, (.op (.mv (.t 72)))⟩]
def rrun_r19 : List AI := [⟨(some 73), none, (.op (.mv (.t 15)))⟩, ⟨(some 74), none, (.op (.len (.t 73)))⟩, ⟨(some 19), none, (.op (.mv (.t 74)))⟩]
def rrun_r20 : List AI := [⟨(some 75), none, (.op (.fld 0 (.t 18)))⟩, ⟨(some 76), none, (.op (.load none (.t 75)))⟩]
def rrun_r21 : List AI := [⟨(some 110), none, (.op (.ibin .eql (.t 76) (.c (.int .i64 1))))⟩, ⟨(some 109), none, (.op (.mv (.t 110)))⟩]
def rrun_r22 : List AI := [⟨(some 111), none, (.op (.mv (.t 15)))⟩, ⟨(some 112), none, (.op (.fld 1 (.t 18)))⟩, ⟨(some 113), none, (.op (.load none (.t 112)))⟩, ⟨(some 114), none, (.op (.bsl 46114 1 3 1 (.int .i64 0) [(0, (.t 113))]))⟩, ⟨(some 115), none, (.op (.appw 1000046015 1 3 8 (.t 111) (.t 114)))⟩, ⟨(some 15), none, (.op (.mv (.t 115)))⟩]
def rrun_r23 : List AI := [⟨(some 117), none, (.op (.ibin .eql (.t 76) (.c (.int .i64 2))))⟩, ⟨(some 116), none, (.op (.mv (.t 117)))⟩]
def rrun_r24 : List AI := [⟨(some 118), none, (.op (.mv (.t 15)))⟩, ⟨(some 119), none, (.op (.mv (.t 19)))⟩, ⟨(some 120), none, (.op (.ibin .sub (.t 119) (.c (.int .i64 1))))⟩, ⟨(some 121), none, (.op (.slice (some 1) (.t 118) none (some (.t 120))))⟩, ⟨(some 15), none, (.op (.mv (.t 121)))⟩]
def rrun_r25 : List AI := [⟨(some 123), none, (.op (.ibin .eql (.t 76) (.c (.int .i64 3))))⟩, ⟨(some 122), none, (.op (.mv (.t 123)))⟩]
def rrun_r26 : List AI := [⟨(some 124), none, (.op (.mv (.t 15)))⟩, ⟨(some 125), none, (.op (.mv (.t 15)))⟩, ⟨(some 126), none, (.op (.mv (.t 19)))⟩, ⟨(some 127), none, (.op (.ibin .sub (.t 126) (.c (.int .i64 1))))⟩, ⟨(some 128), none, (.op (.idx 1 (.t 125) (.t 127)))⟩, ⟨(some 129), none, (.op (.load none (.t 128)))⟩, ⟨(some 130), none, (.op (.bsl 46130 1 3 1 (.int .i64 0) [(0, (.t 129))]))⟩, ⟨(some 131), none, (.op (.appw 1000046015 1 3 8 (.t 124) (.t 130)))⟩, ⟨(some 15), none, (.op (.mv (.t 131)))⟩]
def rrun_r27 : List AI := [⟨(some 133), none, (.op (.ibin .eql (.t 76) (.c (.int .i64 4))))⟩, ⟨(some 132), none, (.op (.mv (.t 133)))⟩]
def rrun_r28 : List AI := [⟨(some 134), none, (.op (.bslm 1000046001 1 3 0 (.int .i64 0) []))⟩, ⟨(some 135), none, (.op (.mv (.t 15)))⟩, ⟨(some 136), none, (.op (.mv (.t 19)))⟩, ⟨(some 137), none, (.op (.ibin .sub (.t 136) (.c (.int .i64 2))))⟩, ⟨(some 138), none, (.op (.slice (some 1) (.t 135) none (some (.t 137))))⟩, ⟨(some 139), none, (.op (.appw 1000046001 1 3 8 (.t 134) (.t 138)))⟩, ⟨(some 140), none, (.op (.mv (.t 15)))⟩, ⟨(some 141), none, (.op (.mv (.t 19)))⟩, ⟨(some 142), none, (.op (.ibin .sub (.t 141) (.c (.int .i64 1))))⟩, ⟨(some 143), none, (.op (.idx 1 (.t 140) (.t 142)))⟩, ⟨(some 144), none, (.op (.load none (.t 143)))⟩, ⟨(some 145), none, (.op (.mv (.t 15)))⟩, ⟨(some 146), none, (.op (.mv (.t 19)))⟩, ⟨(some 147), none, (.op (.ibin .sub (.t 146) (.c (.int .i64 2))))⟩, ⟨(some 148), none, (.op (.idx 1 (.t 145) (.t 147)))⟩, ⟨(some 149), none, (.op (.load none (.t 148)))⟩, ⟨(some 150), none, (.op (.bsl 46150 1 3 2 (.int .i64 0) [(0, (.t 144)), (1, (.t 149))]))⟩, ⟨(some 151), none, (.op (.appw 1000046015 1 3 8 (.t 139) (.t 150)))⟩, ⟨(some 15), none, (.op (.mv (.t 151)))⟩]
def rrun_p28 : List (List Nat) := [[], [], [], [2], [1, 3, 2], [0, 4, 1, 3, 2], [], [], [7], [6, 8, 7], [9, 6, 8, 7], [], [], [12], [11, 13, 12], [14, 11, 13, 12], [10, 15, 9, 6, 8, 7, 14, 11, 13, 12], [5, 16, 0, 4, 1, 3, 2, 10, 15, 9, 6, 8, 7, 14, 11, 13, 12], [17, 0, 1, 2, 3, 4, 5, 6, 7, 8, 9, 10, 11, 12, 13, 14, 15, 16]]
def rrun_r29 : List AI := [⟨(some 153), none, (.op (.ibin .eql (.t 76) (.c (.int .i64 5))))⟩, ⟨(some 152), none, (.op (.mv (.t 153)))⟩]
def rrun_r30 : List AI := [⟨(some 20), none, (.op (.mv (.c (.int .i64 0))))⟩]
def rrun_r31 : List AI := [⟨(some 154), none, (.op (.fld 1 (.t 18)))⟩, ⟨(some 155), none, (.op (.load none (.t 154)))⟩, ⟨(some 156), none, (.op (.fld 0 (.t 12)))⟩, ⟨(some 157), none, (.op (.load none (.t 156)))⟩, ⟨(some 158), none, (.op (.len (.t 157)))⟩, ⟨(some 159), none, (.op (.ibin .lss (.t 155) (.t 158)))⟩]
def rrun_r32 : List AI := [⟨(some 160), none, (.op (.fld 0 (.t 12)))⟩, ⟨(some 161), none, (.op (.load none (.t 160)))⟩, ⟨(some 162), none, (.op (.fld 1 (.t 18)))⟩, ⟨(some 163), none, (.op (.load none (.t 162)))⟩, ⟨(some 164), none, (.op (.idx 1 (.t 161) (.t 163)))⟩, ⟨(some 165), none, (.op (.load none (.t 164)))⟩, ⟨(some 20), none, (.op (.mv (.t 165)))⟩]
def rrun_r33 : List AI := [⟨(some 166), none, (.op (.mv (.t 15)))⟩, ⟨(some 167), none, (.op (.mv (.t 20)))⟩, ⟨(some 168), none, (.op (.bsl 46168 1 3 1 (.int .i64 0) [(0, (.t 167))]))⟩, ⟨(some 169), none, (.op (.appw 1000046015 1 3 8 (.t 166) (.t 168)))⟩, ⟨(some 15), none, (.op (.mv (.t 169)))⟩]
def rrun_r34 : List AI := [⟨(some 171), none, (.op (.ibin .eql (.t 76) (.c (.int .i64 6))))⟩, ⟨(some 170), none, (.op (.mv (.t 171)))⟩]
def rrun_r35 : List AI := [⟨(some 172), none, (.op (.fld 1 (.t 18)))⟩, ⟨(some 173), none, (.op (.load none (.t 172)))⟩, ⟨(some 174), none, (.op (.fld 0 (.t 12)))⟩, ⟨(some 175), none, (.op (.load none (.t 174)))⟩, ⟨(some 176), none, (.op (.len (.t 175)))⟩, ⟨(some 177), none, (.op (.ibin .lss (.t 173) (.t 176)))⟩]
def rrun_r36 : List AI := [⟨(some 178), none, (.op (.fld 0 (.t 12)))⟩, ⟨(some 179), none, (.op (.load none (.t 178)))⟩, ⟨(some 180), none, (.op (.fld 1 (.t 18)))⟩, ⟨(some 181), none, (.op (.load none (.t 180)))⟩, ⟨(some 182), none, (.op (.mv (.t 15)))⟩, ⟨(some 183), none, (.op (.mv (.t 19)))⟩, ⟨(some 184), none, (.op (.ibin .sub (.t 183) (.c (.int .i64 1))))⟩, ⟨(some 185), none, (.op (.idx 1 (.t 182) (.t 184)))⟩, ⟨(some 186), none, (.op (.load none (.t 185)))⟩, ⟨(some 187), none, (.op (.idx 1 (.t 179) (.t 181)))⟩, ⟨none, none, (.op (.store 1 (.t 187) (.t 186)))⟩]
def rrun_p36 : List (List Nat) := [[], [0], [], [2], [], [], [5], [4, 6, 5], [7, 4, 6, 5], [1, 3, 0, 2, 4, 5, 6, 7, 8], [9, 8, 0, 1, 2, 3, 4, 5, 6, 7]]
def rrun_r37 : List AI := [⟨(some 188), none, (.op (.mv (.t 15)))⟩, ⟨(some 189), none, (.op (.mv (.t 19)))⟩, ⟨(some 190), none, (.op (.ibin .sub (.t 189) (.c (.int .i64 1))))⟩, ⟨(some 191), none, (.op (.slice (some 1) (.t 188) none (some (.t 190))))⟩, ⟨(some 15), none, (.op (.mv (.t 191)))⟩]
def rrun_r38 : List AI := [⟨(some 193), none, (.op (.ibin .eql (.t 76) (.c (.int .i64 7))))⟩, ⟨(some 192), none, (.op (.mv (.t 193)))⟩]
def rrun_r39 : List AI := [⟨(some 194), none, (.op (.mv (.t 15)))⟩, ⟨(some 195), none, (.op (.mv (.t 4)))⟩, ⟨(some 196), none, (.op (.fld 1 (.t 18)))⟩, ⟨(some 197), none, (.op (.load none (.t 196)))⟩, ⟨(some 198), none, (.op (.idx 1 (.t 195) (.t 197)))⟩, ⟨(some 199), none, (.op (.load none (.t 198)))⟩, ⟨(some 200), none, (.op (.bsl 46200 1 3 1 (.int .i64 0) [(0, (.t 199))]))⟩, ⟨(some 201), none, (.op (.appw 1000046015 1 3 8 (.t 194) (.t 200)))⟩, ⟨(some 15), none, (.op (.mv (.t 201)))⟩]
def rrun_r40 : List AI := [⟨(some 203), none, (.op (.ibin .eql (.t 76) (.c (.int .i64 8))))⟩, ⟨(some 202), none, (.op (.mv (.t 203)))⟩]
def rrun_r41 : List AI := [⟨(some 204), none, (.op (.mv (.t 15)))⟩, ⟨(some 205), none, (.op (.mv (.t 1)))⟩, ⟨(some 206), none, (.op (.bsl 46206 1 3 1 (.int .i64 0) [(0, (.t 205))]))⟩, ⟨(some 207), none, (.op (.appw 1000046015 1 3 8 (.t 204) (.t 206)))⟩, ⟨(some 15), none, (.op (.mv (.t 207)))⟩]
def rrun_r42 : List AI := [⟨(some 209), none, (.op (.ibin .eql (.t 76) (.c (.int .i64 14))))⟩, ⟨(some 208), none, (.op (.mv (.t 209)))⟩]
def rrun_r43 : List AI := [⟨(some 210), none, (.op (.ibin .eql (.t 76) (.c (.int .i64 19))))⟩, ⟨(some 208), none, (.op (.mv (.t 210)))⟩]
def rrun_r44 : List AI := [⟨(some 212), none, (.op (.fld 0 (.t 18)))⟩, ⟨(some 213), none, (.op (.load none (.t 212)))⟩, ⟨(some 214), none, (.op (.mv (.t 15)))⟩, ⟨(some 215), none, (.op (.mv (.t 19)))⟩, ⟨(some 216), none, (.op (.ibin .sub (.t 215) (.c (.int .i64 1))))⟩, ⟨(some 217), none, (.op (.idx 1 (.t 214) (.t 216)))⟩, ⟨(some 218), none, (.op (.load none (.t 217)))⟩, ⟨(some 219), none, (.call (.c (.fn 85 [])) [(.t 213), (.t 218)])⟩, ⟨(some 211), none, (.op (.mv (.t 219)))⟩, ⟨(some 220), none, (.op (.ext (.t 211) 0))⟩, ⟨(some 221), none, (.op (.ext (.t 211) 1))⟩, ⟨(some 21), none, (.op (.mv (.t 220)))⟩, ⟨(some 22), none, (.op (.mv (.t 221)))⟩]
def rrun_p44 : List (List Nat) := [[], [0], [], [], [3], [2, 4, 3], [5, 2, 4, 3], [1, 6, 0, 5, 2, 4, 3], [7, 1, 6, 0, 5, 2, 4, 3], [8, 7, 1, 6, 0, 5, 2, 4, 3], [8, 7, 1, 6, 0, 5, 2, 4, 3], [9, 7, 0, 1, 2, 3, 4, 5, 6, 8], [10, 11, 0, 1, 2, 3, 4, 5, 6, 7, 8, 9]]
def rrun_r45 : List AI := [⟨(some 222), none, (.op (.bslm 1000046001 1 3 0 (.int .i64 0) []))⟩, ⟨(some 223), none, (.op (.mv (.t 15)))⟩, ⟨(some 224), none, (.op (.mv (.t 19)))⟩, ⟨(some 225), none, (.op (.ibin .sub (.t 224) (.c (.int .i64 1))))⟩, ⟨(some 226), none, (.op (.slice (some 1) (.t 223) none (some (.t 225))))⟩, ⟨(some 227), none, (.op (.appw 1000046001 1 3 8 (.t 222) (.t 226)))⟩, ⟨(some 228), none, (.op (.mv (.t 21)))⟩, ⟨(some 229), none, (.op (.bsl 46229 1 3 1 (.int .i64 0) [(0, (.t 228))]))⟩, ⟨(some 230), none, (.op (.appw 1000046015 1 3 8 (.t 227) (.t 229)))⟩, ⟨(some 15), none, (.op (.mv (.t 230)))⟩]
def rrun_r46 : List AI := [⟨(some 232), none, (.op (.ibin .eql (.t 76) (.c (.int .i64 20))))⟩, ⟨(some 231), none, (.op (.mv (.t 232)))⟩]
def rrun_r47 : List AI := [⟨(some 233), none, (.op (.fld 1 (.t 18)))⟩, ⟨(some 234), none, (.op (.load none (.t 233)))⟩, ⟨(some 17), none, (.op (.mv (.t 234)))⟩]
def rrun_r48 : List AI := [⟨(some 236), none, (.op (.ibin .eql (.t 76) (.c (.int .i64 21))))⟩, ⟨(some 235), none, (.op (.mv (.t 236)))⟩]
def rrun_r49 : List AI := [⟨(some 237), none, (.op (.mv (.t 15)))⟩, ⟨(some 238), none, (.op (.mv (.t 19)))⟩, ⟨(some 239), none, (.op (.ibin .sub (.t 238) (.c (.int .i64 1))))⟩, ⟨(some 240), none, (.op (.idx 1 (.t 237) (.t 239)))⟩, ⟨(some 241), none, (.op (.load none (.t 240)))⟩, ⟨(some 242), none, (.op (.ibin .eql (.t 241) (.c (.int .i64 0))))⟩]
def rrun_r50 : List AI := [⟨(some 243), none, (.op (.fld 1 (.t 18)))⟩, ⟨(some 244), none, (.op (.load none (.t 243)))⟩, ⟨(some 17), none, (.op (.mv (.t 244)))⟩]
def rrun_r51 : List AI := [⟨(some 245), none, (.op (.mv (.t 15)))⟩, ⟨(some 246), none, (.op (.mv (.t 19)))⟩, ⟨(some 247), none, (.op (.ibin .sub (.t 246) (.c (.int .i64 1))))⟩, ⟨(some 248), none, (.op (.slice (some 1) (.t 245) none (some (.t 247))))⟩, ⟨(some 15), none, (.op (.mv (.t 248)))⟩]
def rrun_r52 : List AI := [⟨(some 250), none, (.op (.ibin .eql (.t 76) (.c (.int .i64 22))))⟩, ⟨(some 249), none, (.op (.mv (.t 250)))⟩]
def rrun_r53 : List AI := [⟨(some 251), none, (.op (.fld 0 (.t 5)))⟩, ⟨(some 252), none, (.op (.load none (.t 251)))⟩, ⟨(some 253), none, (.op (.fld 1 (.t 18)))⟩, ⟨(some 254), none, (.op (.load none (.t 253)))⟩, ⟨(some 255), none, (.op (.idx 2 (.t 252) (.t 254)))⟩, ⟨(some 256), none, (.op (.fld 0 (.t 255)))⟩, ⟨(some 257), none, (.op (.load none (.t 256)))⟩, ⟨(some 23), none, (.op (.mv (.t 257)))⟩]
def rrun_r54 : List AI := [⟨(some 258), none, (.op (.mv (.t 15)))⟩, ⟨(some 259), none, (.op (.mv (.t 19)))⟩, ⟨(some 260), none, (.op (.ibin .sub (.t 259) (.c (.int .i64 1))))⟩, ⟨(some 261), none, (.op (.idx 1 (.t 258) (.t 260)))⟩, ⟨(some 262), none, (.op (.load none (.t 261)))⟩, ⟨(some 24), none, (.op (.mv (.t 262)))⟩]
def rrun_r55 : List AI := [⟨(some 263), none, (.op (.mv (.t 24)))⟩, ⟨(some 264), none, (.op (.ibin .lss (.t 263) (.c (.int .i64 0))))⟩, ⟨(some 265), none, (.op (.mv (.t 264)))⟩, ⟨(some 266), (some (265, false)), (.op (.mv (.t 24)))⟩, ⟨(some 267), (some (265, false)), (.op (.fld 1 (.t 5)))⟩, ⟨(some 268), (some (265, false)), (.op (.load none (.t 267)))⟩, ⟨(some 269), (some (265, false)), (.op (.len (.t 268)))⟩, ⟨(some 270), (some (265, false)), (.op (.ibin .geq (.t 266) (.t 269)))⟩, ⟨(some 271), none, (.op (.pick (.t 265) (.c (.bool true)) (.t 270)))⟩]
def rrun_r56 : List AI := [⟨(some 272), none, (.op (.fld 2 (.t 13)))⟩, ⟨none, none, (.op (.store 1 (.t 272) (.c (.int .i64 4))))⟩]
def rrun_r57 : List AI := [⟨(some 273), none, (.op (.load (some 5) (.t 13)))⟩, ⟨(some 274), none, (.op (.mv (.t 16)))⟩, ⟨(some 275), none, (.op (.build [.nils, (.bool false), (.int .i64 0), (.int .i64 0), (.int .i64 0), .nils, (.int .i64 0)] [(0, (5, (.t 273))), (6, (1, (.t 274)))]))⟩, ⟨none, none, (.op (.store 7 (.t 10) (.t 275)))⟩]
def rrun_r58 : List AI := [⟨(some 276), none, (.op (.mv (.t 14)))⟩, ⟨(some 277), none, (.op (.mv (.t 24)))⟩, ⟨(some 278), none, (.op (.fld 1 (.t 18)))⟩, ⟨(some 279), none, (.op (.load none (.t 278)))⟩, ⟨(some 280), none, (.op (.bsl 46280 1 3 0 (.int .i64 0) []))⟩, ⟨(some 281), none, (.op (.mv (.t 15)))⟩, ⟨(some 282), none, (.op (.mv (.t 19)))⟩, ⟨(some 283), none, (.op (.ibin .sub (.t 282) (.c (.int .i64 1))))⟩, ⟨(some 284), none, (.op (.mv (.t 23)))⟩, ⟨(some 285), none, (.op (.ibin .sub (.t 283) (.t 284)))⟩, ⟨(some 286), none, (.op (.mv (.t 19)))⟩, ⟨(some 287), none, (.op (.ibin .sub (.t 286) (.c (.int .i64 1))))⟩, ⟨(some 288), none, (.op (.slice (some 1) (.t 281) (some (.t 285)) (some (.t 287))))⟩, ⟨(some 289), none, (.op (.app 46289 1 3 8 (.t 280) (.t 288)))⟩, ⟨(some 290), none, (.op (.build [(.int .i64 0), (.int .i64 0), .nils] [(0, (1, (.t 277))), (1, (1, (.t 279))), (2, (1, (.t 289)))]))⟩, ⟨(some 291), none, (.op (.bsl 46291 3 40 1 (.agg [(.int .i64 0), (.int .i64 0), .nils]) [(0, (.t 290))]))⟩, ⟨(some 292), none, (.op (.app 46014 3 40 40 (.t 276) (.t 291)))⟩, ⟨(some 14), none, (.op (.mv (.t 292)))⟩]
def rrun_p58 : List (List Nat) := [[], [], [], [2], [], [], [], [6], [], [7, 8, 6], [], [10], [5, 9, 11, 7, 8, 6, 10], [4, 12, 5, 9, 11, 7, 8, 6, 10], [1, 3, 13, 2, 4, 12, 5, 9, 11, 7, 8, 6, 10], [14, 1, 3, 13, 2, 4, 12, 5, 9, 11, 7, 8, 6, 10], [0, 15, 13, 14, 1, 3, 2, 4, 12, 5, 9, 11, 7, 8, 6, 10], [16, 0, 1, 2, 3, 4, 5, 6, 7, 8, 9, 10, 11, 12, 13, 14, 15]]
def rrun_r59 : List AI := [⟨(some 293), none, (.op (.mv (.t 15)))⟩, ⟨(some 294), none, (.op (.mv (.t 19)))⟩, ⟨(some 295), none, (.op (.ibin .sub (.t 294) (.c (.int .i64 1))))⟩, ⟨(some 296), none, (.op (.mv (.t 23)))⟩, ⟨(some 297), none, (.op (.ibin .sub (.t 295) (.t 296)))⟩, ⟨(some 298), none, (.op (.slice (some 1) (.t 293) none (some (.t 297))))⟩, ⟨(some 15), none, (.op (.mv (.t 298)))⟩]
def rrun_r60 : List AI := [⟨(some 300), none, (.op (.ibin .eql (.t 76) (.c (.int .i64 23))))⟩, ⟨(some 299), none, (.op (.mv (.t 300)))⟩]
def rrun_r61 : List AI := [⟨(some 301), none, (.op (.fld 1 (.t 12)))⟩, ⟨(some 302), none, (.op (.load none (.t 301)))⟩, ⟨(some 303), none, (.op (.mv (.t 302)))⟩, ⟨(some 304), (some (303, false)), (.op (.fld 1 (.t 5)))⟩, ⟨(some 305), (some (303, false)), (.op (.load none (.t 304)))⟩, ⟨(some 306), (some (303, false)), (.op (.mv (.t 1)))⟩, ⟨(some 307), (some (303, false)), (.op (.idx 4 (.t 305) (.t 306)))⟩, ⟨(some 308), (some (303, false)), (.op (.fld 2 (.t 307)))⟩, ⟨(some 309), (some (303, false)), (.op (.load none (.t 308)))⟩, ⟨(some 310), (some (303, false)), (.op (.ibin .neq (.t 309) (.c (.int .i64 (-1)))))⟩, ⟨(some 311), none, (.op (.pick (.t 303) (.c (.bool true)) (.t 310)))⟩, ⟨(some 312), none, (.op (.fld 1 (.t 12)))⟩, ⟨none, none, (.op (.store 1 (.t 312) (.t 311)))⟩]
def rrun_r62 : List AI := [⟨(some 314), none, (.op (.ibin .eql (.t 76) (.c (.int .i64 24))))⟩, ⟨(some 313), none, (.op (.mv (.t 314)))⟩]
def rrun_r63 : List AI := [⟨(some 315), none, (.op (.fld 1 (.t 12)))⟩, ⟨none, none, (.op (.store 1 (.t 315) (.c (.bool false))))⟩]
def rrun_r64 : List AI := [⟨(some 317), none, (.op (.ibin .eql (.t 76) (.c (.int .i64 25))))⟩, ⟨(some 316), none, (.op (.mv (.t 317)))⟩]
def rrun_r65 : List AI := [⟨(some 318), none, (.op (.mv (.t 11)))⟩, ⟨(some 319), none, (.op (.len (.t 318)))⟩, ⟨(some 17), none, (.op (.mv (.t 319)))⟩]
def rrun_r66 : List AI := [⟨(some 78), none, (.op (.fld 0 (.t 18)))⟩, ⟨(some 79), none, (.op (.load none (.t 78)))⟩, ⟨(some 80), none, (.op (.mv (.t 15)))⟩, ⟨(some 81), none, (.op (.mv (.t 19)))⟩, ⟨(some 82), none, (.op (.ibin .sub (.t 81) (.c (.int .i64 2))))⟩, ⟨(some 83), none, (.op (.idx 1 (.t 80) (.t 82)))⟩, ⟨(some 84), none, (.op (.load none (.t 83)))⟩, ⟨(some 85), none, (.op (.mv (.t 15)))⟩, ⟨(some 86), none, (.op (.mv (.t 19)))⟩, ⟨(some 87), none, (.op (.ibin .sub (.t 86) (.c (.int .i64 1))))⟩, ⟨(some 88), none, (.op (.idx 1 (.t 85) (.t 87)))⟩, ⟨(some 89), none, (.op (.load none (.t 88)))⟩, ⟨(some 90), none, (.call (.c (.fn 86 [])) [(.t 79), (.t 84), (.t 89)])⟩, ⟨(some 77), none, (.op (.mv (.t 90)))⟩, ⟨(some 91), none, (.op (.ext (.t 77) 0))⟩, ⟨(some 92), none, (.op (.ext (.t 77) 1))⟩, ⟨(some 25), none, (.op (.mv (.t 91)))⟩, ⟨(some 26), none, (.op (.mv (.t 92)))⟩]
def rrun_p66 : List (List Nat) := [[], [0], [], [], [3], [2, 4, 3], [5, 2, 4, 3], [], [], [8], [7, 9, 8], [10, 7, 9, 8], [1, 6, 11, 0, 5, 2, 4, 3, 10, 7, 9, 8], [12, 1, 6, 11, 0, 5, 2, 4, 3, 10, 7, 9, 8], [13, 12, 1, 6, 11, 0, 5, 2, 4, 3, 10, 7, 9, 8], [13, 12, 1, 6, 11, 0, 5, 2, 4, 3, 10, 7, 9, 8], [14, 12, 0, 1, 2, 3, 4, 5, 6, 7, 8, 9, 10, 11, 13], [15, 16, 0, 1, 2, 3, 4, 5, 6, 7, 8, 9, 10, 11, 12, 13, 14]]
def rrun_r67 : List AI := [⟨(some 93), none, (.op (.mv (.t 26)))⟩, ⟨(some 94), none, (.op (.ibin .neq (.t 93) (.c (.int .i64 0))))⟩]
def rrun_r68 : List AI := [⟨(some 95), none, (.op (.mv (.t 26)))⟩, ⟨(some 96), none, (.op (.fld 2 (.t 13)))⟩, ⟨none, none, (.op (.store 1 (.t 96) (.t 95)))⟩]
def rrun_r69 : List AI := [⟨(some 97), none, (.op (.load (some 5) (.t 13)))⟩, ⟨(some 98), none, (.op (.mv (.t 16)))⟩, ⟨(some 99), none, (.op (.build [.nils, (.bool false), (.int .i64 0), (.int .i64 0), (.int .i64 0), .nils, (.int .i64 0)] [(0, (5, (.t 97))), (6, (1, (.t 98)))]))⟩, ⟨none, none, (.op (.store 7 (.t 10) (.t 99)))⟩]
def rrun_r70 : List AI := [⟨(some 100), none, (.op (.bslm 1000046001 1 3 0 (.int .i64 0) []))⟩, ⟨(some 101), none, (.op (.mv (.t 15)))⟩, ⟨(some 102), none, (.op (.mv (.t 19)))⟩, ⟨(some 103), none, (.op (.ibin .sub (.t 102) (.c (.int .i64 2))))⟩, ⟨(some 104), none, (.op (.slice (some 1) (.t 101) none (some (.t 103))))⟩, ⟨(some 105), none, (.op (.appw 1000046001 1 3 8 (.t 100) (.t 104)))⟩, ⟨(some 106), none, (.op (.mv (.t 25)))⟩, ⟨(some 107), none, (.op (.bsl 46107 1 3 1 (.int .i64 0) [(0, (.t 106))]))⟩, ⟨(some 108), none, (.op (.appw 1000046015 1 3 8 (.t 105) (.t 107)))⟩, ⟨(some 15), none, (.op (.mv (.t 108)))⟩]
def rrun_l0 : AC := (.seq (.seq (.reg rrun_r12) (.cond (.t 56) .skip (.exit 0))) (.block 1 (.seq (.seq (.reg rrun_r13) (.cond (.t 60) (.seq (.reg rrun_r14) (.seq (.reg rrun_r15) .ret)) .skip)) (.seq (.reg rrun_r16) (.seq (.reg rrun_r17) (.seq (.reg rrun_r18) (.seq (.reg rrun_r19) (.seq (.reg rrun_r20) (.block 2 (.seq (.reg rrun_r21) (.cond (.t 109) (.reg rrun_r22) (.seq (.reg rrun_r23) (.cond (.t 116) (.reg rrun_r24) (.seq (.reg rrun_r25) (.cond (.t 122) (.reg rrun_r26) (.seq (.reg rrun_r27) (.cond (.t 132) (.regd rrun_r28 rrun_p28) (.seq (.reg rrun_r29) (.cond (.t 152) (.seq (.reg rrun_r30) (.seq (.seq (.reg rrun_r31) (.cond (.t 159) (.reg rrun_r32) .skip)) (.reg rrun_r33))) (.seq (.reg rrun_r34) (.cond (.t 170) (.seq (.seq (.reg rrun_r35) (.cond (.t 177) (.regd rrun_r36 rrun_p36) .skip)) (.reg rrun_r37)) (.seq (.reg rrun_r38) (.cond (.t 192) (.reg rrun_r39) (.seq (.reg rrun_r40) (.cond (.t 202) (.reg rrun_r41) (.seq (.seq (.reg rrun_r42) (.cond (.t 208) .skip (.reg rrun_r43))) (.cond (.t 208) (.seq (.regd rrun_r44 rrun_p44) (.reg rrun_r45)) (.seq (.reg rrun_r46) (.cond (.t 231) (.reg rrun_r47) (.seq (.reg rrun_r48) (.cond (.t 235) (.seq (.seq (.reg rrun_r49) (.cond (.t 242) (.reg rrun_r50) .skip)) (.reg rrun_r51)) (.seq (.reg rrun_r52) (.cond (.t 249) (.seq (.reg rrun_r53) (.seq (.reg rrun_r54) (.seq (.seq (.reg rrun_r55) (.cond (.t 271) (.seq (.reg rrun_r56) (.seq (.reg rrun_r57) .ret)) .skip)) (.seq (.regd rrun_r58 rrun_p58) (.reg rrun_r59))))) (.seq (.reg rrun_r60) (.cond (.t 299) (.reg rrun_r61) (.seq (.reg rrun_r62) (.cond (.t 313) (.reg rrun_r63) (.seq (.reg rrun_r64) (.cond (.t 316) (.reg rrun_r65) (.seq (.regd rrun_r66 rrun_p66) (.seq (.seq (.reg rrun_r67) (.cond (.t 94) (.seq (.reg rrun_r68) (.seq (.reg rrun_r69) .ret)) .skip)) (.reg rrun_r70))))))))))))))))))))))))))))))))))))))))))
def rrun_r71 : List AI := [⟨(some 320), none, (.op (.fld 3 (.t 12)))⟩, ⟨(some 321), none, (.op (.load none (.t 320)))⟩, ⟨(some 322), none, (.op (.mv (.t 14)))⟩, ⟨(some 323), none, (.op (.len (.t 322)))⟩, ⟨(some 324), none, (.op (.ibin .add (.t 321) (.t 323)))⟩, ⟨(some 325), none, (.op (.fld 3 (.t 12)))⟩, ⟨none, none, (.op (.store 1 (.t 325) (.t 324)))⟩]
def rrun_r72 : List AI := [⟨(some 326), none, (.op (.load (some 5) (.t 12)))⟩, ⟨(some 327), none, (.op (.mv (.t 14)))⟩, ⟨(some 328), none, (.op (.mv (.t 16)))⟩, ⟨(some 329), none, (.op (.build [.nils, (.bool false), (.int .i64 0), (.int .i64 0), (.int .i64 0), .nils, (.int .i64 0)] [(0, (5, (.t 326))), (5, (1, (.t 327))), (6, (1, (.t 328)))]))⟩, ⟨none, none, (.op (.store 7 (.t 10) (.t 329)))⟩]
def rrun_c : AC := (.seq (.reg rrun_r0) (.seq (.seq (.reg rrun_r1) (.cond (.t 33) (.seq (.reg rrun_r2) .ret) .skip)) (.seq (.reg rrun_r3) (.seq (.reg rrun_r4) (.seq (.reg rrun_r5) (.seq (.reg rrun_r6) (.seq (.reg rrun_r7) (.seq (.reg rrun_r8) (.seq (.reg rrun_r9) (.seq (.reg rrun_r10) (.seq (.reg rrun_r11) (.seq (.block 0 (.loop rrun_l0)) (.seq (.reg rrun_r71) (.seq (.reg rrun_r72) .ret))))))))))))))
def rrun_res : List ARes := [(.cell (some 7) 10)]
set_option maxRecDepth 100000 in
theorem rrun_get : getF Try.prog 46 46000 [(42, 1000000012), (45, 1000000012), (115, 1000000015), (131, 1000000015), (151, 1000000015), (169, 1000000015), (201, 1000000015), (207, 1000000015), (230, 1000000015), (108, 1000000015), (134, 1000000001), (139, 1000000001), (222, 1000000001), (227, 1000000001), (100, 1000000001), (105, 1000000001), (292, 14)] = some ("gavotte/gavotteref1.Run", 330, rrun_c, rrun_res) := by kernel_rfl
attribute [simp] rrun_r0 rrun_r1 rrun_r2 rrun_r3 rrun_r4 rrun_r5 rrun_r6 rrun_r7 rrun_r8 rrun_r9 rrun_r10 rrun_r11 rrun_r12 rrun_r13 rrun_r14 rrun_r15 rrun_r16 rrun_r17 rrun_r18 rrun_r19 rrun_r20 rrun_r21 rrun_r22 rrun_r23 rrun_r24 rrun_r25 rrun_r26 rrun_r27 rrun_r28 rrun_p28 rrun_r29 rrun_r30 rrun_r31 rrun_r32 rrun_r33 rrun_r34 rrun_r35 rrun_r36 rrun_p36 rrun_r37 rrun_r38 rrun_r39 rrun_r40 rrun_r41 rrun_r42 rrun_r43 rrun_r44 rrun_p44 rrun_r45 rrun_r46 rrun_r47 rrun_r48 rrun_r49 rrun_r50 rrun_r51 rrun_r52 rrun_r53 rrun_r54 rrun_r55 rrun_r56 rrun_r57 rrun_r58 rrun_p58 rrun_r59 rrun_r60 rrun_r61 rrun_r62 rrun_r63 rrun_r64 rrun_r65 rrun_r66 rrun_p66 rrun_r67 rrun_r68 rrun_r69 rrun_r70 rrun_r71 rrun_r72 rrun_res

def StkR (S : St) (v : AV) (xs : List Int) : Prop := (v = .nils ∧ xs = []) ∨ ∃ st es, v = .sl 1000046015 st 1 0 xs.length ∧ S.blk 1000046015 = some ⟨st, 1, es⟩ ∧ xs.length ≤ es.length ∧ es.take xs.length = xs.map iv
def RegR (S : St) (v : AV) (xs : List Int) : Prop := ∃ st, v = .sl 1000046012 st 1 0 xs.length ∧ S.blk 1000046012 = some ⟨st, 1, xs.map iv⟩
def atV (code : List Ins) (pc : Int) : Int := if pc < 0 then code.length else pc
theorem atV_nn (code : List Ins) {pc : Int} (h : 0 ≤ pc) : atV code pc = pc := by unfold atV; rw [if_neg (by omega)]
/-- The state of the reference's loop. -/
structure RIs (F : Fx) (p : Prg) (l : Lcl) (code : List Ins) (m : Mach) (s : Int) (S : St) : Prop where
  t1 : S.t 1 = iv F.who
  t4 : S.t 4 = ints F.args
  t5 : S.t 5 = .ptr 46005 0 4 0 0
  b5 : S.blk 46005 = some ⟨0, 4, [p.av]⟩
  t10 : S.t 10 = .ptr 46010 2 7 0 0
  b10 : S.blk 46010 = some ⟨2, 7, [.agg [.nils, .bool false, iv 0, iv 0, iv 0, .nils, iv 0]]⟩
  t11 : S.t 11 = .lst 2 (code.map Ins.av)
  now : ∃ st r, S.t 12 = .ptr 46012 st 5 0 0 ∧ S.blk 46012 = some ⟨st, 5, [.agg [r, .bool m.armed, iv l.down, iv l.sent, iv l.over]]⟩ ∧ RegR S r m.regs
  fal : ∃ st s2, S.t 13 = .ptr 46013 st 5 0 0 ∧ S.blk 46013 = some ⟨st, 5, [.agg [.acc 46051 s2 1 (l.regs.map iv), .bool l.armed, iv l.down, iv l.sent, iv l.over]]⟩
  t14 : AccIs S (S.t 14) 46014 3 40 (m.notes.map Nt.av)
  t15 : StkR S (S.t 15) m.st
  t16 : S.t 16 = iv s
  t17 : S.t 17 = iv (atV code m.pc)
theorem StkR.len {S : St} {v : AV} {xs : List Int} (h : StkR S v xs) : lenOf v = some xs.length := by
  rcases h with ⟨rfl, rfl⟩ | ⟨st, es, rfl, _⟩ <;> rfl
theorem StkR.tk {es : List AV} {xs : List Int} (h : es.take xs.length = xs.map iv) (j : Nat) (hj : j ≤ xs.length) : es.take j = (xs.take j).map iv := by
  have := congrArg (List.take j) h
  rw [List.take_take, Nat.min_eq_left hj] at this
  rw [this, List.map_take]
theorem StkR.get {es : List AV} {xs : List Int} (h : es.take xs.length = xs.map iv) (j : Nat) (hj : j < xs.length) : es[j]? = some (iv xs[j]) := by
  have := congrArg (fun l => l[j]?) h
  simp only [List.getElem?_take_of_lt hj] at this
  rw [this]; simp [hj]
theorem top_get {xs : List Int} (h : 1 ≤ xs.length) : xs[xs.length - 1]'(by omega) = top xs := by
  have hne : xs ≠ [] := by rintro rfl; simp at h
  rw [top, List.getLast?_eq_some_getLast hne, List.getLast_eq_getElem]; rfl
theorem top_get2 {xs : List Int} (h : 2 ≤ xs.length) : xs[xs.length - 2]'(by omega) = top xs.dropLast := by
  rw [← top_get (by simp; omega)]
  simp only [List.length_dropLast, List.getElem_dropLast]
  rfl
theorem StkR.top1 {S : St} {v : AV} {xs : List Int} (h : StkR S v xs) (h1 : 1 ≤ xs.length) : ∃ st es, v = .sl 1000046015 st 1 0 xs.length ∧ S.blk 1000046015 = some ⟨st, 1, es⟩ ∧ xs.length ≤ es.length ∧ es[xs.length - 1]? = some (iv (top xs)) ∧ es.take (xs.length - 1) = xs.dropLast.map iv ∧ es.take xs.length = xs.map iv := by
  rcases h with ⟨_, rfl⟩ | ⟨st, es, q1, q2, q3, q4⟩
  · simp at h1
  refine ⟨st, es, q1, q2, q3, ?_, ?_, q4⟩
  · rw [StkR.get q4 _ (by omega), top_get h1]
  · rw [StkR.tk q4 _ (by omega), List.dropLast_eq_take]
theorem StkR.top2 {S : St} {v : AV} {xs : List Int} (h : StkR S v xs) (h1 : 2 ≤ xs.length) : ∃ st es, v = .sl 1000046015 st 1 0 xs.length ∧ S.blk 1000046015 = some ⟨st, 1, es⟩ ∧ xs.length ≤ es.length ∧ es[xs.length - 1]? = some (iv (top xs)) ∧ es[xs.length - 2]? = some (iv (top xs.dropLast)) ∧ es.take (xs.length - 2) = xs.dropLast.dropLast.map iv := by
  obtain ⟨st, es, q1, q2, q3, q4, q5, q6⟩ := h.top1 (by omega)
  refine ⟨st, es, q1, q2, q3, q4, ?_, ?_⟩
  · rw [StkR.get q6 _ (by omega), top_get2 h1]
  · rw [StkR.tk q6 _ (by omega), List.dropLast_eq_take, List.dropLast_eq_take, List.take_take, List.length_take]
    congr 2; omega
/-- What a round of the reference's loop leaves. -/
def RPost (F : Fx) (p : Prg) (l : Lcl) (code : List Ins) (m : Mach) (s : Int) (i : Ins) (κ : Ex → St → Prop) : Prop :=
  ((doV F i m).2 = 0 → ∀ S', RIs F p l code (doV F i m).1 (s + 1) S' → κ .normal S') ∧
  ((doV F i m).2 ≠ 0 → ∀ S' s2, S'.t 10 = .ptr 46010 2 7 0 0 → S'.blk 46010 = some ⟨2, 7, [.agg [.acc 46051 s2 1 (l.regs.map iv), .bool l.armed, iv (doV F i m).2, iv l.sent, iv l.over, .nils, iv (s + 1)]]⟩ → κ .ret S')

end Go.Gv
