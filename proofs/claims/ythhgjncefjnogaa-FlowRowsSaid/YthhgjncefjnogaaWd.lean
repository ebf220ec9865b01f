/- What flow.Depths, flow.Check and flow.Most answer. No condition beyond those that each law names. -/
import Derived.Test.YthhgjncefjnogaaProg
import Derived.Test.YthhgjncefjnogaaWc
set_option linter.unusedVariables false
set_option linter.unusedSimpArgs false
namespace Go.Gv
open Go.Proofs

def depths_r0 : List AI := [⟨(some 2), none, (.op (.box 33002 4 (.t 0)))⟩, ⟨(some 4), none, (.op (.mv (.c .nils)))⟩, ⟨(some 5), none, (.op (.mv (.c (.int .i64 0))))⟩]
def depths_r1 : List AI := [⟨(some 10), none, (.op (.load (some 4) (.t 2)))⟩, ⟨(some 11), none, (.call (.c (.fn 31 [])) [(.t 10)])⟩, ⟨(some 6), none, (.op (.mv (.t 11)))⟩]
def depths_r2 : List AI := [⟨(some 12), none, (.op (.mv (.t 6)))⟩, ⟨(some 13), none, (.op (.ibin .neq (.t 12) (.c (.int .i64 0))))⟩]
def depths_r3 : List AI := [⟨(some 14), none, (.op (.mv (.t 6)))⟩, ⟨(some 4), none, (.op (.mv (.c .nils)))⟩, ⟨(some 5), none, (.op (.mv (.t 14)))⟩]
def depths_r4 : List AI := [⟨(some 15), none, (.op (.mv (.t 1)))⟩, ⟨(some 16), none, (.op (.ibin .lss (.t 15) (.c (.int .i64 0))))⟩, ⟨(some 17), none, (.op (.mv (.t 16)))⟩, ⟨(some 18), (some (17, false)), (.op (.mv (.t 1)))⟩, ⟨(some 19), (some (17, false)), (.op (.fld 0 (.t 2)))⟩, ⟨(some 20), (some (17, false)), (.op (.load none (.t 19)))⟩, ⟨(some 21), (some (17, false)), (.op (.len (.t 20)))⟩, ⟨(some 22), (some (17, false)), (.op (.ibin .geq (.t 18) (.t 21)))⟩, ⟨(some 23), none, (.op (.pick (.t 17) (.c (.bool true)) (.t 22)))⟩]
def depths_r5 : List AI := [⟨(some 4), none, (.op (.mv (.c .nils)))⟩, ⟨(some 5), none, (.op (.mv (.c (.int .i64 7))))⟩]
def depths_r6 : List AI := [⟨(some 25), none, (.op (.load (some 4) (.t 2)))⟩, ⟨(some 26), none, (.op (.fld 0 (.t 2)))⟩, ⟨(some 27), none, (.op (.load none (.t 26)))⟩, ⟨(some 28), none, (.op (.mv (.t 1)))⟩, ⟨(some 29), none, (.op (.idx 2 (.t 27) (.t 28)))⟩, ⟨(some 30), none, (.op (.load (some 2) (.t 29)))⟩, ⟨(some 31), none, (.call (.c (.fn 79 [])) [(.t 25), (.t 30)])⟩, ⟨(some 24), none, (.op (.mv (.t 31)))⟩, ⟨(some 32), none, (.op (.ext (.t 24) 0))⟩, ⟨(some 33), none, (.op (.ext (.t 24) 1))⟩, ⟨(some 34), none, (.op (.ext (.t 24) 2))⟩, ⟨(some 7), none, (.op (.mv (.t 32)))⟩, ⟨(some 8), none, (.op (.mv (.t 33)))⟩, ⟨(some 9), none, (.op (.mv (.t 34)))⟩]
def depths_p6 : List (List Nat) := [[], [], [1], [], [2, 3, 1], [4, 2, 3, 1], [0, 5, 4, 2, 3, 1], [6, 0, 5, 4, 2, 3, 1], [7, 6, 0, 5, 4, 2, 3, 1], [7, 6, 0, 5, 4, 2, 3, 1], [7, 6, 0, 5, 4, 2, 3, 1], [8, 6, 0, 1, 2, 3, 4, 5, 7], [9, 11, 0, 1, 2, 3, 4, 5, 6, 7, 8], [10, 12, 0, 1, 2, 3, 4, 5, 6, 7, 8, 9, 11]]
def depths_r7 : List AI := [⟨(some 35), none, (.op (.mv (.t 9)))⟩, ⟨(some 36), none, (.op (.not (.t 35)))⟩]
def depths_r8 : List AI := [⟨(some 4), none, (.op (.mv (.c .nils)))⟩, ⟨(some 5), none, (.op (.mv (.c (.int .i64 5))))⟩]
def depths_r9 : List AI := [⟨(some 37), none, (.op (.mv (.t 7)))⟩, ⟨(some 4), none, (.op (.mv (.t 37)))⟩, ⟨(some 5), none, (.op (.mv (.c (.int .i64 0))))⟩]
def depths_c : AC := (.seq (.reg depths_r0) (.seq (.seq (.reg depths_r1) (.seq (.reg depths_r2) (.cond (.t 13) (.seq (.reg depths_r3) .ret) .skip))) (.seq (.seq (.reg depths_r4) (.cond (.t 23) (.seq (.reg depths_r5) .ret) .skip)) (.seq (.regd depths_r6 depths_p6) (.seq (.seq (.reg depths_r7) (.cond (.t 36) (.seq (.reg depths_r8) .ret) .skip)) (.seq (.reg depths_r9) .ret))))))
def depths_res : List ARes := [(.tmp 4), (.tmp 5)]
set_option maxRecDepth 100000 in
theorem depths_get : getF Try.prog 33 33000 [] = some ("gavotte/flow.Depths", 38, depths_c, depths_res) := by kernel_rfl
def fcheck_r0 : List AI := [⟨(some 1), none, (.op (.box 36001 4 (.t 0)))⟩, ⟨(some 2), none, (.op (.mv (.c (.int .i64 0))))⟩]
def fcheck_r1 : List AI := [⟨(some 9), none, (.op (.load (some 4) (.t 1)))⟩, ⟨(some 10), none, (.call (.c (.fn 31 [])) [(.t 9)])⟩, ⟨(some 3), none, (.op (.mv (.t 10)))⟩]
def fcheck_r2 : List AI := [⟨(some 11), none, (.op (.mv (.t 3)))⟩, ⟨(some 12), none, (.op (.ibin .neq (.t 11) (.c (.int .i64 0))))⟩]
def fcheck_r3 : List AI := [⟨(some 13), none, (.op (.mv (.t 3)))⟩, ⟨(some 2), none, (.op (.mv (.t 13)))⟩]
def fcheck_r4 : List AI := [⟨(some 14), none, (.op (.fld 0 (.t 1)))⟩, ⟨(some 15), none, (.op (.load none (.t 14)))⟩, ⟨(some 16), none, (.op (.len (.t 15)))⟩, ⟨(some 17), none, (.op (.mv (.c (.int .i64 0))))⟩]
def fcheck_r5 : List AI := [⟨(some 18), none, (.op (.ibin .lss (.t 17) (.t 16)))⟩]
def fcheck_r6 : List AI := [⟨(some 19), none, (.op (.idx 2 (.t 15) (.t 17)))⟩, ⟨(some 20), none, (.op (.load (some 2) (.t 19)))⟩, ⟨(some 5), none, (.op (.new 36005 2 (.agg [(.int .i64 0), .nils])))⟩, ⟨none, none, (.op (.store 2 (.t 5) (.t 20)))⟩]
def fcheck_r7 : List AI := [⟨(some 22), none, (.op (.load (some 4) (.t 1)))⟩, ⟨(some 23), none, (.op (.load (some 2) (.t 5)))⟩, ⟨(some 24), none, (.call (.c (.fn 79 [])) [(.t 22), (.t 23)])⟩, ⟨(some 21), none, (.op (.mv (.t 24)))⟩, ⟨(some 25), none, (.op (.ext (.t 21) 0))⟩, ⟨(some 26), none, (.op (.ext (.t 21) 1))⟩, ⟨(some 27), none, (.op (.ext (.t 21) 2))⟩, ⟨(some 6), none, (.op (.mv (.t 25)))⟩, ⟨(some 7), none, (.op (.mv (.t 26)))⟩, ⟨(some 8), none, (.op (.mv (.t 27)))⟩]
def fcheck_r8 : List AI := [⟨(some 28), none, (.op (.mv (.t 8)))⟩, ⟨(some 29), none, (.op (.not (.t 28)))⟩]
def fcheck_r9 : List AI := [⟨(some 2), none, (.op (.mv (.c (.int .i64 5))))⟩]
def fcheck_r10 : List AI := [⟨(some 30), none, (.op (.ibin .add (.t 17) (.c (.int .i64 1))))⟩, ⟨(some 17), none, (.op (.mv (.t 30)))⟩]
def fcheck_l0 : AC := (.seq (.reg fcheck_r5) (.seq (.cond (.t 18) .skip (.exit 0)) (.seq (.block 1 (.seq (.reg fcheck_r6) (.seq (.reg fcheck_r7) (.seq (.reg fcheck_r8) (.cond (.t 29) (.seq (.reg fcheck_r9) .ret) .skip))))) (.reg fcheck_r10))))
def fcheck_r11 : List AI := [⟨(some 2), none, (.op (.mv (.c (.int .i64 0))))⟩]
def fcheck_c : AC := (.seq (.reg fcheck_r0) (.seq (.seq (.reg fcheck_r1) (.seq (.reg fcheck_r2) (.cond (.t 12) (.seq (.reg fcheck_r3) .ret) .skip))) (.seq (.seq (.reg fcheck_r4) (.block 0 (.loop fcheck_l0))) (.seq (.reg fcheck_r11) .ret))))
def fcheck_res : List ARes := [(.tmp 2)]
set_option maxRecDepth 100000 in
theorem fcheck_get : getF Try.prog 36 36000 [] = some ("gavotte/flow.Check", 31, fcheck_c, fcheck_res) := by kernel_rfl
def most_r0 : List AI := [⟨(some 2), none, (.op (.box 34002 4 (.t 0)))⟩, ⟨(some 4), none, (.op (.mv (.c (.int .i64 0))))⟩]
def most_r1 : List AI := [⟨(some 11), none, (.op (.load (some 4) (.t 2)))⟩, ⟨(some 12), none, (.op (.mv (.t 1)))⟩, ⟨(some 13), none, (.call (.c (.fn 33 [])) [(.t 11), (.t 12)])⟩, ⟨(some 10), none, (.op (.mv (.t 13)))⟩, ⟨(some 14), none, (.op (.ext (.t 10) 0))⟩, ⟨(some 15), none, (.op (.ext (.t 10) 1))⟩, ⟨(some 5), none, (.op (.mv (.t 14)))⟩, ⟨(some 6), none, (.op (.mv (.t 15)))⟩]
def most_r2 : List AI := [⟨(some 16), none, (.op (.mv (.t 6)))⟩, ⟨(some 17), none, (.op (.ibin .neq (.t 16) (.c (.int .i64 0))))⟩]
def most_r3 : List AI := [⟨(some 4), none, (.op (.mv (.c (.int .i64 (-1)))))⟩]
def most_r4 : List AI := [⟨(some 19), none, (.op (.load (some 4) (.t 2)))⟩, ⟨(some 20), none, (.op (.fld 0 (.t 2)))⟩, ⟨(some 21), none, (.op (.load none (.t 20)))⟩, ⟨(some 22), none, (.op (.mv (.t 1)))⟩, ⟨(some 23), none, (.op (.idx 2 (.t 21) (.t 22)))⟩, ⟨(some 24), none, (.op (.load (some 2) (.t 23)))⟩, ⟨(some 25), none, (.call (.c (.fn 79 [])) [(.t 19), (.t 24)])⟩, ⟨(some 18), none, (.op (.mv (.t 25)))⟩, ⟨(some 26), none, (.op (.ext (.t 18) 0))⟩, ⟨(some 27), none, (.op (.ext (.t 18) 1))⟩, ⟨(some 28), none, (.op (.ext (.t 18) 2))⟩, ⟨(some 7), none, (.op (.mv (.t 26)))⟩, ⟨(some 8), none, (.op (.mv (.t 27)))⟩, ⟨(some 9), none, (.op (.mv (.t 28)))⟩]
def most_p4 : List (List Nat) := [[], [], [1], [], [2, 3, 1], [4, 2, 3, 1], [0, 5, 4, 2, 3, 1], [6, 0, 5, 4, 2, 3, 1], [7, 6, 0, 5, 4, 2, 3, 1], [7, 6, 0, 5, 4, 2, 3, 1], [7, 6, 0, 5, 4, 2, 3, 1], [8, 6, 0, 1, 2, 3, 4, 5, 7], [9, 11, 0, 1, 2, 3, 4, 5, 6, 7, 8], [10, 12, 0, 1, 2, 3, 4, 5, 6, 7, 8, 9, 11]]
def most_r5 : List AI := [⟨(some 29), none, (.op (.mv (.t 8)))⟩, ⟨(some 4), none, (.op (.mv (.t 29)))⟩]
def most_c : AC := (.seq (.reg most_r0) (.seq (.seq (.reg most_r1) (.seq (.reg most_r2) (.cond (.t 17) (.seq (.reg most_r3) .ret) .skip))) (.seq (.regd most_r4 most_p4) (.seq (.reg most_r5) .ret))))
def most_res : List ARes := [(.tmp 4)]
set_option maxRecDepth 100000 in
theorem most_get : getF Try.prog 34 34000 [] = some ("gavotte/flow.Most", 30, most_c, most_res) := by kernel_rfl
attribute [simp] depths_r0 depths_r1 depths_r2 depths_r3 depths_r4 depths_r5 depths_r6 depths_p6 depths_r7 depths_r8 depths_r9 depths_res fcheck_r0 fcheck_r1 fcheck_r2 fcheck_r3 fcheck_r4 fcheck_r5 fcheck_r6 fcheck_r7 fcheck_r8 fcheck_r9 fcheck_r10 fcheck_r11 fcheck_res most_r0 most_r1 most_r2 most_r3 most_r4 most_p4 most_r5 most_res

theorem firstNZ_zero {l : List Int} (h : firstNZ l = 0) : ∀ x ∈ l, x = 0 := by
  induction l with
  | nil => simp
  | cons a l ih =>
    unfold firstNZ at h
    split at h
    · omega
    · rename_i ha
      intro x hx
      rcases List.mem_cons.1 hx with hx | hx
      · omega
      · exact ih h x hx
theorem checkV_zero {p : Prg} (h : checkV p = 0) : p.hs.length ≤ 16 ∧ p.as.length ≤ 8 ∧ p.boot.length ≤ 16 ∧ 0 < p.as.length ∧ 1 ≤ p.fuel ∧ p.fuel ≤ 256 ∧ (∀ x ∈ p.hs, handlerV p.hs.length x = 0) ∧ (∀ a ∈ p.as, actorV p.hs a = 0) ∧ (∀ n ∈ p.boot, noteV p.hs p.as.length n = 0) := by
  unfold checkV at h
  split at h
  · omega
  · rename_i h1
    split at h
    · omega
    · rename_i h2
      split at h
      · rename_i h3; exact absurd h h3
      · rename_i h3
        split at h
        · rename_i h4; exact absurd h h4
        · rename_i h4
          simp only [ne_eq, Decidable.not_not] at h3 h4
          refine ⟨by omega, by omega, by omega, by omega, by omega, by omega, ?_, ?_, ?_⟩
          · intro x hx; exact firstNZ_zero h3 _ (List.mem_map_of_mem hx)
          · intro x hx; exact firstNZ_zero h4 _ (List.mem_map_of_mem hx)
          · intro x hx; exact firstNZ_zero h _ (List.mem_map_of_mem hx)
theorem handlerV_zero {n : Int} {x : Hnd} (h : handlerV n x = 0) : 0 ≤ x.args ∧ x.args ≤ 4 ∧ x.code.length ≤ 64 ∧ ∀ i ∈ x.code, instrV n x.args x.code.length i = 0 := by
  unfold handlerV at h
  split at h
  · omega
  · rename_i h1
    split at h
    · omega
    · rename_i h2
      exact ⟨by omega, by omega, by omega, fun i hi => firstNZ_zero h _ (List.mem_map_of_mem hi)⟩
theorem instrV_zero {n a k : Int} {i : Ins} (h : instrV n a k i = 0) : 1 ≤ i.op ∧ i.op ≤ 25 ∧ (i.op = 20 ∨ i.op = 21 → 0 ≤ i.a ∧ i.a ≤ k) ∧ (i.op = 5 ∨ i.op = 6 → 0 ≤ i.a ∧ i.a < 8) ∧ (i.op = 7 → 0 ≤ i.a ∧ i.a < a) ∧ (i.op = 22 → 0 ≤ i.a ∧ i.a < n) := by
  unfold instrV at h
  split at h
  · omega
  · rename_i h1
    split at h
    · omega
    · rename_i h2
      split at h
      · omega
      · rename_i h3
        split at h
        · omega
        · rename_i h4
          simp only [not_or, not_and, Decidable.not_not] at h1 h2 h3 h4
          have hop : 1 ≤ i.op ∧ i.op ≤ 25 := by
            have := h1.1; omega
          refine ⟨hop.1, hop.2, ?_, ?_, ?_, ?_⟩
          · intro q
            have : operandV i.op = 4 := by unfold operandV; rcases q with q | q <;> simp [q]
            have := h2 this; omega
          · intro q
            have : operandV i.op = 2 := by unfold operandV; rcases q with q | q <;> simp [q]
            have := h3.1 this; omega
          · intro q
            have : operandV i.op = 3 := by unfold operandV; simp [q]
            have := h3.2 this; omega
          · intro q
            have : operandV i.op = 5 := by unfold operandV; simp [q]
            have := h4 this; omega
theorem codeOk_of {p : Prg} (h : checkV p = 0) {x : Hnd} (hx : x ∈ p.hs) : codeOk p.hs x.code := by
  obtain ⟨c1, _, _, _, _, _, c7, _, _⟩ := checkV_zero h
  obtain ⟨_, _, d3, d4⟩ := handlerV_zero (c7 x hx)
  refine ⟨by omega, fun i hi => ?_⟩
  obtain ⟨_, _, e3, _, _, e6⟩ := instrV_zero (d4 i hi)
  refine ⟨fun q => ?_, e3⟩
  obtain ⟨f1, f2⟩ := e6 q
  have hlt : i.a.toNat < p.hs.length := by omega
  have ea : argsOf p.hs i.a = (p.hs[i.a.toNat]).args := by simp [argsOf, hlt]
  obtain ⟨g1, g2, _, _⟩ := handlerV_zero (c7 _ (List.getElem_mem hlt))
  exact ⟨f1, hlt, by omega, by omega⟩

def depthsV (p : Prg) (h : Int) : List Int × Int :=
  if checkV p ≠ 0 then ([], checkV p) else if h < 0 ∨ h ≥ p.hs.length then ([], 7) else
    match p.hs[h.toNat]? with
    | some x => match walkV p.hs x.code with
      | some r => (r.1, 0)
      | none => ([], 5)
    | none => ([], 7)
theorem depths_pc (p : Prg) (h : Int) : PC Try.prog 33 [p.av, iv h] (.tup [ints (depthsV p h).1, iv (depthsV p h).2]) := by
  refine pc_of_get depths_get (by simp) _ (by simp) _ ?_
  unfold depths_c
  simp
  refine call (check_pc p) (by simp) ?_
  simp
  refine split (fun h1 => ?_) (fun h1 => ?_) <;> simp [h1]
  rotate_left
  · simp [depthsV, h1]
  refine split (fun h2 => ?_) (fun h2 => ?_) <;> simp [h2]
  · simp [depthsV, h1, h2]
  refine split (fun h3 => ?_) (fun h3 => ?_) <;> simp [h3]
  · simp [depthsV, h1, h2, h3]
  have h0 : 0 ≤ h := by omega
  have hlt : h.toNat < p.hs.length := by omega
  simp [h0, hlt]
  refine calld (walk_pc p p.hs[h.toNat] (codeOk_of h1 (List.getElem_mem hlt))) (by simp) ?_
  have e : p.hs[h.toNat]? = some p.hs[h.toNat] := List.getElem?_eq_getElem hlt
  have hd : depthsV p h = match walkV p.hs p.hs[h.toNat].code with | some r => (r.1, 0) | none => ([], 5) := by
    simp only [depthsV, h1, e]; rw [if_neg (by simp), if_neg (by omega)]
  rw [hd]
  cases walkV p.hs p.hs[h.toNat].code with
  | none => simp [walkAV]
  | some r => simp [walkAV]

def walkE (hs : List Hnd) (x : Hnd) : Int := match walkV hs x.code with | some _ => 0 | none => 5
def flowV (p : Prg) : Int := if checkV p ≠ 0 then checkV p else firstNZ (p.hs.map (walkE p.hs))
theorem fcheck_pc (p : Prg) : PC Try.prog 36 [p.av] (iv (flowV p)) := by
  refine pc_of_get fcheck_get (by simp) _ (by simp) _ ?_
  unfold fcheck_c
  simp
  refine call (check_pc p) (by simp) ?_
  simp
  refine split (fun h1 => ?_) (fun h1 => ?_) <;> simp [h1]
  rotate_left
  · simp [flowV, h1]
  have hl := (checkV_zero h1).1
  refine loopN (fun i S => firstNZ ((p.hs.map (walkE p.hs)).drop i) = flowV p ∧ (∃ st, S.t 1 = .ptr 36001 st 4 0 0 ∧ S.blk 36001 = some ⟨st, 4, [p.av]⟩) ∧ S.t 15 = .lst 2 (p.hs.map Hnd.av) ∧ S.t 16 = iv p.hs.length ∧ S.t 17 = iv i) p.hs.length ?_ ?_
  · simp [flowV, h1]
  · rintro i S hi ⟨hv, ⟨st, g1, b1⟩, g15, g16, g17⟩
    by_cases hlt : i < p.hs.length
    · have e : p.hs[i]? = some p.hs[i] := List.getElem?_eq_getElem hlt
      simp [fcheck_l0, g1, b1, g15, g16, g17, hlt, wrap_succ i _ hlt (by omega)]
      refine call (walk_pc p p.hs[i] (codeOk_of h1 (List.getElem_mem hlt))) (by simp) ?_
      rw [firstNZ_drop _ _ (by simpa using hlt)] at hv
      simp only [List.getElem_map] at hv
      rw [walkE] at hv
      cases hw : walkV p.hs p.hs[i].code with
      | none =>
        rw [hw] at hv
        simp at hv
        simp [walkAV, ← hv]
      | some r =>
        rw [hw] at hv
        simp at hv
        simp [walkAV, g1, b1, g15, g16, g17, wrap_succ i _ hlt (by omega)]
        exact hv
    · have e : i = p.hs.length := by omega
      subst e
      rw [firstNZ_end _ _ (by simp)] at hv
      simp [fcheck_l0, g1, b1, g15, g16, g17, ← hv]

def mostV (p : Prg) (h : Int) : Int :=
  if (depthsV p h).2 ≠ 0 then -1 else match p.hs[h.toNat]? with
    | some x => match walkV p.hs x.code with
      | some r => r.2
      | none => 0
    | none => 0
theorem most_pc (p : Prg) (h : Int) : PC Try.prog 34 [p.av, iv h] (iv (mostV p h)) := by
  refine pc_of_get most_get (by simp) _ (by simp) _ ?_
  unfold most_c
  simp
  refine call (depths_pc p h) (by simp) ?_
  simp
  refine split (fun h1 => ?_) (fun h1 => ?_) <;> simp [h1]
  rotate_left
  · simp [mostV, h1]
  have hc : checkV p = 0 := by
    unfold depthsV at h1
    split at h1
    · exact h1
    · rename_i h2; simpa using h2
  have hin : 0 ≤ h ∧ h.toNat < p.hs.length := by
    unfold depthsV at h1
    rw [if_neg (by simpa using hc)] at h1
    split at h1
    · simp at h1
    · omega
  obtain ⟨h0, hlt⟩ := hin
  have e : p.hs[h.toNat]? = some p.hs[h.toNat] := List.getElem?_eq_getElem hlt
  simp [h0, hlt]
  refine calld (walk_pc p p.hs[h.toNat] (codeOk_of hc (List.getElem_mem hlt))) (by simp) ?_
  have hm : mostV p h = match walkV p.hs p.hs[h.toNat].code with | some r => r.2 | none => 0 := by
    simp only [mostV, h1, e]; rw [if_neg (by simp)]
  rw [hm]
  cases walkV p.hs p.hs[h.toNat].code with
  | none => simp [walkAV]
  | some r => simp [walkAV]

end Go.Gv
