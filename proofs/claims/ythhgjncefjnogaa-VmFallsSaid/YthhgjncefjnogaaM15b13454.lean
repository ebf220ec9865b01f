/- Texts of this proof, one behind the other. What is proved, and on which conditions, stands ahead of each. -/
import Derived.Test.YthhgjncefjnogaaProg
import Derived.Test.YthhgjncefjnogaaM14ba58e4

/- The law VmArms answers true. No condition. -/
set_option linter.unusedVariables false
set_option linter.unusedSimpArgs false
namespace Go.Gv
open Go.Proofs

def round_r0 : List AI := [⟨(some 4), none, (.op (.mv (.c (.int .i64 0))))⟩]
def round_r1 : List AI := [⟨(some 5), none, (.op (.mv (.t 0)))⟩, ⟨(some 6), none, (.op (.mv (.t 1)))⟩, ⟨(some 7), none, (.op (.ibin .rem (.t 5) (.t 6)))⟩, ⟨(some 8), none, (.op (.mv (.t 1)))⟩, ⟨(some 9), none, (.op (.ibin .add (.t 7) (.t 8)))⟩, ⟨(some 10), none, (.op (.mv (.t 1)))⟩, ⟨(some 11), none, (.op (.ibin .rem (.t 9) (.t 10)))⟩, ⟨(some 4), none, (.op (.mv (.t 11)))⟩]
def round_c : AC := (.seq (.reg round_r0) (.seq (.reg round_r1) .ret))
def round_res : List ARes := [(.tmp 4)]
set_option maxRecDepth 100000 in
theorem round_get : getF Try.prog 30 30000 [] = some ("gavotte/gavottealike.Round", 12, round_c, round_res) := by kernel_rfl
def varms_r0 : List AI := [⟨(some 6), none, (.op (.mv (.c (.bool false))))⟩]
def varms_r1 : List AI := [⟨(some 13), none, (.op (.mv (.t 0)))⟩, ⟨(some 14), none, (.op (.len (.t 13)))⟩, ⟨(some 15), none, (.op (.ibin .gtr (.t 14) (.c (.int .i64 40))))⟩]
def varms_r2 : List AI := [⟨(some 16), none, (.call (.c (.fn 41 [])) [])⟩, ⟨(some 6), none, (.op (.mv (.t 16)))⟩]
def varms_r3 : List AI := [⟨(some 7), none, (.op (.mv (.c .nils)))⟩]
def varms_r4 : List AI := [⟨(some 17), none, (.op (.mv (.t 1)))⟩, ⟨(some 8), none, (.op (.mv (.t 17)))⟩]
def varms_r5 : List AI := [⟨(some 18), none, (.op (.mv (.t 2)))⟩, ⟨(some 19), none, (.call (.c (.fn 30 [])) [(.t 18), (.c (.int .i64 2))])⟩, ⟨(some 9), none, (.op (.mv (.t 19)))⟩]
def varms_r6 : List AI := [⟨(some 10), none, (.op (.mv (.c (.int .i64 0))))⟩]
def varms_r7 : List AI := [⟨(some 20), none, (.op (.mv (.t 10)))⟩, ⟨(some 21), none, (.op (.mv (.t 0)))⟩, ⟨(some 22), none, (.op (.len (.t 21)))⟩, ⟨(some 23), none, (.op (.ibin .lss (.t 20) (.t 22)))⟩]
def varms_r8 : List AI := [⟨(some 26), none, (.op (.mv (.t 0)))⟩, ⟨(some 27), none, (.op (.mv (.t 10)))⟩, ⟨(some 28), none, (.op (.idx 1 (.t 26) (.t 27)))⟩, ⟨(some 29), none, (.op (.load none (.t 28)))⟩]
def varms_r9 : List AI := [⟨(some 30), none, (.op (.mv (.t 7)))⟩, ⟨(some 31), none, (.op (.build [(.int .i64 0), (.int .i64 0)] [(0, (1, (.c (.int .i64 23))))]))⟩, ⟨(some 32), none, (.op (.bsl 18032 2 35 1 (.agg [(.int .i64 0), (.int .i64 0)]) [(0, (.t 31))]))⟩, ⟨(some 33), none, (.op (.app 18007 2 35 16 (.t 30) (.t 32)))⟩, ⟨(some 7), none, (.op (.mv (.t 33)))⟩]
def varms_r10 : List AI := [⟨(some 34), none, (.op (.mv (.t 8)))⟩, ⟨(some 35), none, (.op (.mv (.t 34)))⟩, ⟨(some 36), (some (35, false)), (.op (.mv (.t 9)))⟩, ⟨(some 37), (some (35, false)), (.op (.ibin .eql (.t 36) (.c (.int .i64 0))))⟩, ⟨(some 38), none, (.op (.pick (.t 35) (.c (.bool true)) (.t 37)))⟩, ⟨(some 8), none, (.op (.mv (.t 38)))⟩]
def varms_r11 : List AI := [⟨(some 39), none, (.op (.mv (.t 7)))⟩, ⟨(some 40), none, (.op (.build [(.int .i64 0), (.int .i64 0)] [(0, (1, (.c (.int .i64 24))))]))⟩, ⟨(some 41), none, (.op (.bsl 18041 2 35 1 (.agg [(.int .i64 0), (.int .i64 0)]) [(0, (.t 40))]))⟩, ⟨(some 42), none, (.op (.app 18007 2 35 16 (.t 39) (.t 41)))⟩, ⟨(some 7), none, (.op (.mv (.t 42)))⟩]
def varms_r12 : List AI := [⟨(some 8), none, (.op (.mv (.c (.bool false))))⟩]
def varms_r13 : List AI := [⟨(some 24), none, (.op (.mv (.t 10)))⟩, ⟨(some 25), none, (.op (.ibin .add (.t 24) (.c (.int .i64 1))))⟩, ⟨(some 10), none, (.op (.mv (.t 25)))⟩]
def varms_l0 : AC := (.seq (.seq (.reg varms_r7) (.cond (.t 23) .skip (.exit 0))) (.seq (.block 1 (.seq (.reg varms_r8) (.cond (.t 29) (.seq (.reg varms_r9) (.reg varms_r10)) (.seq (.reg varms_r11) (.reg varms_r12))))) (.reg varms_r13)))
def varms_r14 : List AI := [⟨(some 43), none, (.call (.c (.fn 48 [])) [(.c (.int .i64 1)), (.c (.int .i64 2))])⟩, ⟨(some 11), none, (.op (.new 18011 5 (.agg [.nils, (.bool false), (.int .i64 0), (.int .i64 0), (.int .i64 0)])))⟩, ⟨none, none, (.op (.store 5 (.t 11) (.t 43)))⟩]
def varms_r15 : List AI := [⟨(some 44), none, (.op (.mv (.t 1)))⟩, ⟨(some 45), none, (.op (.fld 1 (.t 11)))⟩, ⟨none, none, (.op (.store 1 (.t 45) (.t 44)))⟩]
def varms_r16 : List AI := [⟨(some 46), none, (.op (.mv (.t 7)))⟩, ⟨(some 47), none, (.call (.c (.fn 47 [])) [(.c (.int .i64 100)), (.t 46)])⟩, ⟨(some 48), none, (.op (.mv (.t 9)))⟩, ⟨(some 49), none, (.op (.load (some 5) (.t 11)))⟩, ⟨(some 50), none, (.call (.c (.fn 45 [])) [(.t 47), (.t 48), (.t 49), (.c (.int .i64 0)), (.c .nils)])⟩, ⟨(some 12), none, (.op (.new 18012 7 (.agg [.nils, (.bool false), (.int .i64 0), (.int .i64 0), (.int .i64 0), .nils, (.int .i64 0)])))⟩, ⟨none, none, (.op (.store 7 (.t 12) (.t 50)))⟩]
def varms_p16 : List (List Nat) := [[], [0], [], [], [1, 2, 3, 0], [], [5, 4, 0, 1, 2, 3]]
def varms_r17 : List AI := [⟨(some 51), none, (.op (.fld 0 (.t 12)))⟩, ⟨(some 52), none, (.op (.fld 1 (.t 51)))⟩, ⟨(some 53), none, (.op (.load none (.t 52)))⟩, ⟨(some 54), none, (.op (.mv (.t 8)))⟩, ⟨(some 55), none, (.op (.eqv false (.t 53) (.t 54)))⟩, ⟨(some 56), none, (.op (.mv (.t 55)))⟩, ⟨(some 57), (some (56, true)), (.op (.fld 6 (.t 12)))⟩, ⟨(some 58), (some (56, true)), (.op (.load none (.t 57)))⟩, ⟨(some 59), (some (56, true)), (.op (.mv (.t 0)))⟩, ⟨(some 60), (some (56, true)), (.op (.len (.t 59)))⟩, ⟨(some 61), (some (56, true)), (.op (.ibin .eql (.t 58) (.t 60)))⟩, ⟨(some 62), none, (.op (.pick (.t 56) (.t 61) (.c (.bool false))))⟩, ⟨(some 63), none, (.op (.mv (.t 62)))⟩, ⟨(some 64), (some (63, true)), (.op (.fld 0 (.t 12)))⟩, ⟨(some 65), (some (63, true)), (.op (.fld 2 (.t 64)))⟩, ⟨(some 66), (some (63, true)), (.op (.load none (.t 65)))⟩, ⟨(some 67), (some (63, true)), (.op (.ibin .eql (.t 66) (.c (.int .i64 0))))⟩, ⟨(some 68), none, (.op (.pick (.t 63) (.t 67) (.c (.bool false))))⟩, ⟨(some 69), none, (.op (.mv (.t 68)))⟩, ⟨(some 70), (some (69, true)), (.call (.c (.fn 41 [])) [])⟩, ⟨(some 71), none, (.op (.pick (.t 69) (.t 70) (.c (.bool false))))⟩, ⟨(some 6), none, (.op (.mv (.t 71)))⟩]
def varms_c : AC := (.seq (.reg varms_r0) (.seq (.seq (.reg varms_r1) (.cond (.t 15) (.seq (.reg varms_r2) .ret) .skip)) (.seq (.reg varms_r3) (.seq (.reg varms_r4) (.seq (.reg varms_r5) (.seq (.seq (.reg varms_r6) (.block 0 (.loop varms_l0))) (.seq (.reg varms_r14) (.seq (.reg varms_r15) (.seq (.regd varms_r16 varms_p16) (.seq (.reg varms_r17) .ret))))))))))
def varms_res : List ARes := [(.tmp 6)]
set_option maxRecDepth 100000 in
theorem varms_get : getF Try.prog 18 18000 [(33, 7), (42, 7)] = some ("gavotte/gavottelaw6.VmArms", 72, varms_c, varms_res) := by kernel_rfl
attribute [simp] round_r0 round_r1 round_res varms_r0 varms_r1 varms_r2 varms_r3 varms_r4 varms_r5 varms_r6 varms_r7 varms_r8 varms_r9 varms_r10 varms_r11 varms_r12 varms_r13 varms_r14 varms_r15 varms_r16 varms_p16 varms_r17 varms_res

def armI (b : Bool) : Ins := if b = true then ⟨23, 0⟩ else ⟨24, 0⟩
def armC (l : List Bool) : List Ins := l.map armI
def armW (k : Int) (w : Bool) (b : Bool) : Bool := if b = true then w || decide (k = 0) else false
def armF (k : Int) (w : Bool) (l : List Bool) : Bool := l.foldl (armW k) w
theorem armI_takes (hs : List Hnd) (b : Bool) : takesV hs (armI b) = 0 ∧ putsV (armI b).op = 0 ∧ (armI b).op ≠ 20 ∧ (armI b).op ≠ 21 ∧ (armI b).op ≠ 22 := by cases b <;> simp [armI, takesV, popsV, putsV]
theorem arm_mem {l : List Bool} {i : Ins} (h : i ∈ armC l) : ∃ b, i = armI b := by
  unfold armC at h
  simp at h
  rcases h with ⟨_, rfl⟩ | ⟨_, rfl⟩ <;> first | exact ⟨true, rfl⟩ | exact ⟨false, rfl⟩
theorem arm_ok (hs : List Hnd) (l : List Bool) (hl : l.length ≤ 40) : codeOk hs (armC l) := by
  refine ⟨by simp [armC]; omega, fun i hi => ?_⟩
  obtain ⟨b, rfl⟩ := arm_mem hi
  obtain ⟨_, _, h1, h2, h3⟩ := armI_takes hs b
  exact ⟨fun e => absurd e h3, fun e => by rcases e with e | e; exact absurd e h1; exact absurd e h2⟩
theorem arm_rch {hs : List Hnd} {l : List Bool} {a : Nat} {d : Int} (h : Rch hs (armC l) a d) : d = 0 := by
  induction h with
  | start => rfl
  | step h hi h1 h2 hk ih =>
    obtain ⟨b, rfl⟩ := arm_mem (List.mem_of_getElem? hi)
    obtain ⟨t1, t2, _⟩ := armI_takes hs b
    rw [t1, t2, ih]; rfl
theorem arm_walk (hs : List Hnd) (l : List Bool) (hl : l.length ≤ 40) : ∃ r, walkV hs (armC l) = some r := by
  rcases walk_good (arm_ok hs l hl) with ⟨o, m, e, _⟩ | ⟨_, hb⟩
  · exact ⟨_, e⟩
  · exfalso
    rcases hb with ⟨a, d, i, h, hi, hq⟩ | ⟨k, d, e, h1, h2, hne⟩
    · obtain ⟨b, rfl⟩ := arm_mem (List.mem_of_getElem? hi)
      obtain ⟨t1, t2, _⟩ := armI_takes hs b
      rw [arm_rch h, t1, t2] at hq; omega
    · exact hne ((arm_rch h1).trans (arm_rch h2).symm)
theorem arm_instr (l : List Bool) (n : Nat) (hs : Int) : firstNZ ((armC l).map (instrV hs 0 n)) = 0 := by
  induction l with
  | nil => rfl
  | cons b l ih =>
    have : instrV hs 0 n (armI b) = 0 := by cases b <;> simp [armI, instrV, operandV]
    simp only [armC, List.map_cons, firstNZ]
    rw [this, if_neg (by simp)]
    exact ih
theorem arm_flow (l : List Bool) (hl : l.length ≤ 40) : flowV (oneP6 1 (armC l)) = 0 := by
  have hlen : (armC l).length = l.length := by simp [armC]
  have hc : checkV (oneP6 1 (armC l)) = 0 := by
    have h1 : handlerV 1 ⟨0, armC l⟩ = 0 := by
      unfold handlerV
      rw [if_neg (by simp), if_neg (by simp only [hlen]; omega)]
      exact arm_instr l _ _
    unfold checkV
    simp only [oneP6, List.length_cons, List.length_nil, List.map_cons, List.map_nil]
    rw [if_neg (by omega), if_neg (by omega)]
    have h2 : firstNZ [handlerV (((0 + 1 : Nat)) : Int) ⟨0, armC l⟩] = 0 := by
      simp only [firstNZ]; rw [show (((0 + 1 : Nat)) : Int) = 1 by rfl, h1]; simp
    rw [h2, if_neg (by simp)]
    rfl
  obtain ⟨r, hr⟩ := arm_walk [⟨0, armC l⟩] l hl
  unfold flowV
  rw [hc, if_neg (by simp)]
  simp [oneP6, walkE, hr, firstNZ]
theorem arm_run0 (k : Int) (hk : k = 0 ∨ k = 1) (c : List Ins) (a b : Int) : ∀ (l : List Bool) (pre : List Ins) (w : Bool) (s : Int), c = pre ++ armC l →
    runU (fxOf (oneP6 1 c) k ⟨[a, b], false, 0, 0, 0⟩ []) c (l.length + 1) ⟨pre.length, [], [a, b], [], w⟩ s = some (some ⟨c.length, [], [a, b], [], armF k w l⟩, 0, s + l.length) := by
  intro l
  induction l with
  | nil =>
    intro pre w s hc
    have hl : c.length = pre.length := by rw [hc]; simp [armC]
    rw [runU, if_neg (by simp only; omega)]
    simp [armF, hl]
  | cons x l ih =>
    intro pre w s hc
    have hget : c[pre.length]? = some (armI x) := by rw [hc]; simp [armC]
    have hl : pre.length < c.length := (List.getElem?_eq_some_iff.1 hget).1
    rw [List.length_cons, runU, if_pos ⟨by simp only; omega, by simp only; omega⟩]
    have hp : ((pre.length : Int)).toNat = pre.length := by omega
    simp only [hp, hget]
    have hd : doV (fxOf (oneP6 1 c) k ⟨[a, b], false, 0, 0, 0⟩ []) (armI x) ⟨pre.length, [], [a, b], [], w⟩ = (⟨(pre.length : Int) + 1, [], [a, b], [], armW k w x⟩, 0) := by
      rcases hk with rfl | rfl <;> cases x <;> cases w <;> simp [doV, armI, armW, fxOf, oneP6]
    rw [hd]
    simp only
    rw [if_neg (by simp)]
    have := ih (pre ++ [armI x]) (armW k w x) (s + 1) (by rw [hc]; simp [armC])
    have hpl : (((pre ++ [armI x]).length : Nat) : Int) = (pre.length : Int) + 1 := by simp
    rw [hpl] at this
    rw [this]
    have e1 : armF k (armW k w x) l = armF k w (x :: l) := rfl
    rw [e1, show s + 1 + (l.length : Int) = s + ((l.length + 1 : Nat) : Int) by omega]
theorem arm_run (k : Int) (hk : k = 0 ∨ k = 1) (l : List Bool) (hl : l.length ≤ 40) (w : Bool) : runR (oneP6 100 (armC l)) k ⟨[1, 2], w, 0, 0, 0⟩ 0 [] = ⟨⟨[1, 2], armF k w l, 0, 0, 0⟩, [], l.length⟩ := by
  have h := arm_run0 k hk (armC l) 1 2 l [] w 0 rfl
  rw [run_one 100 (armC l) k ⟨[1, 2], w, 0, 0, 0⟩ (by omega) (by omega) (arm_flow l hl) (by omega) (by simp) rfl (l.length + 1) _ h]
  simp only
  rw [if_pos (by omega)]
  simp [goR]; rfl
theorem round2_pc (k : Int) : PC Try.prog 30 [iv k, iv 2] (iv ((k.tmod 2 + 2).tmod 2)) := by
  refine pc_of_get round_get (by simp) _ (by simp) _ ?_
  unfold round_c
  have a1 := Int.tmod_lt_of_pos k (show (0 : Int) < 2 by omega)
  have a2 := Int.lt_tmod_of_pos k (show (0 : Int) < 2 by omega)
  have h1 : IntKind.i64.wrap (k.tmod 2 + 2) = k.tmod 2 + 2 := wrap_in _ (by omega) (by omega)
  simp [h1]
theorem round2 (k : Int) : (k.tmod 2 + 2).tmod 2 = 0 ∨ (k.tmod 2 + 2).tmod 2 = 1 := by
  have a1 := Int.tmod_lt_of_pos k (show (0 : Int) < 2 by omega)
  have a2 := Int.lt_tmod_of_pos k (show (0 : Int) < 2 by omega)
  rw [Int.tmod_eq_emod_of_nonneg (by omega)]
  omega
theorem arm_av (l : List Bool) (i : Nat) (h : i < l.length) : (armC (l.take (i + 1))).map Ins.av = (armC (l.take i)).map Ins.av ++ [(armI l[i]).av] := by
  rw [List.take_succ_eq_append_getElem h]
  unfold armC
  rw [List.map_append, List.map_append]
  rfl
theorem arm_fold (k : Int) (w : Bool) (l : List Bool) (i : Nat) (h : i < l.length) : armF k w (l.take (i + 1)) = armW k (armF k w (l.take i)) l[i] := by
  rw [List.take_succ_eq_append_getElem h]
  unfold armF
  rw [List.foldl_append]
  rfl
theorem vmArms_pc (l : List Bool) (w : Bool) (who : Int) : PC Try.prog 18 [AV.lst 1 (l.map AV.bool), .bool w, iv who] (.bool true) := by
  refine pc_of_get varms_get (by simp) _ (by simp) _ ?_
  unfold varms_c
  simp
  by_cases h1 : (40 : Int) < l.length
  · simp [h1]; refine call awake6_pc (by simp) ?_; simp
  have hl : l.length ≤ 40 := by omega
  simp [h1]
  refine call (round2_pc who) (by simp) ?_
  have hk := round2 who
  generalize (who.tmod 2 + 2).tmod 2 = k at hk ⊢
  simp
  refine loopN (fun i S => S.t 10 = iv i ∧ S.t 0 = .lst 1 (l.map AV.bool) ∧ S.t 1 = .bool w ∧ S.t 9 = iv k ∧ S.t 8 = .bool (armF k w (l.take i)) ∧ AccIs S (S.t 7) 18007 2 35 ((armC (l.take i)).map Ins.av)) l.length ?_ ?_
  · simp [AccIs, armC, armF]
  · rintro i S hi ⟨g0, g1, g2, g3, g4, hv⟩
    have hml : ((armC (l.take i)).map Ins.av).length = i := by simp [armC]; omega
    by_cases hlt : i < l.length
    · have ws := wrap_succ i _ hlt (by omega)
      have e := arm_av l i hlt
      have ef := arm_fold k w l i hlt
      have z : (i + 1) * 16 ≤ 140737488355328 := by omega
      generalize hC : (armC (l.take i)).map Ins.av = C at *
      generalize hC' : (armC (l.take (i + 1))).map Ins.av = C' at *
      generalize hf : armF k w (l.take i) = f at *
      cases hb : l[i]
      · rw [hb] at e ef
        simp [armI] at e
        simp [armW] at ef
        rcases hv with ⟨q1, q2⟩ | ⟨st, q1, q2⟩
        · simp [varms_l0, g0, g1, g2, g3, g4, hlt, ws, hb, q1]
          simp [AccIs, e, q2, ef]
        · simp [varms_l0, g0, g1, g2, g3, g4, hlt, ws, hb, q1, q2, hml, z]
          simp [AccIs, e, ef]
      · rw [hb] at e ef
        simp [armI] at e
        simp [armW] at ef
        cases f <;> rcases hv with ⟨q1, q2⟩ | ⟨st, q1, q2⟩
        · simp [varms_l0, g0, g1, g2, g3, g4, hlt, ws, hb, q1]
          simp [AccIs, e, q2, ef]
        · simp [varms_l0, g0, g1, g2, g3, g4, hlt, ws, hb, q1, q2, hml, z]
          simp [AccIs, e, ef]
        · simp [varms_l0, g0, g1, g2, g3, g4, hlt, ws, hb, q1]
          simp [AccIs, e, q2, ef]
        · simp [varms_l0, g0, g1, g2, g3, g4, hlt, ws, hb, q1, q2, hml, z]
          simp [AccIs, e, ef]
    · have e1 : i = l.length := by omega
      subst e1
      rw [List.take_length] at g4 hv hml
      have hrun := arm_run k hk l hl w
      rcases hv with ⟨q1, q2⟩ | ⟨st, q1, q2⟩
      · simp [varms_l0, g0, g1, g2, g3, g4]
        refine call (local6_pc 1 2) (by simp) ?_
        simp [Lcl.av, g0, g1, g2, g3, g4, q1]
        refine calld (one6_pc 100 (armC l)) (by simp [q2]) ?_
        simp [oneA6, g0, g1, g2, g3, g4, q1]
        refine calldC (run_pc (oneP6 100 (armC l)) k ⟨[1, 2], w, 0, 0, 0⟩ 0 []) 2 (by simp [oneP6, Prg.av, Lcl.av, dco, elemR, coL, co1, ints]) ?_
        rw [hrun]
        simp [Res.av, Lcl.av, g0, g1, g2, g3, g4]
        refine call awake6_pc (by simp) ?_
        simp
      · simp [varms_l0, g0, g1, g2, g3, g4]
        refine call (local6_pc 1 2) (by simp) ?_
        simp [Lcl.av, g0, g1, g2, g3, g4, q1]
        refine calld (one6_pc 100 (armC l)) (by simp) ?_
        simp [oneA6, g0, g1, g2, g3, g4, q1]
        refine calldC (run_pc (oneP6 100 (armC l)) k ⟨[1, 2], w, 0, 0, 0⟩ 0 []) 2 (by simp [oneP6, Prg.av, Lcl.av, dco, elemR, coL, co1, ints]) ?_
        rw [hrun]
        simp [Res.av, Lcl.av, g0, g1, g2, g3, g4]
        refine call awake6_pc (by simp) ?_
        simp

end Go.Gv

/- The law VmFalls answers true. No condition. -/
set_option linter.unusedVariables false
set_option linter.unusedSimpArgs false
namespace Go.Gv
open Go.Proofs

def vfalls_r0 : List AI := [⟨(some 6), none, (.op (.mv (.c (.bool false))))⟩]
def vfalls_r1 : List AI := [⟨(some 13), none, (.op (.mv (.t 1)))⟩, ⟨(some 14), none, (.op (.ibin .lss (.t 13) (.c (.int .i64 0))))⟩, ⟨(some 15), none, (.op (.mv (.t 14)))⟩, ⟨(some 16), (some (15, false)), (.op (.mv (.t 1)))⟩, ⟨(some 17), (some (15, false)), (.op (.ibin .gtr (.t 16) (.c (.int .i64 8))))⟩, ⟨(some 18), none, (.op (.pick (.t 15) (.c (.bool true)) (.t 17)))⟩]
def vfalls_r2 : List AI := [⟨(some 19), none, (.call (.c (.fn 41 [])) [])⟩, ⟨(some 6), none, (.op (.mv (.t 19)))⟩]
def vfalls_r3 : List AI := [⟨(some 20), none, (.op (.mv (.t 2)))⟩, ⟨(some 21), none, (.op (.build [(.int .i64 0), (.int .i64 0)] [(0, (1, (.c (.int .i64 1)))), (1, (1, (.t 20)))]))⟩, ⟨(some 22), none, (.op (.build [(.int .i64 0), (.int .i64 0)] [(0, (1, (.c (.int .i64 6))))]))⟩, ⟨(some 23), none, (.op (.build [(.int .i64 0), (.int .i64 0)] [(0, (1, (.c (.int .i64 23))))]))⟩, ⟨(some 24), none, (.op (.bsl 19007 2 35 3 (.agg [(.int .i64 0), (.int .i64 0)]) [(0, (.t 21)), (1, (.t 22)), (2, (.t 23))]))⟩, ⟨(some 7), none, (.op (.mv (.t 24)))⟩]
def vfalls_r4 : List AI := [⟨(some 8), none, (.op (.mv (.c (.int .i64 0))))⟩]
def vfalls_r5 : List AI := [⟨(some 25), none, (.op (.mv (.t 8)))⟩, ⟨(some 26), none, (.op (.mv (.t 1)))⟩, ⟨(some 27), none, (.op (.ibin .lss (.t 25) (.t 26)))⟩]
def vfalls_r6 : List AI := [⟨(some 30), none, (.op (.mv (.t 7)))⟩, ⟨(some 31), none, (.op (.build [(.int .i64 0), (.int .i64 0)] [(0, (1, (.c (.int .i64 8))))]))⟩, ⟨(some 32), none, (.op (.build [(.int .i64 0), (.int .i64 0)] [(0, (1, (.c (.int .i64 22))))]))⟩, ⟨(some 33), none, (.op (.bsl 19033 2 35 2 (.agg [(.int .i64 0), (.int .i64 0)]) [(0, (.t 31)), (1, (.t 32))]))⟩, ⟨(some 34), none, (.op (.app 19007 2 35 16 (.t 30) (.t 33)))⟩, ⟨(some 7), none, (.op (.mv (.t 34)))⟩]
def vfalls_r7 : List AI := [⟨(some 28), none, (.op (.mv (.t 8)))⟩, ⟨(some 29), none, (.op (.ibin .add (.t 28) (.c (.int .i64 1))))⟩, ⟨(some 8), none, (.op (.mv (.t 29)))⟩]
def vfalls_l0 : AC := (.seq (.seq (.reg vfalls_r5) (.cond (.t 27) .skip (.exit 0))) (.seq (.block 1 (.reg vfalls_r6)) (.reg vfalls_r7)))
def vfalls_r8 : List AI := [⟨(some 35), none, (.op (.mv (.t 0)))⟩, ⟨(some 36), none, (.call (.c (.fn 30 [])) [(.t 35), (.c (.int .i64 3))])⟩, ⟨(some 9), none, (.op (.mv (.t 36)))⟩]
def vfalls_r9 : List AI := [⟨(some 37), none, (.op (.mv (.t 7)))⟩, ⟨(some 38), none, (.op (.len (.t 37)))⟩, ⟨(some 39), none, (.op (.build [(.int .i64 0), (.int .i64 0)] [(0, (1, (.c (.int .i64 20)))), (1, (1, (.t 38)))]))⟩, ⟨(some 40), none, (.op (.bsl 19040 2 35 1 (.agg [(.int .i64 0), (.int .i64 0)]) [(0, (.t 39))]))⟩, ⟨(some 41), none, (.op (.build [(.int .i64 0), (.int .i64 0)] [(0, (1, (.c (.int .i64 1)))), (1, (1, (.c (.int .i64 5))))]))⟩, ⟨(some 42), none, (.op (.build [(.int .i64 0), (.int .i64 0)] [(0, (1, (.c (.int .i64 1))))]))⟩, ⟨(some 43), none, (.op (.build [(.int .i64 0), (.int .i64 0)] [(0, (1, (.c (.int .i64 13))))]))⟩, ⟨(some 44), none, (.op (.build [(.int .i64 0), (.int .i64 0)] [(0, (1, (.c (.int .i64 2))))]))⟩, ⟨(some 45), none, (.op (.bsl 19045 2 35 4 (.agg [(.int .i64 0), (.int .i64 0)]) [(0, (.t 41)), (1, (.t 42)), (2, (.t 43)), (3, (.t 44))]))⟩, ⟨(some 46), none, (.op (.build [(.int .i64 0), (.int .i64 0)] [(0, (1, (.c (.int .i64 1)))), (1, (1, (.c (.int .i64 (-1)))))]))⟩, ⟨(some 47), none, (.op (.build [(.int .i64 0), (.int .i64 0)] [(0, (1, (.c (.int .i64 22))))]))⟩, ⟨(some 48), none, (.op (.bsl 19048 2 35 2 (.agg [(.int .i64 0), (.int .i64 0)]) [(0, (.t 46)), (1, (.t 47))]))⟩, ⟨(some 49), none, (.op (.bsl 19049 1 31 3 .nils [(0, (.t 40)), (1, (.t 45)), (2, (.t 48))]))⟩, ⟨(some 50), none, (.op (.mv (.t 9)))⟩, ⟨(some 51), none, (.op (.idx 1 (.t 49) (.t 50)))⟩, ⟨(some 52), none, (.op (.load none (.t 51)))⟩, ⟨(some 10), none, (.op (.mv (.t 52)))⟩]
def vfalls_r10 : List AI := [⟨(some 53), none, (.op (.bsl 19053 1 3 3 (.int .i64 0) [(0, (.c (.int .i64 2))), (1, (.c (.int .i64 3))), (2, (.c (.int .i64 4)))]))⟩, ⟨(some 54), none, (.op (.mv (.t 9)))⟩, ⟨(some 55), none, (.op (.idx 1 (.t 53) (.t 54)))⟩, ⟨(some 56), none, (.op (.load none (.t 55)))⟩, ⟨(some 11), none, (.op (.mv (.t 56)))⟩]
def vfalls_r11 : List AI := [⟨(some 57), none, (.op (.mv (.t 7)))⟩, ⟨(some 58), none, (.op (.mv (.t 10)))⟩, ⟨(some 59), none, (.op (.app 19059 2 35 16 (.t 57) (.t 58)))⟩, ⟨(some 60), none, (.call (.c (.fn 47 [])) [(.c (.int .i64 60)), (.t 59)])⟩, ⟨(some 61), none, (.call (.c (.fn 48 [])) [(.c (.int .i64 7)), (.c (.int .i64 8))])⟩, ⟨(some 62), none, (.call (.c (.fn 45 [])) [(.t 60), (.c (.int .i64 0)), (.t 61), (.c (.int .i64 0)), (.c .nils)])⟩, ⟨(some 12), none, (.op (.new 19012 7 (.agg [.nils, (.bool false), (.int .i64 0), (.int .i64 0), (.int .i64 0), .nils, (.int .i64 0)])))⟩, ⟨none, none, (.op (.store 7 (.t 12) (.t 62)))⟩]
def vfalls_r12 : List AI := [⟨(some 63), none, (.op (.fld 0 (.t 12)))⟩, ⟨(some 64), none, (.op (.fld 2 (.t 63)))⟩, ⟨(some 65), none, (.op (.load none (.t 64)))⟩, ⟨(some 66), none, (.op (.mv (.t 11)))⟩, ⟨(some 67), none, (.op (.ibin .eql (.t 65) (.t 66)))⟩, ⟨(some 68), none, (.op (.mv (.t 67)))⟩, ⟨(some 69), (some (68, true)), (.op (.fld 0 (.t 12)))⟩, ⟨(some 70), (some (68, true)), (.op (.fld 0 (.t 69)))⟩, ⟨(some 71), (some (68, true)), (.op (.load none (.t 70)))⟩, ⟨(some 72), (some (68, true)), (.op (.bsl 19072 1 3 2 (.int .i64 0) [(0, (.c (.int .i64 7))), (1, (.c (.int .i64 8)))]))⟩, ⟨(some 73), (some (68, true)), (.call (.c (.fn 39 [])) [(.t 71), (.t 72)])⟩, ⟨(some 74), none, (.op (.pick (.t 68) (.t 73) (.c (.bool false))))⟩, ⟨(some 75), none, (.op (.mv (.t 74)))⟩, ⟨(some 76), (some (75, true)), (.op (.fld 0 (.t 12)))⟩, ⟨(some 77), (some (75, true)), (.op (.fld 1 (.t 76)))⟩, ⟨(some 78), (some (75, true)), (.op (.load none (.t 77)))⟩, ⟨(some 79), (some (75, true)), (.op (.not (.t 78)))⟩, ⟨(some 80), none, (.op (.pick (.t 75) (.t 79) (.c (.bool false))))⟩, ⟨(some 81), none, (.op (.mv (.t 80)))⟩, ⟨(some 82), (some (81, true)), (.op (.fld 5 (.t 12)))⟩, ⟨(some 83), (some (81, true)), (.op (.load none (.t 82)))⟩, ⟨(some 84), (some (81, true)), (.op (.len (.t 83)))⟩, ⟨(some 85), (some (81, true)), (.op (.ibin .eql (.t 84) (.c (.int .i64 0))))⟩, ⟨(some 86), none, (.op (.pick (.t 81) (.t 85) (.c (.bool false))))⟩, ⟨(some 87), none, (.op (.mv (.t 86)))⟩, ⟨(some 88), (some (87, true)), (.op (.fld 0 (.t 12)))⟩, ⟨(some 89), (some (87, true)), (.op (.fld 3 (.t 88)))⟩, ⟨(some 90), (some (87, true)), (.op (.load none (.t 89)))⟩, ⟨(some 91), (some (87, true)), (.op (.ibin .eql (.t 90) (.c (.int .i64 0))))⟩, ⟨(some 92), none, (.op (.pick (.t 87) (.t 91) (.c (.bool false))))⟩, ⟨(some 93), none, (.op (.mv (.t 92)))⟩, ⟨(some 94), (some (93, true)), (.call (.c (.fn 41 [])) [])⟩, ⟨(some 95), none, (.op (.pick (.t 93) (.t 94) (.c (.bool false))))⟩, ⟨(some 6), none, (.op (.mv (.t 95)))⟩]
def vfalls_c : AC := (.seq (.reg vfalls_r0) (.seq (.seq (.reg vfalls_r1) (.cond (.t 18) (.seq (.reg vfalls_r2) .ret) .skip)) (.seq (.reg vfalls_r3) (.seq (.seq (.reg vfalls_r4) (.block 0 (.loop vfalls_l0))) (.seq (.reg vfalls_r8) (.seq (.reg vfalls_r9) (.seq (.reg vfalls_r10) (.seq (.reg vfalls_r11) (.seq (.reg vfalls_r12) .ret)))))))))
def vfalls_res : List ARes := [(.tmp 6)]
set_option maxRecDepth 100000 in
theorem vfalls_get : getF Try.prog 19 19000 [(24, 7), (34, 7)] = some ("gavotte/gavottelaw6.VmFalls", 96, vfalls_c, vfalls_res) := by kernel_rfl
attribute [simp] vfalls_r0 vfalls_r1 vfalls_r2 vfalls_r3 vfalls_r4 vfalls_r5 vfalls_r6 vfalls_r7 vfalls_r8 vfalls_r9 vfalls_r10 vfalls_r11 vfalls_r12 vfalls_res

def faR : Nat → List Ins
  | 0 => []
  | n + 1 => ⟨8, 0⟩ :: ⟨22, 0⟩ :: faR n
theorem faR_succ (n : Nat) : faR (n + 1) = faR n ++ [⟨8, 0⟩, ⟨22, 0⟩] := by
  induction n with
  | zero => rfl
  | succ n ih =>
    show (⟨8, 0⟩ : Ins) :: ⟨22, 0⟩ :: faR (n + 1) = (⟨8, 0⟩ :: ⟨22, 0⟩ :: faR n) ++ _
    rw [ih]; rfl
theorem faR_len (n : Nat) : (faR n).length = 2 * n := by
  induction n with
  | zero => rfl
  | succ n ih => simp [faR, ih]; omega
def faB (a : Int) (n : Nat) : List Ins := [⟨1, a⟩, ⟨6, 0⟩, ⟨23, 0⟩] ++ faR n
theorem faB_av (a : Int) (n : Nat) : (faB a (n + 1)).map Ins.av = (faB a n).map Ins.av ++ [.agg [iv 8, iv 0], .agg [iv 22, iv 0]] := by
  unfold faB; rw [faR_succ, ← List.append_assoc, List.map_append]; rfl
theorem faB_len (a : Int) (n : Nat) : (faB a n).length = 2 * n + 3 := by simp [faB, faR_len]
def faM (k : Int) (n : Nat) : List Ins := if k = 0 then [⟨20, 2 * (n : Int) + 3⟩] else if k = 1 then [⟨1, 5⟩, ⟨1, 0⟩, ⟨13, 0⟩, ⟨2, 0⟩] else [⟨1, -1⟩, ⟨22, 0⟩]
def faC (k a : Int) (n : Nat) : List Ins := faB a n ++ faM k n
theorem fa_flow (k : Fin 3) (a : Int) (n : Fin 9) : flowV (oneP6 1 (faC k.val a n.val)) = 0 := by
  obtain ⟨n, h⟩ := n
  obtain ⟨k, hk⟩ := k
  rcases k with _ | _ | _ | k <;> first | omega | skip
  all_goals rcases n with _ | _ | _ | _ | _ | _ | _ | _ | _ | n <;> first | omega | kernel_rfl
def downF (k : Int) : Int := if k = 0 then 2 else if k = 1 then 3 else 4
def stepF (k : Int) (n : Nat) : Int := if k = 0 then 60 else if k = 1 then 2 * (n : Int) + 6 else 2 * (n : Int) + 5
theorem fa_run (k : Fin 3) (a : Int) (n : Fin 9) : runR (oneP6 60 (faC k.val a n.val)) 0 ⟨[7, 8], false, 0, 0, 0⟩ 0 [] = ⟨⟨[7, 8], false, downF k.val, 0, 0⟩, [], stepF k.val n.val⟩ := by
  obtain ⟨n, h⟩ := n
  obtain ⟨k, hk⟩ := k
  rcases k with _ | _ | _ | k <;> first | omega | skip
  all_goals rcases n with _ | _ | _ | _ | _ | _ | _ | _ | _ | n <;> first | omega | kernel_rfl
theorem fa_run' (k n : Nat) (hk : k < 3) (hn : n < 9) (a : Int) : runR (oneP6 60 (faC (k : Int) a n)) 0 ⟨[7, 8], false, 0, 0, 0⟩ 0 [] = ⟨⟨[7, 8], false, downF (k : Int), 0, 0⟩, [], stepF (k : Int) n⟩ := fa_run ⟨k, hk⟩ a ⟨n, hn⟩
theorem fa_z (i : Nat) (h : i < 9) : (2 * i + 3 + 2) * 16 ≤ 140737488355328 ∧ (2 * i + 3 + 1) * 16 ≤ 140737488355328 ∧ (2 * i + 3 + 4) * 16 ≤ 140737488355328 := by omega
theorem round3_pc (k : Int) : PC Try.prog 30 [iv k, iv 3] (iv ((k.tmod 3 + 3).tmod 3)) := by
  refine pc_of_get round_get (by simp) _ (by simp) _ ?_
  unfold round_c
  have a1 := Int.tmod_lt_of_pos k (show (0 : Int) < 3 by omega)
  have a2 := Int.lt_tmod_of_pos k (show (0 : Int) < 3 by omega)
  have h1 : IntKind.i64.wrap (k.tmod 3 + 3) = k.tmod 3 + 3 := wrap_in _ (by omega) (by omega)
  simp [h1]
theorem round3 (k : Int) : ∃ j : Nat, j < 3 ∧ (k.tmod 3 + 3).tmod 3 = (j : Int) := by
  have a1 := Int.tmod_lt_of_pos k (show (0 : Int) < 3 by omega)
  have a2 := Int.lt_tmod_of_pos k (show (0 : Int) < 3 by omega)
  rw [Int.tmod_eq_emod_of_nonneg (by omega)]
  exact ⟨((k.tmod 3 + 3) % 3).toNat, by omega, by omega⟩
theorem fa_av (k a : Int) (n : Nat) : (faC k a n).map Ins.av = (faB a n).map Ins.av ++ (faM k n).map Ins.av := by unfold faC; rw [List.map_append]
set_option maxHeartbeats 400000 in
theorem vmFalls_pc (kind n a : Int) : PC Try.prog 19 [iv kind, iv n, iv a] (.bool true) := by
  refine pc_of_get vfalls_get (by simp) _ (by simp) _ ?_
  unfold vfalls_c
  simp
  by_cases h1 : n < 0
  · simp [h1]; refine call awake6_pc (by simp) ?_; simp
  by_cases h2 : 8 < n
  · simp [h1, h2]; refine call awake6_pc (by simp) ?_; simp
  simp [h1, h2]
  obtain ⟨n, rfl⟩ := Int.eq_ofNat_of_zero_le (show 0 ≤ n by omega)
  have hn : n ≤ 8 := by omega
  refine loopN (fun i S => S.t 8 = iv i ∧ S.t 0 = iv kind ∧ S.t 1 = iv n ∧ S.t 2 = iv a ∧ ∃ st, S.t 7 = .acc 19007 st 2 ((faB a i).map Ins.av) ∧ S.tok 19007 = some ⟨st, 2, 35⟩) n ?_ ?_
  · simp [faB, faR]
  · rintro i S hi ⟨g0, g1, g2, g3, st, q1, q2⟩
    have e := faB_av a i
    have hml : ((faB a i).map Ins.av).length = 2 * i + 3 := by simp [faB_len]
    have hn9 : i < 9 := by omega
    obtain ⟨z, z1, z4⟩ := fa_z i hn9
    by_cases hlt : i < n
    · have ws := wrap_succ i _ hlt (by omega)
      generalize (faB a i).map Ins.av = C at *
      generalize (faB a (i + 1)).map Ins.av = C' at *
      simp [vfalls_l0, g0, g1, g2, g3, hlt, ws, q1, q2, hml, z]
      simp [e]
    · have e1 : i = n := by omega
      subst e1
      simp [vfalls_l0, g0, g1, g2, g3]
      refine call (round3_pc kind) (by simp) ?_
      have hj : (kind.tmod 3 + 3).tmod 3 = 0 ∨ (kind.tmod 3 + 3).tmod 3 = 1 ∨ (kind.tmod 3 + 3).tmod 3 = 2 := by
        obtain ⟨j, hj3, hj⟩ := round3 kind
        rw [hj]; clear z z1 z4; omega
      rcases hj with hj | hj | hj
      · have hrun : runR (oneP6 60 (faC 0 a i)) 0 ⟨[7, 8], false, 0, 0, 0⟩ 0 [] = ⟨⟨[7, 8], false, 2, 0, 0⟩, [], stepF 0 i⟩ := fa_run' 0 i (by decide) hn9 a
        have hone := one6_pc 60 (faC 0 a i)
        rw [fa_av] at hone
        generalize hG : (faB a i).map Ins.av = C at *
        simp [faM] at hone
        rw [hj]
        simp [g0, g1, g2, g3, q1, q2, hml, z, z1, z4]
        refine call hone (by simp) ?_
        simp [oneA6]
        refine call (local6_pc 7 8) (by simp) ?_
        simp [Lcl.av]
        refine callC (run_pc (oneP6 60 (faC 0 a i)) 0 ⟨[7, 8], false, 0, 0, 0⟩ 0 []) 2 (by simp [oneP6, Prg.av, Lcl.av, dco, elemR, coL, co1, ints]) ?_
        rw [hrun]
        simp [Res.av, Lcl.av]
        refine call (aints_pc [7, 8] [7, 8] (by simp)) (by simp) ?_
        simp
        refine call awake6_pc (by simp) ?_
        simp
      · have hrun : runR (oneP6 60 (faC 1 a i)) 0 ⟨[7, 8], false, 0, 0, 0⟩ 0 [] = ⟨⟨[7, 8], false, 3, 0, 0⟩, [], stepF 1 i⟩ := fa_run' 1 i (by decide) hn9 a
        have hone := one6_pc 60 (faC 1 a i)
        rw [fa_av] at hone
        generalize hG : (faB a i).map Ins.av = C at *
        simp [faM] at hone
        rw [hj]
        simp [g0, g1, g2, g3, q1, q2, hml, z, z1, z4]
        refine call hone (by simp) ?_
        simp [oneA6]
        refine call (local6_pc 7 8) (by simp) ?_
        simp [Lcl.av]
        refine callC (run_pc (oneP6 60 (faC 1 a i)) 0 ⟨[7, 8], false, 0, 0, 0⟩ 0 []) 2 (by simp [oneP6, Prg.av, Lcl.av, dco, elemR, coL, co1, ints]) ?_
        rw [hrun]
        simp [Res.av, Lcl.av]
        refine call (aints_pc [7, 8] [7, 8] (by simp)) (by simp) ?_
        simp
        refine call awake6_pc (by simp) ?_
        simp
      · have hrun : runR (oneP6 60 (faC 2 a i)) 0 ⟨[7, 8], false, 0, 0, 0⟩ 0 [] = ⟨⟨[7, 8], false, 4, 0, 0⟩, [], stepF 2 i⟩ := fa_run' 2 i (by decide) hn9 a
        have hone := one6_pc 60 (faC 2 a i)
        rw [fa_av] at hone
        generalize hG : (faB a i).map Ins.av = C at *
        simp [faM] at hone
        rw [hj]
        simp [g0, g1, g2, g3, q1, q2, hml, z, z1, z4]
        refine call hone (by simp) ?_
        simp [oneA6]
        refine call (local6_pc 7 8) (by simp) ?_
        simp [Lcl.av]
        refine callC (run_pc (oneP6 60 (faC 2 a i)) 0 ⟨[7, 8], false, 0, 0, 0⟩ 0 []) 2 (by simp [oneP6, Prg.av, Lcl.av, dco, elemR, coL, co1, ints]) ?_
        rw [hrun]
        simp [Res.av, Lcl.av]
        refine call (aints_pc [7, 8] [7, 8] (by simp)) (by simp) ?_
        simp
        refine call awake6_pc (by simp) ?_
        simp

end Go.Gv
