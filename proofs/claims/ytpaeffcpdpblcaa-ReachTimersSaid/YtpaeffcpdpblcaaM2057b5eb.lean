/- Texts of this proof, one behind the other. What is proved, and on which conditions, stands ahead of each. -/
import Derived.Test.YtpaeffcpdpblcaaProg
import Derived.Test.YtpaeffcpdpblcaaM19fa75c3

/- The document's fixed example of chapter 20. No condition. -/
set_option linter.unusedVariables false
set_option linter.unusedSimpArgs false
namespace Go.Gv
open Go.Proofs

def ring_r0 : List AI := [⟨(some 4), none, (.op (.new 145004 4 (.agg [.nils, .nils, .nils, (.int .i64 0)])))⟩]
def ring_r1 : List AI := [⟨(some 8), none, (.op (.build [.nils, (.int .i64 0), (.int .i64 0), (.bool false)] [(2, (1, (.c (.int .i64 (-1)))))]))⟩, ⟨(some 9), none, (.op (.bsl 145009 4 38 1 (.agg [.nils, (.int .i64 0), (.int .i64 0), (.bool false)]) [(0, (.t 8))]))⟩, ⟨(some 10), none, (.op (.build [.nils, .nils, .nils, (.int .i64 0)] [(1, (1, (.t 9))), (3, (1, (.c (.int .i64 10))))]))⟩, ⟨(some 5), none, (.op (.new 145005 4 (.agg [.nils, .nils, .nils, (.int .i64 0)])))⟩, ⟨none, none, (.op (.store 4 (.t 5) (.t 10)))⟩]
def ring_r2 : List AI := [⟨(some 6), none, (.op (.mv (.c (.int .i64 0))))⟩]
def ring_r3 : List AI := [⟨(some 11), none, (.op (.mv (.t 6)))⟩, ⟨(some 12), none, (.op (.mv (.t 0)))⟩, ⟨(some 13), none, (.op (.ibin .lss (.t 11) (.t 12)))⟩]
def ring_r4 : List AI := [⟨(some 7), none, (.op (.mv (.c .nils)))⟩]
def ring_r5 : List AI := [⟨(some 16), none, (.op (.mv (.t 6)))⟩, ⟨(some 17), none, (.op (.ibin .add (.t 16) (.c (.int .i64 1))))⟩, ⟨(some 18), none, (.op (.mv (.t 0)))⟩, ⟨(some 19), none, (.op (.ibin .lss (.t 17) (.t 18)))⟩]
def ring_r6 : List AI := [⟨(some 20), none, (.op (.build [(.int .i64 0), (.int .i64 0)] [(0, (1, (.c (.int .i64 8))))]))⟩, ⟨(some 21), none, (.op (.mv (.t 6)))⟩, ⟨(some 22), none, (.op (.ibin .add (.t 21) (.c (.int .i64 1))))⟩, ⟨(some 23), none, (.op (.build [(.int .i64 0), (.int .i64 0)] [(0, (1, (.c (.int .i64 22)))), (1, (1, (.t 22)))]))⟩, ⟨(some 24), none, (.op (.bsl 145024 2 35 2 (.agg [(.int .i64 0), (.int .i64 0)]) [(0, (.t 20)), (1, (.t 23))]))⟩, ⟨(some 7), none, (.op (.mv (.t 24)))⟩]
def ring_r7 : List AI := [⟨(some 25), none, (.op (.mv (.t 1)))⟩]
def ring_r8 : List AI := [⟨(some 26), none, (.op (.build [(.int .i64 0), (.int .i64 0)] [(0, (1, (.c (.int .i64 8))))]))⟩, ⟨(some 27), none, (.op (.build [(.int .i64 0), (.int .i64 0)] [(0, (1, (.c (.int .i64 22))))]))⟩, ⟨(some 28), none, (.op (.bsl 145028 2 35 2 (.agg [(.int .i64 0), (.int .i64 0)]) [(0, (.t 26)), (1, (.t 27))]))⟩, ⟨(some 7), none, (.op (.mv (.t 28)))⟩]
def ring_r9 : List AI := [⟨(some 29), none, (.op (.fld 0 (.t 5)))⟩, ⟨(some 30), none, (.op (.load none (.t 29)))⟩, ⟨(some 31), none, (.op (.mv (.t 7)))⟩, ⟨(some 32), none, (.op (.build [(.int .i64 0), .nils] [(1, (1, (.t 31)))]))⟩, ⟨(some 33), none, (.op (.bsl 145033 2 33 1 (.agg [(.int .i64 0), .nils]) [(0, (.t 32))]))⟩, ⟨(some 34), none, (.op (.app 145034 2 33 32 (.t 30) (.t 33)))⟩, ⟨(some 35), none, (.op (.fld 0 (.t 5)))⟩, ⟨none, none, (.op (.store 1 (.t 35) (.t 34)))⟩]
def ring_r10 : List AI := [⟨(some 14), none, (.op (.mv (.t 6)))⟩, ⟨(some 15), none, (.op (.ibin .add (.t 14) (.c (.int .i64 1))))⟩, ⟨(some 6), none, (.op (.mv (.t 15)))⟩]
def ring_l0 : AC := (.seq (.seq (.reg ring_r3) (.cond (.t 13) .skip (.exit 0))) (.seq (.block 1 (.seq (.reg ring_r4) (.seq (.seq (.reg ring_r5) (.cond (.t 19) (.reg ring_r6) (.seq (.reg ring_r7) (.cond (.t 25) (.reg ring_r8) .skip)))) (.reg ring_r9)))) (.reg ring_r10)))
def ring_r11 : List AI := [⟨(some 36), none, (.op (.load (some 4) (.t 5)))⟩, ⟨none, none, (.op (.store 4 (.t 4) (.t 36)))⟩]
def ring_c : AC := (.seq (.reg ring_r0) (.seq (.reg ring_r1) (.seq (.seq (.reg ring_r2) (.block 0 (.loop ring_l0))) (.seq (.reg ring_r11) .ret))))
def ring_res : List ARes := [(.cell (some 4) 4)]
set_option maxRecDepth 100000 in
theorem ring_get : getF Try.prog 13 145000 [] = some ("gavotte/gavottelaw20.ring", 37, ring_c, ring_res) := by kernel_rfl
def awake20_r0 : List AI := [⟨(some 0), none, (.op (.mv (.c (.bool false))))⟩]
def awake20_r1 : List AI := [⟨(some 7), none, (.call (.c (.fn 13 [])) [(.c (.int .i64 3)), (.c (.bool false))])⟩, ⟨(some 1), none, (.op (.new 146001 4 (.agg [.nils, .nils, .nils, (.int .i64 0)])))⟩, ⟨none, none, (.op (.store 4 (.t 1) (.t 7)))⟩]
def awake20_r2 : List AI := [⟨(some 8), none, (.op (.build [(.int .i64 0), (.int .i64 0), .nils] [(1, (1, (.c (.int .i64 1))))]))⟩, ⟨(some 9), none, (.op (.bsl 146009 3 40 1 (.agg [(.int .i64 0), (.int .i64 0), .nils]) [(0, (.t 8))]))⟩, ⟨(some 10), none, (.op (.fld 2 (.t 1)))⟩, ⟨none, none, (.op (.store 1 (.t 10) (.t 9)))⟩]
def awake20_r3 : List AI := [⟨(some 12), none, (.op (.load (some 4) (.t 1)))⟩, ⟨(some 13), none, (.call (.c (.fn 14 [])) [(.t 12)])⟩, ⟨(some 11), none, (.op (.mv (.t 13)))⟩, ⟨(some 14), none, (.op (.ext (.t 11) 0))⟩, ⟨(some 15), none, (.op (.ext (.t 11) 1))⟩, ⟨(some 2), none, (.op (.mv (.t 14)))⟩, ⟨(some 3), none, (.op (.mv (.t 15)))⟩]
def awake20_r4 : List AI := [⟨(some 17), none, (.op (.build [.nils, .nils, .nils, (.int .i64 0)] []))⟩, ⟨(some 18), none, (.call (.c (.fn 14 [])) [(.t 17)])⟩, ⟨(some 16), none, (.op (.mv (.t 18)))⟩, ⟨(some 19), none, (.op (.ext (.t 16) 0))⟩, ⟨(some 20), none, (.op (.ext (.t 16) 1))⟩, ⟨(some 4), none, (.op (.mv (.t 19)))⟩, ⟨(some 5), none, (.op (.mv (.t 20)))⟩]
def awake20_r5 : List AI := [⟨(some 21), none, (.op (.mv (.t 3)))⟩, ⟨(some 22), none, (.op (.ibin .neq (.t 21) (.c (.int .i64 0))))⟩, ⟨(some 23), none, (.op (.mv (.t 22)))⟩, ⟨(some 24), (some (23, false)), (.op (.mv (.t 2)))⟩, ⟨(some 25), (some (23, false)), (.nq 1 false (.t 24))⟩, ⟨(some 26), none, (.op (.pick (.t 23) (.c (.bool true)) (.t 25)))⟩, ⟨(some 27), none, (.op (.mv (.t 26)))⟩, ⟨(some 28), (some (27, false)), (.op (.mv (.t 5)))⟩, ⟨(some 29), (some (27, false)), (.op (.ibin .neq (.t 28) (.c (.int .i64 1))))⟩, ⟨(some 30), none, (.op (.pick (.t 27) (.c (.bool true)) (.t 29)))⟩, ⟨(some 31), none, (.op (.mv (.t 30)))⟩, ⟨(some 32), (some (31, false)), (.op (.mv (.t 2)))⟩, ⟨(some 33), (some (31, false)), (.call (.c (.fn 15 [])) [(.t 32)])⟩, ⟨(some 34), (some (31, false)), (.op (.ibin .neq (.t 33) (.c (.int .i64 0))))⟩, ⟨(some 35), none, (.op (.pick (.t 31) (.c (.bool true)) (.t 34)))⟩]
def awake20_r6 : List AI := [⟨(some 0), none, (.op (.mv (.c (.bool false))))⟩]
def awake20_r7 : List AI := [⟨(some 6), none, (.op (.mv (.c .nilp)))⟩]
def awake20_r8 : List AI := [⟨(some 36), none, (.op (.mv (.t 2)))⟩, ⟨(some 37), none, (.call (.c (.fn 17 [])) [(.t 36), (.c (.int .i64 0))])⟩, ⟨(some 38), none, (.op (.bsl 146038 1 3 1 (.int .i64 0) [(0, (.c (.int .i64 1)))]))⟩, ⟨(some 39), none, (.call (.c (.fn 19 [])) [(.t 37), (.t 38)])⟩, ⟨(some 40), none, (.op (.mv (.t 39)))⟩, ⟨(some 41), (some (40, true)), (.op (.mv (.t 2)))⟩, ⟨(some 42), (some (40, true)), (.call (.c (.fn 15 [])) [(.t 41)])⟩, ⟨(some 43), (some (40, true)), (.op (.ibin .eql (.t 42) (.c (.int .i64 1))))⟩, ⟨(some 44), none, (.op (.pick (.t 40) (.t 43) (.c (.bool false))))⟩, ⟨(some 45), none, (.op (.mv (.t 44)))⟩, ⟨(some 46), (some (45, true)), (.op (.mv (.t 2)))⟩, ⟨(some 47), (some (45, true)), (.call (.c (.fn 18 [])) [(.t 46), (.c (.int .i64 0))])⟩, ⟨(some 48), (some (45, true)), (.op (.bsl 146048 1 3 2 (.int .i64 0) [(0, (.c (.int .i64 1))), (1, (.c (.int .i64 2)))]))⟩, ⟨(some 49), (some (45, true)), (.call (.c (.fn 19 [])) [(.t 47), (.t 48)])⟩, ⟨(some 50), none, (.op (.pick (.t 45) (.t 49) (.c (.bool false))))⟩, ⟨(some 51), none, (.op (.mv (.t 50)))⟩, ⟨(some 52), (some (51, true)), (.op (.mv (.t 2)))⟩, ⟨(some 53), (some (51, true)), (.call (.c (.fn 20 [])) [(.t 52)])⟩, ⟨(some 54), (some (51, true)), (.op (.bsl 146054 1 3 2 (.int .i64 0) [(0, (.c (.int .i64 1))), (1, (.c (.int .i64 2)))]))⟩, ⟨(some 55), (some (51, true)), (.call (.c (.fn 19 [])) [(.t 53), (.t 54)])⟩, ⟨(some 56), none, (.op (.pick (.t 51) (.t 55) (.c (.bool false))))⟩, ⟨(some 57), none, (.op (.mv (.t 56)))⟩, ⟨(some 58), (some (57, true)), (.op (.mv (.t 2)))⟩, ⟨(some 59), (some (57, true)), (.call (.c (.fn 21 [])) [(.t 58), (.c (.int .i64 0))])⟩, ⟨(some 60), (some (57, true)), (.op (.not (.t 59)))⟩, ⟨(some 61), none, (.op (.pick (.t 57) (.t 60) (.c (.bool false))))⟩, ⟨(some 62), none, (.op (.mv (.t 61)))⟩, ⟨(some 63), (some (62, true)), (.op (.mv (.t 2)))⟩, ⟨(some 64), (some (62, true)), (.call (.c (.fn 17 [])) [(.t 63), (.c (.int .i64 3))])⟩, ⟨(some 65), (some (62, true)), (.op (.len (.t 64)))⟩, ⟨(some 66), (some (62, true)), (.op (.ibin .eql (.t 65) (.c (.int .i64 0))))⟩, ⟨(some 67), none, (.op (.pick (.t 62) (.t 66) (.c (.bool false))))⟩, ⟨(some 68), none, (.op (.mv (.t 67)))⟩, ⟨(some 69), (some (68, true)), (.op (.mv (.t 6)))⟩, ⟨(some 70), (some (68, true)), (.call (.c (.fn 15 [])) [(.t 69)])⟩, ⟨(some 71), (some (68, true)), (.op (.ibin .eql (.t 70) (.c (.int .i64 0))))⟩, ⟨(some 72), none, (.op (.pick (.t 68) (.t 71) (.c (.bool false))))⟩, ⟨(some 73), none, (.op (.mv (.t 72)))⟩, ⟨(some 74), (some (73, true)), (.op (.mv (.t 6)))⟩, ⟨(some 75), (some (73, true)), (.call (.c (.fn 20 [])) [(.t 74)])⟩, ⟨(some 76), (some (73, true)), (.op (.len (.t 75)))⟩, ⟨(some 77), (some (73, true)), (.op (.ibin .eql (.t 76) (.c (.int .i64 0))))⟩, ⟨(some 78), none, (.op (.pick (.t 73) (.t 77) (.c (.bool false))))⟩, ⟨(some 0), none, (.op (.mv (.t 78)))⟩]
def awake20_c : AC := (.seq (.reg awake20_r0) (.seq (.reg awake20_r1) (.seq (.reg awake20_r2) (.seq (.reg awake20_r3) (.seq (.reg awake20_r4) (.seq (.seq (.reg awake20_r5) (.cond (.t 35) (.seq (.reg awake20_r6) .ret) .skip)) (.seq (.reg awake20_r7) (.seq (.reg awake20_r8) .ret))))))))
def awake20_res : List ARes := [(.tmp 0)]
set_option maxRecDepth 100000 in
theorem awake20_get : getF Try.prog 12 146000 [] = some ("gavotte/gavottelaw20.awake", 79, awake20_c, awake20_res) := by kernel_rfl
attribute [simp] ring_r0 ring_r1 ring_r2 ring_r3 ring_r4 ring_r5 ring_r6 ring_r7 ring_r8 ring_r9 ring_r10 ring_r11 ring_res awake20_r0 awake20_r1 awake20_r2 awake20_r3 awake20_r4 awake20_r5 awake20_r6 awake20_r7 awake20_r8 awake20_res


def ringC (n : Nat) (back : Bool) (i : Nat) : List Ins := if i + 1 < n then [⟨8, 0⟩, ⟨22, (i + 1 : Nat)⟩] else if back = true then [⟨8, 0⟩, ⟨22, 0⟩] else []
def ringH (n : Nat) (back : Bool) (i : Nat) : Hnd := ⟨0, ringC n back i⟩
/-- An empty list of instructions is told by nil. -/
def codeN (l : List Ins) : AV := match l with | [] => .nils | x :: l => .lst 2 ((x :: l).map Ins.av)
def ringE (n : Nat) (back : Bool) (i : Nat) : List AV := (List.range i).map fun i => .agg [iv 0, codeN (ringC n back i)]
theorem ringE_succ (n : Nat) (back : Bool) (i : Nat) : ringE n back (i + 1) = ringE n back i ++ [.agg [iv 0, codeN (ringC n back i)]] := range_map_take _ _
theorem ringE_len (n : Nat) (back : Bool) (i : Nat) : (ringE n back i).length = i := by simp [ringE]
def actE : AV := .agg [.nils, iv 0, iv (-1), .bool false]
theorem ring_pc (n : Nat) (hn : n ≤ 1000) (back : Bool) : PC Try.prog 13 [iv n, .bool back] (.agg [.lst 2 (ringE n back n), .lst 4 [actE], .lst 3 [], iv 10]) := by
  refine pc_of_get ring_get (by simp) _ (by simp) _ ?_
  unfold ring_c
  simp
  refine loopN (fun i S => S.t 0 = iv n ∧ S.t 1 = .bool back ∧ S.t 6 = iv i ∧ (∃ s4, S.t 4 = .ptr 145004 s4 4 0 0 ∧ S.blk 145004 = some ⟨s4, 4, [.agg [.nils, .nils, .nils, iv 0]]⟩) ∧
    (∃ s5 v s9, S.t 5 = .ptr 145005 s5 4 0 0 ∧ S.blk 145005 = some ⟨s5, 4, [.agg [v, .acc 145009 s9 4 [actE], .nils, iv 10]]⟩ ∧ AccIs S v 145034 2 33 (ringE n back i))) n ?_ ?_
  · simp [AccIs, ringE, actE]
  · rintro i S hi ⟨g0, g1, g6, ⟨s4, g4, b4⟩, ⟨s5, v, s9, g5, b5, hv⟩⟩
    by_cases hlt : i < n
    · have hw := wrap_succ i _ hlt (by omega)
      have hel := ringE_len n back i
      have hes := ringE_succ n back i
      have hb : ((ringE n back i).length + 1) * 32 ≤ 140737488355328 := by omega
      generalize ringE n back i = xs at *
      by_cases hlast : i + 1 < n
      · have hc : codeN (ringC n back i) = .lst 2 [.agg [iv 8, iv 0], .agg [iv 22, iv ((i + 1 : Nat) : Int)]] := by simp [ringC, hlast, codeN, Ins.av]
        rw [hc] at hes
        have hlast' : ((i : Int) + 1 < (n : Int)) := by omega
        rcases hv with ⟨rfl, hx⟩ | ⟨s, rfl, hx⟩
        · subst hx
          simp [ring_l0, g0, g1, g4, g5, g6, b4, b5, hlt, hw, hlast, hlast']
          simp [AccIs, hes]
        · simp [ring_l0, g0, g1, g4, g5, g6, b4, b5, hlt, hw, hlast, hlast', hx, hb]
          simp [AccIs, hes]
      · have hlast' : ¬ ((i : Int) + 1 < (n : Int)) := by omega
        cases back with
        | true =>
          have hc : codeN (ringC n true i) = .lst 2 [.agg [iv 8, iv 0], .agg [iv 22, iv 0]] := by simp [ringC, hlast, codeN, Ins.av]
          rw [hc] at hes
          rcases hv with ⟨rfl, hx⟩ | ⟨s, rfl, hx⟩
          · subst hx
            simp [ring_l0, g0, g1, g4, g5, g6, b4, b5, hlt, hw, hlast, hlast']
            simp [AccIs, hes]
          · simp [ring_l0, g0, g1, g4, g5, g6, b4, b5, hlt, hw, hlast, hlast', hx, hb]
            simp [AccIs, hes]
        | false =>
          have hc : codeN (ringC n false i) = .nils := by simp [ringC, hlast, codeN]
          rw [hc] at hes
          rcases hv with ⟨rfl, hx⟩ | ⟨s, rfl, hx⟩
          · subst hx
            simp [ring_l0, g0, g1, g4, g5, g6, b4, b5, hlt, hw, hlast, hlast']
            simp [AccIs, hes]
          · simp [ring_l0, g0, g1, g4, g5, g6, b4, b5, hlt, hw, hlast, hlast', hx, hb]
            simp [AccIs, hes]
    · have e1 : i = n := by omega
      subst e1
      rcases hv with ⟨rfl, hx⟩ | ⟨s, rfl, hx⟩
      · simp [ring_l0, g0, g6, g5, g4, b4, b5, hx]
      · simp [ring_l0, g0, g6, g5, g4, b4, b5]
def awP : Prg := ⟨[⟨0, [⟨8, 0⟩, ⟨22, 1⟩]⟩, ⟨0, [⟨8, 0⟩, ⟨22, 2⟩]⟩, ⟨0, []⟩], [⟨[], 0, -1, false⟩], [⟨0, 1, []⟩], 10⟩
theorem aw_flow : flowV awP = 0 := by decide +kernel
theorem aw_snd : sndV awP = [[1], [2], []] := by rw [sndV_put]; decide +kernel
theorem aw_arms : armsV awP = [false, false, false] := by decide +kernel
theorem aw_rea : reaV awP = [[1, 2], [2], []] := by rw [reaV, aw_snd]; decide +kernel
theorem aw_live : liveP awP = [1, 2] := by rw [liveP, aw_snd, aw_arms]; decide +kernel
def nonP : Prg := ⟨[], [], [], 0⟩
theorem no_flow : flowV nonP = 1 := by decide +kernel
theorem awake20_v {S : St} {k : AV → St → Prop} {u : Dep k} (hk : ∀ S', S'.t = S.t → S.clk ≤ S'.clk → k (.bool true) S') : CallG Try.prog (.fn 12 []) [] S k u := by
  refine callV awake20_get (by simp) (by simp) ?_
  unfold awake20_c
  simp
  refine call (ring_pc 3 (by omega) false) (by simp) ?_
  simp [ringE, actE]
  refine call_coarse 2 (vals' := [awP.av]) rfl ?_ (pnew_v awP (fun _ S1 st hP hB hK ht hc => ?_) (fun h => absurd aw_flow h))
  · intro j x y hx hy
    match j with
    | 0 => simp at hx hy; subst hx hy; right; simp [awP, Prg.av, Hnd.av, Ins.av, Actr.av, Nt.av, ringC, codeN, List.range, List.range.loop, elemR, dco, coL, co1, ints]
    | j + 1 => simp at hx
  · have hL : LR 170013 = false := by decide
    have hc : S.clk ≤ S1.clk := by simp at hc; omega
    simp [ht]
    clear hB hK
    refine call_coarse 2 (vals' := [nonP.av]) rfl ?_ (pnew_v nonP (fun h => by rw [no_flow] at h; cases h) (fun _ S2 hB2 hK2 ht2 hc2 => ?_))
    · intro j x y hx hy
      match j with
      | 0 => simp at hx hy; subst hx hy; right; simp [nonP, Prg.av, elemR, dco, coL, co1]
      | j + 1 => simp at hx
    · have hP2 : PlanF 170013 st awP S2 := by unfold PlanF; rw [hB2 170013 (by simp)]; exact hP
      have hc2 : S.clk ≤ S2.clk := by simp at hc2; omega
      clear hB2 hK2 hP
      rw [no_flow]
      simp [ht2]
      refine pmade_v 170013 st awP (.inl hP2) (fun S3 ht3 hB3 hK3 hc3 => ⟨fun _ => ?_, fun q => ?_⟩)
      rotate_left
      · unfold PlanF at hP2; unfold PlanM at q; simp only [] at q; rw [hP2] at q; simp [planC, madeC] at q
      have hP3 : PlanF 170013 st awP S3 := by unfold PlanF; rw [hB3]; exact hP2
      have hc3 : S.clk ≤ S3.clk := by simp at hc3; omega
      clear hB3 hK3 hP2
      simp [ht3]
      refine psends_v 170013 st hL awP aw_flow 0 (.inl hP3) (fun S4 hP4 hF4 ht4 _ => ?_)
      have hc4 : S.clk ≤ S4.clk := by have := hF4.c; simp at this; omega
      clear hF4 hP3
      rw [aw_snd]
      simp [ht4, atI]
      refine call (aints_pc [1] [1] (by simp)) (by simp [ints]) ?_
      simp [ht4]
      refine pmade_v 170013 st awP (.inr hP4) (fun S5 ht5 hB5 hK5 hc5 => ⟨fun q => ?_, fun _ => ?_⟩)
      · unfold PlanM at hP4; unfold PlanF at q; simp only [] at q; rw [hP4] at q; simp [planC, madeC] at q
      have hP5 : PlanM 170013 st awP S5 := by unfold PlanM; rw [hB5]; exact hP4
      have hc5 : S.clk ≤ S5.clk := by simp at hc5; omega
      clear hB5 hK5 hP4
      simp [ht5]
      refine preaches_v 170013 st hL awP aw_flow 0 (.inr hP5) (fun S6 hP6 hF6 ht6 _ => ?_)
      have hc6 : S.clk ≤ S6.clk := by have := hF6.c; simp at this; omega
      clear hF6 hP5
      rw [aw_rea]
      simp [ht6, atI]
      refine call (aints_pc [1, 2] [1, 2] (by simp)) (by simp [ints]) ?_
      simp [ht6]
      refine plive_v 170013 st hL awP aw_flow (.inr hP6) (fun S7 hP7 hF7 ht7 _ => ?_)
      have hc7 : S.clk ≤ S7.clk := by have := hF7.c; simp at this; omega
      clear hF7 hP6
      rw [aw_live]
      simp [ht7]
      refine call (aints_pc [1, 2] [1, 2] (by simp)) (by simp [ints]) ?_
      simp [ht7]
      refine parms_v 170013 st hL awP aw_flow 0 (.inr hP7) (fun S8 hP8 hF8 ht8 _ => ?_)
      have hc8 : S.clk ≤ S8.clk := by have := hF8.c; simp at this; omega
      clear hF8 hP7
      rw [aw_arms]
      simp [ht8, atB]
      refine psends_v 170013 st hL awP aw_flow 3 (.inr hP8) (fun S9 hP9 hF9 ht9 _ => ?_)
      have hc9 : S.clk ≤ S9.clk := by have := hF9.c; simp at this; omega
      clear hF9 hP8
      rw [aw_snd]
      simp [ht9, atI, ints]
      refine pmade_nil (fun Sa hta hBa hKa hca => ?_)
      have hca : S.clk ≤ Sa.clk := by simp at hca; omega
      clear hBa hKa hP9
      simp [hta]
      refine plive_nil (fun Sb htb hBb hKb hcb => ?_)
      simp [htb]
      exact hk _ rfl (by simp at hcb ⊢; omega)

end Go.Gv
