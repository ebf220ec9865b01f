/- Texts of this proof, one behind the other. What is proved, and on which conditions, stands ahead of each. -/
import Derived.Test.YtpaeffcpdpblcaaGreatProg
import Derived.Test.YtpaeffcpdpblcaaGreatM195a2869
import Derived.Test.YtpaeffcpdpblcaaGreatM18dc362a
import Derived.Test.YtpaeffcpdpblcaaGreatM14be5a71

/- The document's fixed example of chapter 20. No condition. -/
set_option linter.unusedVariables false
set_option linter.unusedSimpArgs false
namespace Go.Gv
open Go.Proofs

def ring_r0 : List AI := [⟨(some 4), none, (.op (.new 145004 4 (.agg [.nils, .nils, .nils, (.int .i64 0)])))⟩]
def ring_r1 : List AI := [⟨(some 8), none, (.op (.build [.nils, (.int .i64 0), (.int .i64 0), (.bool false)] [(2, (1, (.c (.int .i64 (-1)))))]))⟩, ⟨(some 9), none, (.op (.bsl 145009 4 54 1 (.agg [.nils, (.int .i64 0), (.int .i64 0), (.bool false)]) [(0, (.t 8))]))⟩, ⟨(some 10), none, (.op (.build [.nils, .nils, .nils, (.int .i64 0)] [(1, (1, (.t 9))), (3, (1, (.c (.int .i64 10))))]))⟩, ⟨(some 5), none, (.op (.new 145005 4 (.agg [.nils, .nils, .nils, (.int .i64 0)])))⟩, ⟨none, none, (.op (.store 4 (.t 5) (.t 10)))⟩]
def ring_r2 : List AI := [⟨(some 6), none, (.op (.mv (.c (.int .i64 0))))⟩]
def ring_r3 : List AI := [⟨(some 11), none, (.op (.mv (.t 6)))⟩, ⟨(some 12), none, (.op (.mv (.t 0)))⟩, ⟨(some 13), none, (.op (.ibin .lss (.t 11) (.t 12)))⟩]
def ring_r4 : List AI := [⟨(some 7), none, (.op (.mv (.c .nils)))⟩]
def ring_r5 : List AI := [⟨(some 16), none, (.op (.mv (.t 6)))⟩, ⟨(some 17), none, (.op (.ibin .add (.t 16) (.c (.int .i64 1))))⟩, ⟨(some 18), none, (.op (.mv (.t 0)))⟩, ⟨(some 19), none, (.op (.ibin .lss (.t 17) (.t 18)))⟩]
def ring_r6 : List AI := [⟨(some 20), none, (.op (.build [(.int .i64 0), (.int .i64 0)] [(0, (1, (.c (.int .i64 8))))]))⟩, ⟨(some 21), none, (.op (.mv (.t 6)))⟩, ⟨(some 22), none, (.op (.ibin .add (.t 21) (.c (.int .i64 1))))⟩, ⟨(some 23), none, (.op (.build [(.int .i64 0), (.int .i64 0)] [(0, (1, (.c (.int .i64 22)))), (1, (1, (.t 22)))]))⟩, ⟨(some 24), none, (.op (.bsl 145024 2 85 2 (.agg [(.int .i64 0), (.int .i64 0)]) [(0, (.t 20)), (1, (.t 23))]))⟩, ⟨(some 7), none, (.op (.mv (.t 24)))⟩]
def ring_r7 : List AI := [⟨(some 25), none, (.op (.mv (.t 1)))⟩]
def ring_r8 : List AI := [⟨(some 26), none, (.op (.build [(.int .i64 0), (.int .i64 0)] [(0, (1, (.c (.int .i64 8))))]))⟩, ⟨(some 27), none, (.op (.build [(.int .i64 0), (.int .i64 0)] [(0, (1, (.c (.int .i64 22))))]))⟩, ⟨(some 28), none, (.op (.bsl 145028 2 85 2 (.agg [(.int .i64 0), (.int .i64 0)]) [(0, (.t 26)), (1, (.t 27))]))⟩, ⟨(some 7), none, (.op (.mv (.t 28)))⟩]
def ring_r9 : List AI := [⟨(some 29), none, (.op (.fld 0 (.t 5)))⟩, ⟨(some 30), none, (.op (.load none (.t 29)))⟩, ⟨(some 31), none, (.op (.mv (.t 7)))⟩, ⟨(some 32), none, (.op (.build [(.int .i64 0), .nils] [(1, (1, (.t 31)))]))⟩, ⟨(some 33), none, (.op (.bsl 145033 2 52 1 (.agg [(.int .i64 0), .nils]) [(0, (.t 32))]))⟩, ⟨(some 34), none, (.op (.app 145034 2 52 32 (.t 30) (.t 33)))⟩, ⟨(some 35), none, (.op (.fld 0 (.t 5)))⟩, ⟨none, none, (.op (.store 1 (.t 35) (.t 34)))⟩]
def ring_r10 : List AI := [⟨(some 14), none, (.op (.mv (.t 6)))⟩, ⟨(some 15), none, (.op (.ibin .add (.t 14) (.c (.int .i64 1))))⟩, ⟨(some 6), none, (.op (.mv (.t 15)))⟩]
def ring_l0 : AC := (.seq (.seq (.reg ring_r3) (.cond (.t 13) .skip (.exit 0))) (.seq (.block 1 (.seq (.reg ring_r4) (.seq (.seq (.reg ring_r5) (.cond (.t 19) (.reg ring_r6) (.seq (.reg ring_r7) (.cond (.t 25) (.reg ring_r8) .skip)))) (.reg ring_r9)))) (.reg ring_r10)))
def ring_r11 : List AI := [⟨(some 36), none, (.op (.load (some 4) (.t 5)))⟩, ⟨none, none, (.op (.store 4 (.t 4) (.t 36)))⟩]
def ring_c : AC := (.seq (.reg ring_r0) (.seq (.reg ring_r1) (.seq (.seq (.reg ring_r2) (.block 0 (.loop ring_l0))) (.seq (.reg ring_r11) .ret))))
def ring_res : List ARes := [(.cell (some 4) 4)]
set_option maxRecDepth 100000 in
theorem ring_get : getF Tryz.prog 21 145000 [] = some ("gavotte/gavottelaw20.ring", 37, ring_c, ring_res) := by kernel_rfl
def awake20_r0 : List AI := [⟨(some 0), none, (.op (.mv (.c (.bool false))))⟩]
def awake20_r1 : List AI := [⟨(some 7), none, (.call (.c (.fn 21 [])) [(.c (.int .i64 3)), (.c (.bool false))])⟩, ⟨(some 1), none, (.op (.new 146001 4 (.agg [.nils, .nils, .nils, (.int .i64 0)])))⟩, ⟨none, none, (.op (.store 4 (.t 1) (.t 7)))⟩]
def awake20_r2 : List AI := [⟨(some 8), none, (.op (.build [(.int .i64 0), (.int .i64 0), .nils] [(1, (1, (.c (.int .i64 1))))]))⟩, ⟨(some 9), none, (.op (.bsl 146009 3 49 1 (.agg [(.int .i64 0), (.int .i64 0), .nils]) [(0, (.t 8))]))⟩, ⟨(some 10), none, (.op (.fld 2 (.t 1)))⟩, ⟨none, none, (.op (.store 1 (.t 10) (.t 9)))⟩]
def awake20_r3 : List AI := [⟨(some 12), none, (.op (.load (some 4) (.t 1)))⟩, ⟨(some 13), none, (.call (.c (.fn 7 [])) [(.t 12)])⟩, ⟨(some 11), none, (.op (.mv (.t 13)))⟩, ⟨(some 14), none, (.op (.ext (.t 11) 0))⟩, ⟨(some 15), none, (.op (.ext (.t 11) 1))⟩, ⟨(some 2), none, (.op (.mv (.t 14)))⟩, ⟨(some 3), none, (.op (.mv (.t 15)))⟩]
def awake20_r4 : List AI := [⟨(some 17), none, (.op (.build [.nils, .nils, .nils, (.int .i64 0)] []))⟩, ⟨(some 18), none, (.call (.c (.fn 7 [])) [(.t 17)])⟩, ⟨(some 16), none, (.op (.mv (.t 18)))⟩, ⟨(some 19), none, (.op (.ext (.t 16) 0))⟩, ⟨(some 20), none, (.op (.ext (.t 16) 1))⟩, ⟨(some 4), none, (.op (.mv (.t 19)))⟩, ⟨(some 5), none, (.op (.mv (.t 20)))⟩]
def awake20_r5 : List AI := [⟨(some 21), none, (.op (.mv (.t 3)))⟩, ⟨(some 22), none, (.op (.ibin .neq (.t 21) (.c (.int .i64 0))))⟩, ⟨(some 23), none, (.op (.mv (.t 22)))⟩, ⟨(some 24), (some (23, false)), (.op (.mv (.t 2)))⟩, ⟨(some 25), (some (23, false)), (.nq 1 false (.t 24))⟩, ⟨(some 26), none, (.op (.pick (.t 23) (.c (.bool true)) (.t 25)))⟩, ⟨(some 27), none, (.op (.mv (.t 26)))⟩, ⟨(some 28), (some (27, false)), (.op (.mv (.t 5)))⟩, ⟨(some 29), (some (27, false)), (.op (.ibin .neq (.t 28) (.c (.int .i64 1))))⟩, ⟨(some 30), none, (.op (.pick (.t 27) (.c (.bool true)) (.t 29)))⟩, ⟨(some 31), none, (.op (.mv (.t 30)))⟩, ⟨(some 32), (some (31, false)), (.op (.mv (.t 2)))⟩, ⟨(some 33), (some (31, false)), (.call (.c (.fn 22 [])) [(.t 32)])⟩, ⟨(some 34), (some (31, false)), (.op (.ibin .neq (.t 33) (.c (.int .i64 0))))⟩, ⟨(some 35), none, (.op (.pick (.t 31) (.c (.bool true)) (.t 34)))⟩]
def awake20_r6 : List AI := [⟨(some 0), none, (.op (.mv (.c (.bool false))))⟩]
def awake20_r7 : List AI := [⟨(some 6), none, (.op (.mv (.c .nilp)))⟩]
def awake20_r8 : List AI := [⟨(some 36), none, (.op (.mv (.t 2)))⟩, ⟨(some 37), none, (.call (.c (.fn 10 [])) [(.t 36), (.c (.int .i64 0))])⟩, ⟨(some 38), none, (.op (.bsl 146038 1 3 1 (.int .i64 0) [(0, (.c (.int .i64 1)))]))⟩, ⟨(some 39), none, (.call (.c (.fn 9 [])) [(.t 37), (.t 38)])⟩, ⟨(some 40), none, (.op (.mv (.t 39)))⟩, ⟨(some 41), (some (40, true)), (.op (.mv (.t 2)))⟩, ⟨(some 42), (some (40, true)), (.call (.c (.fn 22 [])) [(.t 41)])⟩, ⟨(some 43), (some (40, true)), (.op (.ibin .eql (.t 42) (.c (.int .i64 1))))⟩, ⟨(some 44), none, (.op (.pick (.t 40) (.t 43) (.c (.bool false))))⟩, ⟨(some 45), none, (.op (.mv (.t 44)))⟩, ⟨(some 46), (some (45, true)), (.op (.mv (.t 2)))⟩, ⟨(some 47), (some (45, true)), (.call (.c (.fn 12 [])) [(.t 46), (.c (.int .i64 0))])⟩, ⟨(some 48), (some (45, true)), (.op (.bsl 146048 1 3 2 (.int .i64 0) [(0, (.c (.int .i64 1))), (1, (.c (.int .i64 2)))]))⟩, ⟨(some 49), (some (45, true)), (.call (.c (.fn 9 [])) [(.t 47), (.t 48)])⟩, ⟨(some 50), none, (.op (.pick (.t 45) (.t 49) (.c (.bool false))))⟩, ⟨(some 51), none, (.op (.mv (.t 50)))⟩, ⟨(some 52), (some (51, true)), (.op (.mv (.t 2)))⟩, ⟨(some 53), (some (51, true)), (.call (.c (.fn 14 [])) [(.t 52)])⟩, ⟨(some 54), (some (51, true)), (.op (.bsl 146054 1 3 2 (.int .i64 0) [(0, (.c (.int .i64 1))), (1, (.c (.int .i64 2)))]))⟩, ⟨(some 55), (some (51, true)), (.call (.c (.fn 9 [])) [(.t 53), (.t 54)])⟩, ⟨(some 56), none, (.op (.pick (.t 51) (.t 55) (.c (.bool false))))⟩, ⟨(some 57), none, (.op (.mv (.t 56)))⟩, ⟨(some 58), (some (57, true)), (.op (.mv (.t 2)))⟩, ⟨(some 59), (some (57, true)), (.call (.c (.fn 16 [])) [(.t 58), (.c (.int .i64 0))])⟩, ⟨(some 60), (some (57, true)), (.op (.not (.t 59)))⟩, ⟨(some 61), none, (.op (.pick (.t 57) (.t 60) (.c (.bool false))))⟩, ⟨(some 62), none, (.op (.mv (.t 61)))⟩, ⟨(some 63), (some (62, true)), (.op (.mv (.t 2)))⟩, ⟨(some 64), (some (62, true)), (.call (.c (.fn 10 [])) [(.t 63), (.c (.int .i64 3))])⟩, ⟨(some 65), (some (62, true)), (.op (.len (.t 64)))⟩, ⟨(some 66), (some (62, true)), (.op (.ibin .eql (.t 65) (.c (.int .i64 0))))⟩, ⟨(some 67), none, (.op (.pick (.t 62) (.t 66) (.c (.bool false))))⟩, ⟨(some 68), none, (.op (.mv (.t 67)))⟩, ⟨(some 69), (some (68, true)), (.op (.mv (.t 6)))⟩, ⟨(some 70), (some (68, true)), (.call (.c (.fn 22 [])) [(.t 69)])⟩, ⟨(some 71), (some (68, true)), (.op (.ibin .eql (.t 70) (.c (.int .i64 0))))⟩, ⟨(some 72), none, (.op (.pick (.t 68) (.t 71) (.c (.bool false))))⟩, ⟨(some 73), none, (.op (.mv (.t 72)))⟩, ⟨(some 74), (some (73, true)), (.op (.mv (.t 6)))⟩, ⟨(some 75), (some (73, true)), (.call (.c (.fn 14 [])) [(.t 74)])⟩, ⟨(some 76), (some (73, true)), (.op (.len (.t 75)))⟩, ⟨(some 77), (some (73, true)), (.op (.ibin .eql (.t 76) (.c (.int .i64 0))))⟩, ⟨(some 78), none, (.op (.pick (.t 73) (.t 77) (.c (.bool false))))⟩, ⟨(some 0), none, (.op (.mv (.t 78)))⟩]
def awake20_c : AC := (.seq (.reg awake20_r0) (.seq (.reg awake20_r1) (.seq (.reg awake20_r2) (.seq (.reg awake20_r3) (.seq (.reg awake20_r4) (.seq (.seq (.reg awake20_r5) (.cond (.t 35) (.seq (.reg awake20_r6) .ret) .skip)) (.seq (.reg awake20_r7) (.seq (.reg awake20_r8) .ret))))))))
def awake20_res : List ARes := [(.tmp 0)]
set_option maxRecDepth 100000 in
theorem awake20_get : getF Tryz.prog 6 146000 [] = some ("gavotte/gavottelaw20.awake", 79, awake20_c, awake20_res) := by kernel_rfl
attribute [simp] ring_r0 ring_r1 ring_r2 ring_r3 ring_r4 ring_r5 ring_r6 ring_r7 ring_r8 ring_r9 ring_r10 ring_r11 ring_res awake20_r0 awake20_r1 awake20_r2 awake20_r3 awake20_r4 awake20_r5 awake20_r6 awake20_r7 awake20_r8 awake20_res


def ringC (n : Nat) (back : Bool) (i : Nat) : List Ins := if i + 1 < n then [⟨8, 0⟩, ⟨22, (i + 1 : Nat)⟩] else if back = true then [⟨8, 0⟩, ⟨22, 0⟩] else []
def ringH (n : Nat) (back : Bool) (i : Nat) : Hnd := ⟨0, ringC n back i⟩
/-- An empty list of instructions is told by nil. -/
def codeN (l : List Ins) : AV := match l with | [] => .nils | x :: l => .lst 2 ((x :: l).map Ins.av)
def ringE (n : Nat) (back : Bool) (i : Nat) : List AV := (List.range i).map fun i => .agg [iv 0, codeN (ringC n back i)]
theorem ringE_succ (n : Nat) (back : Bool) (i : Nat) : ringE n back (i + 1) = ringE n back i ++ [.agg [iv 0, codeN (ringC n back i)]] := range_map_take _ _
theorem ringE_len (n : Nat) (back : Bool) (i : Nat) : (ringE n back i).length = i := by simp [ringE]
def actE : AV := .agg [.nils, iv 0, iv (-1), .bool false]
theorem ring_pc (n : Nat) (hn : n ≤ 1000) (back : Bool) : PC Tryz.prog 21 [iv n, .bool back] (.agg [.lst 2 (ringE n back n), .lst 4 [actE], .lst 3 [], iv 10]) := by
  refine pc_of_get ring_get (by simp) _ (by simp) _ ?_
  unfold ring_c
  simp
  refine loopN (fun i S => S.t 0 = iv n ∧ S.t 1 = .bool back ∧ S.t 6 = iv i ∧ (∃ s4, S.t 4 = .ptr 145004 s4 4 0 0 ∧ S.blk 145004 = some ⟨s4, 4, [.agg [.nils, .nils, .nils, iv 0]]⟩) ∧
    (∃ s5 v s9, S.t 5 = .ptr 145005 s5 4 0 0 ∧ S.blk 145005 = some ⟨s5, 4, [.agg [v, .acc 145009 s9 4 [actE], .nils, iv 10]]⟩ ∧ AccIs S v 145034 2 52 (ringE n back i))) n ?_ ?_
  · simp [AccIs, ringE, actE]
  · rintro i S hi ⟨g0, g1, g6, ⟨s4, g4, b4⟩, ⟨s5, v, s9, g5, b5, hv⟩⟩
    by_cases hlt : i < n
    · have hw := wrap_succ i _ hlt (by omega)
      have hel := ringE_len n back i
      have hes := ringE_succ n back i
      have hb : ((ringE n back i).length + 1) * 32 ≤ 140737488355328 := by omega
      generalize ringE n back i = xs at *
      by_cases hlast : i + 1 < n
      · have hc : codeN (ringC n back i) = .lst 2 [.agg [iv 8, iv 0], .agg [iv 22, iv ((i + 1 : Nat) : Int)]] := by simp [ringC, hlast, codeN, Ins.av]
        rw [hc] at hes
        have hlast' : ((i : Int) + 1 < (n : Int)) := by omega
        rcases hv with ⟨rfl, hx⟩ | ⟨s, rfl, hx⟩
        · subst hx
          simp [ring_l0, g0, g1, g4, g5, g6, b4, b5, hlt, hw, hlast, hlast']
          simp [AccIs, hes]
        · simp [ring_l0, g0, g1, g4, g5, g6, b4, b5, hlt, hw, hlast, hlast', hx, hb]
          simp [AccIs, hes]
      · have hlast' : ¬ ((i : Int) + 1 < (n : Int)) := by omega
        cases back with
        | true =>
          have hc : codeN (ringC n true i) = .lst 2 [.agg [iv 8, iv 0], .agg [iv 22, iv 0]] := by simp [ringC, hlast, codeN, Ins.av]
          rw [hc] at hes
          rcases hv with ⟨rfl, hx⟩ | ⟨s, rfl, hx⟩
          · subst hx
            simp [ring_l0, g0, g1, g4, g5, g6, b4, b5, hlt, hw, hlast, hlast']
            simp [AccIs, hes]
          · simp [ring_l0, g0, g1, g4, g5, g6, b4, b5, hlt, hw, hlast, hlast', hx, hb]
            simp [AccIs, hes]
        | false =>
          have hc : codeN (ringC n false i) = .nils := by simp [ringC, hlast, codeN]
          rw [hc] at hes
          rcases hv with ⟨rfl, hx⟩ | ⟨s, rfl, hx⟩
          · subst hx
            simp [ring_l0, g0, g1, g4, g5, g6, b4, b5, hlt, hw, hlast, hlast']
            simp [AccIs, hes]
          · simp [ring_l0, g0, g1, g4, g5, g6, b4, b5, hlt, hw, hlast, hlast', hx, hb]
            simp [AccIs, hes]
    · have e1 : i = n := by omega
      subst e1
      rcases hv with ⟨rfl, hx⟩ | ⟨s, rfl, hx⟩
      · simp [ring_l0, g0, g6, g5, g4, b4, b5, hx]
      · simp [ring_l0, g0, g6, g5, g4, b4, b5]
def awP : Prg := ⟨[⟨0, [⟨8, 0⟩, ⟨22, 1⟩]⟩, ⟨0, [⟨8, 0⟩, ⟨22, 2⟩]⟩, ⟨0, []⟩], [⟨[], 0, -1, false⟩], [⟨0, 1, []⟩], 10⟩
theorem aw_flow : flowV awP = 0 := by decide +kernel
theorem aw_snd : sndV awP = [[1], [2], []] := by rw [sndV_put]; decide +kernel
theorem aw_arms : armsV awP = [false, false, false] := by decide +kernel
theorem aw_rea : reaV awP = [[1, 2], [2], []] := by rw [reaV, aw_snd]; decide +kernel
theorem aw_live : liveP awP = [1, 2] := by rw [liveP, aw_snd, aw_arms]; decide +kernel
def nonP : Prg := ⟨[], [], [], 0⟩
theorem no_flow : flowV nonP = 1 := by decide +kernel
theorem awake20_v {S : St} {k : AV → St → Prop} {u : Dep k} (hk : ∀ S', S'.t = S.t → S.clk ≤ S'.clk → k (.bool true) S') : CallG Tryz.prog (.fn 6 []) [] S k u := by
  refine callV awake20_get (by simp) (by simp) ?_
  unfold awake20_c
  simp
  refine call (ring_pc 3 (by omega) false) (by simp) ?_
  simp [ringE, actE]
  refine call_coarse 2 (vals' := [awP.av]) rfl ?_ (pnew_v awP (fun _ S1 st hP hB hK ht hc => ?_) (fun h => absurd aw_flow h))
  · intro j x y hx hy
    match j with
    | 0 => simp at hx hy; subst hx hy; right; simp [awP, Prg.av, Hnd.av, Ins.av, Actr.av, Nt.av, ringC, codeN, List.range, List.range.loop, elemR, dco, coL, co1, ints]
    | j + 1 => simp at hx
  · have hL : LR 170013 = false := by decide
    have hc : S.clk ≤ S1.clk := by simp at hc; omega
    simp [ht]
    clear hB hK
    refine call_coarse 2 (vals' := [nonP.av]) rfl ?_ (pnew_v nonP (fun h => by rw [no_flow] at h; cases h) (fun _ S2 hB2 hK2 ht2 hc2 => ?_))
    · intro j x y hx hy
      match j with
      | 0 => simp at hx hy; subst hx hy; right; simp [nonP, Prg.av, elemR, dco, coL, co1]
      | j + 1 => simp at hx
    · have hP2 : PlanF 170013 st awP S2 := by unfold PlanF; rw [hB2 170013 (by simp)]; exact hP
      have hc2 : S.clk ≤ S2.clk := by simp at hc2; omega
      clear hB2 hK2 hP
      rw [no_flow]
      simp [ht2]
      refine pmade_v 170013 st awP (.inl hP2) (fun S3 ht3 hB3 hK3 hc3 => ⟨fun _ => ?_, fun q => ?_⟩)
      rotate_left
      · unfold PlanF at hP2; unfold PlanM at q; simp only [] at q; rw [hP2] at q; simp [planC, madeC] at q
      have hP3 : PlanF 170013 st awP S3 := by unfold PlanF; rw [hB3]; exact hP2
      have hc3 : S.clk ≤ S3.clk := by simp at hc3; omega
      clear hB3 hK3 hP2
      simp [ht3]
      refine psends_v 170013 st hL awP aw_flow 0 (.inl hP3) (fun S4 hP4 hF4 ht4 _ => ?_)
      have hc4 : S.clk ≤ S4.clk := by have := hF4.c; simp at this; omega
      clear hF4 hP3
      rw [aw_snd]
      simp [ht4, atI]
      refine call (aints_pc [1] [1] (by simp)) (by simp [ints]) ?_
      simp [ht4]
      refine pmade_v 170013 st awP (.inr hP4) (fun S5 ht5 hB5 hK5 hc5 => ⟨fun q => ?_, fun _ => ?_⟩)
      · unfold PlanM at hP4; unfold PlanF at q; simp only [] at q; rw [hP4] at q; simp [planC, madeC] at q
      have hP5 : PlanM 170013 st awP S5 := by unfold PlanM; rw [hB5]; exact hP4
      have hc5 : S.clk ≤ S5.clk := by simp at hc5; omega
      clear hB5 hK5 hP4
      simp [ht5]
      refine preaches_v 170013 st hL awP aw_flow 0 (.inr hP5) (fun S6 hP6 hF6 ht6 _ => ?_)
      have hc6 : S.clk ≤ S6.clk := by have := hF6.c; simp at this; omega
      clear hF6 hP5
      rw [aw_rea]
      simp [ht6, atI]
      refine call (aints_pc [1, 2] [1, 2] (by simp)) (by simp [ints]) ?_
      simp [ht6]
      refine plive_v 170013 st hL awP aw_flow (.inr hP6) (fun S7 hP7 hF7 ht7 _ => ?_)
      have hc7 : S.clk ≤ S7.clk := by have := hF7.c; simp at this; omega
      clear hF7 hP6
      rw [aw_live]
      simp [ht7]
      refine call (aints_pc [1, 2] [1, 2] (by simp)) (by simp [ints]) ?_
      simp [ht7]
      refine parms_v 170013 st hL awP aw_flow 0 (.inr hP7) (fun S8 hP8 hF8 ht8 _ => ?_)
      have hc8 : S.clk ≤ S8.clk := by have := hF8.c; simp at this; omega
      clear hF8 hP7
      rw [aw_arms]
      simp [ht8, atB]
      refine psends_v 170013 st hL awP aw_flow 3 (.inr hP8) (fun S9 hP9 hF9 ht9 _ => ?_)
      have hc9 : S.clk ≤ S9.clk := by have := hF9.c; simp at this; omega
      clear hF9 hP8
      rw [aw_snd]
      simp [ht9, atI, ints]
      refine pmade_nil (fun Sa hta hBa hKa hca => ?_)
      have hca : S.clk ≤ Sa.clk := by simp at hca; omega
      clear hBa hKa hP9
      simp [hta]
      refine plive_nil (fun Sb htb hBb hKb hcb => ?_)
      simp [htb]
      exact hk _ rfl (by simp at hcb ⊢; omega)

end Go.Gv

/- The law ReachPaths answers true, for all programs. No condition. -/
set_option linter.unusedVariables false
set_option linter.unusedSimpArgs false
namespace Go.Gv
open Go.Proofs


structure PSt (st : Nat) (p : Prg) (k : Int) (S : St) : Prop where
  t2 : ∃ s2, S.t 2 = .ptr 180002 s2 4 0 0 ∧ S.blk 180002 = some ⟨s2, 4, [p.av]⟩
  pl : PlanM 170013 st p S
  t5 : S.t 5 = .ptr 170013 st 12 0 0
  t7 : S.t 7 = iv k
def IsW (v : AV) (w : List Int) : Prop := v = ints w ∨ (v = .nils ∧ w = [])
theorem IsW.co {v : AV} {w : List Int} (h : IsW v w) : co1 none v (ints w) := by
  rcases h with rfl | ⟨rfl, rfl⟩ <;> simp [ints]
theorem IsW.cells {v : AV} {w : List Int} (h : IsW v w) : v.one = true := by
  rcases h with rfl | ⟨rfl, rfl⟩ <;> simp [ints]
theorem IsW.co0 {v : AV} {w : List Int} (h : IsW v w) : Go.Gv.co none v (ints w) := by
  rcases h with rfl | ⟨rfl, rfl⟩ <;> simp [ints]
theorem putL_len : ∀ (m l : List Int), (putL l m).length ≤ l.length + m.length
  | [], l => by simp [putL]
  | x :: m, l => by
    have ih := putL_len m (put1 l x)
    have h1 : ∀ l : List Int, (put1 l x).length ≤ l.length + 1 := by
      intro l
      induction l with
      | nil => simp [put1]
      | cons y l ih =>
        simp only [put1]
        split
        · simp; omega
        · split <;> simp
    have := h1 l
    simp only [putL, List.foldl_cons, List.length_cons] at ih ⊢
    omega
theorem put1_len (l : List Int) (x : Int) : (put1 l x).length ≤ l.length + 1 := putL_len [x] l
theorem atI_bound {l : List (List Int)} {b : Nat} (h : ∀ s ∈ l, s.length ≤ b) (n : Int) : (atI l n).length ≤ b := by
  unfold atI
  split
  · cases hq : l[n.toNat]? with
    | none => simp
    | some s => exact h s (List.mem_of_getElem? hq)
  · simp
theorem wantL_len {rea : List (List Int)} {b : Nat} (h : ∀ s ∈ rea, s.length ≤ b) (s : List Int) (i : Nat) : (wantL rea (s.take i)).length ≤ i * (b + 1) := by
  induction i with
  | zero => simp [wantL]
  | succ i ih =>
    by_cases hi : i < s.length
    · rw [wantL_succ rea s i hi]
      have h1 := putL_len (atI rea s[i]) (put1 (wantL rea (s.take i)) s[i])
      have h2 := put1_len (wantL rea (s.take i)) s[i]
      have h3 := atI_bound h s[i]
      have : (i + 1) * (b + 1) = i * (b + 1) + b + 1 := by rw [Nat.add_mul]; omega
      omega
    · have e : s.take (i + 1) = s.take i := by rw [List.take_of_length_le (by omega), List.take_of_length_le (by omega)]
      rw [e]
      refine Nat.le_trans ih (Nat.mul_le_mul_right _ (by omega))
-- The inner loop of the first: what is reached from one.
theorem meetsV_one {l : List Int} {x : Int} (h : x ∈ l) : meetsV l [x] = true := List.any_eq_true.2 ⟨x, h, by simp⟩
end Go.Gv

/- The law FlowTells answers true, for all programs. No condition. -/
set_option linter.unusedVariables false
set_option linter.unusedSimpArgs false
namespace Go.Gv
open Go.Proofs


def hdlP (code : List Ins) : Prg := ⟨[⟨0, code⟩], [⟨[0], 0, -1, false⟩], [], 100⟩
def awk4 : List Ins := [⟨1, 1⟩, ⟨21, 4⟩, ⟨1, 2⟩, ⟨20, 5⟩, ⟨1, 3⟩, ⟨2, 0⟩]
theorem rdep_err {p : Prg} (hc : checkV p = 0) {i : Nat} (hi : i < p.hs.length) : (rdepV p i).2.2 = walkE p.hs p.hs[i] := by
  have e : p.hs[((i : Int)).toNat]? = some p.hs[i] := by simp [hi]
  unfold rdepV walkE
  rw [if_neg (by omega), e]
  simp only
  rw [walk_eq (codeOk_of hc (List.getElem_mem hi))]
  cases walkV p.hs p.hs[i].code <;> rfl
theorem rflow_eq (p : Prg) : rflowV p = flowV p := by
  unfold rflowV flowV
  by_cases hc : checkV p = 0
  · rw [hc, if_neg (by simp)]
    have key : ∀ (k i : Nat), i + k = p.hs.length → rflowGo p ((List.range' i k).map fun n : Nat => (n : Int)) 0 = firstNZ ((p.hs.drop i).map (walkE p.hs)) := by
      intro k
      induction k with
      | zero => intro i hi; rw [List.drop_of_length_le (by omega)]; rfl
      | succ k ih =>
        intro i hi
        have hlt : i < p.hs.length := by omega
        rw [List.range'_succ, List.map_cons, rflowGo, if_pos rfl, rdep_err hc hlt, List.drop_eq_getElem_cons hlt, List.map_cons, firstNZ]
        by_cases hw : walkE p.hs p.hs[i] = 0
        · rw [hw, if_neg (by simp), ih (i + 1) (by omega)]
        · rw [if_pos hw]
          cases k with
          | zero => rfl
          | succ k => rw [List.range'_succ, List.map_cons, rflowGo, if_neg hw]
    have := key p.hs.length 0 (by omega)
    rw [List.range_eq_range']
    simpa using this
  · rw [if_pos hc]
    cases hl : p.hs.length with
    | zero => simp [rflowGo]
    | succ n => rw [List.range_succ_eq_map, List.map_cons, rflowGo, if_neg hc]
theorem tells_eq {p : Prg} (hc : checkV p = 0) (h : Int) : depthsV p h = ((rdepV p h).1, (rdepV p h).2.2) ∧ mostV p h = (rdepV p h).2.1 := by
  by_cases hr : h < 0 ∨ h ≥ p.hs.length
  · have e1 : depthsV p h = ([], 7) := by unfold depthsV; rw [if_neg (by simpa using hc), if_pos hr]
    have e2 : rdepV p h = ([], -1, 7) := by unfold rdepV; rw [if_pos hr]
    refine ⟨by rw [e1, e2], ?_⟩
    unfold mostV
    rw [e1, e2, if_pos (by simp)]
  · cases hx : p.hs[h.toNat]? with
    | none => rw [List.getElem?_eq_none_iff] at hx; omega
    | some x =>
      have hw := walk_eq (codeOk_of hc (List.mem_of_getElem? hx))
      cases hv : walkV p.hs x.code with
      | none =>
        have e1 : depthsV p h = ([], 5) := by unfold depthsV; rw [if_neg (by simpa using hc), if_neg hr, hx]; simp only [hv]
        have e2 : rdepV p h = ([], -1, 5) := by unfold rdepV; rw [if_neg hr, hx]; simp only [hw, hv]
        refine ⟨by rw [e1, e2], ?_⟩
        unfold mostV
        rw [e1, e2, if_pos (by simp)]
      | some r =>
        have e1 : depthsV p h = (r.1, 0) := by unfold depthsV; rw [if_neg (by simpa using hc), if_neg hr, hx]; simp only [hv]
        have e2 : rdepV p h = (r.1, r.2, 0) := by unfold rdepV; rw [if_neg hr, hx]; simp only [hw, hv]
        refine ⟨by rw [e1, e2], ?_⟩
        unfold mostV
        rw [e1, e2, if_neg (by simp), hx]
        simp only [hv]
theorem depthsV_len (p : Prg) (h : Int) : (depthsV p h).1.length < 4611686018427387904 := by
  unfold depthsV
  split
  · simp
  · rename_i h1
    split
    · simp
    · split
      · rename_i x hx
        have hok := codeOk_of (by simpa using h1) (List.mem_of_getElem? hx)
        rcases walk_good hok with ⟨o, m, e, g⟩ | ⟨e, _⟩
        · rw [e]; simp only [g.len]; have := hok.1; omega
        · rw [e]; simp
      · simp
end Go.Gv

/- What the document's own sends, Sends and Arms answer. Conditions: the program's flow may be. -/
set_option linter.unusedVariables false
set_option linter.unusedSimpArgs false
namespace Go.Gv
open Go.Proofs

def r20s_r0 : List AI := [⟨(some 2), none, (.op (.box 190002 4 (.t 0)))⟩, ⟨(some 4), none, (.op (.mv (.c .nils)))⟩, ⟨(some 5), none, (.op (.mv (.c (.bool false))))⟩]
def r20s_r1 : List AI := [⟨(some 14), none, (.op (.load (some 4) (.t 2)))⟩, ⟨(some 15), none, (.op (.mv (.t 1)))⟩, ⟨(some 16), none, (.call (.c (.fn 26 [])) [(.t 14), (.t 15)])⟩, ⟨(some 13), none, (.op (.mv (.t 16)))⟩, ⟨(some 17), none, (.op (.ext (.t 13) 0))⟩, ⟨(some 18), none, (.op (.ext (.t 13) 1))⟩, ⟨(some 19), none, (.op (.ext (.t 13) 2))⟩, ⟨(some 6), none, (.op (.mv (.t 17)))⟩, ⟨(some 7), none, (.op (.mv (.t 18)))⟩, ⟨(some 8), none, (.op (.mv (.t 19)))⟩]
def r20s_r2 : List AI := [⟨(some 9), none, (.op (.mv (.c .nils)))⟩]
def r20s_r3 : List AI := [⟨(some 10), none, (.op (.mv (.c (.bool false))))⟩]
def r20s_r4 : List AI := [⟨(some 20), none, (.op (.fld 0 (.t 2)))⟩, ⟨(some 21), none, (.op (.load none (.t 20)))⟩, ⟨(some 22), none, (.op (.mv (.t 1)))⟩, ⟨(some 23), none, (.op (.idx 2 (.t 21) (.t 22)))⟩, ⟨(some 24), none, (.op (.fld 1 (.t 23)))⟩, ⟨(some 25), none, (.op (.load none (.t 24)))⟩, ⟨(some 11), none, (.op (.mv (.t 25)))⟩]
def r20s_r5 : List AI := [⟨(some 12), none, (.op (.mv (.c (.int .i64 0))))⟩]
def r20s_r6 : List AI := [⟨(some 26), none, (.op (.mv (.t 12)))⟩, ⟨(some 27), none, (.op (.mv (.t 11)))⟩, ⟨(some 28), none, (.op (.len (.t 27)))⟩, ⟨(some 29), none, (.op (.ibin .lss (.t 26) (.t 28)))⟩]
def r20s_r7 : List AI := [⟨(some 32), none, (.op (.mv (.t 6)))⟩, ⟨(some 33), none, (.op (.mv (.t 12)))⟩, ⟨(some 34), none, (.op (.idx 1 (.t 32) (.t 33)))⟩, ⟨(some 35), none, (.op (.load none (.t 34)))⟩, ⟨(some 36), none, (.op (.ibin .lss (.t 35) (.c (.int .i64 0))))⟩]
def r20s_r8 : List AI := [⟨(some 37), none, (.op (.mv (.t 11)))⟩, ⟨(some 38), none, (.op (.mv (.t 12)))⟩, ⟨(some 39), none, (.op (.idx 2 (.t 37) (.t 38)))⟩, ⟨(some 40), none, (.op (.fld 0 (.t 39)))⟩, ⟨(some 41), none, (.op (.load none (.t 40)))⟩, ⟨(some 42), none, (.op (.ibin .eql (.t 41) (.c (.int .i64 22))))⟩]
def r20s_r9 : List AI := [⟨(some 43), none, (.op (.mv (.t 9)))⟩, ⟨(some 44), none, (.op (.mv (.t 11)))⟩, ⟨(some 45), none, (.op (.mv (.t 12)))⟩, ⟨(some 46), none, (.op (.idx 2 (.t 44) (.t 45)))⟩, ⟨(some 47), none, (.op (.fld 1 (.t 46)))⟩, ⟨(some 48), none, (.op (.load none (.t 47)))⟩, ⟨(some 49), none, (.call (.c (.fn 30 [])) [(.t 43), (.t 48)])⟩, ⟨(some 9), none, (.op (.mv (.t 49)))⟩]
def r20s_r10 : List AI := [⟨(some 50), none, (.op (.mv (.t 10)))⟩, ⟨(some 51), none, (.op (.mv (.t 50)))⟩, ⟨(some 52), (some (51, false)), (.op (.mv (.t 11)))⟩, ⟨(some 53), (some (51, false)), (.op (.mv (.t 12)))⟩, ⟨(some 54), (some (51, false)), (.op (.idx 2 (.t 52) (.t 53)))⟩, ⟨(some 55), (some (51, false)), (.op (.fld 0 (.t 54)))⟩, ⟨(some 56), (some (51, false)), (.op (.load none (.t 55)))⟩, ⟨(some 57), (some (51, false)), (.op (.ibin .eql (.t 56) (.c (.int .i64 23))))⟩, ⟨(some 58), none, (.op (.pick (.t 51) (.c (.bool true)) (.t 57)))⟩, ⟨(some 10), none, (.op (.mv (.t 58)))⟩]
def r20s_r11 : List AI := [⟨(some 30), none, (.op (.mv (.t 12)))⟩, ⟨(some 31), none, (.op (.ibin .add (.t 30) (.c (.int .i64 1))))⟩, ⟨(some 12), none, (.op (.mv (.t 31)))⟩]
def r20s_l0 : AC := (.seq (.seq (.reg r20s_r6) (.cond (.t 29) .skip (.exit 0))) (.seq (.block 1 (.seq (.seq (.reg r20s_r7) (.cond (.t 36) (.exit 1) .skip)) (.seq (.seq (.reg r20s_r8) (.cond (.t 42) (.reg r20s_r9) .skip)) (.reg r20s_r10)))) (.reg r20s_r11)))
def r20s_r12 : List AI := [⟨(some 59), none, (.op (.mv (.t 9)))⟩, ⟨(some 60), none, (.op (.mv (.t 10)))⟩, ⟨(some 4), none, (.op (.mv (.t 59)))⟩, ⟨(some 5), none, (.op (.mv (.t 60)))⟩]
def r20s_c : AC := (.seq (.reg r20s_r0) (.seq (.reg r20s_r1) (.seq (.reg r20s_r2) (.seq (.reg r20s_r3) (.seq (.reg r20s_r4) (.seq (.seq (.reg r20s_r5) (.block 0 (.loop r20s_l0))) (.seq (.reg r20s_r12) .ret)))))))
def r20s_res : List ARes := [(.tmp 4), (.tmp 5)]
set_option maxRecDepth 100000 in
theorem r20s_get : getF Tryz.prog 29 190000 [] = some ("gavotte/gavotteref20.sends", 61, r20s_c, r20s_res) := by kernel_rfl
def r20S_r0 : List AI := [⟨(some 2), none, (.op (.box 191002 4 (.t 0)))⟩, ⟨(some 4), none, (.op (.mv (.c .nils)))⟩]
def r20S_r1 : List AI := [⟨(some 7), none, (.op (.mv (.t 1)))⟩, ⟨(some 8), none, (.op (.ibin .lss (.t 7) (.c (.int .i64 0))))⟩, ⟨(some 9), none, (.op (.mv (.t 8)))⟩, ⟨(some 10), (some (9, false)), (.op (.mv (.t 1)))⟩, ⟨(some 11), (some (9, false)), (.op (.fld 0 (.t 2)))⟩, ⟨(some 12), (some (9, false)), (.op (.load none (.t 11)))⟩, ⟨(some 13), (some (9, false)), (.op (.len (.t 12)))⟩, ⟨(some 14), (some (9, false)), (.op (.ibin .geq (.t 10) (.t 13)))⟩, ⟨(some 15), none, (.op (.pick (.t 9) (.c (.bool true)) (.t 14)))⟩]
def r20S_r2 : List AI := [⟨(some 4), none, (.op (.mv (.c .nils)))⟩]
def r20S_r3 : List AI := [⟨(some 17), none, (.op (.load (some 4) (.t 2)))⟩, ⟨(some 18), none, (.op (.mv (.t 1)))⟩, ⟨(some 19), none, (.call (.c (.fn 29 [])) [(.t 17), (.t 18)])⟩, ⟨(some 16), none, (.op (.mv (.t 19)))⟩, ⟨(some 20), none, (.op (.ext (.t 16) 0))⟩, ⟨(some 21), none, (.op (.ext (.t 16) 1))⟩, ⟨(some 5), none, (.op (.mv (.t 20)))⟩, ⟨(some 6), none, (.op (.mv (.t 21)))⟩]
def r20S_r4 : List AI := [⟨(some 22), none, (.op (.mv (.t 5)))⟩, ⟨(some 4), none, (.op (.mv (.t 22)))⟩]
def r20S_c : AC := (.seq (.reg r20S_r0) (.seq (.seq (.reg r20S_r1) (.cond (.t 15) (.seq (.reg r20S_r2) .ret) .skip)) (.seq (.reg r20S_r3) (.seq (.reg r20S_r4) .ret))))
def r20S_res : List ARes := [(.tmp 4)]
set_option maxRecDepth 100000 in
theorem r20S_get : getF Tryz.prog 11 191000 [] = some ("gavotte/gavotteref20.Sends", 23, r20S_c, r20S_res) := by kernel_rfl
def r20A_r0 : List AI := [⟨(some 2), none, (.op (.box 192002 4 (.t 0)))⟩, ⟨(some 4), none, (.op (.mv (.c (.bool false))))⟩]
def r20A_r1 : List AI := [⟨(some 7), none, (.op (.mv (.t 1)))⟩, ⟨(some 8), none, (.op (.ibin .lss (.t 7) (.c (.int .i64 0))))⟩, ⟨(some 9), none, (.op (.mv (.t 8)))⟩, ⟨(some 10), (some (9, false)), (.op (.mv (.t 1)))⟩, ⟨(some 11), (some (9, false)), (.op (.fld 0 (.t 2)))⟩, ⟨(some 12), (some (9, false)), (.op (.load none (.t 11)))⟩, ⟨(some 13), (some (9, false)), (.op (.len (.t 12)))⟩, ⟨(some 14), (some (9, false)), (.op (.ibin .geq (.t 10) (.t 13)))⟩, ⟨(some 15), none, (.op (.pick (.t 9) (.c (.bool true)) (.t 14)))⟩]
def r20A_r2 : List AI := [⟨(some 4), none, (.op (.mv (.c (.bool false))))⟩]
def r20A_r3 : List AI := [⟨(some 17), none, (.op (.load (some 4) (.t 2)))⟩, ⟨(some 18), none, (.op (.mv (.t 1)))⟩, ⟨(some 19), none, (.call (.c (.fn 29 [])) [(.t 17), (.t 18)])⟩, ⟨(some 16), none, (.op (.mv (.t 19)))⟩, ⟨(some 20), none, (.op (.ext (.t 16) 0))⟩, ⟨(some 21), none, (.op (.ext (.t 16) 1))⟩, ⟨(some 5), none, (.op (.mv (.t 20)))⟩, ⟨(some 6), none, (.op (.mv (.t 21)))⟩]
def r20A_r4 : List AI := [⟨(some 22), none, (.op (.mv (.t 6)))⟩, ⟨(some 4), none, (.op (.mv (.t 22)))⟩]
def r20A_c : AC := (.seq (.reg r20A_r0) (.seq (.seq (.reg r20A_r1) (.cond (.t 15) (.seq (.reg r20A_r2) .ret) .skip)) (.seq (.reg r20A_r3) (.seq (.reg r20A_r4) .ret))))
def r20A_res : List ARes := [(.tmp 4)]
set_option maxRecDepth 100000 in
theorem r20A_get : getF Tryz.prog 17 192000 [] = some ("gavotte/gavotteref20.Arms", 23, r20A_c, r20A_res) := by kernel_rfl
attribute [simp] r20s_r0 r20s_r1 r20s_r2 r20s_r3 r20s_r4 r20s_r5 r20s_r6 r20s_r7 r20s_r8 r20s_r9 r20s_r10 r20s_r11 r20s_r12 r20s_res r20S_r0 r20S_r1 r20S_r2 r20S_r3 r20S_r4 r20S_res r20A_r0 r20A_r1 r20A_r2 r20A_r3 r20A_r4 r20A_res


theorem r20s_pc (p : Prg) (hp : flowV p = 0) (h : Nat) (hh : h < p.hs.length) : PC Tryz.prog 29 [p.av, iv h] (.tup [ints (putL [] (rawH p h)), .bool (arm1 p h)]) := by
  have hc := flowV_check hp
  have ht := (tells_eq hc (h : Int)).1
  obtain ⟨o, m, _, d1, d2, _⟩ := depthsV_ok hp hh
  have hcl := (codeOk_of hc (List.getElem_mem hh)).1
  refine pc_of_get r20s_get (by simp) _ (by simp) _ ?_
  unfold r20s_c
  simp
  refine call (rdep_pc p h (fun x hx => codeOk_of hc hx)) (by simp) ?_
  have e : (rdepV p h).1 = o := by have := congrArg Prod.fst (ht.symm.trans d1); exact this
  have er : rawH p h = rawS p.hs[h].code o p.hs[h].code.length := by unfold rawH; rw [List.getElem?_eq_getElem hh, d1]; rfl
  have ea : arm1 p h = rawA p.hs[h].code o p.hs[h].code.length := by unfold arm1; rw [List.getElem?_eq_getElem hh, d1]; rfl
  rw [er, ea, e]
  simp [hh]
  generalize hcode : p.hs[h].code = code at *
  refine loopN (fun i S => S.t 6 = ints o ∧ S.t 11 = .lst 2 (code.map Ins.av) ∧ S.t 12 = iv i ∧ IsW (S.t 9) (putL [] (rawS code o i)) ∧ S.t 10 = .bool (rawA code o i)) code.length ?_ ?_
  · exact ⟨by simp, by simp, by simp, .inr ⟨by simp, rfl⟩, by simp [rawA]⟩
  · rintro i S hi ⟨g6, g11, g12, g9, g10⟩
    by_cases hlt : i < code.length
    · have hw := wrap_succ i _ hlt (by omega)
      have hdl : i < o.length := by omega
      have r1 := rawS_succ hlt hdl
      have r2 := rawA_succ hlt hdl
      have hl := putL_len (rawS code o i) []
      have hl2 := rawS_len code o i
      simp only [List.length_nil] at hl
      rw [r1, r2, putL_append]
      generalize putL [] (rawS code o i) = w at *
      by_cases hd : o[i] < 0
      · have hd2 : ¬ 0 ≤ o[i] := by omega
        simp [r20s_l0, g6, g11, g12, ints, hlt, hdl, hd, hd2, hw]
        exact ⟨g9, g10⟩
      · have hd2 : 0 ≤ o[i] := by omega
        by_cases h22 : code[i].op = 22
        · simp [r20s_l0, g6, g11, g12, ints, hlt, hdl, hd, hd2, h22]
          refine call (put1_pc w code[i].a (by omega)) (by simp [g9.co0]) ?_
          cases hra : rawA code o i
          · simp [g10, hra, g11, g12, hlt, hw, h22]
            exact ⟨by simp [g6, ints], .inl rfl⟩
          · simp [g10, hra, g11, g12, hlt, hw]
            exact ⟨by simp [g6, ints], .inl rfl⟩
        · cases hra : rawA code o i
          · simp [r20s_l0, g6, g11, g12, ints, hlt, hdl, hd, hd2, h22, g10, hra, hw]
            exact g9
          · simp [r20s_l0, g6, g11, g12, ints, hlt, hdl, hd, hd2, h22, g10, hra, hw]
            exact g9
    · have e1 : i = code.length := by omega
      subst e1
      simp [r20s_l0, g11, g12]
      rcases g9 with g9 | ⟨g9, g9'⟩
      · simp [g9, g10]
      · rw [g9']; simp [g9, g10, ints]
theorem atI_snd (p : Prg) (h : Int) : atI (sndV p) h = if 0 ≤ h ∧ h < p.hs.length then putL [] (rawH p h.toNat) else [] := by
  rw [sndV_put]
  unfold atI
  by_cases h0 : 0 ≤ h
  · rw [if_pos h0]
    by_cases h1 : h < p.hs.length
    · rw [if_pos ⟨h0, h1⟩, List.getElem?_map, List.getElem?_range (by omega)]; rfl
    · rw [if_neg (fun q => h1 q.2), List.getElem?_eq_none (by simp; omega)]; rfl
  · rw [if_neg h0, if_neg (fun q => h0 q.1)]
theorem atB_arms (p : Prg) (h : Int) : atB (armsV p) h = if 0 ≤ h ∧ h < p.hs.length then arm1 p h.toNat else false := by
  unfold atB armsV
  by_cases h0 : 0 ≤ h
  · rw [if_pos h0]
    by_cases h1 : h < p.hs.length
    · rw [if_pos ⟨h0, h1⟩, List.getElem?_map, List.getElem?_range (by omega)]; rfl
    · rw [if_neg (fun q => h1 q.2), List.getElem?_eq_none (by simp; omega)]; rfl
  · rw [if_neg h0, if_neg (fun q => h0 q.1)]
theorem r20S_pc (p : Prg) (hp : flowV p = 0) (h : Int) : PC Tryz.prog 11 [p.av, iv h] (ints (atI (sndV p) h)) := by
  obtain ⟨c1, _⟩ := checkV_zero (flowV_check hp)
  refine pc_of_get r20S_get (by simp) _ (by simp) _ ?_
  unfold r20S_c
  rw [atI_snd]
  by_cases h0 : h < 0
  · have q : ¬ (0 ≤ h ∧ h < p.hs.length) := fun q => by omega
    simp [h0, q, ints]
  · by_cases h1 : (p.hs.length : Int) ≤ h
    · have q : ¬ (0 ≤ h ∧ h < p.hs.length) := fun q => by omega
      simp [h0, h1, q, ints]
    · obtain ⟨n, rfl⟩ : ∃ n : Nat, h = n := ⟨h.toNat, by omega⟩
      have q : 0 ≤ (n : Int) ∧ (n : Int) < p.hs.length := ⟨by omega, by omega⟩
      have qn : n < p.hs.length := by omega
      simp [h0, h1, qn]
      refine call (r20s_pc p hp n (by omega)) (by simp) ?_
      simp [qn]
theorem r20A_pc (p : Prg) (hp : flowV p = 0) (h : Int) : PC Tryz.prog 17 [p.av, iv h] (.bool (atB (armsV p) h)) := by
  obtain ⟨c1, _⟩ := checkV_zero (flowV_check hp)
  refine pc_of_get r20A_get (by simp) _ (by simp) _ ?_
  unfold r20A_c
  rw [atB_arms]
  by_cases h0 : h < 0
  · have q : ¬ (0 ≤ h ∧ h < p.hs.length) := fun q => by omega
    simp [h0, q]
  · by_cases h1 : (p.hs.length : Int) ≤ h
    · have q : ¬ (0 ≤ h ∧ h < p.hs.length) := fun q => by omega
      simp [h0, h1, q]
    · obtain ⟨n, rfl⟩ : ∃ n : Nat, h = n := ⟨h.toNat, by omega⟩
      have q : 0 ≤ (n : Int) ∧ (n : Int) < p.hs.length := ⟨by omega, by omega⟩
      have qn : n < p.hs.length := by omega
      simp [h0, h1, qn]
      refine call (r20s_pc p hp n (by omega)) (by simp) ?_
      simp [qn]

end Go.Gv

/- What the document's own Reaches answers. Condition: the program's flow may be. -/
set_option linter.unusedVariables false
set_option linter.unusedSimpArgs false
namespace Go.Gv
open Go.Proofs

def r20R_r0 : List AI := [⟨(some 2), none, (.op (.box 193002 4 (.t 0)))⟩, ⟨(some 4), none, (.op (.mv (.c .nils)))⟩]
def r20R_r1 : List AI := [⟨(some 11), none, (.op (.load (some 4) (.t 2)))⟩, ⟨(some 12), none, (.op (.mv (.t 1)))⟩, ⟨(some 13), none, (.call (.c (.fn 11 [])) [(.t 11), (.t 12)])⟩, ⟨(some 5), none, (.op (.mv (.t 13)))⟩]
def r20R_r2 : List AI := [⟨(some 6), none, (.op (.mv (.c (.bool true))))⟩]
def r20R_r3 : List AI := [⟨(some 14), none, (.op (.mv (.t 6)))⟩]
def r20R_r4 : List AI := [⟨(some 6), none, (.op (.mv (.c (.bool false))))⟩]
def r20R_r5 : List AI := [⟨(some 7), none, (.op (.mv (.c (.int .i64 0))))⟩]
def r20R_r6 : List AI := [⟨(some 15), none, (.op (.mv (.t 7)))⟩, ⟨(some 16), none, (.op (.mv (.t 5)))⟩, ⟨(some 17), none, (.op (.len (.t 16)))⟩, ⟨(some 18), none, (.op (.ibin .lss (.t 15) (.t 17)))⟩]
def r20R_r7 : List AI := [⟨(some 21), none, (.op (.load (some 4) (.t 2)))⟩, ⟨(some 22), none, (.op (.mv (.t 5)))⟩, ⟨(some 23), none, (.op (.mv (.t 7)))⟩, ⟨(some 24), none, (.op (.idx 1 (.t 22) (.t 23)))⟩, ⟨(some 25), none, (.op (.load none (.t 24)))⟩, ⟨(some 26), none, (.call (.c (.fn 11 [])) [(.t 21), (.t 25)])⟩, ⟨(some 8), none, (.op (.mv (.t 26)))⟩]
def r20R_p7 : List (List Nat) := [[], [], [], [1, 2], [3, 1, 2], [0, 4, 3, 1, 2], [5, 0, 1, 2, 3, 4]]
def r20R_r8 : List AI := [⟨(some 9), none, (.op (.mv (.c (.int .i64 0))))⟩]
def r20R_r9 : List AI := [⟨(some 27), none, (.op (.mv (.t 9)))⟩, ⟨(some 28), none, (.op (.mv (.t 8)))⟩, ⟨(some 29), none, (.op (.len (.t 28)))⟩, ⟨(some 30), none, (.op (.ibin .lss (.t 27) (.t 29)))⟩]
def r20R_r10 : List AI := [⟨(some 33), none, (.op (.mv (.t 5)))⟩, ⟨(some 34), none, (.op (.len (.t 33)))⟩, ⟨(some 10), none, (.op (.mv (.t 34)))⟩]
def r20R_r11 : List AI := [⟨(some 35), none, (.op (.mv (.t 5)))⟩, ⟨(some 36), none, (.op (.mv (.t 8)))⟩, ⟨(some 37), none, (.op (.mv (.t 9)))⟩, ⟨(some 38), none, (.op (.idx 1 (.t 36) (.t 37)))⟩, ⟨(some 39), none, (.op (.load none (.t 38)))⟩, ⟨(some 40), none, (.call (.c (.fn 30 [])) [(.t 35), (.t 39)])⟩, ⟨(some 5), none, (.op (.mv (.t 40)))⟩]
def r20R_r12 : List AI := [⟨(some 41), none, (.op (.mv (.t 6)))⟩, ⟨(some 42), none, (.op (.mv (.t 41)))⟩, ⟨(some 43), (some (42, false)), (.op (.mv (.t 5)))⟩, ⟨(some 44), (some (42, false)), (.op (.len (.t 43)))⟩, ⟨(some 45), (some (42, false)), (.op (.mv (.t 10)))⟩, ⟨(some 46), (some (42, false)), (.op (.ibin .gtr (.t 44) (.t 45)))⟩, ⟨(some 47), none, (.op (.pick (.t 42) (.c (.bool true)) (.t 46)))⟩, ⟨(some 6), none, (.op (.mv (.t 47)))⟩]
def r20R_r13 : List AI := [⟨(some 31), none, (.op (.mv (.t 9)))⟩, ⟨(some 32), none, (.op (.ibin .add (.t 31) (.c (.int .i64 1))))⟩, ⟨(some 9), none, (.op (.mv (.t 32)))⟩]
def r20R_l0 : AC := (.seq (.seq (.reg r20R_r9) (.cond (.t 30) .skip (.exit 4))) (.seq (.block 5 (.seq (.reg r20R_r10) (.seq (.reg r20R_r11) (.reg r20R_r12)))) (.reg r20R_r13)))
def r20R_r14 : List AI := [⟨(some 19), none, (.op (.mv (.t 7)))⟩, ⟨(some 20), none, (.op (.ibin .add (.t 19) (.c (.int .i64 1))))⟩, ⟨(some 7), none, (.op (.mv (.t 20)))⟩]
def r20R_l1 : AC := (.seq (.seq (.reg r20R_r6) (.cond (.t 18) .skip (.exit 2))) (.seq (.block 3 (.seq (.regd r20R_r7 r20R_p7) (.seq (.reg r20R_r8) (.block 4 (.loop r20R_l0))))) (.reg r20R_r14)))
def r20R_l2 : AC := (.seq (.seq (.reg r20R_r3) (.cond (.t 14) .skip (.exit 0))) (.block 1 (.seq (.reg r20R_r4) (.seq (.reg r20R_r5) (.block 2 (.loop r20R_l1))))))
def r20R_r15 : List AI := [⟨(some 48), none, (.op (.mv (.t 5)))⟩, ⟨(some 4), none, (.op (.mv (.t 48)))⟩]
def r20R_c : AC := (.seq (.reg r20R_r0) (.seq (.reg r20R_r1) (.seq (.seq (.reg r20R_r2) (.block 0 (.loop r20R_l2))) (.seq (.reg r20R_r15) .ret))))
def r20R_res : List ARes := [(.tmp 4)]
set_option maxRecDepth 100000 in
theorem r20R_get : getF Tryz.prog 13 193000 [] = some ("gavotte/gavotteref20.Reaches", 49, r20R_c, r20R_res) := by kernel_rfl
attribute [simp] r20R_r0 r20R_r1 r20R_r2 r20R_r3 r20R_r4 r20R_r5 r20R_r6 r20R_r7 r20R_p7 r20R_r8 r20R_r9 r20R_r10 r20R_r11 r20R_r12 r20R_r13 r20R_r14 r20R_r15 r20R_res


theorem put1_grow (x : Int) : ∀ l : List Int, l.length ≤ (put1 l x).length ∧ ((put1 l x).length ≤ l.length → put1 l x = l ∧ x ∈ l)
  | [] => by simp [put1]
  | z :: l => by
    have ih := put1_grow x l
    simp only [put1]
    split
    · simp only [List.length_cons]
      refine ⟨by omega, fun q => ?_⟩
      obtain ⟨a, b⟩ := ih.2 (by omega)
      exact ⟨by rw [a], List.mem_cons_of_mem _ b⟩
    · split
      · rename_i e; subst e; simp
      · simp
theorem Up.sub_len {l m : List Int} (hl : Up l) (hm : Up m) (h : ∀ x ∈ l, x ∈ m) : l.length ≤ m.length := by
  have e : l = m.filter (fun x => decide (x ∈ l)) := Up.ext hl (List.Pairwise.filter _ hm) (fun x => by
    simp only [List.mem_filter, decide_eq_true_eq]
    exact ⟨fun q => ⟨h x q, q⟩, fun q => q.2⟩)
  exact Nat.le_trans (Nat.le_of_eq (congrArg List.length e)) (List.length_filter_le _ _)
structure InvR (p : Prg) (h : Int) (L : List Int) : Prop where
  up : Up L
  rea : ∀ x ∈ L, Rea (sndV p) (atI (sndV p) h) x
  base : ∀ x ∈ atI (sndV p) h, x ∈ L
theorem snd_inn {p : Prg} (hp : flowV p = 0) (h : Int) : InN (sndV p).length (atI (sndV p) h) := by
  by_cases hh : 0 ≤ h ∧ h < p.hs.length
  · rw [sndV_at p h hh]; exact sndOf_in (sndV_in hp) h
  · rw [sndV_out p h hh]; intro x hx; simp at hx
theorem InvR.len {p : Prg} (hp : flowV p = 0) {h : Int} {L : List Int} (q : InvR p h L) : L.length ≤ p.hs.length := by
  have h1 := Up.sub_len q.up (closedV_up (sndV p) (atI (sndV p) h)) (fun x hx => (closedV_mem (sndV_in hp) (snd_inn hp h) x).2 (q.rea x hx))
  have h2 := closedV_len (sndV p) (atI (sndV p) h)
  rw [sndV_len] at h2
  omega
theorem InvR.put {p : Prg} {h : Int} {L : List Int} (q : InvR p h L) {x : Int} (hx : Rea (sndV p) (atI (sndV p) h) x) : InvR p h (put1 L x) :=
  ⟨put1_up q.up, fun y hy => by
    rcases put1_mem.1 hy with r | r
    · rw [r]; exact hx
    · exact q.rea y r, fun y hy => put1_mem.2 (.inr (q.base y hy))⟩
theorem InvR.fin {p : Prg} (hp : flowV p = 0) {h : Int} {L : List Int} (q : InvR p h L) (hc : ∀ y ∈ L, ∀ z ∈ atI (sndV p) y, z ∈ L) : L = atI (reaV p) h := by
  by_cases hh : 0 ≤ h ∧ h < p.hs.length
  · exact rea_unique hp hh q.up q.base hc q.rea
  · rw [reaV_at, if_neg hh]
    have e := sndV_out p h hh
    cases L with
    | nil => rfl
    | cons y L =>
      have hr := q.rea y (by simp)
      rw [e] at hr
      have : ∀ z, ¬ Rea (sndV p) [] z := by
        intro z hz
        induction hz with
        | base q => simp at q
        | step _ _ ih => exact ih
      exact absurd hr (this y)
theorem IsW.len {v : AV} {w : List Int} (h : IsW v w) : lenOf v = some w.length := by
  rcases h with rfl | ⟨rfl, rfl⟩ <;> simp [ints]
def BoxP (nm : Nat) (p : Prg) (t : Nat) (S : St) : Prop := ∃ s2, S.t t = .ptr nm s2 4 0 0 ∧ S.blk nm = some ⟨s2, 4, [p.av]⟩
theorem r20R_in0 (p : Prg) (h : Int) (L1 s : List Int) (i : Nat) (ag1 : Bool) (hp : flowV p = 0) (hs : ∀ z ∈ s, Rea (sndV p) (atI (sndV p) h) z) (hsl : s.length ≤ 1000) {κ : Ex → St → Prop}
    (hκ : ∀ S L ag, BoxP 193002 p 2 S → IsW (S.t 5) L → S.t 6 = .bool ag → S.t 7 = iv i → InvR p h L → L1.length ≤ L.length → (ag = false → ag1 = false ∧ L = L1 ∧ ∀ z ∈ s, z ∈ L) → (ag = true → ag1 = true ∨ L1.length < L.length) → κ (.exit 4) S) (S : St)
    (hb : BoxP 193002 p 2 S) (h5 : IsW (S.t 5) L1) (h6 : S.t 6 = .bool ag1) (h7 : S.t 7 = iv i) (h8 : S.t 8 = ints s) (h9 : S.t 9 = iv 0) (hI : InvR p h L1) : LoopG Tryz.prog r20R_l0 κ S .mk := by
  refine loopN (fun j S => BoxP 193002 p 2 S ∧ S.t 8 = ints s ∧ S.t 9 = iv j ∧ S.t 7 = iv i ∧ ∃ L ag, IsW (S.t 5) L ∧ S.t 6 = .bool ag ∧ InvR p h L ∧ L1.length ≤ L.length ∧ (ag = false → ag1 = false ∧ L = L1 ∧ ∀ z ∈ s.take j, z ∈ L) ∧ (ag = true → ag1 = true ∨ L1.length < L.length)) s.length ⟨hb, h8, by simpa using h9, h7, L1, ag1, h5, h6, hI, Nat.le_refl _, fun q => ⟨q, rfl, by simp⟩, fun q => .inl q⟩ ?_
  clear hb h5 h6 h7 h8 h9 hI S
  rintro j S hj ⟨⟨s2, g2, b2⟩, h8, h9, h7, L, ag, h5, h6, hI, hle, hf, ht⟩
  by_cases hlt : j < s.length
  · have hw := wrap_succ j _ hlt (by omega)
    have hLn := hI.len hp
    obtain ⟨c1, _⟩ := checkV_zero (flowV_check hp)
    obtain ⟨gr1, gr2⟩ := put1_grow s[j] L
    have hI2 := hI.put (hs _ (List.getElem_mem hlt))
    have htk : ∀ z, z ∈ s.take (j + 1) ↔ z ∈ s.take j ∨ z = s[j] := by
      intro z; rw [List.take_succ_eq_append_getElem hlt, List.mem_append, List.mem_singleton]
    simp [r20R_l0, h8, h9, ints, hlt, h5.len]
    refine call (put1_pc L s[j] (by omega)) (by simp [h5.co0]) ?_
    cases ag with
    | true =>
      simp [h6, h9, hw, hlt]
      refine ⟨⟨s2, by simp [g2], by simp [b2]⟩, by simp [h8, ints], by simp [h7], put1 L s[j], .inl rfl, hI2, by omega, ?_⟩
      rcases ht rfl with q | q
      · exact .inl q
      · exact .inr (by omega)
    | false =>
      obtain ⟨f1, f2, f3⟩ := hf rfl
      by_cases hg : L.length < (put1 L s[j]).length
      · simp [h6, h9, hw, hlt, ints, hg]
        exact ⟨⟨s2, by simp [g2], by simp [b2]⟩, by simp [h8, ints], by simp [h7], put1 L s[j], .inl rfl, hI2, by omega, .inr (by omega)⟩
      · obtain ⟨e1, e2⟩ := gr2 (by omega)
        simp [h6, h9, hw, hlt, ints, hg]
        refine ⟨⟨s2, by simp [g2], by simp [b2]⟩, by simp [h8, ints], by simp [h7], put1 L s[j], .inl rfl, hI2, by omega, f1, by rw [e1]; exact f2, fun z hz => ?_⟩
        rw [e1]
        rcases (htk z).1 hz with q | q
        · exact f3 z q
        · rw [q]; exact e2
  · have e1 : j = s.length := by omega
    subst e1
    rw [List.take_length] at hf
    simp [r20R_l0, h8, h9, ints]
    exact hκ _ L ag ⟨s2, by simp [g2], by simp [b2]⟩ (by simpa using h5) (by simp [h6]) (by simp [h7]) hI hle hf ht
def RI1 (p : Prg) (h : Int) (L0 : List Int) (m : Nat) (S : St) : Prop := BoxP 193002 p 2 S ∧ ∃ (L : List Int) (ag : Bool) (i : Nat), i ≤ L.length ∧ m + i = p.hs.length ∧ S.t 7 = iv i ∧ IsW (S.t 5) L ∧ S.t 6 = .bool ag ∧ InvR p h L ∧ L0.length ≤ L.length ∧ (ag = true → L0.length < L.length) ∧
    (ag = false → ∀ (j : Nat) (hj : j < L.length), j < i → ∀ z ∈ atI (sndV p) L[j], z ∈ L)
def RI2 (p : Prg) (h : Int) (m : Nat) (S : St) : Prop := BoxP 193002 p 2 S ∧ ∃ (L : List Int) (ag : Bool), IsW (S.t 5) L ∧ S.t 6 = .bool ag ∧ InvR p h L ∧ (ag = false → ∀ y ∈ L, ∀ z ∈ atI (sndV p) y, z ∈ L) ∧ 2 * (p.hs.length - L.length) + (if ag = true then 1 else 0) ≤ m
theorem r20R_in1 (p : Prg) (h : Int) (L0 : List Int) (hp : flowV p = 0) {κ : Ex → St → Prop}
    (hκ : ∀ S L ag, BoxP 193002 p 2 S → IsW (S.t 5) L → S.t 6 = .bool ag → InvR p h L → L0.length ≤ L.length → (ag = true → L0.length < L.length) → (ag = false → ∀ y ∈ L, ∀ z ∈ atI (sndV p) y, z ∈ L) → κ (.exit 2) S) (S : St)
    (hb : BoxP 193002 p 2 S) (h5 : IsW (S.t 5) L0) (h6 : S.t 6 = .bool false) (h7 : S.t 7 = iv 0) (hI : InvR p h L0) : LoopG Tryz.prog r20R_l1 κ S .mk := by
  refine loopM (RI1 p h L0) p.hs.length ⟨hb, L0, false, 0, by omega, by omega, by simpa using h7, h5, h6, hI, Nat.le_refl _, by simp, by simp⟩ ?_
  clear hb h5 h6 h7 hI S
  rintro m S ⟨⟨s2, g2, b2⟩, L, ag, i, hi, hm, h7, h5, h6, hI, hle, ht, hf⟩
  obtain ⟨c1, _⟩ := checkV_zero (flowV_check hp)
  have hLn := hI.len hp
  by_cases hlt : i < L.length
  · have hw := wrap_succ i _ hlt (by omega)
    have hsb := atI_bound (sndV_bound hp) L[i]
    have h5' : S.t 5 = ints L := by
      rcases h5 with q | ⟨_, q⟩
      · exact q
      · rw [q] at hlt; simp at hlt
    simp [r20R_l1, h7, h5', ints, hlt, g2, b2]
    refine calld (r20S_pc p hp L[i]) (by simp) ?_
    simp
    refine r20R_in0 p h L (atI (sndV p) L[i]) i ag hp (fun z hz => Rea.of_send hp (snd_inn hp h) (hI.rea _ (List.getElem_mem hlt)) hz) (by omega) ?_ _ ⟨s2, by simp [g2], by simp [b2]⟩ (.inl (by simp [h5', ints])) (by simp [h6]) (by simp [h7]) (by simp) (by simp) hI
    rintro S2 L2 ag2 ⟨s2', g2', b2'⟩ q5 q6 q7 qI ql qf qt
    simp [q7, hw, hlt]
    refine ⟨m - 1, by omega, ⟨s2', by simp [g2'], by simp [b2']⟩, L2, ag2, i + 1, by omega, by omega, by simp, by simpa using q5, by simp [q6], qI, by omega, fun q => ?_, fun q j hj hji z hz => ?_⟩
    · rcases qt q with r | r
      · have := ht r; omega
      · omega
    · obtain ⟨r1, r2, r3⟩ := qf q
      subst r2
      rcases Nat.lt_or_eq_of_le (Nat.le_of_lt_succ hji) with r | r
      · exact hf r1 j hj r z hz
      · subst r; exact r3 z hz
  · have e1 : i = L.length := by omega
    simp [r20R_l1, h7, h5.len, e1]
    refine hκ _ L ag ⟨s2, by simp [g2], by simp [b2]⟩ (by simpa using h5) (by simp [h6]) hI hle ht (fun q y hy z hz => ?_)
    obtain ⟨j, hj, rfl⟩ := List.getElem_of_mem hy
    exact hf q j hj (by omega) z hz
theorem r20R_pc (p : Prg) (hp : flowV p = 0) (h : Int) : PC Tryz.prog 13 [p.av, iv h] (ints (atI (reaV p) h)) := by
  obtain ⟨c1, _⟩ := checkV_zero (flowV_check hp)
  have hsb := atI_bound (sndV_bound hp) h
  refine pc_of_get r20R_get (by simp) _ (by simp) _ ?_
  unfold r20R_c
  simp
  refine call (r20S_pc p hp h) (by simp) ?_
  simp
  refine loopM (RI2 p h) (2 * p.hs.length + 1) ?_ ?_
  · refine ⟨by simp [BoxP], atI (sndV p) h, true, .inl (by simp), by simp, ⟨?_, fun x hx => .base hx, fun x hx => hx⟩, by simp, by simp; omega⟩
    rw [atI_snd]
    split
    · exact putL_up (by simp [Up])
    · simp [Up]
  · rintro m S ⟨⟨s2, g2, b2⟩, L, ag, h5, h6, hI, hf, hm⟩
    cases ag with
    | false =>
      have e := hI.fin hp (hf rfl)
      simp [r20R_l2, h6]
      rw [← e]
      rcases h5 with q | ⟨q, q'⟩
      · simp [q]
      · rw [q']; simp [q, ints]
    | true =>
      simp [r20R_l2, h6]
      refine r20R_in1 p h L hp ?_ _ ⟨s2, by simp [g2], by simp [b2]⟩ (by simpa using h5) (by simp) (by simp) hI
      rintro S2 L2 ag2 ⟨s2', g2', b2'⟩ q5 q6 qI ql qt qf
      have l1 := hI.len hp
      have l2 := qI.len hp
      simp at hm
      simp
      refine ⟨2 * (p.hs.length - L2.length) + (if ag2 = true then 1 else 0), ?_, ⟨s2', by simp [g2'], by simp [b2']⟩, L2, ag2, by simpa using q5, by simp [q6], qI, qf, Nat.le_refl _⟩
      cases ag2 with
      | false => simp; omega
      | true => have := qt rfl; simp; omega

end Go.Gv

/- What the document's own Live answers. Condition: the program's flow may be. -/
set_option linter.unusedVariables false
set_option linter.unusedSimpArgs false
namespace Go.Gv
open Go.Proofs

def r20L_r0 : List AI := [⟨(some 1), none, (.op (.box 194001 4 (.t 0)))⟩, ⟨(some 2), none, (.op (.mv (.c .nils)))⟩]
def r20L_r1 : List AI := [⟨(some 3), none, (.op (.mv (.c .nils)))⟩]
def r20L_r2 : List AI := [⟨(some 4), none, (.op (.mv (.c (.int .i64 0))))⟩]
def r20L_r3 : List AI := [⟨(some 15), none, (.op (.mv (.t 4)))⟩, ⟨(some 16), none, (.op (.fld 2 (.t 1)))⟩, ⟨(some 17), none, (.op (.load none (.t 16)))⟩, ⟨(some 18), none, (.op (.len (.t 17)))⟩, ⟨(some 19), none, (.op (.ibin .lss (.t 15) (.t 18)))⟩]
def r20L_r4 : List AI := [⟨(some 22), none, (.op (.mv (.t 3)))⟩, ⟨(some 23), none, (.op (.fld 2 (.t 1)))⟩, ⟨(some 24), none, (.op (.load none (.t 23)))⟩, ⟨(some 25), none, (.op (.mv (.t 4)))⟩, ⟨(some 26), none, (.op (.idx 3 (.t 24) (.t 25)))⟩, ⟨(some 27), none, (.op (.fld 1 (.t 26)))⟩, ⟨(some 28), none, (.op (.load none (.t 27)))⟩, ⟨(some 29), none, (.call (.c (.fn 30 [])) [(.t 22), (.t 28)])⟩, ⟨(some 3), none, (.op (.mv (.t 29)))⟩]
def r20L_r5 : List AI := [⟨(some 20), none, (.op (.mv (.t 4)))⟩, ⟨(some 21), none, (.op (.ibin .add (.t 20) (.c (.int .i64 1))))⟩, ⟨(some 4), none, (.op (.mv (.t 21)))⟩]
def r20L_l0 : AC := (.seq (.seq (.reg r20L_r3) (.cond (.t 19) .skip (.exit 0))) (.seq (.block 1 (.reg r20L_r4)) (.reg r20L_r5)))
def r20L_r6 : List AI := [⟨(some 5), none, (.op (.mv (.c (.int .i64 0))))⟩]
def r20L_r7 : List AI := [⟨(some 30), none, (.op (.mv (.t 5)))⟩, ⟨(some 31), none, (.op (.fld 1 (.t 1)))⟩, ⟨(some 32), none, (.op (.load none (.t 31)))⟩, ⟨(some 33), none, (.op (.len (.t 32)))⟩, ⟨(some 34), none, (.op (.ibin .lss (.t 30) (.t 33)))⟩]
def r20L_r8 : List AI := [⟨(some 37), none, (.op (.fld 1 (.t 1)))⟩, ⟨(some 38), none, (.op (.load none (.t 37)))⟩, ⟨(some 39), none, (.op (.mv (.t 5)))⟩, ⟨(some 40), none, (.op (.idx 4 (.t 38) (.t 39)))⟩, ⟨(some 41), none, (.op (.fld 3 (.t 40)))⟩, ⟨(some 42), none, (.op (.load none (.t 41)))⟩]
def r20L_r9 : List AI := [⟨(some 43), none, (.op (.mv (.t 3)))⟩, ⟨(some 44), none, (.op (.fld 1 (.t 1)))⟩, ⟨(some 45), none, (.op (.load none (.t 44)))⟩, ⟨(some 46), none, (.op (.mv (.t 5)))⟩, ⟨(some 47), none, (.op (.idx 4 (.t 45) (.t 46)))⟩, ⟨(some 48), none, (.op (.fld 2 (.t 47)))⟩, ⟨(some 49), none, (.op (.load none (.t 48)))⟩, ⟨(some 50), none, (.call (.c (.fn 30 [])) [(.t 43), (.t 49)])⟩, ⟨(some 3), none, (.op (.mv (.t 50)))⟩]
def r20L_r10 : List AI := [⟨(some 35), none, (.op (.mv (.t 5)))⟩, ⟨(some 36), none, (.op (.ibin .add (.t 35) (.c (.int .i64 1))))⟩, ⟨(some 5), none, (.op (.mv (.t 36)))⟩]
def r20L_l1 : AC := (.seq (.seq (.reg r20L_r7) (.cond (.t 34) .skip (.exit 2))) (.seq (.block 3 (.seq (.reg r20L_r8) (.cond (.t 42) (.reg r20L_r9) .skip))) (.reg r20L_r10)))
def r20L_r11 : List AI := [⟨(some 6), none, (.op (.mv (.c (.bool true))))⟩]
def r20L_r12 : List AI := [⟨(some 51), none, (.op (.mv (.t 6)))⟩]
def r20L_r13 : List AI := [⟨(some 52), none, (.op (.mv (.t 3)))⟩, ⟨(some 53), none, (.op (.len (.t 52)))⟩, ⟨(some 7), none, (.op (.mv (.t 53)))⟩]
def r20L_r14 : List AI := [⟨(some 8), none, (.op (.mv (.c (.bool false))))⟩]
def r20L_r15 : List AI := [⟨(some 9), none, (.op (.mv (.c (.int .i64 0))))⟩]
def r20L_r16 : List AI := [⟨(some 54), none, (.op (.mv (.t 9)))⟩, ⟨(some 55), none, (.op (.mv (.t 3)))⟩, ⟨(some 56), none, (.op (.len (.t 55)))⟩, ⟨(some 57), none, (.op (.ibin .lss (.t 54) (.t 56)))⟩]
def r20L_r17 : List AI := [⟨(some 60), none, (.op (.mv (.t 8)))⟩, ⟨(some 61), none, (.op (.mv (.t 60)))⟩, ⟨(some 62), (some (61, false)), (.op (.load (some 4) (.t 1)))⟩, ⟨(some 63), (some (61, false)), (.op (.mv (.t 3)))⟩, ⟨(some 64), (some (61, false)), (.op (.mv (.t 9)))⟩, ⟨(some 65), (some (61, false)), (.op (.idx 1 (.t 63) (.t 64)))⟩, ⟨(some 66), (some (61, false)), (.op (.load none (.t 65)))⟩, ⟨(some 67), (some (61, false)), (.call (.c (.fn 17 [])) [(.t 62), (.t 66)])⟩, ⟨(some 68), none, (.op (.pick (.t 61) (.c (.bool true)) (.t 67)))⟩, ⟨(some 8), none, (.op (.mv (.t 68)))⟩]
def r20L_p17 : List (List Nat) := [[], [0], [1, 0], [1, 0], [1, 0], [3, 4, 1, 0], [5, 1, 3, 4, 0], [2, 6, 1, 0, 5, 3, 4], [1, 7, 0, 2, 6, 5, 3, 4], [8, 7, 0, 1, 2, 3, 4, 5, 6]]
def r20L_r18 : List AI := [⟨(some 58), none, (.op (.mv (.t 9)))⟩, ⟨(some 59), none, (.op (.ibin .add (.t 58) (.c (.int .i64 1))))⟩, ⟨(some 9), none, (.op (.mv (.t 59)))⟩]
def r20L_l2 : AC := (.seq (.seq (.reg r20L_r16) (.cond (.t 57) .skip (.exit 6))) (.seq (.block 7 (.regd r20L_r17 r20L_p17)) (.reg r20L_r18)))
def r20L_r19 : List AI := [⟨(some 69), none, (.op (.bsl 194069 1 3 0 (.int .i64 0) []))⟩, ⟨(some 70), none, (.op (.mv (.t 3)))⟩, ⟨(some 71), none, (.op (.app 194071 1 3 8 (.t 69) (.t 70)))⟩, ⟨(some 10), none, (.op (.mv (.t 71)))⟩]
def r20L_r20 : List AI := [⟨(some 11), none, (.op (.mv (.c (.int .i64 0))))⟩]
def r20L_r21 : List AI := [⟨(some 72), none, (.op (.mv (.t 11)))⟩, ⟨(some 73), none, (.op (.mv (.t 10)))⟩, ⟨(some 74), none, (.op (.len (.t 73)))⟩, ⟨(some 75), none, (.op (.ibin .lss (.t 72) (.t 74)))⟩]
def r20L_r22 : List AI := [⟨(some 78), none, (.op (.load (some 4) (.t 1)))⟩, ⟨(some 79), none, (.op (.mv (.t 10)))⟩, ⟨(some 80), none, (.op (.mv (.t 11)))⟩, ⟨(some 81), none, (.op (.idx 1 (.t 79) (.t 80)))⟩, ⟨(some 82), none, (.op (.load none (.t 81)))⟩, ⟨(some 83), none, (.call (.c (.fn 13 [])) [(.t 78), (.t 82)])⟩, ⟨(some 12), none, (.op (.mv (.t 83)))⟩]
def r20L_p22 : List (List Nat) := [[], [], [], [1, 2], [3, 1, 2], [0, 4, 3, 1, 2], [5, 0, 1, 2, 3, 4]]
def r20L_r23 : List AI := [⟨(some 13), none, (.op (.mv (.c (.int .i64 0))))⟩]
def r20L_r24 : List AI := [⟨(some 84), none, (.op (.mv (.t 13)))⟩, ⟨(some 85), none, (.op (.mv (.t 12)))⟩, ⟨(some 86), none, (.op (.len (.t 85)))⟩, ⟨(some 87), none, (.op (.ibin .lss (.t 84) (.t 86)))⟩]
def r20L_r25 : List AI := [⟨(some 90), none, (.op (.mv (.t 3)))⟩, ⟨(some 91), none, (.op (.mv (.t 12)))⟩, ⟨(some 92), none, (.op (.mv (.t 13)))⟩, ⟨(some 93), none, (.op (.idx 1 (.t 91) (.t 92)))⟩, ⟨(some 94), none, (.op (.load none (.t 93)))⟩, ⟨(some 95), none, (.call (.c (.fn 30 [])) [(.t 90), (.t 94)])⟩, ⟨(some 3), none, (.op (.mv (.t 95)))⟩]
def r20L_r26 : List AI := [⟨(some 88), none, (.op (.mv (.t 13)))⟩, ⟨(some 89), none, (.op (.ibin .add (.t 88) (.c (.int .i64 1))))⟩, ⟨(some 13), none, (.op (.mv (.t 89)))⟩]
def r20L_l3 : AC := (.seq (.seq (.reg r20L_r24) (.cond (.t 87) .skip (.exit 10))) (.seq (.block 11 (.reg r20L_r25)) (.reg r20L_r26)))
def r20L_r27 : List AI := [⟨(some 76), none, (.op (.mv (.t 11)))⟩, ⟨(some 77), none, (.op (.ibin .add (.t 76) (.c (.int .i64 1))))⟩, ⟨(some 11), none, (.op (.mv (.t 77)))⟩]
def r20L_l4 : AC := (.seq (.seq (.reg r20L_r21) (.cond (.t 75) .skip (.exit 8))) (.seq (.block 9 (.seq (.regd r20L_r22 r20L_p22) (.seq (.reg r20L_r23) (.block 10 (.loop r20L_l3))))) (.reg r20L_r27)))
def r20L_r28 : List AI := [⟨(some 14), none, (.op (.mv (.c (.int .i64 0))))⟩]
def r20L_r29 : List AI := [⟨(some 96), none, (.op (.mv (.t 14)))⟩, ⟨(some 97), none, (.op (.fld 1 (.t 1)))⟩, ⟨(some 98), none, (.op (.load none (.t 97)))⟩, ⟨(some 99), none, (.op (.len (.t 98)))⟩, ⟨(some 100), none, (.op (.ibin .lss (.t 96) (.t 99)))⟩, ⟨(some 101), none, (.op (.mv (.t 100)))⟩, ⟨(some 102), (some (101, true)), (.op (.mv (.t 8)))⟩, ⟨(some 103), none, (.op (.pick (.t 101) (.t 102) (.c (.bool false))))⟩]
def r20L_r30 : List AI := [⟨(some 106), none, (.op (.fld 1 (.t 1)))⟩, ⟨(some 107), none, (.op (.load none (.t 106)))⟩, ⟨(some 108), none, (.op (.mv (.t 14)))⟩, ⟨(some 109), none, (.op (.idx 4 (.t 107) (.t 108)))⟩, ⟨(some 110), none, (.op (.fld 2 (.t 109)))⟩, ⟨(some 111), none, (.op (.load none (.t 110)))⟩, ⟨(some 112), none, (.op (.ibin .geq (.t 111) (.c (.int .i64 0))))⟩]
def r20L_r31 : List AI := [⟨(some 113), none, (.op (.mv (.t 3)))⟩, ⟨(some 114), none, (.op (.fld 1 (.t 1)))⟩, ⟨(some 115), none, (.op (.load none (.t 114)))⟩, ⟨(some 116), none, (.op (.mv (.t 14)))⟩, ⟨(some 117), none, (.op (.idx 4 (.t 115) (.t 116)))⟩, ⟨(some 118), none, (.op (.fld 2 (.t 117)))⟩, ⟨(some 119), none, (.op (.load none (.t 118)))⟩, ⟨(some 120), none, (.call (.c (.fn 30 [])) [(.t 113), (.t 119)])⟩, ⟨(some 3), none, (.op (.mv (.t 120)))⟩]
def r20L_r32 : List AI := [⟨(some 104), none, (.op (.mv (.t 14)))⟩, ⟨(some 105), none, (.op (.ibin .add (.t 104) (.c (.int .i64 1))))⟩, ⟨(some 14), none, (.op (.mv (.t 105)))⟩]
def r20L_l5 : AC := (.seq (.seq (.reg r20L_r29) (.cond (.t 103) .skip (.exit 12))) (.seq (.block 13 (.seq (.reg r20L_r30) (.cond (.t 112) (.reg r20L_r31) .skip))) (.reg r20L_r32)))
def r20L_r33 : List AI := [⟨(some 121), none, (.op (.mv (.t 3)))⟩, ⟨(some 122), none, (.op (.len (.t 121)))⟩, ⟨(some 123), none, (.op (.mv (.t 7)))⟩, ⟨(some 124), none, (.op (.ibin .gtr (.t 122) (.t 123)))⟩, ⟨(some 6), none, (.op (.mv (.t 124)))⟩]
def r20L_l6 : AC := (.seq (.seq (.reg r20L_r12) (.cond (.t 51) .skip (.exit 4))) (.block 5 (.seq (.reg r20L_r13) (.seq (.reg r20L_r14) (.seq (.seq (.reg r20L_r15) (.block 6 (.loop r20L_l2))) (.seq (.reg r20L_r19) (.seq (.seq (.reg r20L_r20) (.block 8 (.loop r20L_l4))) (.seq (.seq (.reg r20L_r28) (.block 12 (.loop r20L_l5))) (.reg r20L_r33)))))))))
def r20L_r34 : List AI := [⟨(some 125), none, (.op (.mv (.t 3)))⟩, ⟨(some 2), none, (.op (.mv (.t 125)))⟩]
def r20L_c : AC := (.seq (.reg r20L_r0) (.seq (.reg r20L_r1) (.seq (.seq (.reg r20L_r2) (.block 0 (.loop r20L_l0))) (.seq (.seq (.reg r20L_r6) (.block 2 (.loop r20L_l1))) (.seq (.seq (.reg r20L_r11) (.block 4 (.loop r20L_l6))) (.seq (.reg r20L_r34) .ret))))))
def r20L_res : List ARes := [(.tmp 2)]
set_option maxRecDepth 100000 in
theorem r20L_get : getF Tryz.prog 15 194000 [] = some ("gavotte/gavotteref20.Live", 126, r20L_c, r20L_res) := by kernel_rfl
attribute [simp] r20L_r0 r20L_r1 r20L_r2 r20L_r3 r20L_r4 r20L_r5 r20L_r6 r20L_r7 r20L_r8 r20L_r9 r20L_r10 r20L_r11 r20L_r12 r20L_r13 r20L_r14 r20L_r15 r20L_r16 r20L_r17 r20L_p17 r20L_r18 r20L_r19 r20L_r20 r20L_r21 r20L_r22 r20L_p22 r20L_r23 r20L_r24 r20L_r25 r20L_r26 r20L_r27 r20L_r28 r20L_r29 r20L_r30 r20L_r31 r20L_r32 r20L_r33 r20L_r34 r20L_res


structure InvL (p : Prg) (L : List Int) : Prop where
  up : Up L
  live : ∀ x ∈ L, x ∈ liveP p
  base : ∀ x ∈ firstV p, x ∈ L
theorem live_up (p : Prg) : Up (liveP p) := by unfold liveP liveV; exact closedV_up _ _
theorem InvL.len {p : Prg} {L : List Int} (q : InvL p L) : L.length ≤ p.hs.length :=
  Nat.le_trans (Up.sub_len q.up (live_up p) q.live) (liveP_len p)
theorem InvL.putL {p : Prg} {L m : List Int} (q : InvL p L) (hm : ∀ x ∈ m, x ∈ liveP p) : InvL p (putL L m) :=
  ⟨putL_up q.up, fun y hy => by
    rcases putL_mem.1 hy with r | r
    · exact q.live y r
    · exact hm y r, fun y hy => putL_mem.2 (.inl (q.base y hy))⟩
theorem putL_one (l : List Int) (x : Int) : put1 l x = Go.Gv.putL l [x] := rfl
theorem putL_take (l m : List Int) (i : Nat) (h : i < m.length) : Go.Gv.putL l (m.take (i + 1)) = put1 (Go.Gv.putL l (m.take i)) m[i] := by
  rw [List.take_succ_eq_append_getElem h, putL_append]; rfl
/-- What is live by one, and by what it reaches. -/
def liveG (p : Prg) (L : List Int) (i : Nat) : List Int := Go.Gv.putL L ((L.take i).flatMap (atI (reaV p)))
theorem liveG_zero (p : Prg) (L : List Int) : liveG p L 0 = L := by simp [liveG, Go.Gv.putL]
theorem liveG_succ (p : Prg) (L : List Int) (i : Nat) (h : i < L.length) : liveG p L (i + 1) = Go.Gv.putL (liveG p L i) (atI (reaV p) L[i]) := by
  unfold liveG
  rw [List.take_succ_eq_append_getElem h, List.flatMap_append, putL_append]
  simp
theorem InvL.G {p : Prg} (hp : flowV p = 0) {L : List Int} (q : InvL p L) (i : Nat) : InvL p (liveG p L i) := by
  refine q.putL (fun x hx => ?_)
  obtain ⟨y, h1, h2⟩ := List.mem_flatMap.1 hx
  exact live_closed hp (q.live y (List.mem_of_mem_take h1)) h2
def tmT (p : Prg) (i : Nat) : List Int := ((p.as.take i).filter fun a => decide (0 ≤ a.timer)).map Actr.timer
def amT (p : Prg) (i : Nat) : List Int := ((p.as.take i).filter fun a => a.armed).map Actr.timer
theorem tmT_succ (p : Prg) (i : Nat) (h : i < p.as.length) : tmT p (i + 1) = if 0 ≤ p.as[i].timer then tmT p i ++ [p.as[i].timer] else tmT p i := by
  unfold tmT
  rw [List.take_succ_eq_append_getElem h, List.filter_append]
  split <;> rename_i q <;> simp [q]
theorem amT_succ (p : Prg) (i : Nat) (h : i < p.as.length) : amT p (i + 1) = if p.as[i].armed = true then amT p i ++ [p.as[i].timer] else amT p i := by
  unfold amT
  rw [List.take_succ_eq_append_getElem h, List.filter_append]
  split <;> rename_i q <;> simp [q]
theorem tmT_sub (p : Prg) (i : Nat) : ∀ x ∈ tmT p i, x ∈ timersV p := by
  intro x hx
  obtain ⟨a, h1, rfl⟩ := List.mem_map.1 hx
  obtain ⟨h2, h3⟩ := List.mem_filter.1 h1
  exact List.mem_map.2 ⟨a, List.mem_filter.2 ⟨List.mem_of_mem_take h2, h3⟩, rfl⟩
theorem tmT_end (p : Prg) : tmT p p.as.length = timersV p := by unfold tmT timersV; rw [List.take_length]
theorem amT_end (p : Prg) : p.boot.map Nt.hd ++ amT p p.as.length = firstV p := by unfold amT firstV; rw [List.take_length]
theorem tmT_len (p : Prg) (i : Nat) : (tmT p i).length ≤ p.as.length := by
  unfold tmT; rw [List.length_map]
  exact Nat.le_trans (List.length_filter_le _ _) (by simp; omega)
theorem amT_len (p : Prg) (i : Nat) : (amT p i).length ≤ p.as.length := by
  unfold amT; rw [List.length_map]
  exact Nat.le_trans (List.length_filter_le _ _) (by simp; omega)
/-- The boot's handlers. -/
theorem r20L_in0 (p : Prg) (hp : flowV p = 0) {κ : Ex → St → Prop} (hκ : ∀ S, BoxP 194001 p 1 S → IsW (S.t 3) (Go.Gv.putL [] (p.boot.map Nt.hd)) → κ (.exit 0) S) (S : St) (hb : BoxP 194001 p 1 S) (h3 : S.t 3 = .nils) (h4 : S.t 4 = iv 0) : LoopG Tryz.prog r20L_l0 κ S .mk := by
  obtain ⟨c1, c2, c3, _⟩ := checkV_zero (flowV_check hp)
  refine loopN (fun i S => BoxP 194001 p 1 S ∧ S.t 4 = iv i ∧ IsW (S.t 3) (Go.Gv.putL [] ((p.boot.map Nt.hd).take i))) p.boot.length ⟨hb, by simpa using h4, .inr ⟨h3, by simp [Go.Gv.putL]⟩⟩ ?_
  clear hb h3 h4 S
  rintro i S hi ⟨⟨s1, g1, b1⟩, h4, h3⟩
  by_cases hlt : i < p.boot.length
  · have hw := wrap_succ i _ hlt (by omega)
    have hst := putL_take [] (p.boot.map Nt.hd) i (by simpa using hlt)
    have hl := putL_len ((p.boot.map Nt.hd).take i) []
    have hl2 : ((p.boot.map Nt.hd).take i).length ≤ i := by simp; omega
    simp only [List.length_nil] at hl
    rw [hst]
    generalize Go.Gv.putL [] ((p.boot.map Nt.hd).take i) = w at *
    simp [r20L_l0, g1, b1, h4, hlt]
    refine call (put1_pc w p.boot[i].hd (by omega)) (by simp [h3.co0]) ?_
    simp [h4, hw, hlt]
    exact ⟨⟨s1, by simp [g1], by simp [b1]⟩, .inl (by simp)⟩
  · have e1 : i = p.boot.length := by omega
    subst e1
    rw [List.take_of_length_le (by simp)] at h3
    simp [r20L_l0, g1, b1, h4]
    exact hκ _ ⟨s1, by simp [g1], by simp [b1]⟩ (by simpa using h3)
/-- Those of the timers that are armed at the start. -/
theorem r20L_in1 (p : Prg) (hp : flowV p = 0) {κ : Ex → St → Prop} (hκ : ∀ S, BoxP 194001 p 1 S → IsW (S.t 3) (Go.Gv.putL [] (firstV p)) → κ (.exit 2) S) (S : St) (hb : BoxP 194001 p 1 S) (h3 : IsW (S.t 3) (Go.Gv.putL [] (p.boot.map Nt.hd))) (h5 : S.t 5 = iv 0) : LoopG Tryz.prog r20L_l1 κ S .mk := by
  obtain ⟨c1, c2, c3, _⟩ := checkV_zero (flowV_check hp)
  refine loopN (fun i S => BoxP 194001 p 1 S ∧ S.t 5 = iv i ∧ IsW (S.t 3) (Go.Gv.putL [] (p.boot.map Nt.hd ++ amT p i))) p.as.length ⟨hb, by simpa using h5, by simpa [amT] using h3⟩ ?_
  clear hb h3 h5 S
  rintro i S hi ⟨⟨s1, g1, b1⟩, h5, h3⟩
  by_cases hlt : i < p.as.length
  · have hw := wrap_succ i _ hlt (by omega)
    have hst := amT_succ p i hlt
    have hl := putL_len (p.boot.map Nt.hd ++ amT p i) []
    have hl2 := amT_len p i
    simp only [List.length_nil, List.length_append, List.length_map] at hl
    rw [hst]
    by_cases ha : p.as[i].armed = true
    · rw [if_pos ha, ← List.append_assoc, putL_append]
      generalize Go.Gv.putL [] (p.boot.map Nt.hd ++ amT p i) = w at *
      simp [r20L_l1, g1, b1, h5, hlt, ha]
      refine call (put1_pc w p.as[i].timer (by omega)) (by simp [h3.co0]) ?_
      simp [h5, hw, hlt]
      exact ⟨⟨s1, by simp [g1], by simp [b1]⟩, .inl rfl⟩
    · rw [if_neg ha]
      simp [r20L_l1, g1, b1, h5, hlt, ha, hw]
      exact ⟨⟨s1, by simp [g1], by simp [b1]⟩, by simpa using h3⟩
  · have e1 : i = p.as.length := by omega
    subst e1
    rw [amT_end] at h3
    simp [r20L_l1, g1, b1, h5]
    exact hκ _ ⟨s1, by simp [g1], by simp [b1]⟩ (by simpa using h3)
/-- May any of them arm? -/
theorem r20L_in2 (p : Prg) (hp : flowV p = 0) (L : List Int) (hl : L.length ≤ 1000) {κ : Ex → St → Prop} (hκ : ∀ S, BoxP 194001 p 1 S → IsW (S.t 3) L → S.t 7 = iv L.length → S.t 8 = .bool (L.any (atB (armsV p))) → κ (.exit 6) S) (S : St)
    (hb : BoxP 194001 p 1 S) (h3 : IsW (S.t 3) L) (h7 : S.t 7 = iv L.length) (h8 : S.t 8 = .bool false) (h9 : S.t 9 = iv 0) : LoopG Tryz.prog r20L_l2 κ S .mk := by
  refine loopN (fun i S => BoxP 194001 p 1 S ∧ IsW (S.t 3) L ∧ S.t 7 = iv L.length ∧ S.t 8 = .bool ((L.take i).any (atB (armsV p))) ∧ S.t 9 = iv i) L.length ⟨hb, h3, h7, by simpa using h8, by simpa using h9⟩ ?_
  clear hb h3 h7 h8 h9 S
  rintro i S hi ⟨⟨s1, g1, b1⟩, h3, h7, h8, h9⟩
  by_cases hlt : i < L.length
  · have hw := wrap_succ i _ hlt (by omega)
    have h3' : S.t 3 = ints L := by
      rcases h3 with q | ⟨_, q⟩
      · exact q
      · rw [q] at hlt; simp at hlt
    have hst : (L.take (i + 1)).any (atB (armsV p)) = ((L.take i).any (atB (armsV p)) || atB (armsV p) L[i]) := by
      rw [List.take_succ_eq_append_getElem hlt, List.any_append]; simp
    rw [hst]
    generalize (L.take i).any (atB (armsV p)) = ab at *
    cases ab with
    | true =>
      simp [r20L_l2, g1, b1, h3', h8, h9, ints, hlt, hw]
      exact ⟨⟨s1, by simp [g1], by simp [b1]⟩, .inl (by simp [h3', ints]), by simp [h7]⟩
    | false =>
      simp [r20L_l2, g1, b1, h3', h8, h9, ints, hlt]
      refine calld (r20A_pc p hp L[i]) (by simp) ?_
      simp [h9, hw, hlt]
      exact ⟨⟨s1, by simp [g1], by simp [b1]⟩, .inl (by simp [h3', ints]), by simp [h7]⟩
  · have e1 : i = L.length := by omega
    subst e1
    rw [List.take_length] at h8
    simp [r20L_l2, h3.len, h9]
    exact hκ _ ⟨s1, by simp [g1], by simp [b1]⟩ (by simpa using h3) (by simp [h7]) (by simp [h8])
def LvS (p : Prg) (L : List Int) (ar : Bool) (S : St) : Prop := BoxP 194001 p 1 S ∧ S.t 7 = iv L.length ∧ S.t 8 = .bool ar
theorem r20L_in3 (p : Prg) (L w r : List Int) (ar : Bool) (i : Nat) (hr : r.length ≤ 1000) (hw0 : w.length ≤ 1000) {κ : Ex → St → Prop}
    (hκ : ∀ S, LvS p L ar S → IsW (S.t 3) (Go.Gv.putL w r) → (∃ s, S.t 10 = .acc 194071 s 1 (L.map iv)) → S.t 11 = iv i → κ (.exit 10) S) (S : St)
    (hb : LvS p L ar S) (h3 : IsW (S.t 3) w) (h10 : ∃ s, S.t 10 = .acc 194071 s 1 (L.map iv)) (h11 : S.t 11 = iv i) (h12 : S.t 12 = ints r) (h13 : S.t 13 = iv 0) : LoopG Tryz.prog r20L_l3 κ S .mk := by
  refine loopN (fun j S => LvS p L ar S ∧ IsW (S.t 3) (Go.Gv.putL w (r.take j)) ∧ (∃ s, S.t 10 = .acc 194071 s 1 (L.map iv)) ∧ S.t 11 = iv i ∧ S.t 12 = ints r ∧ S.t 13 = iv j) r.length ⟨hb, by simpa [Go.Gv.putL] using h3, h10, h11, h12, by simpa using h13⟩ ?_
  clear hb h3 h10 h11 h12 h13 S
  rintro j S hj ⟨⟨⟨s1, g1, b1⟩, h7, h8⟩, h3, ⟨s10, h10⟩, h11, h12, h13⟩
  by_cases hlt : j < r.length
  · have hw := wrap_succ j _ hlt (by omega)
    have hst := putL_take w r j hlt
    have hl := putL_len (r.take j) w
    have hl2 : (r.take j).length ≤ j := by simp; omega
    rw [hst]
    generalize Go.Gv.putL w (r.take j) = v at *
    simp [r20L_l3, h12, h13, ints, hlt]
    refine call (put1_pc v r[j] (by omega)) (by simp [h3.co0]) ?_
    simp [h13, hw, hlt]
    exact ⟨⟨⟨s1, by simp [g1], by simp [b1]⟩, by simp [h7], by simp [h8]⟩, .inl (by simp), ⟨s10, by simp [h10]⟩, by simp [h11], by simp [h12, ints]⟩
  · have e1 : j = r.length := by omega
    subst e1
    rw [List.take_length] at h3
    simp [r20L_l3, h12, h13, ints]
    exact hκ _ ⟨⟨s1, by simp [g1], by simp [b1]⟩, by simp [h7], by simp [h8]⟩ (by simpa using h3) ⟨s10, by simp [h10]⟩ (by simp [h11])
theorem r20L_in4 (p : Prg) (hp : flowV p = 0) (L : List Int) (hI : InvL p L) (ar : Bool) {κ : Ex → St → Prop}
    (hκ : ∀ S, LvS p L ar S → IsW (S.t 3) (liveG p L L.length) → κ (.exit 8) S) (S : St)
    (hb : LvS p L ar S) (h3 : IsW (S.t 3) L) (h10 : ∃ s, S.t 10 = .acc 194071 s 1 (L.map iv)) (h11 : S.t 11 = iv 0) : LoopG Tryz.prog r20L_l4 κ S .mk := by
  obtain ⟨c1, _⟩ := checkV_zero (flowV_check hp)
  have hLn := hI.len
  refine loopN (fun i S => LvS p L ar S ∧ IsW (S.t 3) (liveG p L i) ∧ (∃ s, S.t 10 = .acc 194071 s 1 (L.map iv)) ∧ S.t 11 = iv i) L.length ⟨hb, by rw [liveG_zero]; exact h3, h10, by simpa using h11⟩ ?_
  clear hb h3 h10 h11 S
  rintro i S hi ⟨⟨⟨s1, g1, b1⟩, h7, h8⟩, h3, ⟨s10, h10⟩, h11⟩
  by_cases hlt : i < L.length
  · have hw := wrap_succ i _ hlt (by omega)
    have hst := liveG_succ p L i hlt
    have hgl := (hI.G hp i).len
    have hrb := atI_bound (reaV_bound hp) L[i]
    rw [hst]
    generalize liveG p L i = v at *
    simp [r20L_l4, g1, b1, h10, h11, hlt]
    refine calld (r20R_pc p hp L[i]) (by simp) ?_
    simp
    refine r20L_in3 p L v (atI (reaV p) L[i]) ar i (by omega) (by omega) ?_ _ ⟨⟨s1, by simp [g1], by simp [b1]⟩, by simp [h7], by simp [h8]⟩ (by simpa using h3) ⟨s10, by simp [h10]⟩ (by simp [h11]) (by simp) (by simp)
    rintro S2 ⟨⟨s1', g1', b1'⟩, h7', h8'⟩ q3 ⟨s10', q10⟩ q11
    simp [q11, hw, hlt]
    exact ⟨⟨⟨s1', by simp [g1'], by simp [b1']⟩, by simp [h7'], by simp [h8']⟩, by simpa using q3, ⟨s10', by simp [q10]⟩⟩
  · have e1 : i = L.length := by omega
    subst e1
    simp [r20L_l4, h10, h11]
    exact hκ _ ⟨⟨s1, by simp [g1], by simp [b1]⟩, by simp [h7], by simp [h8]⟩ (by simpa using h3)
theorem r20L_in5 (p : Prg) (hp : flowV p = 0) (L w : List Int) (hwl : w.length ≤ 1000) (ar : Bool) {κ : Ex → St → Prop}
    (hκ : ∀ S, LvS p L ar S → IsW (S.t 3) (if ar = true then Go.Gv.putL w (timersV p) else w) → κ (.exit 12) S) (S : St)
    (hb : LvS p L ar S) (h3 : IsW (S.t 3) w) (h14 : S.t 14 = iv 0) : LoopG Tryz.prog r20L_l5 κ S .mk := by
  obtain ⟨c1, c2, c3, _⟩ := checkV_zero (flowV_check hp)
  refine loopN (fun i S => LvS p L ar S ∧ IsW (S.t 3) (if ar = true then Go.Gv.putL w (tmT p i) else w) ∧ S.t 14 = iv i) p.as.length ⟨hb, by cases ar <;> simpa [tmT, Go.Gv.putL] using h3, by simpa using h14⟩ ?_
  clear hb h3 h14 S
  rintro i S hi ⟨⟨⟨s1, g1, b1⟩, h7, h8⟩, h3, h14⟩
  cases ar with
  | false =>
    by_cases hlt : i < p.as.length
    · simp [r20L_l5, g1, b1, h14, h8, hlt]
      exact hκ _ ⟨⟨s1, by simp [g1], by simp [b1]⟩, by simp [h7], by simp [h8]⟩ (by simpa using h3)
    · simp [r20L_l5, g1, b1, h14, h8, hlt]
      exact hκ _ ⟨⟨s1, by simp [g1], by simp [b1]⟩, by simp [h7], by simp [h8]⟩ (by simpa using h3)
  | true =>
    rw [if_pos rfl] at h3
    by_cases hlt : i < p.as.length
    · have hw := wrap_succ i _ hlt (by omega)
      have hst := tmT_succ p i hlt
      have hl := putL_len (tmT p i) w
      have hl2 := tmT_len p i
      rw [hst, if_pos rfl]
      by_cases ht : 0 ≤ p.as[i].timer
      · rw [if_pos ht, putL_append]
        generalize Go.Gv.putL w (tmT p i) = v at *
        simp [r20L_l5, g1, b1, h14, h8, hlt, ht]
        refine call (put1_pc v p.as[i].timer (by omega)) (by simp [h3.co0]) ?_
        simp [h14, hw, hlt]
        exact ⟨⟨⟨s1, by simp [g1], by simp [b1]⟩, by simp [h7], by simp [h8]⟩, .inl rfl⟩
      · rw [if_neg ht]
        simp [r20L_l5, g1, b1, h14, h8, hlt, ht, hw]
        exact ⟨⟨⟨s1, by simp [g1], by simp [b1]⟩, by simp [h7], by simp [h8]⟩, by simpa using h3⟩
    · have e1 : i = p.as.length := by omega
      subst e1
      rw [tmT_end] at h3
      simp [r20L_l5, g1, b1, h14, h8]
      exact hκ _ ⟨⟨s1, by simp [g1], by simp [b1]⟩, by simp [h7], by simp [h8]⟩ (by simpa using h3)
/-- One round more. -/
def nextL (p : Prg) (L : List Int) : List Int := if L.any (atB (armsV p)) = true then Go.Gv.putL (liveG p L L.length) (timersV p) else liveG p L L.length
theorem nextL_inv {p : Prg} (hp : flowV p = 0) {L : List Int} (hI : InvL p L) : InvL p (nextL p L) := by
  unfold nextL
  split
  · rename_i h
    obtain ⟨x, h1, h2⟩ := List.any_eq_true.1 h
    have hr := live_in x (hI.live x h1)
    refine (hI.G hp _).putL (fun t ht => live_timers hp (hI.live x h1) ?_ ht)
    rw [← atB_arm _ _ hr.1]; exact h2
  · exact hI.G hp _
theorem nextL_le {p : Prg} {L : List Int} (hI : InvL p L) (h : (nextL p L).length ≤ L.length) :
    nextL p L = L ∧ (∀ y ∈ L, ∀ z ∈ atI (reaV p) y, z ∈ L) ∧ (∀ x ∈ L, atB (armsV p) x = true → ∀ t ∈ timersV p, t ∈ L) := by
  have key : ∀ m : List Int, (Go.Gv.putL L m).length ≤ L.length → Go.Gv.putL L m = L ∧ ∀ x ∈ m, x ∈ L := by
    intro m hm
    have h1 := putL_grow hm hI.up
    exact ⟨Up.ext (putL_up hI.up) hI.up (fun x => by rw [putL_mem]; exact ⟨fun q => q.elim id (h1 x), .inl⟩), h1⟩
  have hrea : ∀ m, (∀ x ∈ (L.take L.length).flatMap (atI (reaV p)) ++ m, x ∈ L) → ∀ y ∈ L, ∀ z ∈ atI (reaV p) y, z ∈ L := by
    intro m hm y hy z hz
    exact hm z (List.mem_append.2 (.inl (List.mem_flatMap.2 ⟨y, by rw [List.take_length]; exact hy, hz⟩)))
  by_cases ha : L.any (atB (armsV p)) = true
  · have e : nextL p L = Go.Gv.putL L ((L.take L.length).flatMap (atI (reaV p)) ++ timersV p) := by
      unfold nextL liveG; rw [if_pos ha, putL_append]
    rw [e] at h ⊢
    obtain ⟨k1, k2⟩ := key _ h
    exact ⟨k1, hrea _ k2, fun x hx hax t ht => k2 t (List.mem_append.2 (.inr ht))⟩
  · have e : nextL p L = Go.Gv.putL L ((L.take L.length).flatMap (atI (reaV p)) ++ []) := by
      unfold nextL liveG; rw [if_neg ha, List.append_nil]
    rw [e] at h ⊢
    obtain ⟨k1, k2⟩ := key _ h
    exact ⟨k1, hrea _ k2, fun x hx hax => absurd (List.any_eq_true.2 ⟨x, hx, hax⟩) ha⟩
theorem nextL_sub (p : Prg) (L : List Int) : ∀ x ∈ L, x ∈ nextL p L := by
  intro x hx
  unfold nextL liveG
  split
  · exact putL_mem.2 (.inl (putL_mem.2 (.inl hx)))
  · exact putL_mem.2 (.inl hx)
def RI3 (p : Prg) (m : Nat) (S : St) : Prop := BoxP 194001 p 1 S ∧ ∃ (L : List Int) (ag : Bool), IsW (S.t 3) L ∧ S.t 6 = .bool ag ∧ InvL p L ∧
  (ag = false → (∀ y ∈ L, ∀ z ∈ atI (reaV p) y, z ∈ L) ∧ (∀ x ∈ L, atB (armsV p) x = true → ∀ t ∈ timersV p, t ∈ L)) ∧ 2 * (p.hs.length - L.length) + (if ag = true then 1 else 0) ≤ m
theorem r20L_pc (p : Prg) (hp : flowV p = 0) : PC Tryz.prog 15 [p.av] (ints (liveP p)) := by
  obtain ⟨c1, c2, c3, _⟩ := checkV_zero (flowV_check hp)
  refine pc_of_get r20L_get (by simp) _ (by simp) _ ?_
  unfold r20L_c
  simp
  refine r20L_in0 p hp ?_ _ (by simp [BoxP]) (by simp) (by simp)
  rintro S ⟨s1, g1, b1⟩ h3
  simp
  refine r20L_in1 p hp ?_ _ ⟨s1, by simp [g1], by simp [b1]⟩ (by simpa using h3) (by simp)
  clear h3 g1 b1 s1 S
  rintro S ⟨s1, g1, b1⟩ h3
  simp
  refine loopM (RI3 p) (2 * p.hs.length + 1) ?_ ?_
  · refine ⟨⟨s1, by simp [g1], by simp [b1]⟩, Go.Gv.putL [] (firstV p), true, by simpa using h3, by simp, ⟨putL_up (by simp [Up]), fun x hx => ?_, fun x hx => putL_mem.2 (.inr hx)⟩, by simp, by simp; omega⟩
    rcases putL_mem.1 hx with q | q
    · simp at q
    · exact live_first hp q
  · clear h3 g1 b1 s1 S
    rintro m S ⟨⟨s1, g1, b1⟩, L, ag, h3, h6, hI, hf, hm⟩
    have hLn := hI.len
    cases ag with
    | false =>
      obtain ⟨f1, f2⟩ := hf rfl
      have e : L = liveP p := live_unique hp hI.up hI.base f1 (fun x hx hax => f2 x hx (by rw [atB_arm _ _ (live_in x (hI.live x hx)).1]; exact hax)) hI.live
      simp [r20L_l6, h6]
      rw [← e]
      rcases h3 with q | ⟨q, q'⟩
      · simp [q]
      · rw [q']; simp [q, ints]
    | true =>
      simp [r20L_l6, h6, h3.len]
      refine r20L_in2 p hp L (by omega) ?_ _ ⟨s1, by simp [g1], by simp [b1]⟩ (by simpa using h3) (by simp) (by simp) (by simp)
      clear h3 h6 g1 b1 s1 S
      rintro S ⟨s1, g1, b1⟩ h3 h7 h8
      have hby : L.length * 8 ≤ 140737488355328 := by omega
      have tail : ∀ S : St, LvS p L (L.any (atB (armsV p))) S → IsW (S.t 3) (liveG p L L.length) → ∀ κ : Ex → St → Prop, (∀ S, LvS p L (L.any (atB (armsV p))) S → IsW (S.t 3) (nextL p L) → κ (.exit 12) S) → S.t 14 = iv 0 → LoopG Tryz.prog r20L_l5 κ S .mk :=
        fun S a b κ hκ c => r20L_in5 p hp L (liveG p L L.length) (by have := (hI.G hp L.length).len; omega) _ (fun S' q r => hκ S' q r) S a b c
      have h3c := h3
      rcases h3 with h3 | ⟨h3, hLe⟩
      case' inl => simp [h3, ints, hby]
      case' inr => simp [h3]
      all_goals
        refine r20L_in4 p hp L hI (L.any (atB (armsV p))) ?_ _ ⟨⟨s1, by simp [g1], by simp [b1]⟩, by simp [h7], by simp [h8]⟩ (by simpa using h3c) (by first | (simp; done) | (simp [hLe]; done)) (by simp)
        clear h3 h3c h7 h8 g1 b1
        rintro S2 ⟨⟨s2, g2, b2⟩, h7, h8⟩ h3
        simp
        refine tail _ ⟨⟨s2, by simp [g2], by simp [b2]⟩, by simp [h7], by simp [h8]⟩ (by simpa using h3) _ ?_ (by simp)
        clear h3 h7 h8 g2 b2
        rintro S3 ⟨⟨s3, g3, b3⟩, h7, h8⟩ h3
        simp [h3.len, h7]
        have hN := nextL_inv hp hI
        have hNl := hN.len
        simp at hm
        refine ⟨2 * (p.hs.length - (nextL p L).length) + (if decide (L.length < (nextL p L).length) = true then 1 else 0), ?_, ⟨s3, by simp [g3], by simp [b3]⟩, nextL p L, decide (L.length < (nextL p L).length), by simpa using h3, by simp, hN, fun q => ?_, Nat.le_refl _⟩
        · have hle : L.length ≤ (nextL p L).length := Up.sub_len hI.up hN.up (nextL_sub p L)
          by_cases hg : L.length < (nextL p L).length
          · simp [hg]; omega
          · simp [hg]; omega
        · obtain ⟨e1, e2, e3⟩ := nextL_le hI (by have := of_decide_eq_false q; omega)
          rw [e1]; exact ⟨e2, e3⟩

end Go.Gv

/- Other names for lists that may be appended to; arguments of a struct taken coarser. No condition beyond those that each law names. -/
set_option linter.unusedVariables false
set_option linter.unusedSimpArgs false
namespace Go.Gv
open Go.RowKit

def rt0 (a b : Nat) : AV → AV
  | .acc nm st sz xs => .acc (if nm = a then b else nm) st sz xs
  | v => v
def rtc (a b : Nat) : AV → AV
  | .fn f caps => .fn f (caps.map (rt0 a b))
  | v => rt0 a b v
theorem rt_map (E : Env) (a b : Nat) : CellMap E E (rtc a b) := by
  have f0 : ∀ (x : AV) (v : Value), Rel E x v → Rel E (rt0 a b x) v := by
    intro x v h
    cases x with
    | acc nm st sz xs => cases h with | acc _ _ _ _ _ hu hv hl => exact .acc _ st sz xs v hu hv hl
    | _ => exact h
  refine ⟨?_, ?_, ?_, fun _ _ => rfl, .refl E⟩
  · intro x v h1 hrel
    cases x with
    | fn f caps =>
      cases hrel with
      | fn _ _ vs hs hr' =>
        refine .fn f _ vs (by simpa using hs) ?_
        intro j y u hy hu
        rw [List.getElem?_map] at hy
        cases hc : caps[j]? with
        | none => simp [hc] at hy
        | some z => simp only [hc, Option.map_some, Option.some.injEq] at hy; rw [← hy]; exact f0 z u (hr' j z u hc hu)
    | _ => exact f0 _ v hrel
  · intro x h1
    cases x <;> first | rfl | exact h1
  · intro x h1
    cases x <;> first | rfl | (simp [AV.one] at h1)

def Hp.renT (h : Hp) (a b : Nat) : Hp := ⟨fun n => (h.blk n).map (mapB (rtc a b)), fun n => if n = b then h.tok a else if n = a then none else h.tok n⟩

theorem Wkh.renT {c : Nat} {h : Hp} (a b : Nat) (hab : a ≠ b) : Wkh c c h (h.renT a b) (mapV (rtc a b)) := by
  refine ⟨Nat.le_refl _, fun E B w H hu => ?_⟩
  have hM := rt_map E a b
  have getb : ∀ n bl, (h.renT a b).blk n = some bl → ∃ b0, h.blk n = some b0 ∧ bl = mapB (rtc a b) b0 := by
    intro n bl hn
    simp only [Hp.renT, Option.map_eq_some_iff] at hn
    obtain ⟨b0, h1, h2⟩ := hn
    exact ⟨b0, h1, h2.symm⟩
  have gett : ∀ n t, (h.renT a b).tok n = some t → ∃ m, h.tok m = some t ∧ m = (if n = b then a else n) ∧ n ≠ a := by
    intro n t hn
    simp only [Hp.renT] at hn
    split at hn
    · rename_i e; exact ⟨a, hn, by rw [if_pos e], fun q => hab (q.symm.trans e)⟩
    · rename_i e
      split at hn
      · cases hn
      · rename_i e2; exact ⟨n, hn, by rw [if_neg e], e2⟩
  refine ⟨E, .refl E, ⟨H.K, ?_, ?_, ?_, ?_, ?_, ?_, ?_⟩, fun _ _ _ => rfl, fun _ h => h, fun x v hv => hM.relV hv⟩
  · intro n bl hn
    obtain ⟨b0, h0, rfl⟩ := getb n bl hn
    exact H.bu n b0 h0
  · intro n bl hn
    obtain ⟨b0, h0, rfl⟩ := getb n bl hn
    exact hM.blkOk (H.bu n b0 h0) (H.bk n b0 h0) (H.bk n b0 h0).noK
  · intro n t hn
    obtain ⟨m, h0, _⟩ := gett n t hn
    exact H.tu m t h0
  · intro n t hn
    obtain ⟨m, h0, _⟩ := gett n t hn
    exact H.tk m t h0
  · intro n n' bl bl' hn h1 h2
    obtain ⟨b0, h0, rfl⟩ := getb n bl h1
    obtain ⟨b0', h0', rfl⟩ := getb n' bl' h2
    exact H.bb n n' b0 b0' hn h0 h0'
  · intro n n' bl t h1 h2
    obtain ⟨b0, h0, rfl⟩ := getb n bl h1
    obtain ⟨m, ht, _⟩ := gett n' t h2
    exact H.bt n m b0 t h0 ht
  · intro n n' t t' g hn h1 h2 hg
    obtain ⟨m, ht, e1, e2⟩ := gett n t h1
    obtain ⟨m', ht', e1', e2'⟩ := gett n' t' h2
    refine H.tt m m' t t' g ?_ ht ht' hg
    rw [e1, e1']
    intro q
    split at q <;> split at q
    · rename_i x y; exact hn (x.trans y.symm)
    · exact e2' q.symm
    · exact e2 q
    · exact hn q

/-- A struct's cells taken coarser, one by one. -/
theorem call_cells {P : Program} {f : FuncId} (d : Nat) {cs cs' : List AV} {S : St} {k : AV → St → Prop} {u : Dep k} (hl : cs.length = cs'.length) (h1 : ∀ y ∈ cs', y.one = true)
    (hco : ∀ (j : Nat) (x y : AV), cs[j]? = some x → cs'[j]? = some y → x = y ∨ dco (fun _ => none) d x y) (h : CallG P (.fn f []) [.agg cs'] S k u) : CallG P (.fn f []) [.agg cs] S k u := by
  obtain ⟨g, caps, hf, hent, hc⟩ := h
  refine ⟨g, caps, hf, hent, fun E B W w args H hW hB hu hsz hrel => ?_⟩
  obtain ⟨rfl, rfl⟩ : f = g ∧ [] = caps := by cases hf; exact ⟨rfl, rfl⟩
  refine hc E B W w args H hW hB hu (by simpa using hsz) ?_
  intro j y u' hy hu'
  match j with
  | j + 1 => simp at hy
  | 0 =>
    simp at hy
    subst hy
    have hr := hrel 0 (.agg cs) u' rfl hu'
    cases hr with
    | agg _ vs hs h1' hr =>
      refine .agg cs' vs (by rw [← hl]; exact hs) (fun j y hy => h1 y (List.mem_of_getElem? hy)) (fun j y v hy hv => ?_)
      obtain ⟨x, hx⟩ : ∃ x, cs[j]? = some x := ⟨_, List.getElem?_eq_getElem (by rw [hl]; exact (List.getElem?_eq_some_iff.1 hy).1)⟩
      have hxr := hr j x v hx hv
      rcases hco j x y hx hy with q | q
      · rw [← q]; exact hxr
      · exact Rel.of_envK (K := E.K) (dcc_rel (w := w) d x y v q H.K hxr) (fun _ _ _ q => q)
end Go.Gv
