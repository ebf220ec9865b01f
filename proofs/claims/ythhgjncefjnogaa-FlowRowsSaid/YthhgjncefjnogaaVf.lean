/- What slices.Clone, prog.CopyNote and prog.Copy answer. Lists of at most 1000. -/
import Derived.Test.YthhgjncefjnogaaProg
import Derived.Test.YthhgjncefjnogaaVe
import Derived.Test.YthhgjncefjnogaaGw3
set_option linter.unusedVariables false
set_option linter.unusedSimpArgs false
namespace Go.Gv
open Go.Proofs

def cloneI_r0 : List AI := [⟨(some 2), none, (.op (.mv (.c .nils)))⟩]
def cloneI_r1 : List AI := [⟨(some 3), none, (.op (.mv (.t 0)))⟩, ⟨(some 4), none, (.nq 0 false (.t 3))⟩]
def cloneI_r2 : List AI := [⟨(some 2), none, (.op (.mv (.c .nils)))⟩]
def cloneI_r3 : List AI := [⟨(some 5), none, (.op (.bsl 63005 1 3 0 (.int .i64 0) []))⟩, ⟨(some 6), none, (.op (.mv (.t 0)))⟩, ⟨(some 7), none, (.op (.app 63007 1 3 8 (.t 5) (.t 6)))⟩, ⟨(some 2), none, (.op (.mv (.t 7)))⟩]
def cloneI_c : AC := (.seq (.reg cloneI_r0) (.seq (.seq (.reg cloneI_r1) (.cond (.t 4) (.seq (.reg cloneI_r2) .ret) .skip)) (.seq (.reg cloneI_r3) .ret)))
def cloneI_res : List ARes := [(.tmp 2)]
set_option maxRecDepth 100000 in
theorem cloneI_get : getF Try.prog 63 63000 [] = some ("slices.Clone[[]int,int]", 8, cloneI_c, cloneI_res) := by kernel_rfl
def cloneC_r0 : List AI := [⟨(some 2), none, (.op (.mv (.c .nils)))⟩]
def cloneC_r1 : List AI := [⟨(some 3), none, (.op (.mv (.t 0)))⟩, ⟨(some 4), none, (.nq 0 false (.t 3))⟩]
def cloneC_r2 : List AI := [⟨(some 2), none, (.op (.mv (.c .nils)))⟩]
def cloneC_r3 : List AI := [⟨(some 5), none, (.op (.bsl 62005 2 35 0 (.agg [(.int .i64 0), (.int .i64 0)]) []))⟩, ⟨(some 6), none, (.op (.mv (.t 0)))⟩, ⟨(some 7), none, (.op (.app 62007 2 35 16 (.t 5) (.t 6)))⟩, ⟨(some 2), none, (.op (.mv (.t 7)))⟩]
def cloneC_c : AC := (.seq (.reg cloneC_r0) (.seq (.seq (.reg cloneC_r1) (.cond (.t 4) (.seq (.reg cloneC_r2) .ret) .skip)) (.seq (.reg cloneC_r3) .ret)))
def cloneC_res : List ARes := [(.tmp 2)]
set_option maxRecDepth 100000 in
theorem cloneC_get : getF Try.prog 62 62000 [] = some ("slices.Clone[[]gavotte/api.Instr,gavotte/api.Instr]", 8, cloneC_c, cloneC_res) := by kernel_rfl
def copyNote_r0 : List AI := [⟨(some 1), none, (.op (.box 51001 3 (.t 0)))⟩, ⟨(some 2), none, (.op (.new 51002 3 (.agg [(.int .i64 0), (.int .i64 0), .nils])))⟩]
def copyNote_r1 : List AI := [⟨(some 3), none, (.op (.fld 2 (.t 1)))⟩, ⟨(some 4), none, (.op (.load none (.t 3)))⟩, ⟨(some 5), none, (.call (.c (.fn 63 [])) [(.t 4)])⟩, ⟨(some 6), none, (.op (.fld 2 (.t 1)))⟩, ⟨none, none, (.op (.store 1 (.t 6) (.t 5)))⟩]
def copyNote_r2 : List AI := [⟨(some 7), none, (.op (.load (some 3) (.t 1)))⟩, ⟨none, none, (.op (.store 3 (.t 2) (.t 7)))⟩]
def copyNote_c : AC := (.seq (.reg copyNote_r0) (.seq (.reg copyNote_r1) (.seq (.reg copyNote_r2) .ret)))
def copyNote_res : List ARes := [(.cell (some 3) 2)]
set_option maxRecDepth 100000 in
theorem copyNote_get : getF Try.prog 64 51000 [] = some ("gavotte/prog.CopyNote", 8, copyNote_c, copyNote_res) := by kernel_rfl
def copyP_r0 : List AI := [⟨(some 1), none, (.op (.box 26001 4 (.t 0)))⟩, ⟨(some 2), none, (.op (.new 26002 4 (.agg [.nils, .nils, .nils, (.int .i64 0)])))⟩]
def copyP_r1 : List AI := [⟨(some 10), none, (.op (.fld 3 (.t 1)))⟩, ⟨(some 11), none, (.op (.load none (.t 10)))⟩, ⟨(some 12), none, (.op (.build [.nils, .nils, .nils, (.int .i64 0)] [(3, (1, (.t 11)))]))⟩, ⟨(some 3), none, (.op (.new 26003 4 (.agg [.nils, .nils, .nils, (.int .i64 0)])))⟩, ⟨none, none, (.op (.store 4 (.t 3) (.t 12)))⟩]
def copyP_r2 : List AI := [⟨(some 13), none, (.op (.fld 0 (.t 1)))⟩, ⟨(some 14), none, (.op (.load none (.t 13)))⟩, ⟨(some 15), none, (.op (.len (.t 14)))⟩, ⟨(some 16), none, (.op (.mv (.c (.int .i64 0))))⟩]
def copyP_r3 : List AI := [⟨(some 17), none, (.op (.ibin .lss (.t 16) (.t 15)))⟩]
def copyP_r4 : List AI := [⟨(some 18), none, (.op (.idx 2 (.t 14) (.t 16)))⟩, ⟨(some 19), none, (.op (.load (some 2) (.t 18)))⟩, ⟨(some 5), none, (.op (.new 26005 2 (.agg [(.int .i64 0), .nils])))⟩, ⟨none, none, (.op (.store 2 (.t 5) (.t 19)))⟩]
def copyP_r5 : List AI := [⟨(some 20), none, (.op (.fld 0 (.t 3)))⟩, ⟨(some 21), none, (.op (.load none (.t 20)))⟩, ⟨(some 22), none, (.op (.fld 0 (.t 5)))⟩, ⟨(some 23), none, (.op (.load none (.t 22)))⟩, ⟨(some 24), none, (.op (.fld 1 (.t 5)))⟩, ⟨(some 25), none, (.op (.load none (.t 24)))⟩, ⟨(some 26), none, (.call (.c (.fn 62 [])) [(.t 25)])⟩, ⟨(some 27), none, (.op (.build [(.int .i64 0), .nils] [(0, (1, (.t 23))), (1, (1, (.t 26)))]))⟩, ⟨(some 28), none, (.op (.bsl 26028 2 33 1 (.agg [(.int .i64 0), .nils]) [(0, (.t 27))]))⟩, ⟨(some 29), none, (.op (.app 26029 2 33 32 (.t 21) (.t 28)))⟩, ⟨(some 30), none, (.op (.fld 0 (.t 3)))⟩, ⟨none, none, (.op (.store 1 (.t 30) (.t 29)))⟩]
def copyP_p5 : List (List Nat) := [[], [0], [], [2], [], [4], [5, 4], [3, 6, 2, 5, 4], [7, 3, 6, 2, 5, 4], [1, 8, 6, 0, 7, 3, 2, 5, 4], [0, 1, 2, 3, 4, 5, 6, 7, 8, 9], [10, 9, 0, 1, 2, 3, 4, 5, 6, 7, 8]]
def copyP_r6 : List AI := [⟨(some 31), none, (.op (.ibin .add (.t 16) (.c (.int .i64 1))))⟩, ⟨(some 16), none, (.op (.mv (.t 31)))⟩]
def copyP_l0 : AC := (.seq (.reg copyP_r3) (.seq (.cond (.t 17) .skip (.exit 0)) (.seq (.block 1 (.seq (.reg copyP_r4) (.regd copyP_r5 copyP_p5))) (.reg copyP_r6))))
def copyP_r7 : List AI := [⟨(some 32), none, (.op (.fld 1 (.t 1)))⟩, ⟨(some 33), none, (.op (.load none (.t 32)))⟩, ⟨(some 34), none, (.op (.len (.t 33)))⟩, ⟨(some 35), none, (.op (.mv (.c (.int .i64 0))))⟩]
def copyP_r8 : List AI := [⟨(some 36), none, (.op (.ibin .lss (.t 35) (.t 34)))⟩]
def copyP_r9 : List AI := [⟨(some 37), none, (.op (.idx 4 (.t 33) (.t 35)))⟩, ⟨(some 38), none, (.op (.load (some 4) (.t 37)))⟩, ⟨(some 7), none, (.op (.new 26007 4 (.agg [.nils, (.int .i64 0), (.int .i64 0), (.bool false)])))⟩, ⟨none, none, (.op (.store 4 (.t 7) (.t 38)))⟩]
def copyP_r10 : List AI := [⟨(some 39), none, (.op (.fld 0 (.t 7)))⟩, ⟨(some 40), none, (.op (.load none (.t 39)))⟩, ⟨(some 41), none, (.call (.c (.fn 63 [])) [(.t 40)])⟩, ⟨(some 42), none, (.op (.fld 0 (.t 7)))⟩, ⟨none, none, (.op (.store 1 (.t 42) (.t 41)))⟩]
def copyP_r11 : List AI := [⟨(some 43), none, (.op (.fld 1 (.t 3)))⟩, ⟨(some 44), none, (.op (.load none (.t 43)))⟩, ⟨(some 45), none, (.op (.load (some 4) (.t 7)))⟩, ⟨(some 46), none, (.op (.bsl 26046 4 38 1 (.agg [.nils, (.int .i64 0), (.int .i64 0), (.bool false)]) [(0, (.t 45))]))⟩, ⟨(some 47), none, (.op (.app 26047 4 38 48 (.t 44) (.t 46)))⟩, ⟨(some 48), none, (.op (.fld 1 (.t 3)))⟩, ⟨none, none, (.op (.store 1 (.t 48) (.t 47)))⟩]
def copyP_r12 : List AI := [⟨(some 49), none, (.op (.ibin .add (.t 35) (.c (.int .i64 1))))⟩, ⟨(some 35), none, (.op (.mv (.t 49)))⟩]
def copyP_l1 : AC := (.seq (.reg copyP_r8) (.seq (.cond (.t 36) .skip (.exit 2)) (.seq (.block 3 (.seq (.reg copyP_r9) (.seq (.reg copyP_r10) (.reg copyP_r11)))) (.reg copyP_r12))))
def copyP_r13 : List AI := [⟨(some 50), none, (.op (.fld 2 (.t 1)))⟩, ⟨(some 51), none, (.op (.load none (.t 50)))⟩, ⟨(some 52), none, (.op (.len (.t 51)))⟩, ⟨(some 53), none, (.op (.mv (.c (.int .i64 0))))⟩]
def copyP_r14 : List AI := [⟨(some 54), none, (.op (.ibin .lss (.t 53) (.t 52)))⟩]
def copyP_r15 : List AI := [⟨(some 55), none, (.op (.idx 3 (.t 51) (.t 53)))⟩, ⟨(some 56), none, (.op (.load (some 3) (.t 55)))⟩, ⟨(some 9), none, (.op (.new 26009 3 (.agg [(.int .i64 0), (.int .i64 0), .nils])))⟩, ⟨none, none, (.op (.store 3 (.t 9) (.t 56)))⟩]
def copyP_r16 : List AI := [⟨(some 57), none, (.op (.fld 2 (.t 3)))⟩, ⟨(some 58), none, (.op (.load none (.t 57)))⟩, ⟨(some 59), none, (.op (.load (some 3) (.t 9)))⟩, ⟨(some 60), none, (.call (.c (.fn 64 [])) [(.t 59)])⟩, ⟨(some 61), none, (.op (.bsl 26061 3 40 1 (.agg [(.int .i64 0), (.int .i64 0), .nils]) [(0, (.t 60))]))⟩, ⟨(some 62), none, (.op (.app 26062 3 40 40 (.t 58) (.t 61)))⟩, ⟨(some 63), none, (.op (.fld 2 (.t 3)))⟩, ⟨none, none, (.op (.store 1 (.t 63) (.t 62)))⟩]
def copyP_p16 : List (List Nat) := [[], [0], [], [2], [3, 2], [1, 4, 3, 0, 2], [0, 1, 2, 3, 4, 5], [6, 5, 0, 1, 2, 3, 4]]
def copyP_r17 : List AI := [⟨(some 64), none, (.op (.ibin .add (.t 53) (.c (.int .i64 1))))⟩, ⟨(some 53), none, (.op (.mv (.t 64)))⟩]
def copyP_l2 : AC := (.seq (.reg copyP_r14) (.seq (.cond (.t 54) .skip (.exit 4)) (.seq (.block 5 (.seq (.reg copyP_r15) (.regd copyP_r16 copyP_p16))) (.reg copyP_r17))))
def copyP_r18 : List AI := [⟨(some 65), none, (.op (.load (some 4) (.t 3)))⟩, ⟨none, none, (.op (.store 4 (.t 2) (.t 65)))⟩]
def copyP_c : AC := (.seq (.reg copyP_r0) (.seq (.reg copyP_r1) (.seq (.seq (.reg copyP_r2) (.block 0 (.loop copyP_l0))) (.seq (.seq (.reg copyP_r7) (.block 2 (.loop copyP_l1))) (.seq (.seq (.reg copyP_r13) (.block 4 (.loop copyP_l2))) (.seq (.reg copyP_r18) .ret))))))
def copyP_res : List ARes := [(.cell (some 4) 2)]
set_option maxRecDepth 100000 in
theorem copyP_get : getF Try.prog 26 26000 [] = some ("gavotte/prog.Copy", 66, copyP_c, copyP_res) := by kernel_rfl
attribute [simp] cloneI_r0 cloneI_r1 cloneI_r2 cloneI_r3 cloneI_res cloneC_r0 cloneC_r1 cloneC_r2 cloneC_r3 cloneC_res copyNote_r0 copyNote_r1 copyNote_r2 copyNote_res copyP_r0 copyP_r1 copyP_r2 copyP_r3 copyP_r4 copyP_r5 copyP_p5 copyP_r6 copyP_r7 copyP_r8 copyP_r9 copyP_r10 copyP_r11 copyP_r12 copyP_r13 copyP_r14 copyP_r15 copyP_r16 copyP_p16 copyP_r17 copyP_r18 copyP_res

theorem cloneIns_pc (l : List Ins) (h : l.length ≤ 1000) : PC Try.prog 62 [.lst 2 (l.map Ins.av)] (.lst 2 (l.map Ins.av)) := by
  refine pc_of_get cloneC_get (by simp) _ (by simp) _ ?_
  unfold cloneC_c
  cases l with
  | nil =>
    simp
    refine opG_none _ _ ?_ ?_ <;> simp
  | cons x l =>
    simp at h
    simp [ints]
    rw [if_pos (by omega)]
    simp
theorem cloneInts_pc (l : List Int) (h : l.length ≤ 1000) : PC Try.prog 63 [ints l] (ints l) := by
  refine pc_of_get cloneI_get (by simp) _ (by simp) _ ?_
  unfold cloneI_c
  cases l with
  | nil =>
    simp
    refine opG_none _ _ ?_ ?_ <;> simp
  | cons x l =>
    simp at h
    simp [ints]
    rw [if_pos (by omega)]
    simp
theorem copyNote_pc (n : Nt) (h : n.args.length ≤ 1000) : PC Try.prog 64 [n.av] n.av := by
  refine pc_of_get copyNote_get (by simp) _ (by simp) _ ?_
  unfold copyNote_c
  simp
  refine call (cloneInts_pc n.args h) (by simp) ?_
  simp
def fitP (p : Prg) : Prop := p.hs.length ≤ 1000 ∧ p.as.length ≤ 1000 ∧ p.boot.length ≤ 1000 ∧ (∀ h ∈ p.hs, h.code.length ≤ 1000) ∧ (∀ a ∈ p.as, a.regs.length ≤ 1000) ∧ (∀ n ∈ p.boot, n.args.length ≤ 1000)
def AccIs (S : St) (v : AV) (nm sz : Nat) (ty : TypeId) (xs : List AV) : Prop := (v = .nils ∧ xs = []) ∨ ∃ st, v = .acc nm st sz xs ∧ S.tok nm = some ⟨st, sz, ty⟩
theorem take_succ_map {α : Type} (f : α → AV) (l : List α) (i : Nat) (h : i < l.length) : (l.map f).take (i + 1) = (l.map f).take i ++ [f l[i]] := by
  rw [List.take_succ_eq_append_getElem (by simpa using h), List.getElem_map]
theorem AccIs.out {S : St} {v : AV} {nm sz : Nat} {ty : TypeId} {xs : List AV} (h : AccIs S v nm sz ty xs) : v.one = true ∧ v.cells = [v] ∧ ∀ B, co1 B v (.lst sz xs) := by
  rcases h with ⟨rfl, rfl⟩ | ⟨st, rfl, _⟩ <;> simp
theorem copy_pc (p : Prg) (hp : fitP p) : PC Try.prog 26 [p.av] p.av := by
  obtain ⟨q1, q2, q3, q4, q5, q6⟩ := hp
  refine pc_of_get copyP_get (by simp) _ (by simp) _ ?_
  unfold copyP_c
  simp
  refine loopN (fun i S => S.t 14 = .lst 2 (p.hs.map Hnd.av) ∧ S.t 15 = iv p.hs.length ∧ S.t 16 = iv i ∧ (∃ st, S.t 1 = .ptr 26001 st 4 0 0 ∧ S.blk 26001 = some ⟨st, 4, [p.av]⟩) ∧
    (∃ st, S.t 2 = .ptr 26002 st 4 0 0 ∧ S.blk 26002 = some ⟨st, 4, [.agg [.nils, .nils, .nils, iv 0]]⟩) ∧
    (∃ st v, S.t 3 = .ptr 26003 st 4 0 0 ∧ S.blk 26003 = some ⟨st, 4, [.agg [v, .nils, .nils, iv p.fuel]]⟩ ∧ AccIs S v 26029 2 33 ((p.hs.map Hnd.av).take i))) p.hs.length ?_ ?_
  · simp [AccIs]
  · rintro i S hi ⟨g1, g2, g3, ⟨s1, g4, g5⟩, ⟨s2, g6, g7⟩, ⟨s3, v, g8, g9, hv⟩⟩
    by_cases hlt : i < p.hs.length
    · simp [copyP_l0, g1, g2, g3, g4, g5, g6, g7, g8, g9, hlt]
      have ws := wrap_succ i _ hlt (by omega)
      have hb : (min i p.hs.length + 1) * 32 ≤ 140737488355328 := by omega
      have ht := take_succ_map Hnd.av p.hs i hlt
      rcases hv with ⟨rfl, hx⟩ | ⟨s4, rfl, hx⟩
      · refine calld (cloneIns_pc p.hs[i].code (q4 _ (List.getElem_mem hlt))) (by simp) ?_
        simp [g1, g2, g3, g4, g5, g6, g7, g8, g9, hlt, ws]
        simp [AccIs, ht, hx]
      · refine calld (cloneIns_pc p.hs[i].code (q4 _ (List.getElem_mem hlt))) (by simp) ?_
        simp [g1, g2, g3, g4, g5, g6, g7, g8, g9, hx, hlt, ws, hb]
        simp [AccIs, ht, hx]
    · have e1 : i = p.hs.length := by omega
      subst e1
      simp [copyP_l0, g1, g2, g3, g4, g5, g6, g7, g8, g9]
      rw [List.take_of_length_le (by simp)] at hv
      obtain ⟨o1, o2, o3⟩ := hv.out
      clear hv
      refine loopN (fun i S => S.t 33 = .lst 4 (p.as.map Actr.av) ∧ S.t 34 = iv p.as.length ∧ S.t 35 = iv i ∧ (∃ st, S.t 1 = .ptr 26001 st 4 0 0 ∧ S.blk 26001 = some ⟨st, 4, [p.av]⟩) ∧
        (∃ st, S.t 2 = .ptr 26002 st 4 0 0 ∧ S.blk 26002 = some ⟨st, 4, [.agg [.nils, .nils, .nils, iv 0]]⟩) ∧
        (∃ st v', S.t 3 = .ptr 26003 st 4 0 0 ∧ S.blk 26003 = some ⟨st, 4, [.agg [v, v', .nils, iv p.fuel]]⟩ ∧ AccIs S v' 26047 4 38 ((p.as.map Actr.av).take i))) p.as.length ?_ ?_
      · simp [AccIs, g4, g5, g6, g7, g8, g9]
      · clear g1 g2 g3 g4 g5 g6 g7 g8 g9 hi hlt S s1 s2 s3
        rintro i S hi ⟨g1, g2, g3, ⟨s1, g4, g5⟩, ⟨s2, g6, g7⟩, ⟨s3, v', g8, g9, hv⟩⟩
        by_cases hlt : i < p.as.length
        · simp [copyP_l1, g1, g2, g3, g4, g5, g6, g7, g8, g9, hlt]
          have ws := wrap_succ i _ hlt (by omega)
          have hb : (min i p.as.length + 1) * 48 ≤ 140737488355328 := by omega
          have ht := take_succ_map Actr.av p.as i hlt
          refine call (cloneInts_pc p.as[i].regs (q5 _ (List.getElem_mem hlt))) (by simp) ?_
          rcases hv with ⟨rfl, hx⟩ | ⟨s4, rfl, hx⟩
          · simp [g1, g2, g3, g4, g5, g6, g7, g8, g9, hlt, ws, o1, o2]
            simp [AccIs, ht, hx]
          · simp [g1, g2, g3, g4, g5, g6, g7, g8, g9, hx, hlt, ws, hb, o1, o2]
            simp [AccIs, ht, hx]
        · have e1 : i = p.as.length := by omega
          subst e1
          simp [copyP_l1, g1, g2, g3, g4, g5, g6, g7, g8, g9]
          rw [List.take_of_length_le (by simp)] at hv
          obtain ⟨r1, r2, r3⟩ := hv.out
          clear hv
          refine loopN (fun i S => S.t 51 = .lst 3 (p.boot.map Nt.av) ∧ S.t 52 = iv p.boot.length ∧ S.t 53 = iv i ∧
            (∃ st, S.t 2 = .ptr 26002 st 4 0 0 ∧ S.blk 26002 = some ⟨st, 4, [.agg [.nils, .nils, .nils, iv 0]]⟩) ∧
            (∃ st v'', S.t 3 = .ptr 26003 st 4 0 0 ∧ S.blk 26003 = some ⟨st, 4, [.agg [v, v', v'', iv p.fuel]]⟩ ∧ AccIs S v'' 26062 3 40 ((p.boot.map Nt.av).take i))) p.boot.length ?_ ?_
          · simp [AccIs, g4, g5, g6, g7, g8, g9]
          · clear g1 g2 g3 g4 g5 g6 g7 g8 g9 hi hlt S s1 s2 s3
            rintro i S hi ⟨g1, g2, g3, ⟨s2, g6, g7⟩, ⟨s3, v'', g8, g9, hv⟩⟩
            by_cases hlt : i < p.boot.length
            · simp [copyP_l2, g1, g2, g3, g6, g7, g8, g9, hlt]
              have ws := wrap_succ i _ hlt (by omega)
              have hb : (min i p.boot.length + 1) * 40 ≤ 140737488355328 := by omega
              have ht := take_succ_map Nt.av p.boot i hlt
              rcases hv with ⟨rfl, hx⟩ | ⟨s4, rfl, hx⟩
              · refine calld (copyNote_pc p.boot[i] (q6 _ (List.getElem_mem hlt))) (by simp) ?_
                simp [g1, g2, g3, g6, g7, g8, g9, hlt, ws, o1, o2, r1, r2]
                simp [AccIs, ht, hx]
              · refine calld (copyNote_pc p.boot[i] (q6 _ (List.getElem_mem hlt))) (by simp) ?_
                simp [g1, g2, g3, g6, g7, g8, g9, hx, hlt, ws, hb, o1, o2, r1, r2]
                simp [AccIs, ht, hx]
            · have e1 : i = p.boot.length := by omega
              subst e1
              rw [List.take_of_length_le (by simp)] at hv
              obtain ⟨t1, t2, t3⟩ := hv.out
              simp [copyP_l2, g1, g2, g3, g6, g7, g8, g9, o1, o2, o3, r1, r2, r3, t1, t2, t3]


end Go.Gv
