/- Texts of this proof, one behind the other. What is proved, and on which conditions, stands ahead of each. -/
import Derived.Test.YthidhohdcjojhaaGreatDoorProg
import Derived.Test.YthidhohdcjojhaaGreatDoorM238039fa
import Derived.Test.YthidhohdcjojhaaGreatDoorM20ca99db
import Derived.Test.YthidhohdcjojhaaGreatDoorM218a4529

set_option linter.unusedVariables false
set_option linter.unusedSimpArgs false
namespace Go.Gv
open Go.Proofs
def xtakes_r0 : List AI := [oA 2 (.mv (.c (.int .i64 0)))]
def xtakes_r1 : List AI := [oA 3 (.mv (.t 0)), oC 4 (.c (.fn 174 [])) [(.t 3)], oA 2 (.mv (.t 4))]
def xtakes_c : AC := (.seq (.reg xtakes_r0) (.seq (.reg xtakes_r1) .ret))
def xtakes_res : List ARes := [(.tmp 2)]
set_option maxRecDepth 100000 in
theorem xtakes_get : getF Tryz.prog 126 242000 [] = some ("gavotte/expr.takes", 5, xtakes_c, xtakes_res) := by kernel_rfl
def xputs_r0 : List AI := [oA 2 (.mv (.c (.int .i64 0)))]
def xputs_r1 : List AI := [oA 3 (.mv (.t 0)), oC 4 (.c (.fn 171 [])) [(.t 3)]]
def xputs_r2 : List AI := [oA 2 (.mv (.c (.int .i64 1)))]
def xputs_r3 : List AI := [oA 5 (.mv (.t 0)), oC 6 (.c (.fn 168 [])) [(.t 5)], oA 2 (.mv (.t 6))]
def xputs_c : AC := (.seq (.reg xputs_r0) (.seq (.seq (.reg xputs_r1) (.cond (.t 4) (.seq (.reg xputs_r2) .ret) .skip)) (.seq (.reg xputs_r3) .ret)))
def xputs_res : List ARes := [(.tmp 2)]
set_option maxRecDepth 100000 in
theorem xputs_get : getF Tryz.prog 125 243000 [] = some ("gavotte/expr.puts", 7, xputs_c, xputs_res) := by kernel_rfl
def xinstr_r0 : List AI := [oA 3 (.box 244003 4 (.t 0)), oA 4 (.box 244004 2 (.t 1)), oA 6 (.mv (.c (.int .i64 0)))]
def xinstr_r1 : List AI := [oA 10 (.load (some 2) (.t 4)), oC 11 (.c (.fn 170 [])) [(.t 10)], oA 9 (.mv (.t 11)), oA 12 (.ext (.t 9) 0), oA 13 (.ext (.t 9) 1), oA 7 (.mv (.t 12)), oA 8 (.mv (.t 13))]
def xinstr_r2 : List AI := [oA 15 (.fld 0 (.t 4)), oA 16 (.load none (.t 15)), oC 17 (.c (.fn 171 [])) [(.t 16)], oA 18 (.not (.t 17)), oA 19 (.mv (.t 18)), oG 20 19 true (.fld 0 (.t 4)), oG 21 19 true (.load none (.t 20)), ⟨(some 22), (some (19, true)), (.call (.c (.fn 172 [])) [(.t 21)])⟩, oG 23 19 true (.not (.t 22)), oA 24 (.pick (.t 19) (.t 23) (.c (.bool false))), oA 14 (.mv (.t 24))]
def xinstr_r3 : List AI := [oA 25 (.fld 0 (.t 4)), oA 26 (.load none (.t 25)), oC 27 (.c (.fn 173 [])) [(.t 26)], oA 28 (.not (.t 27)), oA 29 (.mv (.t 28)), oG 30 29 true (.fld 1 (.t 4)), oG 31 29 true (.load none (.t 30)), oG 32 29 true (.ibin .neq (.t 31) (.c (.int .i64 0))), oA 33 (.pick (.t 29) (.t 32) (.c (.bool false))), oA 14 (.mv (.t 33))]
def xinstr_r4 : List AI := [oA 6 (.mv (.c (.int .i64 1)))]
def xinstr_r5 : List AI := [oA 35 (.fld 0 (.t 4)), oA 36 (.load none (.t 35)), oA 37 (.ibin .eql (.t 36) (.c (.int .i64 31))), oA 38 (.mv (.t 37)), oG 39 38 true (.fld 1 (.t 4)), oG 40 38 true (.load none (.t 39)), oG 41 38 true (.ibin .and (.t 40) (.c (.int .i64 15))), oG 42 38 true (.ibin .geq (.t 41) (.c (.int .i64 8))), oA 43 (.pick (.t 38) (.t 42) (.c (.bool false))), oA 34 (.mv (.t 43))]
def xinstr_r6 : List AI := [oA 6 (.mv (.c (.int .i64 6)))]
def xinstr_r7 : List AI := [oA 45 (.mv (.t 8)), oA 46 (.mv (.t 45)), oG 47 46 true (.mv (.t 7)), oG 48 46 true (.ibin .lss (.t 47) (.c (.int .i64 0))), oG 49 46 true (.mv (.t 48)), oG 50 49 false (.mv (.t 7)), oG 51 49 false (.fld 1 (.t 3)), oG 52 49 false (.load none (.t 51)), oG 53 49 false (.len (.t 52)), oG 54 49 false (.ibin .geq (.t 50) (.t 53)), oG 55 46 true (.pick (.t 49) (.c (.bool true)) (.t 54)), oA 56 (.pick (.t 46) (.t 55) (.c (.bool false))), oA 44 (.mv (.t 56))]
def xinstr_r8 : List AI := [oA 6 (.mv (.c (.int .i64 7)))]
def xinstr_r9 : List AI := [oA 58 (.mv (.t 2)), oA 59 (.fld 0 (.t 4)), oA 60 (.load none (.t 59)), oC 61 (.c (.fn 126 [])) [(.t 60)], oA 62 (.ibin .lss (.t 58) (.t 61)), oA 57 (.mv (.t 62))]
def xinstr_r10 : List AI := [oA 63 (.mv (.t 2)), oA 64 (.fld 0 (.t 4)), oA 65 (.load none (.t 64)), oC 66 (.c (.fn 126 [])) [(.t 65)], oA 67 (.ibin .sub (.t 63) (.t 66)), oA 68 (.fld 0 (.t 4)), oA 69 (.load none (.t 68)), oC 70 (.c (.fn 125 [])) [(.t 69)], oA 71 (.ibin .add (.t 67) (.t 70)), oA 72 (.ibin .gtr (.t 71) (.c (.int .i64 8))), oA 57 (.mv (.t 72))]
def xinstr_p10 : List (List Nat) := [[], [], [1], [2, 1], [0, 3, 2, 1], [], [5], [6, 3, 5, 2, 1], [4, 7, 0, 3, 2, 1, 6, 5], [8, 4, 7, 0, 3, 2, 1, 6, 5], [9, 7, 8, 4, 0, 3, 2, 1, 6, 5]]
def xinstr_r11 : List AI := [oA 6 (.mv (.c (.int .i64 5)))]
def xinstr_r12 : List AI := [oA 6 (.mv (.c (.int .i64 0)))]
def xinstr_c : AC := (.seq (.reg xinstr_r0) (.seq (.reg xinstr_r1) (.seq (.block 0 (.seq (.seq (.reg xinstr_r2) (.cond (.t 14) .skip (.reg xinstr_r3))) (.cond (.t 14) (.seq (.reg xinstr_r4) .ret) (.seq (.reg xinstr_r5) (.cond (.t 34) (.seq (.reg xinstr_r6) .ret) (.seq (.reg xinstr_r7) (.cond (.t 44) (.seq (.reg xinstr_r8) .ret) (.seq (.seq (.reg xinstr_r9) (.cond (.t 57) .skip (.regd xinstr_r10 xinstr_p10))) (.cond (.t 57) (.seq (.reg xinstr_r11) .ret) .skip))))))))) (.seq (.reg xinstr_r12) .ret))))
def xinstr_res : List ARes := [(.tmp 6)]
set_option maxRecDepth 100000 in
theorem xinstr_get : getF Tryz.prog 124 244000 [] = some ("gavotte/expr.instr", 73, xinstr_c, xinstr_res) := by kernel_rfl
def xcheck_r0 : List AI := [oA 2 (.box 245002 4 (.t 0)), oA 4 (.mv (.c (.int .i64 0)))]
def xcheck_r1 : List AI := [oA 10 (.load (some 4) (.t 2)), oC 11 (.c (.fn 89 [])) [(.t 10)], oA 5 (.mv (.t 11))]
def xcheck_r2 : List AI := [oA 12 (.mv (.t 5)), oA 13 (.ibin .neq (.t 12) (.c (.int .i64 0)))]
def xcheck_r3 : List AI := [oA 14 (.mv (.t 5)), oA 4 (.mv (.t 14))]
def xcheck_r4 : List AI := [oA 15 (.mv (.t 1)), oA 16 (.len (.t 15)), oA 17 (.ibin .gtr (.t 16) (.c (.int .i64 64)))]
def xcheck_r5 : List AI := [oA 4 (.mv (.c (.int .i64 3)))]
def xcheck_r6 : List AI := [oA 6 (.mv (.c (.int .i64 0)))]
def xcheck_r7 : List AI := [oA 18 (.mv (.t 1)), oA 19 (.len (.t 18)), oA 20 (.mv (.c (.int .i64 0)))]
def xcheck_r8 : List AI := [oA 21 (.ibin .lss (.t 20) (.t 19))]
def xcheck_r9 : List AI := [oA 22 (.idx 2 (.t 18) (.t 20)), oA 23 (.load (some 2) (.t 22)), oA 8 (.new 245008 2 (.agg [(.int .i64 0), (.int .i64 0)])), oN (.store 2 (.t 8) (.t 23))]
def xcheck_r10 : List AI := [oA 24 (.load (some 4) (.t 2)), oA 25 (.load (some 2) (.t 8)), oA 26 (.mv (.t 6)), oC 27 (.c (.fn 124 [])) [(.t 24), (.t 25), (.t 26)], oA 9 (.mv (.t 27))]
def xcheck_r11 : List AI := [oA 28 (.mv (.t 9)), oA 29 (.ibin .neq (.t 28) (.c (.int .i64 0)))]
def xcheck_r12 : List AI := [oA 30 (.mv (.t 9)), oA 4 (.mv (.t 30))]
def xcheck_r13 : List AI := [oA 31 (.mv (.t 6)), oA 32 (.fld 0 (.t 8)), oA 33 (.load none (.t 32)), oC 34 (.c (.fn 125 [])) [(.t 33)], oA 35 (.fld 0 (.t 8)), oA 36 (.load none (.t 35)), oC 37 (.c (.fn 126 [])) [(.t 36)], oA 38 (.ibin .sub (.t 34) (.t 37)), oA 39 (.ibin .add (.t 31) (.t 38)), oA 6 (.mv (.t 39))]
def xcheck_p13 : List (List Nat) := [[], [], [1], [2, 1], [], [4], [5, 3, 4, 2, 1], [3, 6, 2, 1, 5, 4], [0, 7, 3, 6, 2, 1, 5, 4], [8, 6, 0, 1, 2, 3, 4, 5, 7]]
def xcheck_r14 : List AI := [oA 40 (.ibin .add (.t 20) (.c (.int .i64 1))), oA 20 (.mv (.t 40))]
def xcheck_l0 : AC := (.seq (.reg xcheck_r8) (.seq (.cond (.t 21) .skip (.exit 0)) (.seq (.block 1 (.seq (.reg xcheck_r9) (.seq (.seq (.reg xcheck_r10) (.seq (.reg xcheck_r11) (.cond (.t 29) (.seq (.reg xcheck_r12) .ret) .skip))) (.regd xcheck_r13 xcheck_p13)))) (.reg xcheck_r14))))
def xcheck_r15 : List AI := [oA 41 (.mv (.t 6)), oA 42 (.ibin .neq (.t 41) (.c (.int .i64 1)))]
def xcheck_r16 : List AI := [oA 4 (.mv (.c (.int .i64 5)))]
def xcheck_r17 : List AI := [oA 4 (.mv (.c (.int .i64 0)))]
def xcheck_c : AC := (.seq (.reg xcheck_r0) (.seq (.seq (.reg xcheck_r1) (.seq (.reg xcheck_r2) (.cond (.t 13) (.seq (.reg xcheck_r3) .ret) .skip))) (.seq (.seq (.reg xcheck_r4) (.cond (.t 17) (.seq (.reg xcheck_r5) .ret) .skip)) (.seq (.reg xcheck_r6) (.seq (.seq (.reg xcheck_r7) (.block 0 (.loop xcheck_l0))) (.seq (.seq (.reg xcheck_r15) (.cond (.t 42) (.seq (.reg xcheck_r16) .ret) .skip)) (.seq (.reg xcheck_r17) .ret)))))))
def xcheck_res : List ARes := [(.tmp 4)]
set_option maxRecDepth 100000 in
theorem xcheck_get : getF Tryz.prog 90 245000 [] = some ("gavotte/expr.Check", 43, xcheck_c, xcheck_res) := by kernel_rfl
def wcheck_r0 : List AI := [oA 2 (.box 246002 4 (.t 0)), oA 4 (.mv (.c (.int .i64 0)))]
def wcheck_r1 : List AI := [oA 9 (.mv (.t 1)), oA 10 (.len (.t 9)), oA 11 (.ibin .gtr (.t 10) (.c (.int .i64 8)))]
def wcheck_r2 : List AI := [oA 4 (.mv (.c (.int .i64 3)))]
def wcheck_r3 : List AI := [oA 12 (.load (some 4) (.t 2)), oC 13 (.c (.fn 89 [])) [(.t 12)], oA 5 (.mv (.t 13))]
def wcheck_r4 : List AI := [oA 14 (.mv (.t 5)), oA 15 (.ibin .neq (.t 14) (.c (.int .i64 0)))]
def wcheck_r5 : List AI := [oA 16 (.mv (.t 5)), oA 4 (.mv (.t 16))]
def wcheck_r6 : List AI := [oA 17 (.mv (.t 1)), oA 18 (.len (.t 17)), oA 19 (.mv (.c (.int .i64 0)))]
def wcheck_r7 : List AI := [oA 20 (.ibin .lss (.t 19) (.t 18))]
def wcheck_r8 : List AI := [oA 21 (.idx 1 (.t 17) (.t 19)), oA 22 (.load none (.t 21)), oA 7 (.mv (.t 22))]
def wcheck_r9 : List AI := [oA 23 (.load (some 4) (.t 2)), oA 24 (.mv (.t 7)), oC 25 (.c (.fn 90 [])) [(.t 23), (.t 24)], oA 8 (.mv (.t 25))]
def wcheck_r10 : List AI := [oA 26 (.mv (.t 8)), oA 27 (.ibin .neq (.t 26) (.c (.int .i64 0)))]
def wcheck_r11 : List AI := [oA 28 (.mv (.t 8)), oA 4 (.mv (.t 28))]
def wcheck_r12 : List AI := [oA 29 (.ibin .add (.t 19) (.c (.int .i64 1))), oA 19 (.mv (.t 29))]
def wcheck_l0 : AC := (.seq (.reg wcheck_r7) (.seq (.cond (.t 20) .skip (.exit 0)) (.seq (.block 1 (.seq (.reg wcheck_r8) (.seq (.reg wcheck_r9) (.seq (.reg wcheck_r10) (.cond (.t 27) (.seq (.reg wcheck_r11) .ret) .skip))))) (.reg wcheck_r12))))
def wcheck_r13 : List AI := [oA 4 (.mv (.c (.int .i64 0)))]
def wcheck_c : AC := (.seq (.reg wcheck_r0) (.seq (.seq (.reg wcheck_r1) (.cond (.t 11) (.seq (.reg wcheck_r2) .ret) .skip)) (.seq (.seq (.reg wcheck_r3) (.seq (.reg wcheck_r4) (.cond (.t 15) (.seq (.reg wcheck_r5) .ret) .skip))) (.seq (.seq (.reg wcheck_r6) (.block 0 (.loop wcheck_l0))) (.seq (.reg wcheck_r13) .ret)))))
def wcheck_res : List ARes := [(.tmp 4)]
set_option maxRecDepth 100000 in
theorem wcheck_get : getF Tryz.prog 55 246000 [] = some ("gavotte/watch.Check", 30, wcheck_c, wcheck_res) := by kernel_rfl
def wof_r0 : List AI := [oA 2 (.box 247002 6 (.t 0)), oA 4 (.mv (.c .nils))]
def wof_r1 : List AI := [oA 7 (.mv (.t 1)), oA 8 (.len (.t 7)), oA 9 (.mv (.c (.int .i64 0)))]
def wof_r2 : List AI := [oA 10 (.ibin .lss (.t 9) (.t 8))]
def wof_r3 : List AI := [oA 11 (.mv (.t 9)), oA 12 (.idx 1 (.t 7) (.t 9)), oA 13 (.load none (.t 12)), oA 5 (.mv (.t 11)), oA 6 (.mv (.t 13))]
def wof_r4 : List AI := [oA 14 (.load (some 6) (.t 2)), oA 15 (.mv (.t 6)), oC 16 (.c (.fn 128 [])) [(.t 14), (.t 15)], oA 17 (.ibin .eql (.t 16) (.c (.int .i64 0)))]
def wof_r5 : List AI := [oA 18 (.mv (.t 4)), oA 19 (.mv (.t 5)), oA 20 (.bsl 247020 1 3 1 (.int .i64 0) [(0, (.t 19))]), oA 21 (.app 247021 1 3 8 (.t 18) (.t 20)), oA 4 (.mv (.t 21))]
def wof_r6 : List AI := [oA 22 (.ibin .add (.t 9) (.c (.int .i64 1))), oA 9 (.mv (.t 22))]
def wof_l0 : AC := (.seq (.reg wof_r2) (.seq (.cond (.t 10) .skip (.exit 0)) (.seq (.block 1 (.seq (.reg wof_r3) (.seq (.reg wof_r4) (.cond (.t 17) (.reg wof_r5) .skip)))) (.reg wof_r6))))
def wof_r7 : List AI := [oA 23 (.mv (.t 4)), oA 4 (.mv (.t 23))]
def wof_c : AC := (.seq (.reg wof_r0) (.seq (.seq (.reg wof_r1) (.block 0 (.loop wof_l0))) (.seq (.reg wof_r7) .ret)))
def wof_res : List ARes := [(.tmp 4)]
set_option maxRecDepth 100000 in
theorem wof_get : getF Tryz.prog 93 247000 [] = some ("gavotte/watch.Of", 24, wof_c, wof_res) := by kernel_rfl
attribute [simp] xtakes_r0 xtakes_r1 xtakes_res xputs_r0 xputs_r1 xputs_r2 xputs_r3 xputs_res xinstr_r0 xinstr_r1 xinstr_r2 xinstr_r3 xinstr_r4 xinstr_r5 xinstr_r6 xinstr_r7 xinstr_r8 xinstr_r9 xinstr_r10 xinstr_p10 xinstr_r11 xinstr_r12 xinstr_res xcheck_r0 xcheck_r1 xcheck_r2 xcheck_r3 xcheck_r4 xcheck_r5 xcheck_r6 xcheck_r7 xcheck_r8 xcheck_r9 xcheck_r10 xcheck_r11 xcheck_r12 xcheck_r13 xcheck_p13 xcheck_r14 xcheck_r15 xcheck_r16 xcheck_r17 xcheck_res wcheck_r0 wcheck_r1 wcheck_r2 wcheck_r3 wcheck_r4 wcheck_r5 wcheck_r6 wcheck_r7 wcheck_r8 wcheck_r9 wcheck_r10 wcheck_r11 wcheck_r12 wcheck_r13 wcheck_res wof_r0 wof_r1 wof_r2 wof_r3 wof_r4 wof_r5 wof_r6 wof_r7 wof_res
theorem xtakes_pc (op : Int) : PC Tryz.prog 126 [iv op] (iv (popsV op)) := by
 refine pc_of_get xtakes_get (by simp) _ (by simp) _ ?_
 unfold xtakes_c
 simp
 refine call (pops_pc op) (by simp) ?_
 simp
def xputsV (op : Int) : Int := if asksV op = true then 1 else putsV op
theorem xputs_pc (op : Int) : PC Tryz.prog 125 [iv op] (iv (xputsV op)) := by
 refine pc_of_get xputs_get (by simp) _ (by simp) _ ?_
 unfold xputs_c xputsV
 simp
 refine call (xasks_pc op) (by simp) ?_
 cases ha : asksV op with
 | true => simp
 | false =>
   simp
   refine call (puts_pc op) (by simp) ?_
   simp
theorem badL_take (w : Wld) : ∀ (l : List (List Ins)) (i : Nat) (h : i < l.length) (j : Nat), badL w j (l.take (i + 1)) = badL w j (l.take i) ++ if ofV w l[i] = 0 then [((j + i : Nat) : Int)] else []
 | [], _, h, _ => by simp at h
 | x :: l, 0, _, j => by
   simp only [List.take_succ_cons, List.take_zero, badL, List.getElem_cons_zero, Nat.add_zero]
   split <;> simp
 | x :: l, i + 1, h, j => by
   rw [List.take_succ_cons, List.take_succ_cons, badL, badL, badL_take w l i (by simpa using h)]
   simp only [List.getElem_cons_succ]
   rw [show j + 1 + i = j + (i + 1) by omega]
   split <;> simp
theorem badL_len (w : Wld) : ∀ (l : List (List Ins)) (j : Nat), (badL w j l).length <= l.length
 | [], _ => Nat.le_refl _
 | x :: l, j => by
   unfold badL
   have := badL_len w l (j + 1)
   split <;> simp <;> omega
theorem wof_pc (w : Wld) (hw : WOk w) (l : List (List Ins)) (hl : l.length <= 1000) (h : ∀ x ∈ l, ExOk w x) : PC Tryz.prog 93 [w.av, .lst 1 (l.map fun x => .lst 2 (x.map Ins.av))] (ints (badV w l)) := by
 refine pc_of_get wof_get (by simp) _ (by simp) _ ?_
 unfold wof_c badV
 simp
 refine loopN (fun i S => S.t 2 = .ptr 247002 0 6 0 0 /\ S.blk 247002 = some ⟨0, 6, [w.av]⟩ /\ S.t 7 = .lst 1 (l.map fun x => .lst 2 (x.map Ins.av)) /\ S.t 8 = iv l.length /\ S.t 9 = iv i /\ AccIs S (S.t 4) 247021 1 3 ((badL w 0 (l.take i)).map iv)) l.length ?_ ?_
 . exact ⟨by simp, by simp, by simp, by simp, by simp, .inl ⟨by simp, by simp [badL]⟩⟩
 . rintro i S hi ⟨g2, b2, g7, g8, g9, g4⟩
   obtain ⟨v, g5⟩ : ∃ v, S.t 4 = v := ⟨_, rfl⟩
   rw [g5] at g4
   by_cases hlt : i < l.length
   . have ws := wrap_succ i _ hlt (by omega)
     have hbl := badL_take w l i hlt 0
     rw [Nat.zero_add] at hbl
     have hll := badL_len w (l.take i) 0
     rw [List.length_take] at hll
     have hx := xof_pc w hw l[i] (h _ (List.getElem_mem hlt))
     simp [wof_l0, g2, b2, g5, g7, g8, g9, hlt]
     refine call hx (by simp [Wld.av]) ?_
     simp [g2, b2, g5, g7, g8, g9]
     by_cases hz : ofV w l[i] = 0
     . rw [if_pos hz] at hbl
       have hbd : ((badL w 0 (l.take i)).length + 1) * 8 <= 140737488355328 := by omega
       rcases g4 with ⟨rfl, q⟩ | ⟨st, rfl, q⟩
       . simp [hz, g2, b2, g5, g7, g8, g9, ws]
         rw [hbl, List.map_append, q]
         exact .inr ⟨_, by simp; rfl, by simp⟩
       . simp [hz, g2, b2, g5, g7, g8, g9, ws, q, hbd]
         rw [hbl]
         exact .inr ⟨_, by simp; rfl, by simp⟩
     . rw [if_neg hz, List.append_nil] at hbl
       simp [hz, g2, b2, g5, g7, g8, g9, ws]
       rw [hbl]
       simpa [AccIs, g5] using g4
   . have e1 : i = l.length := by omega
     subst e1
     rw [List.take_length] at g4
     rcases g4 with ⟨rfl, q⟩ | ⟨st, rfl, q⟩
     . simp [wof_l0, g5, g7, g8, g9, ints, q]
     . simp [wof_l0, g5, g7, g8, g9, ints]
def low16 (a : Int) : Int := bitAnd IntKind.i64 a 15
def xinstrV (p : Prg) (i : Ins) (n : Int) : Int :=
 if (asksV i.op = false /\ reckV i.op = false) \/ (someV i.op = false /\ i.a ≠ 0) then 1
 else if i.op = 31 /\ 8 <= low16 i.a then 6
 else if (asksV i.op = true /\ i.op ≠ 37) /\ (whoX i < 0 \/ (p.as.length : Int) <= whoX i) then 7
 else if n < popsV i.op \/ 8 < n - popsV i.op + xputsV i.op then 5 else 0
theorem xinstr_end (p : Prg) (i : Ins) (n : Int) (h1 : -1000000 <= n /\ n <= 1000000) : IntKind.i64.wrap (n - popsV i.op) = n - popsV i.op /\ IntKind.i64.wrap (n - popsV i.op + xputsV i.op) = n - popsV i.op + xputsV i.op := by
 have a1 : 0 <= popsV i.op /\ popsV i.op <= 2 := by unfold popsV; split <;> (try split) <;> omega
 have a2 : 0 <= xputsV i.op /\ xputsV i.op <= 2 := by unfold xputsV putsV; split <;> (try split) <;> (try split) <;> omega
 exact ⟨wrap_in _ (by omega) (by omega), wrap_in _ (by omega) (by omega)⟩
theorem someV_asks {op : Int} (ha : asksV op = true) (h : op ≠ 37) : someV op = true := by
 unfold someV; rw [ha]; simp [h]
def tailV (i : Ins) (n : Int) : Int := if n < popsV i.op \/ 8 < n - popsV i.op + xputsV i.op then 5 else 0
theorem xinstr_A (p : Prg) (i : Ins) (n : Int) (hb : i.a <= 9223372036854775807) (hn : -1000000 <= n /\ n <= 1000000) (ha : asksV i.op = true) (h37 : i.op ≠ 37) : PC Tryz.prog 124 [p.av, i.av, iv n] (iv (xinstrV p i n)) := by
 have hs := someV_asks ha h37
 have d37 := decide_eq_false h37
 by_cases h31 : i.op = 31
 . have d31 := decide_eq_true h31
   by_cases hlo : 8 <= low16 i.a
   . have hv : xinstrV p i n = 6 := by unfold xinstrV; rw [if_neg (by simp [ha, hs]), if_pos ⟨h31, hlo⟩]
     unfold low16 at hlo
     obtain ⟨w1, w2⟩ := xinstr_end p i n hn
     refine pc_of_get xinstr_get (by simp) _ (by simp) _ ?_
     unfold xinstr_c
     rw [hv]
     simp [Prg.av]
     refine call (xwhose_pc i hb) (by simp) ?_
     simp
     refine call (xasks_pc i.op) (by simp) ?_
     rw [ha, d37]
     simp
     refine call (xsome_pc i.op) (by simp) ?_
     rw [hs]
     simp [d31, hlo]
   . unfold low16 at hlo
     by_cases hw0 : whoX i < 0
     . have hv : xinstrV p i n = 7 := by unfold xinstrV; rw [if_neg (by simp [ha, hs]), if_neg (fun q => hlo q.2), if_pos ⟨⟨ha, h37⟩, .inl hw0⟩]
       obtain ⟨w1, w2⟩ := xinstr_end p i n hn
       refine pc_of_get xinstr_get (by simp) _ (by simp) _ ?_
       unfold xinstr_c
       rw [hv]
       simp [Prg.av]
       refine call (xwhose_pc i hb) (by simp) ?_
       simp
       refine call (xasks_pc i.op) (by simp) ?_
       rw [ha, d37]
       simp
       refine call (xsome_pc i.op) (by simp) ?_
       rw [hs]
       simp [d31, hlo, hw0]
     . by_cases hw1 : (p.as.length : Int) <= whoX i
       . have hv : xinstrV p i n = 7 := by unfold xinstrV; rw [if_neg (by simp [ha, hs]), if_neg (fun q => hlo q.2), if_pos ⟨⟨ha, h37⟩, .inr hw1⟩]
         obtain ⟨w1, w2⟩ := xinstr_end p i n hn
         refine pc_of_get xinstr_get (by simp) _ (by simp) _ ?_
         unfold xinstr_c
         rw [hv]
         simp [Prg.av]
         refine call (xwhose_pc i hb) (by simp) ?_
         simp
         refine call (xasks_pc i.op) (by simp) ?_
         rw [ha, d37]
         simp
         refine call (xsome_pc i.op) (by simp) ?_
         rw [hs]
         simp [d31, hlo, hw0, hw1]
       . have hv : xinstrV p i n = tailV i n := by unfold xinstrV; rw [if_neg (by simp [ha, hs]), if_neg (fun q => hlo q.2), if_neg (fun q => q.2.elim hw0 hw1)]; rfl
         obtain ⟨w1, w2⟩ := xinstr_end p i n hn
         refine pc_of_get xinstr_get (by simp) _ (by simp) _ ?_
         unfold xinstr_c
         rw [hv]
         simp [Prg.av]
         refine call (xwhose_pc i hb) (by simp) ?_
         simp
         refine call (xasks_pc i.op) (by simp) ?_
         rw [ha, d37]
         simp
         refine call (xsome_pc i.op) (by simp) ?_
         rw [hs]
         unfold tailV
         simp [d31, hlo, hw0, hw1]
         refine call (xtakes_pc i.op) (by simp) ?_
         by_cases hlt : n < popsV i.op
         . simp [hlt]
         . simp [hlt]
           refine calld (xtakes_pc i.op) (by simp) ?_
           simp [w1]
           refine calld (xputs_pc i.op) (by simp) ?_
           simp [w1, w2]
           by_cases h8 : 8 < n - popsV i.op + xputsV i.op
           . simp [h8]
           . simp [h8]
             omega
 . have d31 := decide_eq_false h31
   by_cases hw0 : whoX i < 0
   . have hv : xinstrV p i n = 7 := by unfold xinstrV; rw [if_neg (by simp [ha, hs]), if_neg (fun q => h31 q.1), if_pos ⟨⟨ha, h37⟩, .inl hw0⟩]
     obtain ⟨w1, w2⟩ := xinstr_end p i n hn
     refine pc_of_get xinstr_get (by simp) _ (by simp) _ ?_
     unfold xinstr_c
     rw [hv]
     simp [Prg.av]
     refine call (xwhose_pc i hb) (by simp) ?_
     simp
     refine call (xasks_pc i.op) (by simp) ?_
     rw [ha, d37]
     simp
     refine call (xsome_pc i.op) (by simp) ?_
     rw [hs]
     simp [d31, hw0]
   . by_cases hw1 : (p.as.length : Int) <= whoX i
     . have hv : xinstrV p i n = 7 := by unfold xinstrV; rw [if_neg (by simp [ha, hs]), if_neg (fun q => h31 q.1), if_pos ⟨⟨ha, h37⟩, .inr hw1⟩]
       obtain ⟨w1, w2⟩ := xinstr_end p i n hn
       refine pc_of_get xinstr_get (by simp) _ (by simp) _ ?_
       unfold xinstr_c
       rw [hv]
       simp [Prg.av]
       refine call (xwhose_pc i hb) (by simp) ?_
       simp
       refine call (xasks_pc i.op) (by simp) ?_
       rw [ha, d37]
       simp
       refine call (xsome_pc i.op) (by simp) ?_
       rw [hs]
       simp [d31, hw0, hw1]
     . have hv : xinstrV p i n = tailV i n := by unfold xinstrV; rw [if_neg (by simp [ha, hs]), if_neg (fun q => h31 q.1), if_neg (fun q => q.2.elim hw0 hw1)]; rfl
       obtain ⟨w1, w2⟩ := xinstr_end p i n hn
       refine pc_of_get xinstr_get (by simp) _ (by simp) _ ?_
       unfold xinstr_c
       rw [hv]
       simp [Prg.av]
       refine call (xwhose_pc i hb) (by simp) ?_
       simp
       refine call (xasks_pc i.op) (by simp) ?_
       rw [ha, d37]
       simp
       refine call (xsome_pc i.op) (by simp) ?_
       rw [hs]
       unfold tailV
       simp [d31, hw0, hw1]
       refine call (xtakes_pc i.op) (by simp) ?_
       by_cases hlt : n < popsV i.op
       . simp [hlt]
       . simp [hlt]
         refine calld (xtakes_pc i.op) (by simp) ?_
         simp [w1]
         refine calld (xputs_pc i.op) (by simp) ?_
         simp [w1, w2]
         by_cases h8 : 8 < n - popsV i.op + xputsV i.op
         . simp [h8]
         . simp [h8]
           omega
theorem xinstr_37 (p : Prg) (i : Ins) (n : Int) (hb : i.a <= 9223372036854775807) (hn : -1000000 <= n /\ n <= 1000000) (h37 : i.op = 37) : PC Tryz.prog 124 [p.av, i.av, iv n] (iv (xinstrV p i n)) := by
 have ha : asksV i.op = true := by rw [h37]; rfl
 have hs : someV i.op = false := by rw [h37]; rfl
 have d37 := decide_eq_true h37
 have d31 : decide (i.op = 31) = false := decide_eq_false (by omega)
 by_cases h0 : i.a = 0
 . have hv : xinstrV p i n = tailV i n := by unfold xinstrV; rw [if_neg (by simp [ha, h0]), if_neg (fun q => by omega), if_neg (fun q => q.1.2 h37)]; rfl
   obtain ⟨w1, w2⟩ := xinstr_end p i n hn
   refine pc_of_get xinstr_get (by simp) _ (by simp) _ ?_
   unfold xinstr_c
   rw [hv]
   simp [Prg.av]
   refine call (xwhose_pc i hb) (by simp) ?_
   simp
   refine call (xasks_pc i.op) (by simp) ?_
   rw [ha, d37]
   simp
   refine call (xsome_pc i.op) (by simp) ?_
   rw [hs]
   unfold tailV
   simp [h0, d31]
   refine call (xtakes_pc i.op) (by simp) ?_
   by_cases hlt : n < popsV i.op
   . simp [hlt]
   . simp [hlt]
     refine calld (xtakes_pc i.op) (by simp) ?_
     simp [w1]
     refine calld (xputs_pc i.op) (by simp) ?_
     simp [w1, w2]
     by_cases h8 : 8 < n - popsV i.op + xputsV i.op
     . simp [h8]
     . simp [h8]
       omega
 . have hv : xinstrV p i n = 1 := by unfold xinstrV; rw [if_pos (.inr ⟨hs, h0⟩)]
   obtain ⟨w1, w2⟩ := xinstr_end p i n hn
   refine pc_of_get xinstr_get (by simp) _ (by simp) _ ?_
   unfold xinstr_c
   rw [hv]
   simp [Prg.av]
   refine call (xwhose_pc i hb) (by simp) ?_
   simp
   refine call (xasks_pc i.op) (by simp) ?_
   rw [ha, d37]
   simp
   refine call (xsome_pc i.op) (by simp) ?_
   rw [hs]
   simp [h0]
theorem xinstr_B (p : Prg) (i : Ins) (n : Int) (hb : i.a <= 9223372036854775807) (hn : -1000000 <= n /\ n <= 1000000) (ha : asksV i.op = false) : PC Tryz.prog 124 [p.av, i.av, iv n] (iv (xinstrV p i n)) := by
 have d31 : decide (i.op = 31) = false := decide_eq_false (fun q => by rw [q] at ha; cases ha)
 cases hr : reckV i.op with
 | false =>
   have hv : xinstrV p i n = 1 := by unfold xinstrV; rw [if_pos (.inl ⟨ha, hr⟩)]
   obtain ⟨w1, w2⟩ := xinstr_end p i n hn
   refine pc_of_get xinstr_get (by simp) _ (by simp) _ ?_
   unfold xinstr_c
   rw [hv]
   simp [Prg.av]
   refine call (xwhose_pc i hb) (by simp) ?_
   simp
   refine call (xasks_pc i.op) (by simp) ?_
   rw [ha]
   simp
   refine call (xreck_pc i.op) (by simp) ?_
   rw [hr]
   simp
 | true =>
   by_cases h0 : someV i.op = false /\ i.a ≠ 0
   . have hv : xinstrV p i n = 1 := by unfold xinstrV; rw [if_pos (.inr h0)]
     obtain ⟨w1, w2⟩ := xinstr_end p i n hn
     refine pc_of_get xinstr_get (by simp) _ (by simp) _ ?_
     unfold xinstr_c
     rw [hv]
     simp [Prg.av]
     refine call (xwhose_pc i hb) (by simp) ?_
     simp
     refine call (xasks_pc i.op) (by simp) ?_
     rw [ha]
     simp
     refine call (xreck_pc i.op) (by simp) ?_
     rw [hr]
     simp
     refine call (xsome_pc i.op) (by simp) ?_
     rw [h0.1]
     simp [h0.2]
   . have hv : xinstrV p i n = tailV i n := by
       unfold xinstrV
       rw [if_neg (by rintro (q | q)
                      . rw [hr] at q; cases q.2
                      . exact h0 q), if_neg (fun q => by rw [q.1] at ha; cases ha), if_neg (fun q => by rw [ha] at q; cases q.1.1)]
       rfl
     obtain ⟨w1, w2⟩ := xinstr_end p i n hn
     refine pc_of_get xinstr_get (by simp) _ (by simp) _ ?_
     unfold xinstr_c
     rw [hv]
     simp [Prg.av]
     refine call (xwhose_pc i hb) (by simp) ?_
     simp
     refine call (xasks_pc i.op) (by simp) ?_
     rw [ha]
     simp
     refine call (xreck_pc i.op) (by simp) ?_
     rw [hr]
     simp
     refine call (xsome_pc i.op) (by simp) ?_
     unfold tailV
     cases hs : someV i.op with
     | true =>
       simp [d31]
       refine call (xtakes_pc i.op) (by simp) ?_
       by_cases hlt : n < popsV i.op
       . simp [hlt]
       . simp [hlt]
         refine calld (xtakes_pc i.op) (by simp) ?_
         simp [w1]
         refine calld (xputs_pc i.op) (by simp) ?_
         simp [w1, w2]
         by_cases h8 : 8 < n - popsV i.op + xputsV i.op
         . simp [h8]
         . simp [h8]
           omega
     | false =>
       have h1 : i.a = 0 := Classical.byContradiction fun q => h0 ⟨hs, q⟩
       simp [d31, h1]
       refine call (xtakes_pc i.op) (by simp) ?_
       by_cases hlt : n < popsV i.op
       . simp [hlt]
       . simp [hlt]
         refine calld (xtakes_pc i.op) (by simp) ?_
         simp [w1]
         refine calld (xputs_pc i.op) (by simp) ?_
         simp [w1, w2]
         by_cases h8 : 8 < n - popsV i.op + xputsV i.op
         . simp [h8]
         . simp [h8]
           omega
theorem xinstr_pc (p : Prg) (i : Ins) (n : Int) (hb : i.a <= 9223372036854775807) (hn : -1000000 <= n /\ n <= 1000000) : PC Tryz.prog 124 [p.av, i.av, iv n] (iv (xinstrV p i n)) := by
 cases ha : asksV i.op with
 | false => exact xinstr_B p i n hb hn ha
 | true =>
   by_cases h37 : i.op = 37
   . exact xinstr_37 p i n hb hn h37
   . exact xinstr_A p i n hb hn ha h37
def xwalkV (p : Prg) : Int -> List Ins -> Int
 | n, [] => if n ≠ 1 then 5 else 0
 | n, i :: l => if xinstrV p i n ≠ 0 then xinstrV p i n else xwalkV p (n + (xputsV i.op - popsV i.op)) l
def xcheckV (p : Prg) (x : List Ins) : Int := if flowV p ≠ 0 then flowV p else if 64 < x.length then 3 else xwalkV p 0 x
theorem xops_rng (op : Int) : (0 <= popsV op /\ popsV op <= 2) /\ 0 <= xputsV op /\ xputsV op <= 2 := by
 refine ⟨?_, ?_⟩
 . unfold popsV; split <;> (try split) <;> omega
 . unfold xputsV putsV; split <;> (try split) <;> (try split) <;> omega
theorem xcheck_pc (p : Prg) (x : List Ins) (hb : ∀ i ∈ x, i.a <= 9223372036854775807) : PC Tryz.prog 90 [p.av, .lst 2 (x.map Ins.av)] (iv (xcheckV p x)) := by
 have hfc := fcheck_pc p
 refine pc_of_get xcheck_get (by simp) _ (by simp) _ ?_
 unfold xcheck_c
 by_cases hf : flowV p = 0
 case neg =>
   have hv : xcheckV p x = flowV p := by unfold xcheckV; rw [if_pos hf]
   rw [hv]
   simp [Prg.av]
   refine call hfc (by simp [Prg.av]) ?_
   simp [hf]
 rw [hf] at hfc
 by_cases hl : (64 : Int) < x.length
 case pos =>
   have hv : xcheckV p x = 3 := by unfold xcheckV; rw [if_neg (by simp [hf]), if_pos (by omega)]
   rw [hv]
   simp [Prg.av]
   refine call hfc (by simp [Prg.av]) ?_
   simp [hl]
 have hv : xcheckV p x = xwalkV p 0 x := by unfold xcheckV; rw [if_neg (by simp [hf]), if_neg (by omega)]
 rw [hv]
 simp [Prg.av]
 refine call hfc (by simp [Prg.av]) ?_
 simp [hl]
 refine loopN (fun i S => ∃ n : Int, S.t 2 = .ptr 245002 0 4 0 0 /\ S.blk 245002 = some ⟨0, 4, [p.av]⟩ /\ S.t 18 = .lst 2 (x.map Ins.av) /\ S.t 19 = iv x.length /\ S.t 20 = iv i /\ S.t 6 = iv n /\ (-2 * (i : Int) <= n /\ n <= 2 * i) /\ xwalkV p 0 x = xwalkV p n (x.drop i)) x.length ?_ ?_
 . exact ⟨0, by simp, by simp [Prg.av], by simp, by simp, by simp, by simp, by omega, by simp⟩
 . rintro i S hi ⟨n, g2, b2, g18, g19, g20, g6, hn, hx⟩
   by_cases hlt : i < x.length
   . have ws := wrap_succ i _ hlt (by omega)
     rw [List.drop_eq_getElem_cons hlt] at hx
     rw [xwalkV] at hx
     simp [xcheck_l0, g2, b2, g18, g19, g20, g6, hlt]
     refine call (xinstr_pc p x[i] n (hb _ (List.getElem_mem hlt)) (by omega)) (by simp [Prg.av]) ?_
     obtain ⟨a1, a2⟩ := xops_rng x[i].op
     by_cases hz : xinstrV p x[i] n = 0
     . rw [if_neg (by simp [hz])] at hx
       have w1 : IntKind.i64.wrap (xputsV x[i].op - popsV x[i].op) = xputsV x[i].op - popsV x[i].op := wrap_in _ (by omega) (by omega)
       have w2 : IntKind.i64.wrap (n + (xputsV x[i].op - popsV x[i].op)) = n + (xputsV x[i].op - popsV x[i].op) := wrap_in _ (by omega) (by omega)
       simp [hz, g2, b2, g18, g19, g20, g6]
       refine calld (xputs_pc x[i].op) (by simp) ?_
       simp [g2, b2, g18, g19, g20, g6]
       refine calld (xtakes_pc x[i].op) (by simp) ?_
       simp [g2, b2, g18, g19, g20, g6, w1, w2, ws]
       exact ⟨by omega, hx⟩
     . rw [if_pos hz] at hx
       rw [hx]
       simp [hz]
   . have e1 : i = x.length := by omega
     subst e1
     rw [List.drop_length, xwalkV] at hx
     rw [hx]
     simp [xcheck_l0, g18, g19, g20, g6]
     by_cases hz : n = 1 <;> simp [hz]
def wfirst (p : Prg) : List (List Ins) -> Int
 | [] => 0
 | x :: l => if xcheckV p x ≠ 0 then xcheckV p x else wfirst p l
def wcheckV (p : Prg) (l : List (List Ins)) : Int := if 8 < l.length then 3 else if flowV p ≠ 0 then flowV p else wfirst p l
theorem wcheck_pc (p : Prg) (l : List (List Ins)) (hb : ∀ x ∈ l, ∀ i ∈ x, i.a <= 9223372036854775807) : PC Tryz.prog 55 [p.av, .lst 1 (l.map fun x => .lst 2 (x.map Ins.av))] (iv (wcheckV p l)) := by
 have hfc := fcheck_pc p
 refine pc_of_get wcheck_get (by simp) _ (by simp) _ ?_
 unfold wcheck_c
 by_cases hl : (8 : Int) < l.length
 case pos =>
   have hv : wcheckV p l = 3 := by unfold wcheckV; rw [if_pos (by omega)]
   rw [hv]
   simp [Prg.av, hl]
 by_cases hf : flowV p = 0
 case neg =>
   have hv : wcheckV p l = flowV p := by unfold wcheckV; rw [if_neg (by omega), if_pos hf]
   rw [hv]
   simp [Prg.av, hl]
   refine call hfc (by simp [Prg.av]) ?_
   simp [hf]
 rw [hf] at hfc
 have hv : wcheckV p l = wfirst p l := by unfold wcheckV; rw [if_neg (by omega), if_neg (by simp [hf])]
 rw [hv]
 simp [Prg.av, hl]
 refine call hfc (by simp [Prg.av]) ?_
 simp
 refine loopN (fun i S => S.t 2 = .ptr 246002 0 4 0 0 /\ S.blk 246002 = some ⟨0, 4, [p.av]⟩ /\ S.t 17 = .lst 1 (l.map fun x => .lst 2 (x.map Ins.av)) /\ S.t 18 = iv l.length /\ S.t 19 = iv i /\ wfirst p l = wfirst p (l.drop i)) l.length ?_ ?_
 . exact ⟨by simp, by simp [Prg.av], by simp, by simp, by simp, by simp⟩
 . rintro i S hi ⟨g2, b2, g17, g18, g19, hx⟩
   by_cases hlt : i < l.length
   . have ws := wrap_succ i _ hlt (by omega)
     rw [List.drop_eq_getElem_cons hlt, wfirst] at hx
     simp [wcheck_l0, g2, b2, g17, g18, g19, hlt]
     refine call (xcheck_pc p l[i] (hb _ (List.getElem_mem hlt))) (by simp [Prg.av]) ?_
     by_cases hz : xcheckV p l[i] = 0
     . rw [if_neg (by simp [hz])] at hx
       simp [hz, g2, b2, g17, g18, g19, ws]
       exact hx
     . rw [if_pos hz] at hx
       rw [hx]
       simp [hz]
   . have e1 : i = l.length := by omega
     subst e1
     rw [List.drop_length, wfirst] at hx
     rw [hx]
     simp [wcheck_l0, g17, g18, g19]
end Go.Gv

namespace Go.Gv
open Go.Proofs
end Go.Gv

namespace Go.Gv
open Go.Proofs
def mayV (p : Prg) (who : Int) (l : Lcl) (h : Int) (args : List Int) : Prop :=
 flowV p = 0 /\ 0 <= who /\ who < p.as.length /\ 0 <= h /\ h < p.hs.length /\ (args.length : Int) = argsOf p.hs h /\ l.regs.length <= 8 /\ l.down = 0
instance (p : Prg) (who : Int) (l : Lcl) (h : Int) (args : List Int) : Decidable (mayV p who l h args) := by unfold mayV; exact inferInstance
end Go.Gv

namespace Go.Gv
open Go.Proofs
theorem doV_depth (F : Fx) (i : Ins) (m : Mach) (o : 1 <= i.op /\ i.op <= 25) (tk : takesV F.p.hs i <= m.st.length) (sn : i.op = 22 -> 0 <= argsOf F.p.hs i.a) (hz : (doV F i m).2 = 0) :
   ((doV F i m).1.st.length : Int) = m.st.length - takesV F.p.hs i + putsV i.op := by
 have tk' : popsV i.op + (if i.op = 22 then argsOf F.p.hs i.a else 0) <= m.st.length := tk
 unfold takesV
 rcases lit25 o.1 o.2 with e | e | e | e | e | e | e | e | e | e | e | e | e | e | e | e | e | e | e | e | e | e | e | e | e
 case inr.inr.inr.inr.inr.inr.inr.inr.inr.inr.inr.inr.inr.inr.inr.inr.inr.inr.inr.inr.inr.inl =>
   have s0 := sn e
   have h1 : 1 <= m.st.length := by simp [e, popsV] at tk'; omega
   by_cases hc : top m.st < 0 \/ top m.st >= F.p.as.length
   . simp [doV, e, hc] at hz
   . have hd : (doV F i m).1.st = m.st.take (m.st.length - 1 - argsN F i.a) := by simp [doV, e, hc]
     have hn : (argsN F i.a : Int) = argsOf F.p.hs i.a := by unfold argsN; omega
     rw [hd, e, if_pos rfl]
     simp [e, popsV] at tk'
     simp [popsV, putsV]
     omega
 all_goals
   simp [e, popsV] at tk'
   simp [doV, e, popsV, putsV, oneV] <;> omega
theorem doV_pc (F : Fx) (i : Ins) (m : Mach) (o : 1 <= i.op /\ i.op <= 25) (p0 : 0 <= m.pc) (jp : i.op = 20 \/ i.op = 21 -> 0 <= i.a) : (doV F i m).1.pc = -1 \/ 0 <= (doV F i m).1.pc /\ (doV F i m).1.pc.toNat ∈ nextV m.pc.toNat i := by
 have e1 : (m.pc + 1).toNat = m.pc.toNat + 1 := by omega
 rcases lit25 o.1 o.2 with e | e | e | e | e | e | e | e | e | e | e | e | e | e | e | e | e | e | e | e | e | e | e | e | e
 case inr.inr.inr.inr.inr.inr.inr.inr.inr.inr.inr.inr.inr.inr.inr.inr.inr.inr.inr.inr.inr.inl =>
   have hd : (doV F i m).1.pc = m.pc + 1 := by
     by_cases hc : top m.st < 0 \/ top m.st >= F.p.as.length <;> simp [doV, e, hc]
   rw [hd]
   exact .inr ⟨by omega, by simp [nextV, e, e1]⟩
 case inr.inr.inr.inr.inr.inr.inr.inr.inr.inr.inr.inr.inr.inr.inr.inr.inr.inr.inr.inr.inl =>
   have hj := jp (.inr e)
   by_cases hc : top m.st = 0
   . have hd : (doV F i m).1.pc = i.a := by simp [doV, e, hc]
     rw [hd]
     exact .inr ⟨hj, by simp [nextV, e]⟩
   . have hd : (doV F i m).1.pc = m.pc + 1 := by simp [doV, e, hc]
     rw [hd]
     exact .inr ⟨by omega, by simp [nextV, e, e1]⟩
 case inr.inr.inr.inr.inr.inr.inr.inr.inr.inr.inr.inr.inr.inr.inr.inr.inr.inr.inr.inl =>
   have hj := jp (.inl e)
   have hd : (doV F i m).1.pc = i.a := by simp [doV, e]
   rw [hd]
   exact .inr ⟨hj, by simp [nextV, e]⟩
 case inr.inr.inr.inr.inr.inr.inr.inr.inr.inr.inr.inr.inr.inr.inr.inr.inr.inr.inr.inr.inr.inr.inr.inr =>
   left; simp [doV, e]
 all_goals
   right
   simp [doV, e, nextV, oneV, e1] <;> omega
theorem ite_regs {c : Prop} [Decidable c] {a b : Mach × Int} {n : Nat} (h1 : a.1.regs.length = n) (h2 : b.1.regs.length = n) : (if c then a else b).1.regs.length = n := by
 by_cases h : c
 . rw [if_pos h]; exact h1
 . rw [if_neg h]; exact h2
theorem doV_regs (F : Fx) (i : Ins) (m : Mach) : (doV F i m).1.regs.length = m.regs.length := by
 unfold doV
 repeat' apply ite_regs
 all_goals first
   | rfl
   | (by_cases h : i.a < m.regs.length <;> simp [h])
structure MI (F : Fx) (code : List Ins) (m : Mach) (s : Int) : Prop where
 pc : m.pc <= code.length
 st : 0 <= m.pc -> Rch F.p.hs code m.pc.toNat m.st.length
 rl : m.regs.length <= 8
 nl : (m.notes.length : Int) <= s
 s0 : 0 <= s
theorem Rch.le {hs : List Hnd} {code : List Ins} {a : Nat} {d : Int} (h : Rch hs code a d) : d <= 8 := by
 cases h <;> omega
structure RFix (F : Fx) (code : List Ins) : Prop where
 ok : codeOk F.p.hs code
 good : ∃ o m, Good F.p.hs code o m
 ins : ∃ (n k : Int), ∀ i ∈ code, instrV n F.args.length k i = 0
 who : 0 <= F.who /\ F.who.toNat < F.p.as.length
 fuel : F.p.fuel <= 256
theorem RFix.doOk {F : Fx} {code : List Ins} (h : RFix F code) {m : Mach} {s : Int} (hm : MI F code m s) (hp : 0 <= m.pc /\ m.pc < code.length) (hs : s < F.p.fuel) {i : Ins} (hi : code[m.pc.toNat]? = some i) : DoOk F i m := by
 obtain ⟨o, mo, hg⟩ := h.good
 obtain ⟨n, k, hins⟩ := h.ins
 have hr := hm.st hp.1
 obtain ⟨g1, g2⟩ := hg.rch hr
 have hcl := hg.closed _ _ _ g1 (by omega) hi
 have him := List.mem_of_getElem? hi
 obtain ⟨q1, q2, q3, q4, q5, q6⟩ := instrV_zero (hins i him)
 have hio := (h.ok.2 i him).1
 have hle := hr.le
 have hc9 := h.ok.1
 have h1 := hm.rl
 have h2 := hm.nl
 have h3 := h.fuel
 exact ⟨⟨q1, q2⟩, hcl.1, fun e => (q4 e).1, fun e => by have := q5 e; omega, fun e => ⟨(hio e).1, (hio e).2.1, (hio e).2.2.1⟩, h.who, by omega, by omega, by omega, by omega⟩
theorem RFix.next {F : Fx} {code : List Ins} (h : RFix F code) {m : Mach} {s : Int} (hm : MI F code m s) (hp : 0 <= m.pc /\ m.pc < code.length) (hs : s < F.p.fuel) {i : Ins} (hi : code[m.pc.toNat]? = some i) (hz : (doV F i m).2 = 0) : MI F code (doV F i m).1 (s + 1) := by
 have hd := h.doOk hm hp hs hi
 obtain ⟨o, mo, hg⟩ := h.good
 have hr := hm.st hp.1
 obtain ⟨g1, g2⟩ := hg.rch hr
 have hcl := hg.closed _ _ _ g1 (by omega) hi
 have him := List.mem_of_getElem? hi
 have hdep := doV_depth F i m hd.op hd.takes (fun e => (hd.snd e).2.2) hz
 have hjmp := (h.ok.2 i him).2
 have hpc := doV_pc F i m hd.op hp.1 (fun e => (hjmp e).1)
 refine ⟨?_, ?_, by rw [doV_regs]; exact hm.rl, by have := doV_notes F i m; have := hm.nl; omega, by have := hm.s0; omega⟩
 . rcases hpc with e | ⟨e1, e2⟩
   . omega
   . have := nextV_le h.ok hi _ e2
     omega
 . intro h0
   rcases hpc with e | ⟨e1, e2⟩
   . omega
   . rw [hdep]
     exact .step hr hi hcl.1 hcl.2.1 e2
theorem RFix.run {F : Fx} {code : List Ins} (h : RFix F code) : ∀ (f : Nat) (m : Mach) (s : Int), MI F code m s -> RunOk F code f m s
 | 0, _, _, _ => trivial
 | f + 1, m, s, hm => fun hp hs i hi => ⟨h.doOk hm hp hs hi, fun hz => h.run f _ _ (h.next hm hp hs hi hz)⟩
theorem mayV.ro {p : Prg} {who : Int} {l : Lcl} {h : Int} {args : List Int} (hm : mayV p who l h args) :
   ∃ x, p.hs[h.toNat]? = some x /\ x ∈ p.hs /\ checkV p = 0 /\ RFix (fxOf p who l args) x.code /\ MI (fxOf p who l args) x.code (m0Of l) 0 /\ 1 <= p.fuel /\ p.fuel <= 256 /\ (args.length : Int) = x.args := by
 obtain ⟨h1, h2, h3, h4, h5, h6, h7, h8⟩ := hm
 have hj : h.toNat < p.hs.length := by omega
 have hx : p.hs[h.toNat]? = some p.hs[h.toNat] := List.getElem?_eq_getElem hj
 have hmem : p.hs[h.toNat] ∈ p.hs := List.getElem_mem hj
 have hc : checkV p = 0 := by
   unfold flowV at h1
   split at h1
   . rename_i q; exact absurd h1 q
   . rename_i q; simpa using q
 have hw : walkE p.hs p.hs[h.toNat] = 0 := by
   unfold flowV at h1
   rw [if_neg (by simpa using hc)] at h1
   exact firstNZ_zero h1 _ (List.mem_map_of_mem hmem)
 have hco := codeOk_of hc hmem
 have ha : argsOf p.hs h = p.hs[h.toNat].args := by unfold argsOf; rw [hx]; rfl
 obtain ⟨_, _, _, _, c5, c6, c7, _, _⟩ := checkV_zero hc
 obtain ⟨_, _, d3, d4⟩ := handlerV_zero (c7 _ hmem)
 refine ⟨_, hx, hmem, hc, ⟨hco, ?_, ⟨p.hs.length, p.hs[h.toNat].code.length, ?_⟩, ⟨h2, by simp only [fxOf]; omega⟩, c6⟩, ⟨by simp [m0Of], fun _ => ?_, h7, by simp [m0Of], by omega⟩, c5, c6, by rw [<- ha]; exact h6⟩
 . rcases walk_good hco with ⟨o, m, e, g⟩ | ⟨e, _⟩
   . exact ⟨o, m, g⟩
   . unfold walkE at hw; rw [e] at hw; simp at hw
 . intro i hi
   have := d4 i hi
   simp only [fxOf]
   rw [h6, ha]
   exact this
 . exact .start
end Go.Gv

namespace Go.Gv
open Go.Proofs
theorem ghost_m {P : Program} {a : AC} {κ : Ex -> St -> Prop} {S : St} {u : Dep κ} (na nm st NM : Nat) (h1 : na ≠ NM) (h2 : nm ≠ NM) (w : Wld) (va vm : AV) (hb : S.blk nm = some ⟨st, 6, [.agg [va, vm, iv w.used.drop, iv w.used.dup, iv w.used.time, iv w.used.crash]]⟩)
   (hA : MutIs S na 5 va (w.acts.map Lcl.av)) (hM : MutIs S NM 6 vm (w.mail.map Msg.av))
   (hk : ∀ S', S'.t = S.t -> S'.clk = S.clk -> WIs na nm st w S' -> (∀ n b, n ≠ NM -> S.blk n = some b -> (∀ sM, mapB (fzc NM sM 6 (w.mail.map Msg.av)) b = b) -> S'.blk n = some b) -> V P a κ S') : GhG P a κ S u := by
 rcases hM with ⟨rfl, hx⟩ | ⟨sM, rfl, hM⟩
 . refine ghost S (Wk.of' (Wkh.refl _ _) rfl) (hk S rfl rfl ⟨va, .nils, hb, hA, .inr ⟨rfl, hx⟩⟩ (fun n b _ h _ => h))
 . exact ghost_w na nm st NM sM w.mail.length h1 h2 w va _ rfl rfl (by rw [List.length_map] at hb; exact hb) hA hM (fun S' q1 q2 q3 q4 => hk S' q1 q2 q3 (fun n b hn hb hm => q4 n b hn hb (hm sM)))
theorem sapply_2 (p : Prg) (w : Wld) (n : Nat) (hw : WK p w n) (hn : n <= 500) (hr : ∀ l ∈ w.acts, l.regs.length <= 1000) (e : Evt) (hk : e.kind = 2) (i : Nat) (hi : idxV e.id w.mail = some i) (hl : i < w.mail.length) : PC Tryz.prog 101 [p.av, w.av, e.av] (applyV p w e).av := by
 obtain ⟨w1, hw1⟩ : ∃ w1 : Wld, w1 = { w with mail := w.mail.take i ++ w.mail.drop (i + 1) } := ⟨_, rfl⟩
 have hac : w1.acts = w.acts := by rw [hw1]
 have hwo := hw.ok (by omega)
 have hml := hw.ml
 obtain ⟨_, q1, q2⟩ := ntAt_some hi
 have hf := mfind_pc w.mail e.id hwo.ml
 rw [q2] at hf
 have happ : applyV p w e = { w1 with used := { w1.used with drop := w64 (w1.used.drop + 1) } } := by
   unfold applyV
   rw [if_pos (.inr hk), q1, hi]
   simp only []
   rw [if_pos hk, hw1]
 rw [happ]
 refine pc_of_get sapply_get (by simp) _ (by simp) _ ?_
 unfold sapply_c
 simp [Evt.av, Wld.av, hk]
 refine wcopyX_v w hwo hw.ar hr (fun S va vm hF hk1 hMA hMM => ?_)
 have ht := hF.t
 have b3 := hF.b 235003 (by simp [Lwc, Lmc])
 have b4 := hF.b 235004 (by simp [Lwc, Lmc])
 have b5 := hF.b 235005 (by simp [Lwc, Lmc])
 have b6 := hF.b 235006 (by simp [Lwc, Lmc])
 simp at b3 b4 b5 b6
 clear hF hk1
 have o1 := hMA.one
 have o2 := hMA.cells
 obtain ⟨sM, hvm, bM⟩ := hMM.sl (by rw [List.length_map]; omega)
 subst hvm
 simp [ht, b3, b4, b5, b6, o1]
 refine callW hf 1 (find_co e.id (by simp [bM])) rfl ?_
 have hle : i <= w.mail.length := by omega
 have hle2 : i + 1 <= w.mail.length := by omega
 have ws := wrap_succ i _ hl (by omega)
 have hbd : (i + (w.mail.length - (i + 1))) * 64 <= 140737488355328 := by omega
 have h01 : (0 : Int) <= (i : Int) + 1 := by omega
 simp [ht, b3, b4, b5, b6, o1, bM, hl, hle, hle2, ws, h01]
 rw [if_pos hbd]
 have hx1 : List.take i (List.map Msg.av w.mail) ++ List.take (w.mail.length - (i + 1)) (List.drop (i + 1) (List.map Msg.av w.mail)) = w1.mail.map Msg.av := by
   have q : List.take (w.mail.length - (i + 1)) (List.drop (i + 1) (List.map Msg.av w.mail)) = List.drop (i + 1) (List.map Msg.av w.mail) := List.take_of_length_le (by simp)
   rw [q, hw1]
   simp [List.map_take, List.map_drop]
 have hl1 : i + (w.mail.length - (i + 1)) = w1.mail.length := by
   rw [hw1]; simp; omega
 simp [ht, b3, b4, b5, b6, o1, bM, hl, hle, hle2, ws, h01]
 refine ghost_w 1000231024 235004 1 1000235039 (S.clk + 6 + 2 + 2 + 2 + 8 + 1 + 1 + 1 + 1 + 1 + 1 + 1 + 1 + 1) _ (by simp) (by simp) w1 va _ hx1 hl1 (by simp [hw1]) (by rw [hw1]; exact hMA.at (by simp)) (by simp) (fun S1 ht1 hc1 hW1 hfz => ?_)
 have c5 := hfz 235005 _ (by simp) (by simp [b5]; rfl) (by simp [mapB, mapE, fzc, fz0])
 have c6 := hfz 235006 _ (by simp) (by simp [b6]; rfl) (by simp [mapB, mapE, fzc, fz0])
 have u4 : S1.t 4 = .ptr 235004 1 6 0 0 := by rw [ht1]; simp [ht]
 have u5 : S1.t 5 = .ptr 235005 2 5 0 0 := by rw [ht1]; simp [ht]
 have u6 : S1.t 6 = .ptr 235006 3 6 0 0 := by rw [ht1]; simp [ht]
 clear hfz ht1 hc1 ht b3 b4 b5 b6 bM hMA
 obtain ⟨va', vm', f4, fA, fM⟩ := hW1
 obtain ⟨o1', o2', o3', o4'⟩ := fM.out
 simp [u4, u5, u6, c5, c6, hk, f4, fA.one, fA.cells, o1', o2']
 exact ⟨fA.co1 (by simp) (by simp) (lcls_closed _), fM.co1 _⟩
theorem lclV_set (w : Wld) (i : Int) (l : Lcl) (h : i.toNat < w.acts.length) : lclV (setL w i l) i = l := by
 unfold lclV setL
 simp [h]
theorem sapply_345 (hput : PutAll) (p : Prg) (w : Wld) (n : Nat) (hw : WK p w n) (hn : n <= 500) (hr : ∀ l ∈ w.acts, l.regs.length <= 1000) (e : Evt) (hk : e.kind = 3 \/ e.kind = 4 \/ e.kind = 5) (h3 : e.kind = 3 -> ∃ i, idxV e.id w.mail = some i)
   (h45 : e.kind ≠ 3 -> 0 <= e.who /\ e.who < w.acts.length) (h4 : e.kind = 4 -> GoOk p e.who { lclV w e.who with armed := false } (timerV p e.who) [] /\ (goV p e.who { lclV w e.who with armed := false } (timerV p e.who) []).notes.length <= 300 /\ ∀ x ∈ (goV p e.who { lclV w e.who with armed := false } (timerV p e.who) []).notes, x.args.length <= 1000) : PC Tryz.prog 101 [p.av, w.av, e.av] (applyV p w e).av := by
 have hwo := hw.ok (by omega)
 have hml := hw.ml
 have hf := mfind_pc w.mail e.id hwo.ml
 have k1 : ¬ e.kind = 1 := by omega
 have k2 : ¬ e.kind = 2 := by omega
 refine pc_of_get sapply_get (by simp) _ (by simp) _ ?_
 unfold sapply_c
 simp [Evt.av, Wld.av, k1, k2]
 refine wcopyX_v w hwo hw.ar hr (fun S va vm hF hk1 hMA hMM => ?_)
 have ht := hF.t
 have b3 := hF.b 235003 (by simp [Lwc, Lmc])
 have b4 := hF.b 235004 (by simp [Lwc, Lmc])
 have b5 := hF.b 235005 (by simp [Lwc, Lmc])
 have b6 := hF.b 235006 (by simp [Lwc, Lmc])
 simp at b3 b4 b5 b6
 clear hF hk1
 have o1 := hMA.one
 have o2 := hMA.cells
 have o3 := hMM.one
 have o4 := hMM.cells
 simp [ht, b3, b4, b5, b6, o1, o2, o3, o4]
 refine callW hf 1 ?_ rfl ?_
 . rcases hMM with ⟨rfl, hx⟩ | ⟨sM, rfl, bM⟩
   . have hm : w.mail = [] := by simpa using hx
     simp [hm, MId.av, elemR, dco, coL, co1]
   . rw [List.length_map]
     exact find_co e.id (by simp [bM])
 simp [ht, b3, b4, b5, b6, o1, o2, o3, o4, k1, k2]
 refine ghost_m 1000231024 235004 1 1000230015 (by simp) (by simp) w va vm (by simp) (hMA.at (by simp)) (hMM.at (by simp)) (fun S1 ht1 hc1 hW1 hfz => ?_)
 have c3 := hfz 235003 _ (by simp) (by simp [b3]; rfl) (fun sM => by simp [mapB, mapE, fzc, fz0])
 have c5 := hfz 235005 _ (by simp) (by simp [b5]; rfl) (fun sM => by simp [mapB, mapE, fzc, fz0])
 have c6 := hfz 235006 _ (by simp) (by simp [b6]; rfl) (fun sM => by simp [mapB, mapE, fzc, fz0])
 have u3 : S1.t 3 = .ptr 235003 0 4 0 0 := by rw [ht1]; simp [ht]
 have u4 : S1.t 4 = .ptr 235004 1 6 0 0 := by rw [ht1]; simp [ht]
 have u5 : S1.t 5 = .ptr 235005 2 5 0 0 := by rw [ht1]; simp [ht]
 have u6 : S1.t 6 = .ptr 235006 3 6 0 0 := by rw [ht1]; simp [ht]
 have u7 : S1.t 7 = iv (findV w.mail e.id) := by rw [ht1]; simp
 have u20 : S1.t 20 = iv e.kind := by rw [ht1]; simp
 clear hfz ht1 hc1 ht b3 b4 b5 b6 hMA hMM
 by_cases e3 : e.kind = 3
 . obtain ⟨i, hi⟩ := h3 e3
   obtain ⟨hl, q1, q2⟩ := ntAt_some hi
   have happ : applyV p w e = postV p { w with used := { w.used with dup := w64 (w.used.dup + 1) } } ⟨{ w.mail[i].id with cpy := w64 (w.used.dup + 1) }, w.mail[i].note⟩ := by
     unfold applyV
     rw [if_neg (by omega), if_pos e3, hi]
     simp only [List.getElem?_eq_getElem hl]
   rw [happ]
   rw [q2] at u7
   have hne : w.mail ≠ [] := by intro q; rw [q] at hl; simp at hl
   obtain ⟨va', vm', f4, fA, fM⟩ := hW1
   have hvm : vm' = .lst 6 (w.mail.map Msg.av) := by
     rcases fM with h | ⟨_, h⟩
     . exact h
     . exact absurd (by simpa using h) hne
   subst hvm
   simp [u3, u4, u5, u6, u7, u20, c3, c5, c6, e3, f4, fA.one, fA.cells, hl]
   obtain ⟨ht0, ht1⟩ := hw.to _ (List.getElem_mem hl)
   have hma : ∀ m ∈ w.mail, m.note.args.length <= 1000 := hw.ar
   have hmi := hma _ (List.getElem_mem hl)
   refine post_v hput 1000231024 235004 1 (by simp) (by simp) (by simp) p { w with used := { w.used with dup := w64 (w.used.dup + 1) } } ⟨hwo.ml, hwo.al, hwo.to⟩ (by show w.mail.length <= 900; omega) hw.ar hw.al ⟨{ w.mail[i].id with cpy := w64 (w.used.dup + 1) }, w.mail[i].note⟩ hmi ht0 ht1 (S := _) ⟨va', .lst 6 (w.mail.map Msg.av), by simp, fA.at (by simp), .inl rfl⟩ (fun S3 hF3 hW3 => ?_)
   have e6 := hF3.b 235006 (by simp) (by simp) (by simp)
   have ht3 := hF3.t
   simp [c6] at e6
   obtain ⟨va', vm', f4, fA, fM⟩ := hW3
   obtain ⟨o1', o2', o3', o4'⟩ := fM.out
   simp [ht3, u3, u4, u5, u6, e6, f4, fA.one, fA.cells, o1', o2']
   exact ⟨fA.co1 (by simp) (by simp) (lcls_closed _), fM.co1 _⟩
 obtain ⟨g0, g1⟩ := h45 e3
 have gN : e.who.toNat < w.acts.length := by omega
 have hlc : lclV w e.who = w.acts[e.who.toNat] := by unfold lclV; rw [List.getElem?_eq_getElem gN]; rfl
 obtain ⟨va', vm', f4, fA, fM⟩ := hW1
 obtain ⟨o1', o2', o3', o4'⟩ := fM.out
 obtain ⟨sA, hva, bA⟩ := fA.sl (by rw [List.length_map]; omega)
 subst hva
 by_cases e4 : e.kind = 4
 . obtain ⟨g2, g3, g4⟩ := h4 e4
   have happ : applyV p w e = giveV p (setL (setL { w with used := { w.used with time := w64 (w.used.time + 1) } } e.who { lclV w e.who with armed := false }) e.who (goV p e.who { lclV w e.who with armed := false } (timerV p e.who) []).l) e.who (goV p e.who { lclV w e.who with armed := false } (timerV p e.who) []).notes := by
     unfold applyV
     rw [if_neg (by omega), if_neg e3, if_pos e4]
     simp only []
     rw [lclV_set _ _ _ (by exact gN)]
   rw [happ]
   have gP : e.who.toNat < p.as.length := by rw [<- hw.al]; exact gN
   have gP' : e.who < p.as.length := by rw [<- hw.al]; exact g1
   have htm : timerV p e.who = p.as[e.who.toNat].timer := by unfold timerV; rw [List.getElem?_eq_getElem gP]; rfl
   simp [u3, u4, u5, u6, u7, u20, c3, c5, c6, e4, f4, g0, g1, gN, o1', o2', bA]
   refine regi_cut (sapply_r20.take 11) (sapply_r20.drop 11) rfl (by rfl) ?_
   refine regi_end (by simp) (by rfl) ?_
   simp [u3, u4, u5, u6, u7, u20, c3, c5, c6, e4, f4, g0, g1, gN, gP, gP', o1', o2', bA, Prg.av]
   obtain ⟨w2, hw2⟩ : ∃ w2 : Wld, w2 = setL { w with used := { w.used with time := w64 (w.used.time + 1) } } e.who { lclV w e.who with armed := false } := ⟨_, rfl⟩
   have hl2 : lclV w2 e.who = { lclV w e.who with armed := false } := by rw [hw2]; exact lclV_set _ _ _ (by exact gN)
   have ha2 : w2.acts.length = w.acts.length := by rw [hw2]; simp [setL]
   have hk2 : WK p w2 n := by
     rw [hw2]
     exact WK.setL (w := { w with used := { w.used with time := w64 (w.used.time + 1) } }) ⟨hw.ml, hw.al, hw.a8, hw.to, hw.ar⟩ _ _
   have hx : (List.map Lcl.av w.acts).set e.who.toNat (setCells w.acts[e.who.toNat].av 1 [AV.bool false]) = w2.acts.map Lcl.av := by
     rw [hw2, hlc]
     simp [setL, List.map_set]
     rfl
   rw [<- htm]
   rw [<- hw2, <- hl2]
   rw [<- hl2] at g2 g3 g4
   refine srun_v 1000231024 235004 1 (by simp) (by simp) (by simp) p w2 e.who (timerV p e.who) [] g0 (by rw [ha2]; exact g1) g2 .nils (.inr ⟨rfl, rfl⟩) ⟨.sl 1000231024 sA 5 0 w.acts.length, vm', by simp [hw2, setL], .inr ⟨sA, by simp [ha2], by simp [hx]⟩, by rw [hw2]; exact fM⟩ (fun S2 ht2 hc2 hf2 hW2 => ?_)
   have d3 := (hf2 235003 (by simp) (by simp))
   have d5 := (hf2 235005 (by simp) (by simp))
   have d6 := (hf2 235006 (by simp) (by simp))
   simp [c3] at d3
   simp [c5] at d5
   simp [c6] at d6
   simp [ht2, u3, u4, u5, u6, d3, d5, d6]
   refine give_v hput 1000231024 235004 1 (by simp) (by simp) (by simp) p _ n (hk2.setL _ _) _ (by omega) g4 _ (by simp [setL, ha2]; exact g1) (hW2.at rfl rfl) (fun S3 ht3 hc3 hf3 hW3 _ => ?_)
   have e6 := (hf3 235006 (by simp) (by simp) (by simp)).trans d6
   obtain ⟨va', vm', f4, fA, fM⟩ := hW3
   obtain ⟨o1', o2', o3', o4'⟩ := fM.out
   simp [ht3, ht2, u3, u4, u5, u6, e6, f4, fA.one, fA.cells, o1', o2']
   exact ⟨fA.co1 (by simp) (by simp) (lcls_closed _), fM.co1 _⟩
 . have e5 : e.kind = 5 := by omega
   have happ : applyV p w e = setL { w with used := { w.used with crash := w64 (w.used.crash + 1) } } e.who { lclV w e.who with down := 1 } := by
     unfold applyV
     rw [if_neg (by omega), if_neg e3, if_neg e4, if_pos e5]
   rw [happ, hlc]
   simp [u3, u4, u5, u6, u7, u20, c3, c5, c6, e5, f4, g0, g1, gN, o1', o2', bA]
   have hx : (List.map Lcl.av w.acts).set e.who.toNat (setCells w.acts[e.who.toNat].av 2 [AV.int IntKind.i64 1]) = ((setL { w with used := { w.used with crash := w64 (w.used.crash + 1) } } e.who { w.acts[e.who.toNat] with down := 1 }).acts).map Lcl.av := by
     simp [setL, List.map_set]
     rfl
   refine ⟨?_, fM.co1 _, ?_⟩
   . simp [listOf, getB]
     rw [hx, List.take_of_length_le (by simp [setL])]
     exact ⟨lcls_closed _, rfl⟩
   . exact ⟨rfl, rfl, rfl, rfl⟩
end Go.Gv
