/- Texts of this proof, one behind the other. What is proved, and on which conditions, stands ahead of each. -/
import Derived.Test.YthidhohdcjojhaaGreatDoorProg
import Derived.Test.YthidhohdcjojhaaGreatDoorM218a4529
import Derived.Test.YthidhohdcjojhaaGreatDoorM1721ebca

set_option linter.unusedVariables false
set_option linter.unusedSimpArgs false
namespace Go.Gv
open Go.Proofs
def eless_r0 : List AI := [oA 4 (.mv (.c (.int .i64 0)))]
def eless_r1 : List AI := [oA 5 (.mv (.t 0)), oA 6 (.mv (.t 1)), oA 7 (.ibin .sub (.t 5) (.t 6)), oA 8 (.mm true (.t 7) [(.c (.int .i64 0))]), oA 4 (.mv (.t 8))]
def eless_c : AC := (.seq (.reg eless_r0) (.seq (.reg eless_r1) .ret))
def eless_res : List ARes := [(.tmp 4)]
set_option maxRecDepth 100000 in
theorem eless_get : getF Tryz.prog 130 212000 [] = some ("gavotte/event.less", 9, eless_c, eless_res) := by kernel_rfl
def eleft_r0 : List AI := [oA 2 (.box 213002 4 (.t 0)), oA 3 (.box 213003 6 (.t 1)), oA 4 (.new 213004 4 (.agg [(.int .i64 0), (.int .i64 0), (.int .i64 0), (.int .i64 0)]))]
def eleft_r1 : List AI := [oA 5 (.fld 0 (.t 2)), oA 6 (.load none (.t 5)), oA 7 (.fld 2 (.t 3)), oA 8 (.fld 0 (.t 7)), oA 9 (.load none (.t 8)), oC 10 (.c (.fn 130 [])) [(.t 6), (.t 9)], oA 11 (.fld 1 (.t 2)), oA 12 (.load none (.t 11)), oA 13 (.fld 2 (.t 3)), oA 14 (.fld 1 (.t 13)), oA 15 (.load none (.t 14)), oC 16 (.c (.fn 130 [])) [(.t 12), (.t 15)], oA 17 (.fld 2 (.t 2)), oA 18 (.load none (.t 17)), oA 19 (.fld 2 (.t 3)), oA 20 (.fld 2 (.t 19)), oA 21 (.load none (.t 20)), oC 22 (.c (.fn 130 [])) [(.t 18), (.t 21)], oA 23 (.fld 3 (.t 2)), oA 24 (.load none (.t 23)), oA 25 (.fld 2 (.t 3)), oA 26 (.fld 3 (.t 25)), oA 27 (.load none (.t 26)), oC 28 (.c (.fn 130 [])) [(.t 24), (.t 27)], oA 29 (.build [(.int .i64 0), (.int .i64 0), (.int .i64 0), (.int .i64 0)] [(0, (1, (.t 10))), (1, (1, (.t 16))), (2, (1, (.t 22))), (3, (1, (.t 28)))]), oN (.store 4 (.t 4) (.t 29))]
def eleft_p1 : List (List Nat) := [[], [0], [], [2], [3, 2], [1, 4, 0, 3, 2], [], [6], [], [8], [9, 8], [7, 10, 5, 6, 9, 8, 1, 4, 0, 3, 2], [], [12], [], [14], [15, 14], [13, 16, 11, 12, 15, 14, 7, 10, 5, 6, 9, 8, 1, 4, 0, 3, 2], [], [18], [], [20], [21, 20], [19, 22, 17, 18, 21, 20, 13, 16, 11, 12, 15, 14, 7, 10, 5, 6, 9, 8, 1, 4, 0, 3, 2], [5, 11, 17, 23, 1, 4, 0, 3, 2, 7, 10, 6, 9, 8, 13, 16, 12, 15, 14, 19, 22, 18, 21, 20], [24, 23, 0, 1, 2, 3, 4, 5, 6, 7, 8, 9, 10, 11, 12, 13, 14, 15, 16, 17, 18, 19, 20, 21, 22]]
def eleft_c : AC := (.seq (.reg eleft_r0) (.seq (.regd eleft_r1 eleft_p1) .ret))
def eleft_res : List ARes := [(.cell (some 4) 4)]
set_option maxRecDepth 100000 in
theorem eleft_get : getF Tryz.prog 97 213000 [] = some ("gavotte/event.Left", 30, eleft_c, eleft_res) := by kernel_rfl
def epaid_r0 : List AI := [oA 2 (.box 214002 4 (.t 0)), oA 4 (.mv (.c (.bool false)))]
def epaid_r1 : List AI := [oA 5 (.mv (.t 1))]
def epaid_r2 : List AI := [oA 7 (.ibin .eql (.t 5) (.c (.int .i64 2))), oA 6 (.mv (.t 7))]
def epaid_r3 : List AI := [oA 8 (.fld 0 (.t 2)), oA 9 (.load none (.t 8)), oA 10 (.ibin .gtr (.t 9) (.c (.int .i64 0))), oA 4 (.mv (.t 10))]
def epaid_r4 : List AI := [oA 12 (.ibin .eql (.t 5) (.c (.int .i64 3))), oA 11 (.mv (.t 12))]
def epaid_r5 : List AI := [oA 13 (.fld 1 (.t 2)), oA 14 (.load none (.t 13)), oA 15 (.ibin .gtr (.t 14) (.c (.int .i64 0))), oA 4 (.mv (.t 15))]
def epaid_r6 : List AI := [oA 17 (.ibin .eql (.t 5) (.c (.int .i64 4))), oA 16 (.mv (.t 17))]
def epaid_r7 : List AI := [oA 18 (.fld 2 (.t 2)), oA 19 (.load none (.t 18)), oA 20 (.ibin .gtr (.t 19) (.c (.int .i64 0))), oA 4 (.mv (.t 20))]
def epaid_r8 : List AI := [oA 22 (.ibin .eql (.t 5) (.c (.int .i64 5))), oA 21 (.mv (.t 22))]
def epaid_r9 : List AI := [oA 23 (.fld 3 (.t 2)), oA 24 (.load none (.t 23)), oA 25 (.ibin .gtr (.t 24) (.c (.int .i64 0))), oA 4 (.mv (.t 25))]
def epaid_r10 : List AI := [oA 4 (.mv (.c (.bool true)))]
def epaid_c : AC := (.seq (.reg epaid_r0) (.seq (.seq (.reg epaid_r1) (.block 0 (.seq (.reg epaid_r2) (.cond (.t 6) (.seq (.reg epaid_r3) .ret) (.seq (.reg epaid_r4) (.cond (.t 11) (.seq (.reg epaid_r5) .ret) (.seq (.reg epaid_r6) (.cond (.t 16) (.seq (.reg epaid_r7) .ret) (.seq (.reg epaid_r8) (.cond (.t 21) (.seq (.reg epaid_r9) .ret) .skip)))))))))) (.seq (.reg epaid_r10) .ret)))
def epaid_res : List ARes := [(.tmp 4)]
set_option maxRecDepth 100000 in
theorem epaid_get : getF Tryz.prog 99 214000 [] = some ("gavotte/event.paid", 26, epaid_c, epaid_res) := by kernel_rfl
def emay_r0 : List AI := [oA 1 (.box 215001 4 (.t 0)), oA 2 (.mv (.c (.bool false)))]
def emay_r1 : List AI := [oA 3 (.fld 0 (.t 1)), oA 4 (.load none (.t 3)), oA 5 (.fld 1 (.t 1)), oA 6 (.load none (.t 5)), oA 7 (.fld 2 (.t 1)), oA 8 (.load none (.t 7)), oA 9 (.fld 3 (.t 1)), oA 10 (.load none (.t 9)), oA 11 (.mm false (.t 4) [(.t 6), (.t 8), (.t 10)]), oA 12 (.ibin .geq (.t 11) (.c (.int .i64 0))), oA 13 (.mv (.t 12)), oG 14 13 true (.fld 0 (.t 1)), oG 15 13 true (.load none (.t 14)), oG 16 13 true (.fld 1 (.t 1)), oG 17 13 true (.load none (.t 16)), oG 18 13 true (.fld 2 (.t 1)), oG 19 13 true (.load none (.t 18)), oG 20 13 true (.fld 3 (.t 1)), oG 21 13 true (.load none (.t 20)), oG 22 13 true (.mm true (.t 15) [(.t 17), (.t 19), (.t 21)]), oG 23 13 true (.ibin .leq (.t 22) (.c (.int .i64 1000))), oA 24 (.pick (.t 13) (.t 23) (.c (.bool false))), oA 2 (.mv (.t 24))]
def emay_c : AC := (.seq (.reg emay_r0) (.seq (.reg emay_r1) .ret))
def emay_res : List ARes := [(.tmp 2)]
set_option maxRecDepth 100000 in
theorem emay_get : getF Tryz.prog 56 215000 [] = some ("gavotte/event.May", 25, emay_c, emay_res) := by kernel_rfl
def ecan_r0 : List AI := [oA 2 (.box 216002 6 (.t 0)), oA 3 (.box 216003 5 (.t 1)), oA 4 (.mv (.c (.bool false)))]
def ecan_r1 : List AI := [oA 6 (.fld 0 (.t 3)), oA 7 (.load none (.t 6))]
def ecan_r2 : List AI := [oA 9 (.ibin .eql (.t 7) (.c (.int .i64 1))), oA 8 (.mv (.t 9))]
def ecan_r3 : List AI := [oA 10 (.ibin .eql (.t 7) (.c (.int .i64 2))), oA 8 (.mv (.t 10))]
def ecan_r4 : List AI := [oA 11 (.ibin .eql (.t 7) (.c (.int .i64 3))), oA 8 (.mv (.t 11))]
def ecan_r5 : List AI := [oA 12 (.fld 1 (.t 2)), oA 13 (.load none (.t 12)), oA 14 (.fld 1 (.t 3)), oA 15 (.load (some 3) (.t 14)), oC 16 (.c (.fn 131 [])) [(.t 13), (.t 15)], oA 5 (.mv (.t 16))]
def ecan_r6 : List AI := [oA 17 (.fld 4 (.t 3)), oA 18 (.load none (.t 17)), oA 19 (.ibin .eql (.t 18) (.c (.int .i64 0))), oA 20 (.mv (.t 19)), oG 21 20 true (.mv (.t 5)), oG 22 20 true (.ibin .geq (.t 21) (.c (.int .i64 0))), oA 23 (.pick (.t 20) (.t 22) (.c (.bool false))), oA 24 (.mv (.t 23)), oG 25 24 true (.fld 0 (.t 3)), oG 26 24 true (.load none (.t 25)), oG 27 24 true (.ibin .neq (.t 26) (.c (.int .i64 1))), oG 28 24 true (.mv (.t 27)), oG 29 28 false (.fld 0 (.t 2)), oG 30 28 false (.load none (.t 29)), oG 31 28 false (.fld 1 (.t 2)), oG 32 28 false (.load none (.t 31)), oG 33 28 false (.mv (.t 5)), oG 34 28 false (.idx 6 (.t 32) (.t 33)), oG 35 28 false (.fld 3 (.t 34)), oG 36 28 false (.fld 0 (.t 35)), oG 37 28 false (.load none (.t 36)), oG 38 28 false (.idx 5 (.t 30) (.t 37)), oG 39 28 false (.fld 2 (.t 38)), oG 40 28 false (.load none (.t 39)), oG 41 28 false (.ibin .eql (.t 40) (.c (.int .i64 0))), oG 42 24 true (.pick (.t 28) (.c (.bool true)) (.t 41)), oA 43 (.pick (.t 24) (.t 42) (.c (.bool false))), oA 4 (.mv (.t 43))]
def ecan_p6 : List (List Nat) := [[], [0], [1, 0], [2, 1, 0], [3, 2, 1, 0], [4, 3, 2, 1, 0], [3, 5, 2, 1, 0, 4], [6, 3, 5, 2, 1, 0, 4], [7, 6, 3, 5, 2, 1, 0, 4], [8, 7, 6, 3, 5, 2, 1, 0, 4], [9, 7, 8, 6, 3, 5, 2, 1, 0, 4], [10, 7, 9, 8, 6, 3, 5, 2, 1, 0, 4], [11, 10, 7, 9, 8, 6, 3, 5, 2, 1, 0, 4], [12, 11, 10, 7, 9, 8, 6, 3, 5, 2, 1, 0, 4], [11, 10, 7, 9, 8, 6, 3, 5, 2, 1, 0, 4], [14, 11, 10, 7, 9, 8, 6, 3, 5, 2, 1, 0, 4], [11, 10, 7, 9, 8, 6, 3, 5, 2, 1, 0, 4], [15, 16, 11, 14, 10, 7, 9, 8, 6, 3, 5, 2, 1, 0, 4], [17, 11, 15, 16, 14, 10, 7, 9, 8, 6, 3, 5, 2, 1, 0, 4], [18, 11, 17, 15, 16, 14, 10, 7, 9, 8, 6, 3, 5, 2, 1, 0, 4], [19, 11, 18, 17, 15, 16, 14, 10, 7, 9, 8, 6, 3, 5, 2, 1, 0, 4], [13, 20, 11, 12, 10, 7, 9, 8, 6, 3, 5, 2, 1, 0, 4, 19, 18, 17, 15, 16, 14], [21, 11, 13, 20, 12, 10, 7, 9, 8, 6, 3, 5, 2, 1, 0, 4, 19, 18, 17, 15, 16, 14], [22, 11, 21, 13, 20, 12, 10, 7, 9, 8, 6, 3, 5, 2, 1, 0, 4, 19, 18, 17, 15, 16, 14], [23, 11, 22, 21, 13, 20, 12, 10, 7, 9, 8, 6, 3, 5, 2, 1, 0, 4, 19, 18, 17, 15, 16, 14], [11, 24, 7, 10, 9, 8, 6, 3, 5, 2, 1, 0, 4, 23, 22, 21, 13, 20, 12, 19, 18, 17, 15, 16, 14], [7, 25, 6, 3, 5, 2, 1, 0, 4, 11, 24, 10, 9, 8, 23, 22, 21, 13, 20, 12, 19, 18, 17, 15, 16, 14], [26, 11, 0, 1, 2, 3, 4, 5, 6, 7, 8, 9, 10, 12, 13, 14, 15, 16, 17, 18, 19, 20, 21, 22, 23, 24, 25]]
def ecan_r7 : List AI := [oA 45 (.ibin .eql (.t 7) (.c (.int .i64 4))), oA 44 (.mv (.t 45))]
def ecan_r8 : List AI := [oA 46 (.ibin .eql (.t 7) (.c (.int .i64 5))), oA 44 (.mv (.t 46))]
def ecan_r9 : List AI := [oA 47 (.fld 1 (.t 3)), oA 48 (.load (some 3) (.t 47)), oA 49 (.build [(.int .i64 0), (.int .i64 0), (.int .i64 0)] []), oA 50 (.eqs [false, false, false] false (.t 48) (.t 49)), oA 51 (.mv (.t 50)), oG 52 51 true (.fld 4 (.t 3)), oG 53 51 true (.load none (.t 52)), oG 54 51 true (.ibin .geq (.t 53) (.c (.int .i64 0))), oA 55 (.pick (.t 51) (.t 54) (.c (.bool false))), oA 56 (.mv (.t 55)), oG 57 56 true (.fld 4 (.t 3)), oG 58 56 true (.load none (.t 57)), oG 59 56 true (.fld 0 (.t 2)), oG 60 56 true (.load none (.t 59)), oG 61 56 true (.len (.t 60)), oG 62 56 true (.ibin .lss (.t 58) (.t 61)), oA 63 (.pick (.t 56) (.t 62) (.c (.bool false))), oA 64 (.mv (.t 63)), oG 65 64 true (.fld 0 (.t 2)), oG 66 64 true (.load none (.t 65)), oG 67 64 true (.fld 4 (.t 3)), oG 68 64 true (.load none (.t 67)), oG 69 64 true (.idx 5 (.t 66) (.t 68)), oG 70 64 true (.fld 2 (.t 69)), oG 71 64 true (.load none (.t 70)), oG 72 64 true (.ibin .eql (.t 71) (.c (.int .i64 0))), oA 73 (.pick (.t 64) (.t 72) (.c (.bool false))), oA 74 (.mv (.t 73)), oG 75 74 true (.fld 0 (.t 3)), oG 76 74 true (.load none (.t 75)), oG 77 74 true (.ibin .neq (.t 76) (.c (.int .i64 4))), oG 78 74 true (.mv (.t 77)), oG 79 78 false (.fld 0 (.t 2)), oG 80 78 false (.load none (.t 79)), oG 81 78 false (.fld 4 (.t 3)), oG 82 78 false (.load none (.t 81)), oG 83 78 false (.idx 5 (.t 80) (.t 82)), oG 84 78 false (.fld 1 (.t 83)), oG 85 78 false (.load none (.t 84)), oG 86 74 true (.pick (.t 78) (.c (.bool true)) (.t 85)), oA 87 (.pick (.t 74) (.t 86) (.c (.bool false))), oA 4 (.mv (.t 87))]
def ecan_r10 : List AI := [oA 4 (.mv (.c (.bool false)))]
def ecan_c : AC := (.seq (.reg ecan_r0) (.seq (.seq (.reg ecan_r1) (.block 0 (.seq (.seq (.reg ecan_r2) (.cond (.t 8) .skip (.seq (.reg ecan_r3) (.cond (.t 8) .skip (.reg ecan_r4))))) (.cond (.t 8) (.seq (.reg ecan_r5) (.seq (.regd ecan_r6 ecan_p6) .ret)) (.seq (.seq (.reg ecan_r7) (.cond (.t 44) .skip (.reg ecan_r8))) (.cond (.t 44) (.seq (.reg ecan_r9) .ret) .skip)))))) (.seq (.reg ecan_r10) .ret)))
def ecan_res : List ARes := [(.tmp 4)]
set_option maxRecDepth 100000 in
theorem ecan_get : getF Tryz.prog 100 216000 [] = some ("gavotte/event.Can", 88, ecan_c, ecan_res) := by kernel_rfl
attribute [simp] eless_r0 eless_r1 eless_res eleft_r0 eleft_r1 eleft_p1 eleft_res epaid_r0 epaid_r1 epaid_r2 epaid_r3 epaid_r4 epaid_r5 epaid_r6 epaid_r7 epaid_r8 epaid_r9 epaid_r10 epaid_res emay_r0 emay_r1 emay_res ecan_r0 ecan_r1 ecan_r2 ecan_r3 ecan_r4 ecan_r5 ecan_r6 ecan_p6 ecan_r7 ecan_r8 ecan_r9 ecan_r10 ecan_res
@[simp] theorem Wld.cells_av (w : Wld) : w.av.cells = [.lst 5 (w.acts.map Lcl.av), .lst 6 (w.mail.map Msg.av), iv w.used.drop, iv w.used.dup, iv w.used.time, iv w.used.crash] := rfl
@[simp] theorem Bud.cells_av (b : Bud) : b.av.cells = [iv b.drop, iv b.dup, iv b.time, iv b.crash] := rfl
@[simp] theorem Evt.cells_av (e : Evt) : e.av.cells = [iv e.kind, iv e.id.frm, iv e.id.n, iv e.id.cpy, iv e.who] := rfl
theorem eless_pc (a b : Int) : PC Tryz.prog 130 [iv a, iv b] (iv (lessB a b)) := by
 refine pc_of_get eless_get (by simp) _ (by simp) _ ?_
 unfold eless_c lessB
 simp
 show max (w64 (a - b)) 0 = _
 generalize w64 (a - b) = x
 split <;> omega
theorem eleft_pc (b : Bud) (w : Wld) : PC Tryz.prog 97 [b.av, w.av] (leftV b w).av := by
 refine pc_of_get eleft_get (by simp) _ (by simp) _ ?_
 unfold eleft_c leftV
 simp [Bud.av, Wld.av]
 refine calld (eless_pc b.drop w.used.drop) (by simp) ?_
 simp
 refine calld (eless_pc b.dup w.used.dup) (by simp) ?_
 simp
 refine calld (eless_pc b.time w.used.time) (by simp) ?_
 simp
 refine calld (eless_pc b.crash w.used.crash) (by simp) ?_
 simp
theorem epaid_pc (b : Bud) (k : Int) : PC Tryz.prog 99 [b.av, iv k] (.bool (paidV b k)) := by
 refine pc_of_get epaid_get (by simp) _ (by simp) _ ?_
 unfold epaid_c paidV
 simp [Bud.av]
 by_cases h2 : k = 2
 . simp [h2]
 by_cases h3 : k = 3
 . simp [h3]
 by_cases h4 : k = 4
 . simp [h4]
 by_cases h5 : k = 5
 . simp [h5]
 simp [h2, h3, h4, h5]
def budOk (b : Bud) : Bool := decide (0 <= min b.drop (min b.dup (min b.time b.crash))) && decide (max b.drop (max b.dup (max b.time b.crash)) <= 1000)
theorem emay_pc (b : Bud) : PC Tryz.prog 56 [b.av] (.bool (budOk b)) := by
 refine pc_of_get emay_get (by simp) _ (by simp) _ ?_
 unfold emay_c budOk
 simp [Bud.av]
 by_cases h : 0 <= min b.drop (min b.dup (min b.time b.crash))
 . simp [h]
 . simp [h]
structure WOk (w : Wld) : Prop where
 ml : w.mail.length <= 1000
 al : w.acts.length <= 1000
 to : ∀ m ∈ w.mail, 0 <= m.note.to /\ m.note.to < w.acts.length
theorem idxV_some {id : MId} : ∀ {l : List Msg} {i : Nat}, idxV id l = some i -> ∃ h : i < l.length, l[i].id = id
 | [], i, h => by cases h
 | m :: l, i, h => by
   unfold idxV at h
   split at h
   . rename_i q; cases h; exact ⟨by simp, q⟩
   . obtain ⟨j, hj, rfl⟩ := Option.map_eq_some_iff.1 h
     obtain ⟨q1, q2⟩ := idxV_some hj
     exact ⟨by simpa using q1, by simpa using q2⟩
theorem ntAt_none {w : Wld} {id : MId} (h : idxV id w.mail = none) : ntAt w id = none /\ findV w.mail id = -1 := by
 unfold ntAt findV; rw [h]; exact ⟨rfl, rfl⟩
theorem ntAt_some {w : Wld} {id : MId} {i : Nat} (h : idxV id w.mail = some i) : ∃ h : i < w.mail.length, ntAt w id = some w.mail[i].note /\ findV w.mail id = i := by
 obtain ⟨h1, h2⟩ := idxV_some h
 refine ⟨h1, ?_, ?_⟩
 . unfold ntAt; rw [h]; simp [List.getElem?_eq_getElem h1]
 . unfold findV; rw [h]
set_option maxHeartbeats 1600000 in
theorem ecan_none (w : Wld) (hw : WOk w) (e : Evt) (h123 : e.kind = 1 \/ e.kind = 2 \/ e.kind = 3) (hi : idxV e.id w.mail = none) : PC Tryz.prog 100 [w.av, e.av] (.bool false) := by
 refine pc_of_get ecan_get (by simp) _ (by simp) _ ?_
 unfold ecan_c
 obtain ⟨q1, q2⟩ := ntAt_none hi
 have hf := mfind_pc w.mail e.id hw.ml
 rw [q2] at hf
 rcases h123 with hk | hk | hk
 all_goals
   simp [Wld.av, Evt.av, hk]
   refine call hf (by simp [MId.av]) ?_
   by_cases h0 : e.who = 0 <;> simp [h0]
theorem ecan_1 (w : Wld) (hw : WOk w) (e : Evt) (hk : e.kind = 1) (i : Nat) (hi : idxV e.id w.mail = some i) (hl : i < w.mail.length) : PC Tryz.prog 100 [w.av, e.av] (.bool (decide (e.who = 0) && decide (downV w w.mail[i].note.to = 0))) := by
 refine pc_of_get ecan_get (by simp) _ (by simp) _ ?_
 unfold ecan_c
 obtain ⟨_, q1, q2⟩ := ntAt_some hi
 have hf := mfind_pc w.mail e.id hw.ml
 rw [q2] at hf
 obtain ⟨t1, t2⟩ := hw.to _ (List.getElem_mem hl)
 have t3 : w.mail[i].note.to.toNat < w.acts.length := by omega
 have hd : downV w w.mail[i].note.to = w.acts[w.mail[i].note.to.toNat].down := by unfold downV; rw [List.getElem?_eq_getElem t3]; rfl
 simp [Wld.av, Evt.av, hk]
 refine call hf (by simp [MId.av]) ?_
 by_cases h0 : e.who = 0
 . simp [h0, hl, t1, t3, hd]
 . simp [h0]
theorem ecan_23 (w : Wld) (hw : WOk w) (e : Evt) (hk : e.kind = 2 \/ e.kind = 3) (i : Nat) (hi : idxV e.id w.mail = some i) : PC Tryz.prog 100 [w.av, e.av] (.bool (decide (e.who = 0))) := by
 refine pc_of_get ecan_get (by simp) _ (by simp) _ ?_
 unfold ecan_c
 obtain ⟨_, q1, q2⟩ := ntAt_some hi
 have hf := mfind_pc w.mail e.id hw.ml
 rw [q2] at hf
 rcases hk with hk | hk
 all_goals
   simp [Wld.av, Evt.av, hk]
   refine call hf (by simp [MId.av]) ?_
   by_cases h0 : e.who = 0 <;> simp [h0]
theorem ecan_45 (w : Wld) (hw : WOk w) (e : Evt) (hk : e.kind = 4 \/ e.kind = 5) : PC Tryz.prog 100 [w.av, e.av] (.bool (canV w e)) := by
 refine pc_of_get ecan_get (by simp) _ (by simp) _ ?_
 unfold ecan_c canV
 have hid : decide (e.id = ⟨0, 0, 0⟩) = (decide (e.id.frm = 0) && (decide (e.id.n = 0) && decide (e.id.cpy = 0))) := by
   obtain ⟨a, b, c⟩ := e.id
   simp
 rw [if_neg (by omega), if_pos hk, hid]
 by_cases i1 : e.id.frm = 0 /\ e.id.n = 0 /\ e.id.cpy = 0
 . obtain ⟨i1, i2, i3⟩ := i1
   by_cases h0 : 0 <= e.who
   . by_cases h1 : e.who < w.acts.length
     . have t3 : e.who.toNat < w.acts.length := by omega
       have hd : downV w e.who = w.acts[e.who.toNat].down := by unfold downV; rw [List.getElem?_eq_getElem t3]; rfl
       have ha : armedV w e.who = w.acts[e.who.toNat].armed := by unfold armedV; rw [List.getElem?_eq_getElem t3]; rfl
       rw [hd, ha]
       by_cases hd0 : w.acts[e.who.toNat].down = 0
       . rcases hk with hk | hk <;> simp [Wld.av, Evt.av, hk, i1, i2, i3, h0, h1, t3, hd0]
       . rcases hk with hk | hk <;> simp [Wld.av, Evt.av, hk, i1, i2, i3, h0, h1, t3, hd0]
     . rcases hk with hk | hk <;> simp [Wld.av, Evt.av, hk, i1, i2, i3, h0, h1]
   . rcases hk with hk | hk <;> simp [Wld.av, Evt.av, hk, i1, i2, i3, h0]
 . have i2 : (decide (e.id.frm = 0) && (decide (e.id.n = 0) && decide (e.id.cpy = 0))) = false := by
     simp
     intro a b c
     exact i1 ⟨a, b, c⟩
   rcases hk with hk | hk <;> simp [Wld.av, Evt.av, hk, i2]
theorem ecan_no (w : Wld) (e : Evt) (h123 : ¬ (e.kind = 1 \/ e.kind = 2 \/ e.kind = 3)) (h45 : ¬ (e.kind = 4 \/ e.kind = 5)) : PC Tryz.prog 100 [w.av, e.av] (.bool false) := by
 refine pc_of_get ecan_get (by simp) _ (by simp) _ ?_
 unfold ecan_c
 have k1 : e.kind ≠ 1 := fun q => h123 (.inl q)
 have k2 : e.kind ≠ 2 := fun q => h123 (.inr (.inl q))
 have k3 : e.kind ≠ 3 := fun q => h123 (.inr (.inr q))
 have k4 : e.kind ≠ 4 := fun q => h45 (.inl q)
 have k5 : e.kind ≠ 5 := fun q => h45 (.inr q)
 simp [Wld.av, Evt.av, k1, k2, k3, k4, k5]
theorem ecan_pc (w : Wld) (hw : WOk w) (e : Evt) : PC Tryz.prog 100 [w.av, e.av] (.bool (canV w e)) := by
 by_cases h123 : e.kind = 1 \/ e.kind = 2 \/ e.kind = 3
 . cases hi : idxV e.id w.mail with
   | none =>
     have := ecan_none w hw e h123 hi
     obtain ⟨q1, q2⟩ := ntAt_none hi
     unfold canV
     rw [if_pos h123, q1, Bool.and_false]
     exact this
   | some i =>
     obtain ⟨hl, q1, q2⟩ := ntAt_some hi
     unfold canV
     rw [if_pos h123, q1]
     rcases h123 with hk | hk
     . have := ecan_1 w hw e hk i hi hl
       simpa [hk] using this
     . have := ecan_23 w hw e hk i hi
       have k1 : e.kind ≠ 1 := by omega
       simpa [k1] using this
 . by_cases h45 : e.kind = 4 \/ e.kind = 5
   . exact ecan_45 w hw e h45
   . have := ecan_no w e h123 h45
     unfold canV
     rw [if_neg h123, if_neg h45]
     exact this
end Go.Gv

namespace Go.Gv
open Go.Proofs
def eput_r0 : List AI := [oA 4 (.box 217004 5 (.t 0))]
def eput_r1 : List AI := [oA 5 (.load (some 4) (.t 1)), oA 6 (.fld 0 (.t 4)), oA 7 (.load none (.t 6)), oC 8 (.c (.fn 99 [])) [(.t 5), (.t 7)], oA 9 (.mv (.t 8)), oG 10 9 true (.load (some 6) (.t 2)), oG 11 9 true (.load (some 5) (.t 4)), ⟨(some 12), (some (9, true)), (.call (.c (.fn 100 [])) [(.t 10), (.t 11)])⟩, oA 13 (.pick (.t 9) (.t 12) (.c (.bool false)))]
def eput_r2 : List AI := [oA 14 (.load none (.t 3)), oA 15 (.load (some 5) (.t 4)), oA 16 (.bsl 217016 5 77 1 (.agg [(.int .i64 0), (.int .i64 0), (.int .i64 0), (.int .i64 0), (.int .i64 0)]) [(0, (.t 15))]), oA 17 (.app 217017 5 77 40 (.t 14) (.t 16)), oN (.store 1 (.t 3) (.t 17))]
def eput_c : AC := (.seq (.reg eput_r0) (.seq (.reg eput_r1) (.cond (.t 13) (.reg eput_r2) .skip)))
def eput_res : List ARes := []
set_option maxRecDepth 100000 in
theorem eput_get : getF Tryz.prog 98 217000 [] = some ("gavotte/event.All$1", 18, eput_c, eput_res) := by kernel_rfl
def eall_r0 : List AI := [oA 2 (.box 218002 4 (.t 0)), oA 3 (.box 218003 6 (.t 1)), oA 4 (.new 218004 1 .nils)]
def eall_r1 : List AI := [oA 14 (.load (some 4) (.t 2)), oA 15 (.load (some 6) (.t 3)), oC 16 (.c (.fn 97 [])) [(.t 14), (.t 15)], oA 5 (.new 218005 4 (.agg [(.int .i64 0), (.int .i64 0), (.int .i64 0), (.int .i64 0)])), oN (.store 4 (.t 5) (.t 16))]
def eall_r2 : List AI := [oA 17 (.mkf 98 [(.t 5), (.t 3), (.t 4)]), oA 6 (.mv (.t 17))]
def eall_r3 : List AI := [oA 18 (.bsl 218018 1 3 3 (.int .i64 0) [(0, (.c (.int .i64 1))), (1, (.c (.int .i64 2))), (2, (.c (.int .i64 3)))]), oA 19 (.len (.t 18)), oA 20 (.mv (.c (.int .i64 0)))]
def eall_r4 : List AI := [oA 21 (.ibin .lss (.t 20) (.t 19))]
def eall_r5 : List AI := [oA 22 (.idx 1 (.t 18) (.t 20)), oA 23 (.load none (.t 22)), oA 8 (.mv (.t 23))]
def eall_r6 : List AI := [oA 24 (.fld 1 (.t 3)), oA 25 (.load none (.t 24)), oA 26 (.len (.t 25)), oA 27 (.mv (.c (.int .i64 0)))]
def eall_r7 : List AI := [oA 28 (.ibin .lss (.t 27) (.t 26))]
def eall_r8 : List AI := [oA 29 (.idx 6 (.t 25) (.t 27)), oA 30 (.load (some 6) (.t 29)), oA 10 (.new 218010 6 (.agg [(.int .i64 0), (.int .i64 0), (.int .i64 0), (.int .i64 0), (.int .i64 0), .nils])), oN (.store 6 (.t 10) (.t 30))]
def eall_r9 : List AI := [oA 31 (.mv (.t 6)), oA 32 (.mv (.t 8)), oA 33 (.fld 0 (.t 10)), oA 34 (.load (some 3) (.t 33)), oA 35 (.build [(.int .i64 0), (.int .i64 0), (.int .i64 0), (.int .i64 0), (.int .i64 0)] [(0, (1, (.t 32))), (1, (3, (.t 34)))]), oC 36 (.t 31) [(.t 35)]]
def eall_r10 : List AI := [oA 37 (.ibin .add (.t 27) (.c (.int .i64 1))), oA 27 (.mv (.t 37))]
def eall_l0 : AC := (.seq (.reg eall_r7) (.seq (.cond (.t 28) .skip (.exit 2)) (.seq (.block 3 (.seq (.reg eall_r8) (.reg eall_r9))) (.reg eall_r10))))
def eall_r11 : List AI := [oA 38 (.ibin .add (.t 20) (.c (.int .i64 1))), oA 20 (.mv (.t 38))]
def eall_l1 : AC := (.seq (.reg eall_r4) (.seq (.cond (.t 21) .skip (.exit 0)) (.seq (.block 1 (.seq (.reg eall_r5) (.seq (.reg eall_r6) (.block 2 (.loop eall_l0))))) (.reg eall_r11))))
def eall_r12 : List AI := [oA 39 (.bsl 218039 1 3 2 (.int .i64 0) [(0, (.c (.int .i64 4))), (1, (.c (.int .i64 5)))]), oA 40 (.len (.t 39)), oA 41 (.mv (.c (.int .i64 0)))]
def eall_r13 : List AI := [oA 42 (.ibin .lss (.t 41) (.t 40))]
def eall_r14 : List AI := [oA 43 (.idx 1 (.t 39) (.t 41)), oA 44 (.load none (.t 43)), oA 12 (.mv (.t 44))]
def eall_r15 : List AI := [oA 45 (.fld 0 (.t 3)), oA 46 (.load none (.t 45)), oA 47 (.len (.t 46)), oA 48 (.mv (.c (.int .i64 0)))]
def eall_r16 : List AI := [oA 49 (.ibin .lss (.t 48) (.t 47))]
def eall_r17 : List AI := [oA 50 (.mv (.t 48)), oA 13 (.mv (.t 50))]
def eall_r18 : List AI := [oA 51 (.mv (.t 6)), oA 52 (.mv (.t 12)), oA 53 (.mv (.t 13)), oA 54 (.build [(.int .i64 0), (.int .i64 0), (.int .i64 0), (.int .i64 0), (.int .i64 0)] [(0, (1, (.t 52))), (4, (1, (.t 53)))]), oC 55 (.t 51) [(.t 54)]]
def eall_r19 : List AI := [oA 56 (.ibin .add (.t 48) (.c (.int .i64 1))), oA 48 (.mv (.t 56))]
def eall_l2 : AC := (.seq (.reg eall_r16) (.seq (.cond (.t 49) .skip (.exit 6)) (.seq (.block 7 (.seq (.reg eall_r17) (.reg eall_r18))) (.reg eall_r19))))
def eall_r20 : List AI := [oA 57 (.ibin .add (.t 41) (.c (.int .i64 1))), oA 41 (.mv (.t 57))]
def eall_l3 : AC := (.seq (.reg eall_r13) (.seq (.cond (.t 42) .skip (.exit 4)) (.seq (.block 5 (.seq (.reg eall_r14) (.seq (.reg eall_r15) (.block 6 (.loop eall_l2))))) (.reg eall_r20))))
def eall_r21 : List AI := [oA 58 (.load none (.t 4)), oN (.store 1 (.t 4) (.t 58))]
def eall_c : AC := (.seq (.reg eall_r0) (.seq (.reg eall_r1) (.seq (.reg eall_r2) (.seq (.seq (.reg eall_r3) (.block 0 (.loop eall_l1))) (.seq (.seq (.reg eall_r12) (.block 4 (.loop eall_l3))) (.seq (.reg eall_r21) .ret))))))
def eall_res : List ARes := [(.cell none 4)]
set_option maxRecDepth 100000 in
theorem eall_get : getF Tryz.prog 60 218000 [] = some ("gavotte/event.All", 59, eall_c, eall_res) := by kernel_rfl
attribute [simp] eput_r0 eput_r1 eput_r2 eput_res eall_r0 eall_r1 eall_r2 eall_r3 eall_r4 eall_r5 eall_r6 eall_r7 eall_r8 eall_r9 eall_r10 eall_r11 eall_r12 eall_r13 eall_r14 eall_r15 eall_r16 eall_r17 eall_r18 eall_r19 eall_r20 eall_r21 eall_res
theorem put_v (b : Bud) (w : Wld) (hw : WOk w) (n5 s5 n3 s3 n4 s4 : Nat) (h5 : n5 ≠ 217004) (h3 : n3 ≠ 217004) (h4 : n4 ≠ 217004) (e : Evt) (v : AV) (xs : List AV) (hx : xs.length < 100000) {S : St} {k : AV -> St -> Prop} {u : Dep k}
   (b5 : S.blk n5 = some ⟨s5, 4, [b.av]⟩) (b3 : S.blk n3 = some ⟨s3, 6, [w.av]⟩) (b4 : S.blk n4 = some ⟨s4, 1, [v]⟩) (hv : AccIs S v 217017 5 77 xs)
   (hk : ∀ S' v', S'.t = S.t -> S.clk <= S'.clk -> (∀ n, n ≠ n4 -> n ≠ 217004 -> S'.blk n = S.blk n) -> (∀ n, n ≠ 217016 -> n ≠ 217017 -> S'.tok n = S.tok n) -> S'.blk n4 = some ⟨s4, 1, [v']⟩ -> AccIs S' v' 217017 5 77 (if (paidV b e.kind && canV w e) = true then xs ++ [e.av] else xs) -> k (.tup []) S') :
   CallG Tryz.prog (.fn 98 [.ptr n5 s5 4 0 0, .ptr n3 s3 6 0 0, .ptr n4 s4 1 0 0]) [e.av] S k u := by
 refine callV eput_get (by simp) (by simp) ?_
 unfold eput_c
 simp [h5, h3, h4, b5, b3, b4, Bud.av]
 refine call (epaid_pc b e.kind) (by simp [Bud.av]) ?_
 cases hp : paidV b e.kind with
 | false =>
   simp [h5, h3, h4, b5, b3, b4]
   exact hk _ v rfl (by simp; omega) (fun n a1 a2 => by simp [a2]) (fun _ _ _ => rfl) (by simp [h4, b4]) (by rw [hp]; exact hv)
 | true =>
   simp [h5, h3, h4, b5, b3, b4]
   refine call (ecan_pc w hw e) (by simp [Wld.av, Evt.av]) ?_
   cases hc : canV w e with
   | false =>
     simp [h5, h3, h4, b5, b3, b4]
     exact hk _ v rfl (by simp; omega) (fun n a1 a2 => by simp [a2]) (fun _ _ _ => rfl) (by simp [h4, b4]) (by rw [hp, hc]; exact hv)
   | true =>
     have hbd : (xs.length + 1) * 40 <= 140737488355328 := by omega
     rcases hv with ⟨rfl, rfl⟩ | ⟨st, rfl, ht⟩
     . simp [h5, h3, h4, b5, b3, b4]
       refine hk _ _ rfl (by simp; omega) (fun n a1 a2 => by simp [a1, a2]) (fun n a1 a2 => by simp [a1, a2]) (by simp; rfl) ?_
       rw [hp, hc]
       simp [AccIs, Evt.av]
     . simp [h5, h3, h4, b5, b3, b4, ht, hbd]
       refine hk _ _ rfl (by simp; omega) (fun n a1 a2 => by simp [a1, a2]) (fun n a1 a2 => by simp [a1, a2]) (by simp; rfl) ?_
       rw [hp, hc]
       simp [AccIs, Evt.av]
theorem evM_take (k : Int) (l : List Msg) (i : Nat) (h : i < l.length) : evM k (l.take (i + 1)) = evM k (l.take i) ++ [⟨k, l[i].id, 0⟩] := by
 unfold evM
 rw [List.take_succ_eq_append_getElem h, List.map_append]; rfl
theorem evA_succ (k : Int) (n : Nat) : evA k (n + 1) = evA k n ++ [⟨k, ⟨0, 0, 0⟩, (n : Int)⟩] := by
 unfold evA
 rw [List.range_succ, List.map_append]; rfl
def tstV (b : Bud) (w : Wld) (e : Evt) : Bool := paidV b e.kind && canV w e
def AlI (b : Bud) (w : Wld) (D : List Evt) (S : St) : Prop :=
 ∃ s s3 s4 v, S.t 5 = .ptr 218005 s 4 0 0 /\ S.blk 218005 = some ⟨s, 4, [(leftV b w).av]⟩ /\ S.t 3 = .ptr 218003 s3 6 0 0 /\ S.blk 218003 = some ⟨s3, 6, [w.av]⟩ /\ S.t 4 = .ptr 218004 s4 1 0 0 /\ S.blk 218004 = some ⟨s4, 1, [v]⟩ /\
   S.t 6 = .fn 98 [.ptr 218005 s 4 0 0, .ptr 218003 s3 6 0 0, .ptr 218004 s4 1 0 0] /\ AccIs S v 217017 5 77 ((D.filter (tstV (leftV b w) w)).map Evt.av)
theorem AlI.at {b : Bud} {w : Wld} {D : List Evt} {S S' : St} (h : AlI b w D S) (h3 : S'.t 3 = S.t 3) (h4 : S'.t 4 = S.t 4) (h5 : S'.t 5 = S.t 5) (h6 : S'.t 6 = S.t 6) (hb : ∀ n, n ≠ 218010 -> S'.blk n = S.blk n) (hk : S'.tok 217017 = S.tok 217017) : AlI b w D S' := by
 obtain ⟨s, s3, s4, v, a1, a2, a3, a4, a5, a6, a7, a8⟩ := h
 exact ⟨s, s3, s4, v, h5.trans a1, (hb _ (by simp)).trans a2, h3.trans a3, (hb _ (by simp)).trans a4, h4.trans a5, (hb _ (by simp)).trans a6, h6.trans a7, by simpa [AccIs, hk] using a8⟩
theorem filt_snoc (t : Evt -> Bool) (D : List Evt) (e : Evt) : ((D ++ [e]).filter t).map Evt.av = if t e = true then (D.filter t).map Evt.av ++ [e.av] else (D.filter t).map Evt.av := by
 rw [List.filter_append, List.map_append]
 cases h : t e <;> simp [h]
theorem eall_put (b : Bud) (w : Wld) (hw : WOk w) (D : List Evt) (hD : D.length < 100000) (e : Evt) {fv : AV} {S : St} {k : AV -> St -> Prop} {u : Dep k} (hfv : S.t 6 = fv) (h : AlI b w D S)
   (hk : ∀ S', S'.t = S.t -> (∀ n, n ≠ 218004 -> n ≠ 217004 -> S'.blk n = S.blk n) -> AlI b w (D ++ [e]) S' -> k (.tup []) S') : CallG Tryz.prog fv [e.av] S k u := by
 obtain ⟨s, s3, s4, v, a1, a2, a3, a4, a5, a6, a7, a8⟩ := h
 rw [<- hfv, a7]
 have hl : ((D.filter (tstV (leftV b w) w)).map Evt.av).length < 100000 := by
   rw [List.length_map]
   have := List.length_filter_le (tstV (leftV b w) w) D
   omega
 refine put_v (leftV b w) w hw 218005 s 218003 s3 218004 s4 (by simp) (by simp) (by simp) e v _ hl a2 a4 a6 a8 (fun S' v' q1 q2 q3 q4 q5 q6 => ?_)
 refine hk S' q1 q3 ⟨s, s3, s4, v', by rw [q1, a1], (q3 _ (by simp) (by simp)).trans a2, by rw [q1, a3], (q3 _ (by simp) (by simp)).trans a4, by rw [q1, a5], q5, by rw [q1, a7], ?_⟩
 rw [filt_snoc]
 exact q6
theorem eall_inM (b : Bud) (w : Wld) (hw : WOk w) (kd : Int) (D : List Evt) (hD : D.length <= 50000) {S : St} {κ : Ex -> St -> Prop} {u : Dep κ} (h : AlI b w D S) (h8 : S.t 8 = iv kd) (h25 : S.t 25 = .lst 6 (w.mail.map Msg.av)) (h26 : S.t 26 = iv w.mail.length) (h27 : S.t 27 = iv 0)
   (hk : ∀ S', AlI b w (D ++ evM kd w.mail) S' -> S'.t 18 = S.t 18 -> S'.t 19 = S.t 19 -> S'.t 20 = S.t 20 -> κ (.exit 2) S') : LoopG Tryz.prog eall_l0 κ S u := by
 have hml := hw.ml
 refine loopN (fun i S' => AlI b w (D ++ evM kd (w.mail.take i)) S' /\ S'.t 8 = iv kd /\ S'.t 25 = .lst 6 (w.mail.map Msg.av) /\ S'.t 26 = iv w.mail.length /\ S'.t 27 = iv i /\ S'.t 18 = S.t 18 /\ S'.t 19 = S.t 19 /\ S'.t 20 = S.t 20) w.mail.length ?_ ?_
 . exact ⟨by simpa [evM] using h, h8, h25, h26, h27, rfl, rfl, rfl⟩
 . rintro i S' hi ⟨hA, g8, g25, g26, g27, g18, g19, g20⟩
   by_cases hlt : i < w.mail.length
   . have ws := wrap_succ i _ hlt (by omega)
     simp [eall_l0, g8, g25, g26, g27, hlt]
     refine eall_put b w hw (D ++ evM kd (w.mail.take i)) (by simp [evM]; omega) ⟨kd, w.mail[i].id, 0⟩ (by simp) (hA.at (by simp) (by simp) (by simp) (by simp) (fun n hn => by simp [hn]) rfl) (fun S1 q1 q2 q3 => ?_)
     simp [q1, g8, g25, g26, g27, g18, g19, g20, ws]
     rw [evM_take _ _ _ hlt, <- List.append_assoc]
     exact q3.at (by simp [q1]) (by simp [q1]) (by simp [q1]) (by simp [q1]) (fun _ _ => rfl) rfl
   . have e1 : i = w.mail.length := by omega
     subst e1
     rw [List.take_length] at hA
     simp [eall_l0, g8, g25, g26, g27]
     exact hk _ (hA.at (by simp) (by simp) (by simp) (by simp) (fun _ _ => rfl) rfl) (by simp [g18]) (by simp [g19]) (by simp [g20])
theorem eall_inA (b : Bud) (w : Wld) (hw : WOk w) (kd : Int) (D : List Evt) (hD : D.length <= 50000) {S : St} {κ : Ex -> St -> Prop} {u : Dep κ} (h : AlI b w D S) (h12 : S.t 12 = iv kd) (h47 : S.t 47 = iv w.acts.length) (h48 : S.t 48 = iv 0)
   (hk : ∀ S', AlI b w (D ++ evA kd w.acts.length) S' -> S'.t 39 = S.t 39 -> S'.t 40 = S.t 40 -> S'.t 41 = S.t 41 -> κ (.exit 6) S') : LoopG Tryz.prog eall_l2 κ S u := by
 have hal := hw.al
 refine loopN (fun i S' => AlI b w (D ++ evA kd i) S' /\ S'.t 12 = iv kd /\ S'.t 47 = iv w.acts.length /\ S'.t 48 = iv i /\ S'.t 39 = S.t 39 /\ S'.t 40 = S.t 40 /\ S'.t 41 = S.t 41) w.acts.length ?_ ?_
 . exact ⟨by simpa [evA] using h, h12, h47, h48, rfl, rfl, rfl⟩
 . rintro i S' hi ⟨hA, g12, g47, g48, g39, g40, g41⟩
   by_cases hlt : i < w.acts.length
   . have ws := wrap_succ i _ hlt (by omega)
     simp [eall_l2, g12, g47, g48, hlt]
     refine eall_put b w hw (D ++ evA kd i) (by simp [evA]; omega) ⟨kd, ⟨0, 0, 0⟩, (i : Int)⟩ (by simp) (hA.at (by simp) (by simp) (by simp) (by simp) (fun n hn => rfl) rfl) (fun S1 q1 q2 q3 => ?_)
     simp [q1, g12, g47, g48, g39, g40, g41, ws]
     rw [evA_succ, <- List.append_assoc]
     exact q3.at (by simp [q1]) (by simp [q1]) (by simp [q1]) (by simp [q1]) (fun _ _ => rfl) rfl
   . have e1 : i = w.acts.length := by omega
     subst e1
     simp [eall_l2, g12, g47, g48]
     exact hk _ (hA.at (by simp) (by simp) (by simp) (by simp) (fun _ _ => rfl) rfl) (by simp [g39]) (by simp [g40]) (by simp [g41])
theorem eall_pc (b : Bud) (w : Wld) (hw : WOk w) : PC Tryz.prog 60 [b.av, w.av] (.lst 5 ((allV b w).map Evt.av)) := by
 refine pc_of_get eall_get (by simp) _ (by simp) _ ?_
 unfold eall_c
 simp [Bud.av, Wld.av]
 refine call (eleft_pc b w) (by simp [Bud.av, Wld.av]) ?_
 have hml := hw.ml
 have hal := hw.al
 simp
 refine loopN (fun i S => AlI b w (([1, 2, 3] : List Int).take i |>.flatMap fun k => evM k w.mail) S /\ (∃ q, S.t 18 = .acc 218018 q 1 [iv 1, iv 2, iv 3]) /\ S.t 19 = iv 3 /\ S.t 20 = iv i) 3 ?_ ?_
 . refine ⟨⟨_, _, _, .nils, by simp; rfl, by simp [Bud.av], by simp; rfl, by simp [Wld.av], by simp; rfl, by simp, by simp, ?_⟩, ⟨_, by simp; rfl⟩, by simp, by simp⟩
   simp [AccIs]
 . rintro i S hi ⟨hA, ⟨q, g18⟩, g19, g20⟩
   have hA' := hA
   obtain ⟨s, s3, s4, v, a1, a2, a3, a4, a5, a6, a7, a8⟩ := hA'
   match i, hi, hA, g20 with
   | 0, _, hA, g20 =>
     simp [eall_l1, g18, g19, g20, a3, a4]
     refine eall_inM b w hw 1 _ (by simp [evM] <;> omega) (hA.at (by simp) (by simp) (by simp) (by simp) (fun _ _ => rfl) rfl) (by simp) (by simp) (by simp) (by simp) (fun S1 q1 q2 q3 q4 => ?_)
     simp [q4, g20, wrap1]
     simp at q1
     exact ⟨q1.at (by simp) (by simp) (by simp) (by simp) (fun _ _ => rfl) rfl, ⟨q, by rw [q2]; simp [g18]⟩, by rw [q3]; simp [g19]⟩
   | 1, _, hA, g20 =>
     simp [eall_l1, g18, g19, g20, a3, a4]
     refine eall_inM b w hw 2 _ (by simp [evM] <;> omega) (hA.at (by simp) (by simp) (by simp) (by simp) (fun _ _ => rfl) rfl) (by simp) (by simp) (by simp) (by simp) (fun S1 q1 q2 q3 q4 => ?_)
     simp [q4, g20, wrap2]
     simp at q1
     exact ⟨q1.at (by simp) (by simp) (by simp) (by simp) (fun _ _ => rfl) rfl, ⟨q, by rw [q2]; simp [g18]⟩, by rw [q3]; simp [g19]⟩
   | 2, _, hA, g20 =>
     simp [eall_l1, g18, g19, g20, a3, a4]
     refine eall_inM b w hw 3 _ (by simp [evM] <;> omega) (hA.at (by simp) (by simp) (by simp) (by simp) (fun _ _ => rfl) rfl) (by simp) (by simp) (by simp) (by simp) (fun S1 q1 q2 q3 q4 => ?_)
     simp [q4, g20, wrap3]
     simp at q1
     exact ⟨q1.at (by simp) (by simp) (by simp) (by simp) (fun _ _ => rfl) rfl, ⟨q, by rw [q2]; simp [g18]⟩, by rw [q3]; simp [g19]⟩
   | 3, _, hA, g20 =>
     simp [eall_l1, g18, g19, g20, a3, a4]
     simp at hA
     clear a1 a2 a3 a4 a5 a6 a7 a8
     refine loopN (fun i S => AlI b w ((evM 1 w.mail ++ (evM 2 w.mail ++ evM 3 w.mail)) ++ (([4, 5] : List Int).take i |>.flatMap fun k => evA k w.acts.length)) S /\ (∃ q, S.t 39 = .acc 218039 q 1 [iv 4, iv 5]) /\ S.t 40 = iv 2 /\ S.t 41 = iv i) 2 ?_ ?_
     . refine ⟨?_, ⟨_, by simp; rfl⟩, by simp, by simp⟩
       simp only [List.take_zero, List.flatMap_nil, List.append_nil]
       exact hA.at (by simp) (by simp) (by simp) (by simp) (fun _ _ => rfl) (by simp)
     . rintro i S hi ⟨hA, ⟨q, g39⟩, g40, g41⟩
       have hA' := hA
       obtain ⟨s, s3, s4, v, a1, a2, a3, a4, a5, a6, a7, a8⟩ := hA'
       match i, hi, hA, g41 with
       | 0, _, hA, g41 =>
         simp [eall_l3, g39, g40, g41, a3, a4]
         refine eall_inA b w hw 4 _ (by simp [evM, evA] <;> omega) (hA.at (by simp) (by simp) (by simp) (by simp) (fun _ _ => rfl) rfl) (by simp) (by simp) (by simp) (fun S1 q1 q2 q3 q4 => ?_)
         simp [q4, g41, wrap1]
         simp at q1
         exact ⟨q1.at (by simp) (by simp) (by simp) (by simp) (fun _ _ => rfl) rfl, ⟨q, by rw [q2]; simp [g39]⟩, by rw [q3]; simp [g40]⟩
       | 1, _, hA, g41 =>
         simp [eall_l3, g39, g40, g41, a3, a4]
         refine eall_inA b w hw 5 _ (by simp [evM, evA] <;> omega) (hA.at (by simp) (by simp) (by simp) (by simp) (fun _ _ => rfl) rfl) (by simp) (by simp) (by simp) (fun S1 q1 q2 q3 q4 => ?_)
         simp [q4, g41, wrap2]
         simp at q1
         exact ⟨q1.at (by simp) (by simp) (by simp) (by simp) (fun _ _ => rfl) rfl, ⟨q, by rw [q2]; simp [g39]⟩, by rw [q3]; simp [g40]⟩
       | 2, _, hA, g41 =>
         have e : ((evM 1 w.mail ++ (evM 2 w.mail ++ evM 3 w.mail)) ++ (([4, 5] : List Int).take 2 |>.flatMap fun k => evA k w.acts.length)).filter (tstV (leftV b w) w) = allV b w := by
           unfold allV tstV
           simp
         rw [e] at a8
         rcases a8 with ⟨rfl, hx⟩ | ⟨st, rfl, ht⟩
         . simp [eall_l3, g39, g40, g41, a3, a4, a5, a6, hx]
         . simp [eall_l3, g39, g40, g41, a3, a4, a5, a6]
       | i + 3, h, _, _ => omega
   | i + 4, h, _, _ => omega
end Go.Gv

namespace Go.Gv
open Go.Proofs
def fault_r0 : List AI := [oA 1 (.box 219001 5 (.t 0)), oA 2 (.mv (.c (.bool false)))]
def fault_r1 : List AI := [oA 3 (.fld 0 (.t 1)), oA 4 (.load none (.t 3)), oA 5 (.ibin .geq (.t 4) (.c (.int .i64 2))), oA 6 (.mv (.t 5)), oG 7 6 true (.fld 0 (.t 1)), oG 8 6 true (.load none (.t 7)), oG 9 6 true (.ibin .leq (.t 8) (.c (.int .i64 5))), oA 10 (.pick (.t 6) (.t 9) (.c (.bool false))), oA 2 (.mv (.t 10))]
def fault_c : AC := (.seq (.reg fault_r0) (.seq (.reg fault_r1) .ret))
def fault_res : List ARes := [(.tmp 2)]
set_option maxRecDepth 100000 in
theorem fault_get : getF Tryz.prog 204 219000 [] = some ("gavotte/ident.Fault", 11, fault_c, fault_res) := by kernel_rfl
def onekind_r0 : List AI := [oA 2 (.box 220002 5 (.t 0)), oA 3 (.box 220003 5 (.t 1)), oA 4 (.mv (.c (.bool false)))]
def onekind_r1 : List AI := [oA 5 (.fld 0 (.t 2)), oA 6 (.load none (.t 5)), oA 7 (.fld 0 (.t 3)), oA 8 (.load none (.t 7)), oA 9 (.ibin .eql (.t 6) (.t 8)), oA 10 (.mv (.t 9)), oG 11 10 true (.load (some 5) (.t 2)), ⟨(some 12), (some (10, true)), (.call (.c (.fn 204 [])) [(.t 11)])⟩, oA 13 (.pick (.t 10) (.t 12) (.c (.bool false))), oA 4 (.mv (.t 13))]
def onekind_c : AC := (.seq (.reg onekind_r0) (.seq (.reg onekind_r1) .ret))
def onekind_res : List ARes := [(.tmp 4)]
set_option maxRecDepth 100000 in
theorem onekind_get : getF Tryz.prog 158 220000 [] = some ("gavotte/touch.OneKind", 14, onekind_c, onekind_res) := by kernel_rfl
def indexI_r0 : List AI := [oA 4 (.mv (.c (.int .i64 0)))]
def indexI_r1 : List AI := [oA 6 (.mv (.t 0)), oA 7 (.len (.t 6)), oA 8 (.mv (.c (.int .i64 0)))]
def indexI_r2 : List AI := [oA 9 (.ibin .lss (.t 8) (.t 7))]
def indexI_r3 : List AI := [oA 10 (.mv (.t 8)), oA 5 (.mv (.t 10))]
def indexI_r4 : List AI := [oA 11 (.mv (.t 1)), oA 12 (.mv (.t 0)), oA 13 (.mv (.t 5)), oA 14 (.idx 1 (.t 12) (.t 13)), oA 15 (.load none (.t 14)), oA 16 (.ibin .eql (.t 11) (.t 15))]
def indexI_r5 : List AI := [oA 17 (.mv (.t 5)), oA 4 (.mv (.t 17))]
def indexI_r6 : List AI := [oA 18 (.ibin .add (.t 8) (.c (.int .i64 1))), oA 8 (.mv (.t 18))]
def indexI_l0 : AC := (.seq (.reg indexI_r2) (.seq (.cond (.t 9) .skip (.exit 0)) (.seq (.block 1 (.seq (.reg indexI_r3) (.seq (.reg indexI_r4) (.cond (.t 16) (.seq (.reg indexI_r5) .ret) .skip)))) (.reg indexI_r6))))
def indexI_r7 : List AI := [oA 4 (.mv (.c (.int .i64 (-1))))]
def indexI_c : AC := (.seq (.reg indexI_r0) (.seq (.seq (.reg indexI_r1) (.block 0 (.loop indexI_l0))) (.seq (.reg indexI_r7) .ret)))
def indexI_res : List ARes := [(.tmp 4)]
set_option maxRecDepth 100000 in
theorem indexI_get : getF Tryz.prog 229 221000 [] = some ("slices.Index[[]int,int]", 19, indexI_c, indexI_res) := by kernel_rfl
def contI_r0 : List AI := [oA 4 (.mv (.c (.bool false)))]
def contI_r1 : List AI := [oA 5 (.mv (.t 0)), oA 6 (.mv (.t 1)), oC 7 (.c (.fn 229 [])) [(.t 5), (.t 6)], oA 8 (.ibin .geq (.t 7) (.c (.int .i64 0))), oA 4 (.mv (.t 8))]
def contI_c : AC := (.seq (.reg contI_r0) (.seq (.reg contI_r1) .ret))
def contI_res : List ARes := [(.tmp 4)]
set_option maxRecDepth 100000 in
theorem contI_get : getF Tryz.prog 207 222000 [] = some ("slices.Contains[[]int,int]", 9, contI_c, contI_res) := by kernel_rfl
def idxFI_r0 : List AI := [oA 4 (.mv (.c (.int .i64 0)))]
def idxFI_r1 : List AI := [oA 6 (.mv (.t 0)), oA 7 (.len (.t 6)), oA 8 (.mv (.c (.int .i64 0)))]
def idxFI_r2 : List AI := [oA 9 (.ibin .lss (.t 8) (.t 7))]
def idxFI_r3 : List AI := [oA 10 (.mv (.t 8)), oA 5 (.mv (.t 10))]
def idxFI_r4 : List AI := [oA 11 (.mv (.t 1)), oA 12 (.mv (.t 0)), oA 13 (.mv (.t 5)), oA 14 (.idx 1 (.t 12) (.t 13)), oA 15 (.load none (.t 14)), oC 16 (.t 11) [(.t 15)]]
def idxFI_r5 : List AI := [oA 17 (.mv (.t 5)), oA 4 (.mv (.t 17))]
def idxFI_r6 : List AI := [oA 18 (.ibin .add (.t 8) (.c (.int .i64 1))), oA 8 (.mv (.t 18))]
def idxFI_l0 : AC := (.seq (.reg idxFI_r2) (.seq (.cond (.t 9) .skip (.exit 0)) (.seq (.block 1 (.seq (.reg idxFI_r3) (.seq (.reg idxFI_r4) (.cond (.t 16) (.seq (.reg idxFI_r5) .ret) .skip)))) (.reg idxFI_r6))))
def idxFI_r7 : List AI := [oA 4 (.mv (.c (.int .i64 (-1))))]
def idxFI_c : AC := (.seq (.reg idxFI_r0) (.seq (.seq (.reg idxFI_r1) (.block 0 (.loop idxFI_l0))) (.seq (.reg idxFI_r7) .ret)))
def idxFI_res : List ARes := [(.tmp 4)]
set_option maxRecDepth 100000 in
theorem idxFI_get : getF Tryz.prog 228 223000 [] = some ("slices.IndexFunc[[]int,int]", 19, idxFI_c, idxFI_res) := by kernel_rfl
def contFI_r0 : List AI := [oA 4 (.mv (.c (.bool false)))]
def contFI_r1 : List AI := [oA 5 (.mv (.t 0)), oA 6 (.mv (.t 1)), oC 7 (.c (.fn 228 [])) [(.t 5), (.t 6)], oA 8 (.ibin .geq (.t 7) (.c (.int .i64 0))), oA 4 (.mv (.t 8))]
def contFI_c : AC := (.seq (.reg contFI_r0) (.seq (.reg contFI_r1) .ret))
def contFI_res : List ARes := [(.tmp 4)]
set_option maxRecDepth 100000 in
theorem contFI_get : getF Tryz.prog 205 224000 [] = some ("slices.ContainsFunc[[]int,int]", 9, contFI_c, contFI_res) := by kernel_rfl
def meets1_r0 : List AI := [oA 3 (.mv (.c (.bool false)))]
def meets1_r1 : List AI := [oA 4 (.load none (.t 1)), oA 5 (.mv (.t 0)), oC 6 (.c (.fn 207 [])) [(.t 4), (.t 5)], oA 3 (.mv (.t 6))]
def meets1_c : AC := (.seq (.reg meets1_r0) (.seq (.reg meets1_r1) .ret))
def meets1_res : List ARes := [(.tmp 3)]
set_option maxRecDepth 100000 in
theorem meets1_get : getF Tryz.prog 206 225000 [] = some ("gavotte/touch.Meets$1", 7, meets1_c, meets1_res) := by kernel_rfl
def meets_r0 : List AI := [oA 3 (.box 226003 1 (.t 1)), oA 4 (.mv (.c (.bool false)))]
def meets_r1 : List AI := [oA 5 (.mv (.t 0)), oA 6 (.mkf 206 [(.t 3)]), oC 7 (.c (.fn 205 [])) [(.t 5), (.t 6)], oA 4 (.mv (.t 7))]
def meets_c : AC := (.seq (.reg meets_r0) (.seq (.reg meets_r1) .ret))
def meets_res : List ARes := [(.tmp 4)]
set_option maxRecDepth 100000 in
theorem meets_get : getF Tryz.prog 159 226000 [] = some ("gavotte/touch.Meets", 8, meets_c, meets_res) := by kernel_rfl
def apart_r0 : List AI := [oA 4 (.box 227004 5 (.t 0)), oA 5 (.box 227005 5 (.t 1)), oA 8 (.mv (.c (.bool false)))]
def apart_r1 : List AI := [oA 9 (.load (some 5) (.t 4)), oA 10 (.load (some 5) (.t 5)), oA 11 (.eqs [false, false, false, false, false] true (.t 9) (.t 10)), oA 12 (.mv (.t 11)), oG 13 12 true (.load (some 5) (.t 4)), oG 14 12 true (.load (some 5) (.t 5)), ⟨(some 15), (some (12, true)), (.call (.c (.fn 158 [])) [(.t 13), (.t 14)])⟩, oG 16 12 true (.not (.t 15)), oA 17 (.pick (.t 12) (.t 16) (.c (.bool false))), oA 18 (.mv (.t 17)), oG 19 18 true (.mv (.t 2)), oG 20 18 true (.len (.t 19)), oG 21 18 true (.ibin .gtr (.t 20) (.c (.int .i64 0))), oA 22 (.pick (.t 18) (.t 21) (.c (.bool false))), oA 23 (.mv (.t 22)), oG 24 23 true (.mv (.t 3)), oG 25 23 true (.len (.t 24)), oG 26 23 true (.ibin .gtr (.t 25) (.c (.int .i64 0))), oA 27 (.pick (.t 23) (.t 26) (.c (.bool false))), oA 28 (.mv (.t 27)), oG 29 28 true (.mv (.t 2)), oG 30 28 true (.mv (.t 3)), ⟨(some 31), (some (28, true)), (.call (.c (.fn 159 [])) [(.t 29), (.t 30)])⟩, oG 32 28 true (.not (.t 31)), oA 33 (.pick (.t 28) (.t 32) (.c (.bool false))), oA 8 (.mv (.t 33))]
def apart_c : AC := (.seq (.reg apart_r0) (.seq (.reg apart_r1) .ret))
def apart_res : List ARes := [(.tmp 8)]
set_option maxRecDepth 100000 in
theorem apart_get : getF Tryz.prog 120 227000 [] = some ("gavotte/touch.Apart", 34, apart_c, apart_res) := by kernel_rfl
def would_r0 : List AI := [oA 3 (.box 228003 4 (.t 0)), oA 4 (.box 228004 6 (.t 1)), oA 5 (.box 228005 5 (.t 2)), oA 6 (.mv (.c .nils))]
def would_r1 : List AI := [oA 9 (.load (some 6) (.t 4)), oA 10 (.load (some 5) (.t 5)), oC 11 (.c (.fn 100 [])) [(.t 9), (.t 10)], oA 12 (.not (.t 11))]
def would_r2 : List AI := [oA 6 (.mv (.c .nils))]
def would_r3 : List AI := [oA 13 (.fld 0 (.t 5)), oA 14 (.load none (.t 13))]
def would_r4 : List AI := [oA 16 (.ibin .eql (.t 14) (.c (.int .i64 1))), oA 15 (.mv (.t 16))]
def would_r5 : List AI := [oA 17 (.fld 1 (.t 4)), oA 18 (.load none (.t 17)), oA 19 (.fld 1 (.t 4)), oA 20 (.load none (.t 19)), oA 21 (.fld 1 (.t 5)), oA 22 (.load (some 3) (.t 21)), oC 23 (.c (.fn 131 [])) [(.t 20), (.t 22)], oA 24 (.idx 6 (.t 18) (.t 23)), oA 25 (.fld 3 (.t 24)), oA 26 (.load (some 3) (.t 25)), oA 7 (.new 228007 3 (.agg [(.int .i64 0), (.int .i64 0), .nils])), oN (.store 3 (.t 7) (.t 26))]
def would_p5 : List (List Nat) := [[], [0], [], [2], [], [4], [3, 5, 2, 4], [1, 6, 0, 3, 5, 2, 4], [7, 1, 6, 0, 3, 5, 2, 4], [8, 7, 1, 6, 0, 3, 5, 2, 4], [], [10, 9, 6, 0, 1, 2, 3, 4, 5, 7, 8]]
def would_r6 : List AI := [oA 27 (.load (some 4) (.t 3)), oA 28 (.fld 0 (.t 7)), oA 29 (.load none (.t 28)), oA 30 (.fld 0 (.t 4)), oA 31 (.load none (.t 30)), oA 32 (.fld 0 (.t 7)), oA 33 (.load none (.t 32)), oA 34 (.idx 5 (.t 31) (.t 33)), oA 35 (.load (some 5) (.t 34)), oA 36 (.fld 1 (.t 7)), oA 37 (.load none (.t 36)), oA 38 (.fld 2 (.t 7)), oA 39 (.load none (.t 38)), oC 40 (.c (.fn 184 [])) [(.t 27), (.t 29), (.t 35), (.t 37), (.t 39)], oA 41 (.getf none 5 (.t 40)), oA 6 (.mv (.t 41))]
def would_p6 : List (List Nat) := [[], [], [1], [], [3], [], [5], [4, 6, 3, 5], [7, 4, 6, 3, 5], [], [9], [], [11], [0, 2, 8, 10, 12, 1, 7, 4, 6, 3, 5, 9, 11], [13, 0, 2, 8, 10, 12, 1, 7, 4, 6, 3, 5, 9, 11], [14, 13, 0, 1, 2, 3, 4, 5, 6, 7, 8, 9, 10, 11, 12]]
def would_r7 : List AI := [oA 43 (.ibin .eql (.t 14) (.c (.int .i64 4))), oA 42 (.mv (.t 43))]
def would_r8 : List AI := [oA 44 (.fld 0 (.t 4)), oA 45 (.load none (.t 44)), oA 46 (.fld 4 (.t 5)), oA 47 (.load none (.t 46)), oA 48 (.idx 5 (.t 45) (.t 47)), oA 49 (.load (some 5) (.t 48)), oA 8 (.new 228008 5 (.agg [.nils, (.bool false), (.int .i64 0), (.int .i64 0), (.int .i64 0)])), oN (.store 5 (.t 8) (.t 49))]
def would_r9 : List AI := [oA 50 (.fld 1 (.t 8)), oN (.store 1 (.t 50) (.c (.bool false)))]
def would_r10 : List AI := [oA 51 (.load (some 4) (.t 3)), oA 52 (.fld 4 (.t 5)), oA 53 (.load none (.t 52)), oA 54 (.load (some 5) (.t 8)), oA 55 (.fld 1 (.t 3)), oA 56 (.load none (.t 55)), oA 57 (.fld 4 (.t 5)), oA 58 (.load none (.t 57)), oA 59 (.idx 4 (.t 56) (.t 58)), oA 60 (.fld 2 (.t 59)), oA 61 (.load none (.t 60)), oC 62 (.c (.fn 184 [])) [(.t 51), (.t 53), (.t 54), (.t 61), (.c .nils)], oA 63 (.getf none 5 (.t 62)), oA 6 (.mv (.t 63))]
def would_p10 : List (List Nat) := [[], [], [1], [], [], [4], [], [6], [5, 7, 4, 6], [8, 5, 7, 4, 6], [9, 8, 5, 7, 4, 6], [0, 2, 3, 10, 1, 9, 8, 5, 7, 4, 6], [11, 0, 2, 3, 10, 1, 9, 8, 5, 7, 4, 6], [12, 11, 0, 1, 2, 3, 4, 5, 6, 7, 8, 9, 10]]
def would_r11 : List AI := [oA 6 (.mv (.c .nils))]
def would_c : AC := (.seq (.reg would_r0) (.seq (.seq (.reg would_r1) (.cond (.t 12) (.seq (.reg would_r2) .ret) .skip)) (.seq (.seq (.reg would_r3) (.block 0 (.seq (.reg would_r4) (.cond (.t 15) (.seq (.regd would_r5 would_p5) (.seq (.regd would_r6 would_p6) .ret)) (.seq (.reg would_r7) (.cond (.t 42) (.seq (.reg would_r8) (.seq (.reg would_r9) (.seq (.regd would_r10 would_p10) .ret))) .skip)))))) (.seq (.reg would_r11) .ret))))
def would_res : List ARes := [(.tmp 6)]
set_option maxRecDepth 100000 in
theorem would_get : getF Tryz.prog 157 228000 [] = some ("gavotte/step.Would", 64, would_c, would_res) := by kernel_rfl
attribute [simp] fault_r0 fault_r1 fault_res onekind_r0 onekind_r1 onekind_res indexI_r0 indexI_r1 indexI_r2 indexI_r3 indexI_r4 indexI_r5 indexI_r6 indexI_r7 indexI_res contI_r0 contI_r1 contI_res idxFI_r0 idxFI_r1 idxFI_r2 idxFI_r3 idxFI_r4 idxFI_r5 idxFI_r6 idxFI_r7 idxFI_res contFI_r0 contFI_r1 contFI_res meets1_r0 meets1_r1 meets1_res meets_r0 meets_r1 meets_res apart_r0 apart_r1 apart_res would_r0 would_r1 would_r2 would_r3 would_r4 would_r5 would_p5 would_r6 would_p6 would_r7 would_r8 would_r9 would_r10 would_p10 would_r11 would_res
theorem fault_pc (e : Evt) : PC Tryz.prog 204 [e.av] (.bool (faultV e)) := by
 refine pc_of_get fault_get (by simp) _ (by simp) _ ?_
 unfold fault_c faultV
 simp [Evt.av]
 by_cases h : 2 <= e.kind
 . simp [h]
 . simp [h]
theorem onekind_pc (a b : Evt) : PC Tryz.prog 158 [a.av, b.av] (.bool (decide (a.kind = b.kind) && faultV a)) := by
 refine pc_of_get onekind_get (by simp) _ (by simp) _ ?_
 unfold onekind_c
 simp [Evt.av]
 by_cases h : a.kind = b.kind
 . simp [h]
   refine call (fault_pc a) (by simp [Evt.av, h]) ?_
   simp
   exact fun _ => h
 . simp [h]
theorem indexI_pc (l : List Int) (x : Int) (hl : l.length <= 1000) : PC Tryz.prog 229 [ints l, iv x] (iv (idxB (fun y => decide (x = y)) l)) := by
 refine pc_of_get indexI_get (by simp) _ (by simp) _ ?_
 unfold indexI_c
 simp [ints]
 refine loopN (fun i S => S.t 0 = .lst 1 (l.map iv) /\ S.t 1 = iv x /\ S.t 7 = iv l.length /\ S.t 8 = iv i /\ (∀ y ∈ l.take i, (decide (x = y)) = false)) l.length ?_ ?_
 . simp
 . rintro i S hi ⟨g0, g1, g7, g8, gp⟩
   by_cases hlt : i < l.length
   . have hw := wrap_succ i _ hlt (by omega)
     simp [indexI_l0, g0, g1, g7, g8, hlt]
     by_cases h : x = l[i]
     . have e : idxB (fun y => decide (x = y)) l = (i : Int) := by unfold idxB; rw [findIdx_at _ hlt gp (by simpa using h)]
       simp [h, g8]
       rw [<- h, e]
     . simp [h, g0, g1, g7, g8, hw]
       intro y hy
       rw [List.take_succ_eq_append_getElem hlt] at hy
       rcases List.mem_append.1 hy with q | q
       . simpa using gp y q
       . rw [List.mem_singleton.1 q]; exact h
   . have e1 : i = l.length := by omega
     subst e1
     rw [List.take_length] at gp
     have e : idxB (fun y => decide (x = y)) l = -1 := by unfold idxB; rw [findIdx_none _ gp]
     simp [indexI_l0, g0, g1, g7, g8, e]
theorem idxB_pos {α : Type} (p : α -> Bool) (l : List α) : decide (0 <= idxB p l) = l.any p := by
 unfold idxB
 cases h : l.findIdx? p with
 | none =>
   rw [List.findIdx?_eq_none_iff] at h
   have : l.any p = false := by simpa using h
   rw [this]; rfl
 | some i =>
   rw [List.findIdx?_eq_some_iff_getElem] at h
   obtain ⟨h1, h2, _⟩ := h
   have : l.any p = true := List.any_eq_true.2 ⟨_, List.getElem_mem h1, h2⟩
   rw [this]; simp
theorem contI_pc (l : List Int) (x : Int) (hl : l.length <= 1000) : PC Tryz.prog 207 [ints l, iv x] (.bool (l.contains x)) := by
 refine pc_of_get contI_get (by simp) _ (by simp) _ ?_
 unfold contI_c
 simp [ints]
 refine call (indexI_pc l x hl) (by simp [ints]) ?_
 simp
 rw [<- decide_eq_true_iff (p := 0 <= _), idxB_pos]
 simp
@[simp] theorem eqL_evt (a b : Evt) : eqL [false, false, false, false, false] [iv a.kind, iv a.id.frm, iv a.id.n, iv a.id.cpy, iv a.who] [iv b.kind, iv b.id.frm, iv b.id.n, iv b.id.cpy, iv b.who] = some (decide (a = b)) := by
 obtain ⟨k, ⟨x, y, z⟩, w⟩ := a
 obtain ⟨k', ⟨x', y', z'⟩, w'⟩ := b
 by_cases h1 : k = k'
 . by_cases h2 : x = x'
   . by_cases h3 : y = y'
     . by_cases h4 : z = z'
       . by_cases h5 : w = w'
         . simp [eqL, eq1, h1, h2, h3, h4, h5]
         . simp [eqL, eq1, h1, h2, h3, h4, h5, beq_eq_false_iff_ne.2 h5]
       . simp [eqL, eq1, h1, h2, h3, h4, beq_eq_false_iff_ne.2 h4]
     . simp [eqL, eq1, h1, h2, h3, beq_eq_false_iff_ne.2 h3]
   . simp [eqL, eq1, h1, h2, beq_eq_false_iff_ne.2 h2]
 . simp [eqL, eq1, h1, beq_eq_false_iff_ne.2 h1]
theorem idxFI_v (L : Nat -> Bool) (l : List Int) (hl : l.length < 1000000) (fv : AV) (p : Int -> Bool) {S : St} {k : AV -> St -> Prop} {u : Dep k}
   (hf : ∀ x ∈ l, ∀ (S' : St) (κ : AV -> St -> Prop), Fh L S S' -> (∀ S'', Fr L S' S'' -> κ (.bool (p x)) S'') -> CallG Tryz.prog fv [iv x] S' κ .mk)
   (hk : ∀ S', Fr L S S' -> k (iv (idxB p l)) S') :
   CallG Tryz.prog (.fn 228 []) [ints l, fv] S k u := by
 refine callV idxFI_get (by simp) (by simp) ?_
 unfold idxFI_c
 simp [ints]
 refine loopN (fun i S' => S'.t 0 = .lst 1 (l.map iv) /\ S'.t 1 = fv /\ S'.t 7 = iv l.length /\ S'.t 8 = iv i /\ Fh L S S' /\ (∀ x ∈ l.take i, p x = false)) l.length ?_ ?_
 . exact ⟨by simp, by simp, by simp, by simp, ⟨fun _ _ => rfl, fun _ _ => rfl, by simp; omega⟩, by simp⟩
 . rintro i S' hi ⟨g0, g1, g7, g8, gf, gp⟩
   by_cases hlt : i < l.length
   . have hw := wrap_succ i _ hlt (by omega)
     simp [idxFI_l0, g0, g1, g7, g8, hlt]
     refine hf l[i] (List.getElem_mem hlt) _ _ (gf.trans ⟨fun _ _ => rfl, fun _ _ => rfl, by simp; omega⟩) ?_
     rintro S'' hF
     have q1 := hF.t
     cases hp : p l[i] with
     | true =>
       simp [q1, g0, g1, g7, g8]
       have e : idxB p l = (i : Int) := by unfold idxB; rw [findIdx_at p hlt gp hp]
       rw [<- e]
       exact hk _ ⟨rfl, fun n hn => (hF.b n hn).trans (gf.b n hn), fun n hn => (hF.k n hn).trans (gf.k n hn), by have := hF.c; have := gf.c; simp at *; omega⟩
     | false =>
       simp [q1, g0, g1, g7, g8, hw, hlt]
       refine ⟨⟨fun n hn => (hF.b n hn).trans (gf.b n hn), fun n hn => (hF.k n hn).trans (gf.k n hn), by have := hF.c; have := gf.c; simp at *; omega⟩, fun x hx => ?_⟩
       rw [List.take_succ_eq_append_getElem hlt] at hx
       rcases List.mem_append.1 hx with q | q
       . exact gp x q
       . rw [List.mem_singleton.1 q]; exact hp
   . have e1 : i = l.length := by omega
     subst e1
     rw [List.take_length] at gp
     simp [idxFI_l0, g0, g1, g7, g8]
     have e : idxB p l = -1 := by unfold idxB; rw [findIdx_none p gp]
     rw [<- e]
     exact hk _ ⟨rfl, gf.b, gf.k, by have := gf.c; simp at *; omega⟩
theorem meets_pc (x y : List Int) (hx : x.length <= 1000) (hy : y.length <= 1000) : PC Tryz.prog 159 [ints x, ints y] (.bool (x.any fun n => y.contains n)) := by
 refine pc_of_get meets_get (by simp) _ (by simp) _ ?_
 unfold meets_c
 simp [ints]
 refine callV contFI_get (by simp) (by simp) ?_
 unfold contFI_c
 simp
 refine idxFI_v (fun _ => false) x (by omega) _ (fun n => decide (n ∈ y)) (fun n hn S' κ hF hκ => ?_) (fun S' hF => ?_)
 . refine callV meets1_get (by simp) (by simp) ?_
   unfold meets1_c
   have hb : S'.blk 226003 = some ⟨0, 1, [.lst 1 (y.map iv)]⟩ := (hF.b _ rfl).trans (by simp)
   simp [hb]
   refine call (contI_pc y n hy) (by simp [ints]) ?_
   simp
   exact hκ _ ⟨rfl, fun _ _ => rfl, fun _ _ => rfl, by simp only []; omega⟩
 . have := idxB_pos (fun n => decide (n ∈ y)) x
   simp [hF.t]
   exact this
theorem apart_pc (a b : Evt) (x y : List Int) (hx : x.length <= 1000) (hy : y.length <= 1000) : PC Tryz.prog 120 [a.av, b.av, ints x, ints y] (.bool (apartV a b x y)) := by
 refine pc_of_get apart_get (by simp) _ (by simp) _ ?_
 unfold apart_c apartV
 simp [Evt.av, ints]
 by_cases h1 : a = b
 . simp [h1]
 . simp [h1]
   refine call (onekind_pc a b) (by simp [Evt.av]) ?_
   cases hk : (decide (a.kind = b.kind) && faultV a) with
   | true => simp
   | false =>
     simp
     cases x with
     | nil => simp
     | cons x0 xs =>
       simp
       cases y with
       | nil => simp
       | cons y0 ys =>
         simp
         refine call (meets_pc (x0 :: xs) (y0 :: ys) hx hy) (by simp [ints]) ?_
         simp
         exact fun _ _ _ => h1
def GoOk (p : Prg) (who : Int) (l : Lcl) (h : Int) (args : List Int) : Prop :=
 ∃ x, 0 <= h /\ p.hs[h.toNat]? = some x /\ (0 <= p.fuel /\ p.fuel <= 1000) /\ l.regs.length <= 1000 /\ RunOk (fxOf p who l args) x.code (p.fuel.toNat + 1) (m0Of l) 0
theorem goV_pc (p : Prg) (who : Int) (l : Lcl) (h : Int) (args : List Int) (hg : GoOk p who l h args) : PC Tryz.prog 184 [p.av, iv who, l.av, iv h, ints args] (goV p who l h args).av := by
 obtain ⟨x, h0, hx, hf, hl, hr⟩ := hg
 have := go_pc p who l h args x h0 hx hf hl hr
 unfold goV
 rw [hx]
 exact this
structure WGo (p : Prg) (w : Wld) : Prop where
 nt : ∀ m ∈ w.mail, GoOk p m.note.to (lclV w m.note.to) m.note.hd m.note.args
 tm : ∀ i : Nat, i < w.acts.length -> armedV w i = true -> GoOk p i { lclV w i with armed := false } (timerV p i) []
 al : w.acts.length = p.as.length
@[simp] theorem Prg.cells_av' (p : Prg) : p.av.cells = [.lst 2 (p.hs.map Hnd.av), .lst 4 (p.as.map Actr.av), .lst 3 (p.boot.map Nt.av), iv p.fuel] := rfl
@[simp] theorem Lcl.cells_av' (l : Lcl) : l.av.cells = [ints l.regs, .bool l.armed, iv l.down, iv l.sent, iv l.over] := rfl
theorem canV_1 {w : Wld} {e : Evt} (hc : canV w e = true) (hk : e.kind = 1) : ∃ i, idxV e.id w.mail = some i := by
 cases hi : idxV e.id w.mail with
 | some i => exact ⟨i, rfl⟩
 | none =>
   obtain ⟨q1, _⟩ := ntAt_none hi
   unfold canV at hc
   rw [if_pos (.inl hk), q1] at hc
   simp at hc
theorem canV_4 {w : Wld} {e : Evt} (hc : canV w e = true) (hk : e.kind = 4) : 0 <= e.who /\ e.who < w.acts.length /\ armedV w e.who = true := by
 unfold canV at hc
 rw [if_neg (by omega), if_pos (.inl hk)] at hc
 simp [hk] at hc
 exact ⟨hc.1.1.1.2, hc.1.1.2, hc.2⟩
theorem would_pc (p : Prg) (w : Wld) (hw : WOk w) (hg : WGo p w) (e : Evt) : PC Tryz.prog 157 [p.av, w.av, e.av] (.lst 3 ((wouldV p w e).map Nt.av)) := by
 refine pc_of_get would_get (by simp) _ (by simp) _ ?_
 unfold would_c wouldV
 simp [Prg.av, Wld.av, Evt.av]
 refine call (ecan_pc w hw e) (by simp [Wld.av, Evt.av]) ?_
 cases hc : canV w e with
 | false => simp
 | true =>
   simp
   by_cases h1 : e.kind = 1
   . obtain ⟨i, hi⟩ := canV_1 hc h1
     obtain ⟨hl, q1, q2⟩ := ntAt_some hi
     obtain ⟨t1, t2⟩ := hw.to _ (List.getElem_mem hl)
     have t3 : w.mail[i].note.to.toNat < w.acts.length := by omega
     have hG := goV_pc p _ _ _ _ (hg.nt _ (List.getElem_mem hl))
     have hlc : lclV w w.mail[i].note.to = w.acts[w.mail[i].note.to.toNat] := by unfold lclV; rw [List.getElem?_eq_getElem t3]; rfl
     rw [hlc] at hG
     have hf := mfind_pc w.mail e.id hw.ml
     rw [q2] at hf
     simp [h1, q1, hlc]
     refine calld hf (by simp [MId.av]) ?_
     simp [hl, t1, t3]
     refine calld hG (by simp [Prg.av, Lcl.av]) ?_
     simp [Res.av]
     rw [if_pos h1, q1]
     simp [hlc]
   . by_cases h4 : e.kind = 4
     . obtain ⟨u1, u2, u3⟩ := canV_4 hc h4
       have t3 : e.who.toNat < w.acts.length := by omega
       have t4 : e.who.toNat < p.as.length := by rw [<- hg.al]; exact t3
       have ec : ((e.who.toNat : Nat) : Int) = e.who := by omega
       have u2' : e.who < p.as.length := by rw [<- hg.al]; exact u2
       have hG := hg.tm e.who.toNat t3
       rw [ec] at hG
       replace hG := goV_pc p _ _ _ _ (hG u3)
       have hlc : lclV w e.who = w.acts[e.who.toNat] := by unfold lclV; rw [List.getElem?_eq_getElem t3]; rfl
       have htm : timerV p e.who = p.as[e.who.toNat].timer := by unfold timerV; rw [List.getElem?_eq_getElem t4]; rfl
       rw [hlc, htm] at hG
       simp [h1, h4, u1, u2, u2', t3, t4]
       refine calldC hG 1 (by simp [Prg.av, Lcl.av, dco, elemR, coL, co1, ints]) ?_
       simp [Res.av]
       rw [if_neg h1, if_pos h4, hlc, htm]
     . simp [h1, h4]
end Go.Gv

namespace Go.Gv
open Go.Proofs
def copyLocal_r0 : List AI := [oA 1 (.box 229001 5 (.t 0)), oA 2 (.new 229002 5 (.agg [.nils, (.bool false), (.int .i64 0), (.int .i64 0), (.int .i64 0)]))]
def copyLocal_r1 : List AI := [oA 3 (.fld 0 (.t 1)), oA 4 (.load none (.t 3)), oC 5 (.c (.fn 91 [])) [(.t 4)], oA 6 (.fld 0 (.t 1)), oN (.store 1 (.t 6) (.t 5))]
def copyLocal_r2 : List AI := [oA 7 (.load (some 5) (.t 1)), oN (.store 5 (.t 2) (.t 7))]
def copyLocal_c : AC := (.seq (.reg copyLocal_r0) (.seq (.reg copyLocal_r1) (.seq (.reg copyLocal_r2) .ret)))
def copyLocal_res : List ARes := [(.cell (some 5) 2)]
set_option maxRecDepth 100000 in
theorem copyLocal_get : getF Tryz.prog 183 229000 [] = some ("gavotte/world.copyLocal", 8, copyLocal_c, copyLocal_res) := by kernel_rfl
def mcopyX_r0 : List AI := [oA 2 (.mv (.c .nils))]
def mcopyX_r1 : List AI := [oA 5 (.mv (.t 0)), oA 6 (.len (.t 5)), oA 7 (.mv (.c (.int .i64 0)))]
def mcopyX_r2 : List AI := [oA 8 (.ibin .lss (.t 7) (.t 6))]
def mcopyX_r3 : List AI := [oA 9 (.idx 6 (.t 5) (.t 7)), oA 10 (.load (some 6) (.t 9)), oA 4 (.new 230004 6 (.agg [(.int .i64 0), (.int .i64 0), (.int .i64 0), (.int .i64 0), (.int .i64 0), .nils])), oN (.store 6 (.t 4) (.t 10))]
def mcopyX_r4 : List AI := [oA 11 (.mv (.t 2)), oA 12 (.load (some 6) (.t 4)), oC 13 (.c (.fn 213 [])) [(.t 12)], oA 14 (.bslm 1000230014 6 179 1 (.agg [(.int .i64 0), (.int .i64 0), (.int .i64 0), (.int .i64 0), (.int .i64 0), .nils]) [(0, (.t 13))]), oA 15 (.appw 1000230015 6 179 64 (.t 11) (.t 14)), oA 2 (.mv (.t 15))]
def mcopyX_r5 : List AI := [oA 16 (.ibin .add (.t 7) (.c (.int .i64 1))), oA 7 (.mv (.t 16))]
def mcopyX_l0 : AC := (.seq (.reg mcopyX_r2) (.seq (.cond (.t 8) .skip (.exit 0)) (.seq (.block 1 (.seq (.reg mcopyX_r3) (.reg mcopyX_r4))) (.reg mcopyX_r5))))
def mcopyX_r6 : List AI := [oA 17 (.mv (.t 2)), oA 2 (.mv (.t 17))]
def mcopyX_c : AC := (.seq (.reg mcopyX_r0) (.seq (.seq (.reg mcopyX_r1) (.block 0 (.loop mcopyX_l0))) (.seq (.reg mcopyX_r6) .ret)))
def mcopyX_res : List ARes := [(.tmp 2)]
set_option maxRecDepth 100000 in
theorem mcopyX_get : getF Tryz.prog 182 230000 [(14, 1000000014), (15, 1000000015)] = some ("gavotte/mail.Copy", 18, mcopyX_c, mcopyX_res) := by kernel_rfl
def wcopy_r0 : List AI := [oA 1 (.box 231001 6 (.t 0)), oA 2 (.new 231002 6 (.agg [.nils, .nils, (.int .i64 0), (.int .i64 0), (.int .i64 0), (.int .i64 0)]))]
def wcopy_r1 : List AI := [oA 6 (.fld 1 (.t 1)), oA 7 (.load none (.t 6)), oC 8 (.c (.fn 182 [])) [(.t 7)], oA 9 (.fld 2 (.t 1)), oA 10 (.load (some 4) (.t 9)), oA 11 (.build [.nils, .nils, (.int .i64 0), (.int .i64 0), (.int .i64 0), (.int .i64 0)] [(1, (1, (.t 8))), (2, (4, (.t 10)))]), oA 3 (.new 231003 6 (.agg [.nils, .nils, (.int .i64 0), (.int .i64 0), (.int .i64 0), (.int .i64 0)])), oN (.store 6 (.t 3) (.t 11))]
def wcopy_p1 : List (List Nat) := [[], [0], [1, 0], [], [3], [2, 4, 1, 0, 3], [], [6, 5, 2, 0, 1, 3, 4]]
def wcopy_r2 : List AI := [oA 12 (.fld 0 (.t 1)), oA 13 (.load none (.t 12)), oA 14 (.len (.t 13)), oA 15 (.mv (.c (.int .i64 0)))]
def wcopy_r3 : List AI := [oA 16 (.ibin .lss (.t 15) (.t 14))]
def wcopy_r4 : List AI := [oA 17 (.idx 5 (.t 13) (.t 15)), oA 18 (.load (some 5) (.t 17)), oA 5 (.new 231005 5 (.agg [.nils, (.bool false), (.int .i64 0), (.int .i64 0), (.int .i64 0)])), oN (.store 5 (.t 5) (.t 18))]
def wcopy_r5 : List AI := [oA 19 (.fld 0 (.t 3)), oA 20 (.load none (.t 19)), oA 21 (.load (some 5) (.t 5)), oC 22 (.c (.fn 183 [])) [(.t 21)], oA 23 (.bslm 1000231023 5 167 1 (.agg [.nils, (.bool false), (.int .i64 0), (.int .i64 0), (.int .i64 0)]) [(0, (.t 22))]), oA 24 (.appw 1000231024 5 167 56 (.t 20) (.t 23)), oA 25 (.fld 0 (.t 3)), oN (.store 1 (.t 25) (.t 24))]
def wcopy_p5 : List (List Nat) := [[], [0], [], [2], [3, 2], [1, 4, 3, 0, 2], [0, 1, 2, 3, 4, 5], [6, 5, 0, 1, 2, 3, 4]]
def wcopy_r6 : List AI := [oA 26 (.ibin .add (.t 15) (.c (.int .i64 1))), oA 15 (.mv (.t 26))]
def wcopy_l0 : AC := (.seq (.reg wcopy_r3) (.seq (.cond (.t 16) .skip (.exit 0)) (.seq (.block 1 (.seq (.reg wcopy_r4) (.regd wcopy_r5 wcopy_p5))) (.reg wcopy_r6))))
def wcopy_r7 : List AI := [oA 27 (.load (some 6) (.t 3)), oN (.store 6 (.t 2) (.t 27))]
def wcopy_c : AC := (.seq (.reg wcopy_r0) (.seq (.regi wcopy_r1 wcopy_p1) (.seq (.seq (.reg wcopy_r2) (.block 0 (.loop wcopy_l0))) (.seq (.reg wcopy_r7) .ret))))
def wcopy_res : List ARes := [(.cell (some 6) 2)]
set_option maxRecDepth 100000 in
theorem wcopy_get : getF Tryz.prog 132 231000 [(23, 1000000023), (24, 1000000024), (2000001, 1)] = some ("gavotte/world.Copy", 28, wcopy_c, wcopy_res) := by kernel_rfl
attribute [simp] copyLocal_r0 copyLocal_r1 copyLocal_r2 copyLocal_res mcopyX_r0 mcopyX_r1 mcopyX_r2 mcopyX_r3 mcopyX_r4 mcopyX_r5 mcopyX_r6 mcopyX_res wcopy_r0 wcopy_r1 wcopy_p1 wcopy_r2 wcopy_r3 wcopy_r4 wcopy_r5 wcopy_p5 wcopy_r6 wcopy_r7 wcopy_res
theorem copyLocal_pc (l : Lcl) (h : l.regs.length <= 1000) : PC Tryz.prog 183 [l.av] l.av := by
 refine pc_of_get copyLocal_get (by simp) _ (by simp) _ ?_
 unfold copyLocal_c
 simp [Lcl.av]
 refine call (cloneInts_pc l.regs h) (by simp) ?_
 simp
def Lmc (n : Nat) : Bool := decide (n = 230004) || decide (n = 1000230014) || decide (n = 1000230015)
theorem Lmc_f {n : Nat} (h : Lmc n = false) : n ≠ 230004 /\ n ≠ 1000230014 /\ n ≠ 1000230015 := by simpa [Lmc, and_assoc] using h
theorem mcopyX_v (l : List Msg) (hl : l.length <= 1000) (ha : ∀ m ∈ l, m.note.args.length <= 1000) {S : St} {k : AV -> St -> Prop} {u : Dep k}
   (hk : ∀ S' v, Fr Lmc S S' -> S'.tok = S.tok -> MutIs S' 1000230015 6 v (l.map Msg.av) -> k v S') : CallG Tryz.prog (.fn 182 []) [.lst 6 (l.map Msg.av)] S k u := by
 refine callV mcopyX_get (by simp) (by simp) ?_
 unfold mcopyX_c
 simp
 refine loopN (fun i S' => S'.t 5 = .lst 6 (l.map Msg.av) /\ S'.t 6 = iv l.length /\ S'.t 7 = iv i /\ MutIs S' 1000230015 6 (S'.t 2) ((l.map Msg.av).take i) /\ Fh Lmc S S' /\ S'.tok = S.tok) l.length ?_ ?_
 . exact ⟨by simp, by simp, by simp, .inl ⟨by simp, by simp⟩, ⟨fun _ _ => rfl, fun _ _ => rfl, by simp; omega⟩, rfl⟩
 . rintro i S' hi ⟨g1, g2, g3, g4, gF, gk⟩
   by_cases hlt : i < l.length
   . have ws := wrap_succ i _ hlt (by omega)
     have hb : (min i l.length + 1) * 64 <= 140737488355328 := by omega
     have ht := take_succ_map Msg.av l i hlt
     rcases g4 with ⟨g4, hx⟩ | ⟨s4, g4, hx⟩
     . simp [mcopyX_l0, g1, g2, g3, g4, hlt]
       refine call (mown_pc l[i] (ha _ (List.getElem_mem hlt))) (by simp [Msg.av]) ?_
       simp [g1, g2, g3, g4, ws]
       have hx1 : (l.map Msg.av).take (i + 1) = [l[i].av] := by rw [ht, hx]; rfl
       rw [hx1]
       refine ⟨.inr ⟨S'.clk + 1 + 4 + 1 + 1 + 1 + 1, by simp, by simp⟩, ⟨fun n hn => ?_, fun n hn => gF.k n hn, ?_⟩, gk⟩
       . obtain ⟨z1, z2, z3⟩ := Lmc_f hn
         simp [z1, z2, z3]
         exact gF.b n hn
       . have := gF.c
         simp only []
         omega
     . simp [mcopyX_l0, g1, g2, g3, g4, hlt]
       refine call (mown_pc l[i] (ha _ (List.getElem_mem hlt))) (by simp [Msg.av]) ?_
       simp [g1, g2, g3, g4, hx, ws, hb]
       rw [ht]
       refine ⟨.inr ⟨S'.clk + 1 + 4 + 1 + 1 + 1 + 1, by simp, by simp; exact List.take_of_length_le (by simp)⟩, ⟨fun n hn => ?_, fun n hn => gF.k n hn, ?_⟩, gk⟩
       . obtain ⟨z1, z2, z3⟩ := Lmc_f hn
         simp [z1, z2, z3]
         exact gF.b n hn
       . have := gF.c
         simp only []
         omega
   . have e1 : i = l.length := by omega
     subst e1
     rw [List.take_of_length_le (by simp)] at g4
     simp [mcopyX_l0, g1, g2, g3]
     exact hk _ _ ⟨rfl, gF.b, gF.k, by have := gF.c; simp only []; omega⟩ gk (g4.at rfl)
def Lwc (n : Nat) : Bool := Lmc n || decide (n = 231001) || decide (n = 231002) || decide (n = 231003) || decide (n = 231005) || decide (n = 1000231023) || decide (n = 1000231024)
def tbw (p3 x v y : AV) (w : Wld) (p1 ml : AV) : List (Nat × AV) := [(6, p1), (7, ml), (8, v), (9, y), (10, w.used.av), (11, .agg [.nils, v, iv w.used.drop, iv w.used.dup, iv w.used.time, iv w.used.crash]), (3, p3)]
def z6 : AV := .agg [.nils, .nils, iv 0, iv 0, iv 0, iv 0]
theorem wcopy1 (w : Wld) (hw : WOk w) (ha : ∀ m ∈ w.mail, m.note.args.length <= 1000) (s1 st : Nat) {S : St} {k : St -> Prop} {u : Dep k} (h1 : S.t 1 = .ptr 231001 s1 6 0 0) (b1 : S.blk 231001 = some ⟨s1, 6, [w.av]⟩)
   (hk : ∀ S' v, (∀ x, x ≠ 3 -> x < 6 \/ 11 < x -> S'.t x = S.t x) -> S'.t 3 = .ptr 231003 (st + 6) 6 0 0 -> S'.tok = S.tok -> S.clk <= S'.clk -> (∀ n, Lmc n = false -> n ≠ 231003 -> S'.blk n = S.blk n) ->
     S'.blk 231003 = some ⟨st + 6, 6, [.agg [.nils, v, iv w.used.drop, iv w.used.dup, iv w.used.time, iv w.used.crash]]⟩ -> MutIs S' 1000230015 6 v (w.mail.map Msg.av) -> k S') :
   regIG Tryz.prog wcopy_p1 st wcopy_r1 S k u := by
 refine regi_cut (wcopy_r1.take 7) (wcopy_r1.drop 7) rfl (by rfl) ?_
 obtain ⟨tbl, htb⟩ : ∃ tbl : AV -> List (Nat × AV), tbl = fun v => tbw (.ptr 231003 (st + 6) 6 0 0) .nils v (.ptr 231001 s1 6 0 2) w (.ptr 231001 s1 6 0 1) (.lst 6 (w.mail.map Msg.av)) := ⟨_, rfl⟩
 have hnd : ∀ v, ((tbl v).map (·.1)).Nodup := by intro v; simp [htb, tbw]
 obtain ⟨I, hI⟩ : ∃ I : (Nat -> Bool) -> St -> Prop, ∀ D S', I D S' ↔ ∃ v, SF (tbl v) D S' /\ (∀ x, x ≠ 3 -> x < 6 \/ 11 < x -> S'.t x = S.t x) /\ S'.tok = S.tok /\ S.clk <= S'.clk /\ (∀ n, Lmc n = false -> n ≠ 231003 -> S'.blk n = S.blk n) /\
   (D 6 = true -> S'.blk 231003 = some ⟨st + 6, 6, [z6]⟩) /\ (D 2 = true -> MutIs S' 1000230015 6 v (w.mail.map Msg.av)) := ⟨_, fun _ _ => Iff.rfl⟩
 show regI _ _ _ _ _ _
 refine ⟨I, (hI _ _).2 ⟨.nils, SF.start _ _, fun _ _ _ => rfl, rfl, Nat.le_refl _, fun _ _ _ => rfl, by simp, by simp⟩, ?_, ?_⟩
 . rintro D S' j ai hj hDj hpre hcl hi
   obtain ⟨v, hsf, ht, hk, hc, hbk, h6, h2⟩ := (hI _ _).1 hi
   have t1 := (ht 1 (by simp) (.inl (by simp))).trans h1
   have c1 := (hbk 231001 (by simp [Lmc]) (by simp)).trans b1
   have stp : ∀ (j d : Nat) (val : AV) (op : AOp) (st' : Nat), (tbl v)[j]? = some (d, val) -> j ≠ 2 -> j ≠ 6 -> 6 <= d -> d <= 11 -> ex S'.t S'.blk S'.tok st' op = some { v := val } -> stepV Tryz.prog st' ⟨some d, none, .op op⟩ S' (I (fun i => (i == j) || D i)) := by
     intro j d val op st' hj m2 m6 d0 d1 he
     refine stepV_op _ he ((hI _ _).2 ⟨v, hsf.ins (hnd v) hj (upd_same _ _ _) (fun y hy => upd_ne _ _ _ _ hy), fun x hx3 hx => (upd_ne _ _ _ _ (by omega)).trans (ht x hx3 hx), hk, hc, hbk, fun q => h6 ?_, fun q => h2 ?_⟩)
     . simpa [show (6 == j) = false by simp; omega] using q
     . simpa [show (2 == j) = false by simp; omega] using q
   match j, hj, hDj, hpre with
   | 0, hj, hDj, hpre =>
     simp at hj; subst hj
     exact stp 0 6 _ _ _ (by simp [htb, tbw]; rfl) (by simp) (by simp) (by simp) (by simp) (by simp [t1])
   | 1, hj, hDj, hpre =>
     simp at hj hpre; subst hj
     exact stp 1 7 _ _ _ (by simp [htb, tbw]; rfl) (by simp) (by simp) (by simp) (by simp) (by simp [hsf 0 6 _ (by simp [htb, tbw]; rfl) hpre, c1])
   | 2, hj, hDj, hpre =>
     simp at hj hpre; subst hj
     refine stepV_call ?_
     have e7 := hsf 1 7 _ (by simp [htb, tbw]; rfl) hpre.1
     simp only [List.map_cons, List.map_nil, X.ev, e7]
     refine mcopyX_v w.mail hw.ml ha (fun S1 r hF hk1 hM => ?_)
     have f5 : D 5 = false := by
       cases hx : D 5 with
       | false => rfl
       | true => have := hcl 5 hx 2 (by simp); rw [hDj] at this; cases this
     have hsr : SF (tbl r) D S' := by
       intro j' d' v' hj' hD'
       refine hsf j' d' v' ?_ hD'
       rw [htb] at hj' ⊢
       match j', hj', hD' with
       | 0, hj', _ => exact hj'
       | 1, hj', _ => exact hj'
       | 2, _, hD' => rw [hDj] at hD'; cases hD'
       | 3, hj', _ => exact hj'
       | 4, hj', _ => exact hj'
       | 5, _, hD' => rw [f5] at hD'; cases hD'
       | 6, hj', _ => exact hj'
       | j + 7, hj', _ => simp [tbw] at hj'
     refine (hI _ _).2 ⟨r, hsr.ins (hnd r) (j := 2) (d := 8) (v := r) (by simp [htb, tbw]) (by simp) (fun y hy => by simp [hy, hF.t]), fun x hx3 hx => ?_, hk1.trans hk, Nat.le_trans hc hF.c, fun n a1 a2 => ?_, fun q => ?_, fun _ => hM.at rfl⟩
     . have : x ≠ 8 := by omega
       simp [this, hF.t, ht x hx3 hx]
     . simp
       rw [hF.b n a1, hbk n a1 a2]
     . simp
       rw [hF.b _ (by simp [Lmc])]
       exact h6 (by simpa using q)
   | 3, hj, hDj, hpre =>
     simp at hj; subst hj
     exact stp 3 9 _ _ _ (by simp [htb, tbw]; rfl) (by simp) (by simp) (by simp) (by simp) (by simp [t1])
   | 4, hj, hDj, hpre =>
     simp at hj hpre; subst hj
     exact stp 4 10 _ _ _ (by simp [htb, tbw]; rfl) (by simp) (by simp) (by simp) (by simp) (by simp [hsf 3 9 _ (by simp [htb, tbw]; rfl) hpre, c1, Bud.av])
   | 5, hj, hDj, hpre =>
     simp at hj hpre; subst hj
     have hm := h2 hpre.1
     exact stp 5 11 _ _ _ (by simp [htb, tbw]; rfl) (by simp) (by simp) (by simp) (by simp) (by simp [hsf 2 8 _ (by simp [htb, tbw]; rfl) hpre.1, hsf 4 10 _ (by simp [htb, tbw]; rfl) hpre.2.1, hm.one, hm.cells, Bud.av])
   | 6, hj, hDj, hpre =>
     simp at hj; subst hj
     refine stepV_op { v := .ptr 231003 (st + 6) 6 0 0, wb := [(231003, some ⟨st + 6, 6, [z6]⟩)] } (by simp [z6]) ((hI _ _).2 ⟨v, hsf.ins (hnd v) (j := 6) (d := 3) (v := .ptr 231003 (st + 6) 6 0 0) (by simp [htb, tbw]) (by simp [St.app]) (fun y hy => by simp [St.app, hy]), fun x hx3 hx => ?_, hk, hc, fun n a1 a2 => ?_, fun _ => by simp [St.app, appB], fun q => (h2 (by simpa using q)).at (by simp [St.app, appB])⟩)
     . simp [St.app, hx3]; exact ht x hx3 hx
     . simp [St.app, appB, a2]; exact hbk n a1 a2
   | j + 7, hj, hDj, hpre => simp at hj
 . rintro D S' hD hi
   obtain ⟨v, hsf, ht, hk', hc, hbk, h6, h2⟩ := (hI _ _).1 hi
   have e3 := hsf 6 3 _ (by simp [htb, tbw]; rfl) (hD 6 (by simp))
   have e11 := hsf 5 11 _ (by simp [htb, tbw]; rfl) (hD 5 (by simp))
   have c3 := h6 (hD 6 (by simp))
   have hM := h2 (hD 2 (by simp))
   simp [e3, e11, c3, z6, hM.one]
   refine hk _ v ht e3 hk' hc (fun n a1 a2 => ?_) (by simp) (hM.at (by simp))
   simp [a2]
   exact hbk n a1 a2
theorem Lwc_f {n : Nat} (h : Lwc n = false) : Lmc n = false /\ n ≠ 231001 /\ n ≠ 231002 /\ n ≠ 231003 /\ n ≠ 231005 /\ n ≠ 1000231023 /\ n ≠ 1000231024 := by
 simpa [Lwc, and_assoc] using h
theorem wcopyX_v (w : Wld) (hw : WOk w) (ha : ∀ m ∈ w.mail, m.note.args.length <= 1000) (hr : ∀ l ∈ w.acts, l.regs.length <= 1000) {S : St} {k : AV -> St -> Prop} {u : Dep k}
   (hk : ∀ S' va vm, Fr Lwc S S' -> S'.tok = S.tok -> MutIs S' 1000231024 5 va (w.acts.map Lcl.av) -> MutIs S' 1000230015 6 vm (w.mail.map Msg.av) -> k (.agg [va, vm, iv w.used.drop, iv w.used.dup, iv w.used.time, iv w.used.crash]) S') :
   CallG Tryz.prog (.fn 132 []) [w.av] S k u := by
 refine callV wcopy_get (by simp) (by simp) ?_
 unfold wcopy_c
 simp
 refine wcopy1 w hw ha S.clk _ (by simp) (by simp) (fun S1 vm ht1 t3 hk1 hc1 hb1 b3 hM => ?_)
 have t1 : S1.t 1 = .ptr 231001 S.clk 6 0 0 := by rw [ht1 1 (by simp) (.inl (by simp))]; simp
 have t2 : S1.t 2 = .ptr 231002 (S.clk + 1) 6 0 0 := by rw [ht1 2 (by simp) (.inl (by simp))]; simp
 have b1 : S1.blk 231001 = some ⟨S.clk, 6, [w.av]⟩ := by rw [hb1 231001 (by simp [Lmc]) (by simp)]; simp
 have b2 : S1.blk 231002 = some ⟨S.clk + 1, 6, [z6]⟩ := by rw [hb1 231002 (by simp [Lmc]) (by simp)]; simp [z6]
 have hF1 : Fh Lwc S S1 := ⟨fun n hn => by
   obtain ⟨z0, z1, z2, z3, z4, z5, z6'⟩ := Lwc_f hn
   rw [hb1 n z0 z3]
   simp [z1, z2], fun n hn => by rw [hk1], by simp at hc1; omega⟩
 replace hk1 : S1.tok = S.tok := hk1
 clear ht1 hb1 hc1
 have hal := hw.al
 simp [t1, b1]
 refine loopN (fun i S' => S'.t 13 = .lst 5 (w.acts.map Lcl.av) /\ S'.t 14 = iv w.acts.length /\ S'.t 15 = iv i /\ S'.t 2 = .ptr 231002 (S.clk + 1) 6 0 0 /\ S'.blk 231002 = some ⟨S.clk + 1, 6, [z6]⟩ /\ (∃ s3 va, S'.t 3 = .ptr 231003 s3 6 0 0 /\ S'.blk 231003 = some ⟨s3, 6, [.agg [va, vm, iv w.used.drop, iv w.used.dup, iv w.used.time, iv w.used.crash]]⟩ /\ MutIs S' 1000231024 5 va ((w.acts.map Lcl.av).take i)) /\
   MutIs S' 1000230015 6 vm (w.mail.map Msg.av) /\ Fh Lwc S S' /\ S'.tok = S.tok) w.acts.length ?_ ?_
 . refine ⟨by simp, by simp, by simp, by simp [t2], by simp [b2], ⟨_, .nils, by simp [t3]; rfl, by simp [b3], .inl ⟨rfl, by simp⟩⟩, hM.at rfl, ⟨hF1.b, hF1.k, by have := hF1.c; simp only []; omega⟩, hk1⟩
 . clear t1 t2 t3 b1 b2 b3 hM hF1 hk1
   rintro i S' hi ⟨g13, g14, g15, t2, b2, ⟨s3, va, t3, b3, hA⟩, hM, hF, hk1⟩
   have o1 := hM.one
   have o2 := hM.cells
   by_cases hlt : i < w.acts.length
   . have ws := wrap_succ i _ hlt (by omega)
     have hb : (min i w.acts.length + 1) * 56 <= 140737488355328 := by omega
     have ht := take_succ_map Lcl.av w.acts i hlt
     rcases hA with ⟨rfl, hx⟩ | ⟨s4, rfl, hx⟩
     . simp [wcopy_l0, g13, g14, g15, t3, b3, hlt]
       refine calld (copyLocal_pc w.acts[i] (hr _ (List.getElem_mem hlt))) (by simp [Lcl.av]) ?_
       simp [g13, g14, g15, t2, t3, b2, b3, ws, o1, o2]
       have hx1 : (w.acts.map Lcl.av).take (i + 1) = [w.acts[i].av] := by rw [ht, hx]; rfl
       rw [hx1]
       refine ⟨.inr ⟨_, by simp; rfl, by simp⟩, hM.at (by simp), ⟨fun n hn => ?_, fun n hn => hF.k n hn, ?_⟩, hk1⟩
       . obtain ⟨z0, z1, z2, z3, z4, z5, z6'⟩ := Lwc_f hn
         simp [z3, z4, z5, z6']
         exact hF.b n hn
       . have := hF.c
         simp only []
         omega
     . simp [wcopy_l0, g13, g14, g15, t3, b3, hlt]
       refine calld (copyLocal_pc w.acts[i] (hr _ (List.getElem_mem hlt))) (by simp [Lcl.av]) ?_
       simp [g13, g14, g15, t2, t3, b2, b3, ws, o1, o2, hx, hb]
       rw [ht]
       refine ⟨.inr ⟨_, by simp; rfl, by simp; exact List.take_of_length_le (by simp)⟩, hM.at (by simp), ⟨fun n hn => ?_, fun n hn => hF.k n hn, ?_⟩, hk1⟩
       . obtain ⟨z0, z1, z2, z3, z4, z5, z6'⟩ := Lwc_f hn
         simp [z3, z4, z5, z6']
         exact hF.b n hn
       . have := hF.c
         simp only []
         omega
   . have e1 : i = w.acts.length := by omega
     subst e1
     rw [List.take_of_length_le (by simp)] at hA
     have o3 := hA.one
     have o4 := hA.cells
     simp [wcopy_l0, g13, g14, g15, t2, t3, b2, b3, z6, o1, o2, o3, o4]
     refine hk _ va vm ⟨rfl, fun n hn => ?_, hF.k, by have := hF.c; simp only []; omega⟩ hk1 (hA.at (by simp)) (hM.at (by simp))
     obtain ⟨z0, z1, z2, z3, z4, z5, z6'⟩ := Lwc_f hn
     simp [z2]
     exact hF.b n hn
end Go.Gv
