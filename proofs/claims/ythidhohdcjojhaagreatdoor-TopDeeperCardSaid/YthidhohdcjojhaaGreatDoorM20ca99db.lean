/- Texts of this proof, one behind the other. What is proved, and on which conditions, stands ahead of each. -/
import Derived.Test.YthidhohdcjojhaaGreatDoorProg
import Derived.Test.YthidhohdcjojhaaGreatDoorM19c0ce97
import Derived.Test.YthidhohdcjojhaaGreatDoorM1721ebca

set_option linter.unusedVariables false
set_option linter.unusedSimpArgs false
namespace Go.Gv
open Go.Proofs
def mdo_r0 : List AI := [oA 3 (.box 98003 2 (.t 1)), oA 4 (.mv (.c (.int .i64 0)))]
def mdo_r1 : List AI := [oA 7 (.mv (.t 0)), oA 8 (.nilck (.t 7)), oA 9 (.fld 13 (.t 8)), oA 10 (.load none (.t 9)), oA 11 (.ibin .add (.t 10) (.c (.int .i64 1))), oA 12 (.nilck (.t 7)), oA 13 (.fld 13 (.t 12)), oN (.store 1 (.t 13) (.t 11))]
def mdo_r2 : List AI := [oA 14 (.fld 0 (.t 3)), oA 15 (.load none (.t 14))]
def mdo_r3 : List AI := [oA 21 (.ibin .eql (.t 15) (.c (.int .i64 1))), oA 20 (.mv (.t 21))]
def mdo_r4 : List AI := [oA 22 (.mv (.t 0)), oA 23 (.fld 1 (.t 3)), oA 24 (.load none (.t 23)), oA 25 (.bsl 98025 1 3 1 (.int .i64 0) [(0, (.t 24))]), oC 26 (.c (.fn 237 [])) [(.t 22), (.t 25)]]
def mdo_r5 : List AI := [oA 28 (.ibin .eql (.t 15) (.c (.int .i64 2))), oA 27 (.mv (.t 28))]
def mdo_r6 : List AI := [oA 29 (.mv (.t 0)), oC 30 (.c (.fn 238 [])) [(.t 29)]]
def mdo_r7 : List AI := [oA 32 (.ibin .eql (.t 15) (.c (.int .i64 3))), oA 31 (.mv (.t 32))]
def mdo_r8 : List AI := [oA 33 (.mv (.t 0)), oA 34 (.mv (.t 0)), oA 35 (.nilck (.t 34)), oA 36 (.fld 11 (.t 35)), oA 37 (.load none (.t 36)), oA 38 (.mv (.t 0)), oA 39 (.nilck (.t 38)), oA 40 (.fld 11 (.t 39)), oA 41 (.load none (.t 40)), oA 42 (.len (.t 41)), oA 43 (.ibin .sub (.t 42) (.c (.int .i64 1))), oA 44 (.idx 1 (.t 37) (.t 43)), oA 45 (.load none (.t 44)), oA 46 (.bsl 98046 1 3 1 (.int .i64 0) [(0, (.t 45))]), oC 47 (.c (.fn 237 [])) [(.t 33), (.t 46)]]
def mdo_p8 : List (List Nat) := [[], [], [1], [2, 1], [3, 2, 1], [], [5], [6, 5], [7, 6, 5], [8, 7, 6, 5], [9, 8, 7, 6, 5], [4, 10, 3, 2, 1, 9, 8, 7, 6, 5], [11, 4, 10, 3, 2, 1, 9, 8, 7, 6, 5], [12, 11, 4, 10, 3, 2, 1, 9, 8, 7, 6, 5], [0, 13, 12, 11, 4, 10, 3, 2, 1, 9, 8, 7, 6, 5]]
def mdo_r9 : List AI := [oA 49 (.ibin .eql (.t 15) (.c (.int .i64 4))), oA 48 (.mv (.t 49))]
def mdo_r10 : List AI := [oA 50 (.mv (.t 0)), oC 51 (.c (.fn 238 [])) [(.t 50)], oA 52 (.mv (.t 0)), oC 53 (.c (.fn 238 [])) [(.t 52)], oA 5 (.mv (.t 51)), oA 6 (.mv (.t 53))]
def mdo_r11 : List AI := [oA 54 (.mv (.t 0)), oA 55 (.mv (.t 5)), oA 56 (.mv (.t 6)), oA 57 (.bsl 98057 1 3 2 (.int .i64 0) [(0, (.t 55)), (1, (.t 56))]), oC 58 (.c (.fn 237 [])) [(.t 54), (.t 57)]]
def mdo_r12 : List AI := [oA 60 (.ibin .eql (.t 15) (.c (.int .i64 5))), oA 59 (.mv (.t 60))]
def mdo_r13 : List AI := [oA 61 (.ibin .eql (.t 15) (.c (.int .i64 6))), oA 59 (.mv (.t 61))]
def mdo_r14 : List AI := [oA 62 (.mv (.t 0)), oA 63 (.load (some 2) (.t 3)), oC 64 (.c (.fn 239 [])) [(.t 62), (.t 63)]]
def mdo_r15 : List AI := [oA 66 (.ibin .eql (.t 15) (.c (.int .i64 7))), oA 65 (.mv (.t 66))]
def mdo_r16 : List AI := [oA 67 (.mv (.t 0)), oA 68 (.mv (.t 0)), oA 69 (.nilck (.t 68)), oA 70 (.fld 5 (.t 69)), oA 71 (.load none (.t 70)), oA 72 (.fld 1 (.t 3)), oA 73 (.load none (.t 72)), oA 74 (.idx 1 (.t 71) (.t 73)), oA 75 (.load none (.t 74)), oA 76 (.bsl 98076 1 3 1 (.int .i64 0) [(0, (.t 75))]), oC 77 (.c (.fn 237 [])) [(.t 67), (.t 76)]]
def mdo_p16 : List (List Nat) := [[], [], [1], [2, 1], [3, 2, 1], [], [5], [4, 6, 3, 2, 1, 5], [7, 4, 6, 3, 2, 1, 5], [8, 7, 4, 6, 3, 2, 1, 5], [0, 9, 8, 7, 4, 6, 3, 2, 1, 5]]
def mdo_r17 : List AI := [oA 79 (.ibin .eql (.t 15) (.c (.int .i64 8))), oA 78 (.mv (.t 79))]
def mdo_r18 : List AI := [oA 80 (.mv (.t 0)), oA 81 (.mv (.t 0)), oA 82 (.nilck (.t 81)), oA 83 (.fld 4 (.t 82)), oA 84 (.load none (.t 83)), oA 85 (.bsl 98085 1 3 1 (.int .i64 0) [(0, (.t 84))]), oC 86 (.c (.fn 237 [])) [(.t 80), (.t 85)]]
def mdo_r19 : List AI := [oA 88 (.ibin .eql (.t 15) (.c (.int .i64 20))), oA 87 (.mv (.t 88))]
def mdo_r20 : List AI := [oA 89 (.mv (.t 0)), oA 90 (.fld 1 (.t 3)), oA 91 (.load none (.t 90)), oA 92 (.nilck (.t 89)), oA 93 (.fld 13 (.t 92)), oN (.store 1 (.t 93) (.t 91))]
def mdo_r21 : List AI := [oA 95 (.ibin .eql (.t 15) (.c (.int .i64 21))), oA 94 (.mv (.t 95))]
def mdo_r22 : List AI := [oA 96 (.mv (.t 0)), oC 97 (.c (.fn 238 [])) [(.t 96)], oA 98 (.ibin .eql (.t 97) (.c (.int .i64 0)))]
def mdo_r23 : List AI := [oA 99 (.mv (.t 0)), oA 100 (.fld 1 (.t 3)), oA 101 (.load none (.t 100)), oA 102 (.nilck (.t 99)), oA 103 (.fld 13 (.t 102)), oN (.store 1 (.t 103) (.t 101))]
def mdo_r24 : List AI := [oA 105 (.ibin .eql (.t 15) (.c (.int .i64 22))), oA 104 (.mv (.t 105))]
def mdo_r25 : List AI := [oA 106 (.mv (.t 0)), oA 107 (.fld 1 (.t 3)), oA 108 (.load none (.t 107)), oC 109 (.c (.fn 240 [])) [(.t 106), (.t 108)], oA 4 (.mv (.t 109))]
def mdo_r26 : List AI := [oA 111 (.ibin .eql (.t 15) (.c (.int .i64 23))), oA 110 (.mv (.t 111))]
def mdo_r27 : List AI := [oA 112 (.mv (.t 0)), oA 113 (.mv (.t 0)), oA 114 (.nilck (.t 113)), oA 115 (.fld 6 (.t 114)), oA 116 (.fld 1 (.t 115)), oA 117 (.load none (.t 116)), oA 118 (.mv (.t 117)), oG 119 118 false (.mv (.t 0)), oG 120 118 false (.nilck (.t 119)), oG 121 118 false (.fld 0 (.t 120)), oG 122 118 false (.fld 1 (.t 121)), oG 123 118 false (.load none (.t 122)), oG 124 118 false (.mv (.t 0)), oG 125 118 false (.nilck (.t 124)), oG 126 118 false (.fld 4 (.t 125)), oG 127 118 false (.load none (.t 126)), oG 128 118 false (.idx 4 (.t 123) (.t 127)), oG 129 118 false (.fld 2 (.t 128)), oG 130 118 false (.load none (.t 129)), oG 131 118 false (.ibin .neq (.t 130) (.c (.int .i64 (-1)))), oA 132 (.pick (.t 118) (.c (.bool true)) (.t 131)), oA 133 (.nilck (.t 112)), oA 134 (.fld 6 (.t 133)), oA 135 (.fld 1 (.t 134)), oN (.store 1 (.t 135) (.t 132))]
def mdo_p27 : List (List Nat) := [[], [], [1], [2, 1], [3, 2, 1], [4, 3, 2, 1], [5, 4, 3, 2, 1], [6, 5, 4, 3, 2, 1], [7, 6, 5, 4, 3, 2, 1], [8, 6, 7, 5, 4, 3, 2, 1], [9, 6, 8, 7, 5, 4, 3, 2, 1], [10, 6, 9, 8, 7, 5, 4, 3, 2, 1], [6, 5, 4, 3, 2, 1], [12, 6, 5, 4, 3, 2, 1], [13, 6, 12, 5, 4, 3, 2, 1], [14, 6, 13, 12, 5, 4, 3, 2, 1], [11, 15, 6, 10, 9, 8, 7, 5, 4, 3, 2, 1, 14, 13, 12], [16, 6, 11, 15, 10, 9, 8, 7, 5, 4, 3, 2, 1, 14, 13, 12], [17, 6, 16, 11, 15, 10, 9, 8, 7, 5, 4, 3, 2, 1, 14, 13, 12], [18, 6, 17, 16, 11, 15, 10, 9, 8, 7, 5, 4, 3, 2, 1, 14, 13, 12], [6, 19, 5, 4, 3, 2, 1, 18, 17, 16, 11, 15, 10, 9, 8, 7, 14, 13, 12], [0, 1, 2, 3, 4, 5, 6, 7, 8, 9, 10, 11, 12, 13, 14, 15, 16, 17, 18, 19, 20], [21, 0, 1, 2, 3, 4, 5, 6, 7, 8, 9, 10, 11, 12, 13, 14, 15, 16, 17, 18, 19, 20], [22, 0, 1, 2, 3, 4, 5, 6, 7, 8, 9, 10, 11, 12, 13, 14, 15, 16, 17, 18, 19, 20, 21], [23, 20, 6, 0, 1, 2, 3, 4, 5, 7, 8, 9, 10, 11, 12, 13, 14, 15, 16, 17, 18, 19, 22, 21]]
def mdo_r28 : List AI := [oA 137 (.ibin .eql (.t 15) (.c (.int .i64 24))), oA 136 (.mv (.t 137))]
def mdo_r29 : List AI := [oA 138 (.mv (.t 0)), oA 139 (.nilck (.t 138)), oA 140 (.fld 6 (.t 139)), oA 141 (.fld 1 (.t 140)), oN (.store 1 (.t 141) (.c (.bool false)))]
def mdo_r30 : List AI := [oA 143 (.ibin .eql (.t 15) (.c (.int .i64 25))), oA 142 (.mv (.t 143))]
def mdo_r31 : List AI := [oA 144 (.mv (.t 0)), oA 145 (.nilck (.t 144)), oA 146 (.fld 13 (.t 145)), oN (.store 1 (.t 146) (.c (.int .i64 (-1))))]
def mdo_r32 : List AI := [oA 16 (.mv (.t 0)), oA 17 (.fld 0 (.t 3)), oA 18 (.load none (.t 17)), oC 19 (.c (.fn 241 [])) [(.t 16), (.t 18)], oA 4 (.mv (.t 19))]
def mdo_r33 : List AI := [oA 4 (.mv (.c (.int .i64 0)))]
def mdo_c : AC := (.seq (.reg mdo_r0) (.seq (.reg mdo_r1) (.seq (.seq (.reg mdo_r2) (.block 0 (.seq (.reg mdo_r3) (.cond (.t 20) (.reg mdo_r4) (.seq (.reg mdo_r5) (.cond (.t 27) (.reg mdo_r6) (.seq (.reg mdo_r7) (.cond (.t 31) (.regi mdo_r8 mdo_p8) (.seq (.reg mdo_r9) (.cond (.t 48) (.seq (.reg mdo_r10) (.reg mdo_r11)) (.seq (.seq (.reg mdo_r12) (.cond (.t 59) .skip (.reg mdo_r13))) (.cond (.t 59) (.reg mdo_r14) (.seq (.reg mdo_r15) (.cond (.t 65) (.regi mdo_r16 mdo_p16) (.seq (.reg mdo_r17) (.cond (.t 78) (.reg mdo_r18) (.seq (.reg mdo_r19) (.cond (.t 87) (.reg mdo_r20) (.seq (.reg mdo_r21) (.cond (.t 94) (.seq (.reg mdo_r22) (.cond (.t 98) (.reg mdo_r23) .skip)) (.seq (.reg mdo_r24) (.cond (.t 104) (.seq (.reg mdo_r25) .ret) (.seq (.reg mdo_r26) (.cond (.t 110) (.regd mdo_r27 mdo_p27) (.seq (.reg mdo_r28) (.cond (.t 136) (.reg mdo_r29) (.seq (.reg mdo_r30) (.cond (.t 142) (.reg mdo_r31) (.seq (.reg mdo_r32) .ret))))))))))))))))))))))))))))) (.seq (.reg mdo_r33) .ret))))
def mdo_res : List ARes := [(.tmp 4)]
set_option maxRecDepth 100000 in
theorem mdo_get : getF Tryz.prog 216 98000 [(2000009, 1), (2000017, 1)] = some ("(*gavotte/vm.machine).do", 147, mdo_c, mdo_res) := by kernel_rfl
attribute [simp] mdo_r0 mdo_r1 mdo_r2 mdo_r3 mdo_r4 mdo_r5 mdo_r6 mdo_r7 mdo_r8 mdo_p8 mdo_r9 mdo_r10 mdo_r11 mdo_r12 mdo_r13 mdo_r14 mdo_r15 mdo_r16 mdo_p16 mdo_r17 mdo_r18 mdo_r19 mdo_r20 mdo_r21 mdo_r22 mdo_r23 mdo_r24 mdo_r25 mdo_r26 mdo_r27 mdo_p27 mdo_r28 mdo_r29 mdo_r30 mdo_r31 mdo_r32 mdo_r33 mdo_res
def top (l : List Int) : Int := l.getLast?.getD 0
theorem top_split {l : List Int} (h : 1 <= l.length) : l = l.dropLast ++ [top l] := by
 have hne : l ≠ [] := by rintro rfl; simp at h
 have := (List.dropLast_concat_getLast hne).symm
 rw [top, List.getLast?_eq_some_getLast hne]; exact this
theorem top_split2 {l : List Int} (h : 2 <= l.length) : l = l.dropLast.dropLast ++ [top l.dropLast, top l] := by
 have h1 := top_split (l := l) (by omega)
 have h2 := top_split (l := l.dropLast) (by simp; omega)
 rw [List.append_cons, <- h2, <- h1]
theorem do1_v (F : Fx) (st : Nat) (m : Mach) (i : Ins) (hop : i.op = 1) (hpc : 0 <= m.pc /\ m.pc < 1000) (hl : m.st.length < 900) {S : St} {k : AV -> St -> Prop} {u : Dep k} (h : MS F st m S)
   (hk : ∀ S', Fr Lm S S' -> MS F st { m with pc := m.pc + 1, st := m.st ++ [i.a] } S' -> k (iv 0) S') : CallG Tryz.prog (.fn 216 []) [.ptr 84026 st 14 0 0, i.av] S k u := by
 refine callV mdo_get (by simp) (by simp) ?_
 unfold mdo_c
 obtain ⟨r, sk, nt, hb, hr, hs, hn⟩ := h
 have ws : IntKind.i64.wrap (m.pc + 1) = m.pc + 1 := wrap_in _ (by omega) (by omega)
 simp [hb, hop, ws]
 refine push_v F st { m with pc := m.pc + 1 } [i.a] (by simp) (by simp; omega) _ _ (MS.mk' (upd_same _ _ _) ?_ ?_ ?_) ?_
 . simpa [RegIs] using hr
 . simpa [StkIs] using hs
 . simpa [AccIs] using hn
 rintro S1 ⟨ht1, hb1, hk1, hc1⟩ hM1
 simp [ht1]
 exact hk _ (Fr.here (fun n hn => by simp [hb1 n hn, ne_of_Lm hn, Lm]) (fun n hn => by simp [hk1 n hn, ne_of_Lm hn, Lm]) (by simp at hc1 ⊢; omega)) hM1.to
theorem StkIs.last {S : St} {v : AV} {xs : List Int} (h : StkIs S v xs) (h1 : 1 <= xs.length) : ∃ st es, v = .sl 1000107000 st 1 0 xs.length /\ S.blk 1000107000 = some ⟨st, 1, es⟩ /\ xs.length <= es.length /\ es[xs.length - 1]? = some (iv (top xs)) := by
 rcases h with ⟨_, rfl⟩ | ⟨st, es, q1, q2, q3, q4⟩
 . simp at h1
 refine ⟨st, es, q1, q2, q3, ?_⟩
 have := congrArg (fun l => l[xs.length - 1]?) q4
 simp only [List.getElem?_take_of_lt (show xs.length - 1 < xs.length by omega)] at this
 rw [this, List.getElem?_map]
 have hne : xs ≠ [] := by rintro rfl; simp at h1
 rw [top, List.getLast?_eq_some_getLast hne, List.getElem?_eq_getElem (by omega), List.getLast_eq_getElem]
 rfl
theorem do2_v (F : Fx) (st : Nat) (m : Mach) (i : Ins) (hop : i.op = 2) (h1 : 1 <= m.st.length) (hpc : 0 <= m.pc /\ m.pc < 1000) (hl : m.st.length < 900) {S : St} {k : AV -> St -> Prop} {u : Dep k} (h : MS F st m S)
   (hk : ∀ S', Fr Lm S S' -> MS F st { m with pc := m.pc + 1, st := m.st.dropLast } S' -> k (iv 0) S') : CallG Tryz.prog (.fn 216 []) [.ptr 84026 st 14 0 0, i.av] S k u := by
 refine callV mdo_get (by simp) (by simp) ?_
 unfold mdo_c
 obtain ⟨r, sk, nt, hb, hr, hs, hn⟩ := h
 have ws : IntKind.i64.wrap (m.pc + 1) = m.pc + 1 := wrap_in _ (by omega) (by omega)
 simp [hb, hop, ws]
 refine pop_v F st { m with pc := m.pc + 1 } m.st.dropLast (top m.st) (top_split h1) (by simp; omega) (MS.mk' (upd_same _ _ _) (by simpa [RegIs] using hr) (by simpa [StkIs] using hs) (by simpa [AccIs] using hn)) ?_
 rintro S1 ⟨ht1, hb1, hk1, hc1⟩ hM1
 simp [ht1]
 exact hk _ (Fr.here (fun n hn => by simp [hb1 n hn, ne_of_Lm hn, Lm]) (fun n hn => by first | rfl | simp [hk1 n hn, ne_of_Lm hn, Lm]) (by simp at hc1 ⊢; omega)) hM1.to
theorem do3_v (F : Fx) (st : Nat) (m : Mach) (i : Ins) (hop : i.op = 3) (h1 : 1 <= m.st.length) (hpc : 0 <= m.pc /\ m.pc < 1000) (hl : m.st.length < 900) {S : St} {k : AV -> St -> Prop} {u : Dep k} (h : MS F st m S)
   (hk : ∀ S', Fr Lm S S' -> MS F st { m with pc := m.pc + 1, st := m.st ++ [top m.st] } S' -> k (iv 0) S') : CallG Tryz.prog (.fn 216 []) [.ptr 84026 st 14 0 0, i.av] S k u := by
 refine callV mdo_get (by simp) (by simp) ?_
 unfold mdo_c
 obtain ⟨r, sk, nt, hb, hr, hs, hn⟩ := h
 have ws : IntKind.i64.wrap (m.pc + 1) = m.pc + 1 := wrap_in _ (by omega) (by omega)
 obtain ⟨s2, es, q1, q2, q3, q4⟩ := hs.last h1
 have wl : IntKind.i64.wrap ((m.st.length : Int) - 1) = ((m.st.length - 1 : Nat) : Int) := by rw [wrap_in _ (by omega) (by omega)]; omega
 simp [hb, hop, ws]
 refine regi_end (by simp) (by rfl) ?_
 simp [q1, q2, q4, wl, show m.st.length - 1 < m.st.length by omega]
 rw [q1] at hs
 refine push_v F st { m with pc := m.pc + 1 } [top m.st] (by simp) (by simp; omega) _ _ (MS.mk' (upd_same _ _ _) (by simpa [RegIs] using hr) (by simpa [StkIs] using hs) (by simpa [AccIs] using hn)) ?_
 rintro S1 ⟨ht1, hb1, hk1, hc1⟩ hM1
 simp [ht1]
 exact hk _ (Fr.here (fun n hn => by simp [hb1 n hn, ne_of_Lm hn, Lm]) (fun n hn => by first | rfl | simp [hk1 n hn, ne_of_Lm hn, Lm]) (by simp at hc1 ⊢; omega)) hM1.to
theorem do4_v (F : Fx) (st : Nat) (m : Mach) (i : Ins) (hop : i.op = 4) (h1 : 2 <= m.st.length) (hpc : 0 <= m.pc /\ m.pc < 1000) (hl : m.st.length < 900) {S : St} {k : AV -> St -> Prop} {u : Dep k} (h : MS F st m S)
   (hk : ∀ S', Fr Lm S S' -> MS F st { m with pc := m.pc + 1, st := m.st.dropLast.dropLast ++ [top m.st, top m.st.dropLast] } S' -> k (iv 0) S') : CallG Tryz.prog (.fn 216 []) [.ptr 84026 st 14 0 0, i.av] S k u := by
 refine callV mdo_get (by simp) (by simp) ?_
 unfold mdo_c
 obtain ⟨r, sk, nt, hb, hr, hs, hn⟩ := h
 have ws : IntKind.i64.wrap (m.pc + 1) = m.pc + 1 := wrap_in _ (by omega) (by omega)
 simp [hb, hop, ws]
 refine pop_v F st { m with pc := m.pc + 1 } m.st.dropLast (top m.st) (top_split (show 1 <= m.st.length by omega)) (by simp; omega) (MS.mk' (upd_same _ _ _) (by simpa [RegIs] using hr) (by simpa [StkIs] using hs) (by simpa [AccIs] using hn)) ?_
 rintro S1 ⟨ht1, hb1, hk1, hc1⟩ hM1
 simp [ht1]
 refine pop_v F st { m with pc := m.pc + 1, st := m.st.dropLast } m.st.dropLast.dropLast (top m.st.dropLast) (top_split (by simp; omega)) (by simp; omega) hM1.to ?_
 rintro S2 ⟨ht2, hb2, hk2, hc2⟩ hM2
 simp [ht2]
 refine push_v F st { m with pc := m.pc + 1, st := m.st.dropLast.dropLast } [top m.st, top m.st.dropLast] (by simp) (by simp; omega) _ _ hM2.to ?_
 rintro S3 ⟨ht3, hb3, hk3, hc3⟩ hM3
 simp [ht3]
 exact hk _ (Fr.here (fun n hn => by simp [hb3 n hn, hb2 n hn, hb1 n hn, ne_of_Lm hn, Lm]) (fun n hn => by first | rfl | simp [hk3 n hn, hk2 n hn, hk1 n hn, ne_of_Lm hn, Lm]) (by simp at hc1 hc2 hc3 ⊢; omega)) hM3.to
theorem do5_v (F : Fx) (st : Nat) (m : Mach) (i : Ins) (hop : i.op = 5) (ha : 0 <= i.a) (hr8 : m.regs.length <= 1000) (hpc : 0 <= m.pc /\ m.pc < 1000) (hl : m.st.length < 900) {S : St} {k : AV -> St -> Prop} {u : Dep k} (h : MS F st m S)
   (hk : ∀ S', Fr Lm S S' -> MS F st { m with pc := m.pc + 1, st := m.st ++ [loadV m i.a] } S' -> k (iv 0) S') : CallG Tryz.prog (.fn 216 []) [.ptr 84026 st 14 0 0, i.av] S k u := by
 refine callV mdo_get (by simp) (by simp) ?_
 unfold mdo_c
 obtain ⟨r, sk, nt, hb, hr, hs, hn⟩ := h
 have ws : IntKind.i64.wrap (m.pc + 1) = m.pc + 1 := wrap_in _ (by omega) (by omega)
 simp [hb, hop, ws]
 refine regload_v F st { m with pc := m.pc + 1 } ⟨5, i.a⟩ (by simp) ha hr8 hl (MS.mk' (upd_same _ _ _) (by simpa [RegIs] using hr) (by simpa [StkIs] using hs) (by simpa [AccIs] using hn)) ?_
 rintro S1 ⟨ht1, hb1, hk1, hc1⟩ hM1
 simp [ht1]
 exact hk _ (Fr.here (fun n hn => by simp [hb1 n hn, ne_of_Lm hn, Lm]) (fun n hn => by first | rfl | simp [hk1 n hn, ne_of_Lm hn, Lm]) (by simp at hc1 ⊢; omega)) hM1.to
def ArgIs (F : Fx) (S : St) : Prop := F.argv = ints F.args \/ ∃ st, F.argv = .sl 1000016008 st 1 0 F.args.length /\ S.blk 1000016008 = some ⟨st, 1, F.args.map iv⟩
theorem do7_v (F : Fx) (st : Nat) (m : Mach) (i : Ins) (hop : i.op = 7) (ha : 0 <= i.a) (ha2 : i.a.toNat < F.args.length) (hpc : 0 <= m.pc /\ m.pc < 1000) (hl : m.st.length < 900) {S : St} {k : AV -> St -> Prop} {u : Dep k} (harg : ArgIs F S) (h : MS F st m S)
   (hk : ∀ S', Fr Lm S S' -> MS F st { m with pc := m.pc + 1, st := m.st ++ [F.args[i.a.toNat]] } S' -> k (iv 0) S') : CallG Tryz.prog (.fn 216 []) [.ptr 84026 st 14 0 0, i.av] S k u := by
 obtain ⟨p0, who0, args0, d0, s0, o0, argv0⟩ := F
 simp only at ha2 hk
 rcases harg with hv | ⟨sa, hv, hbl⟩
 . simp only at hv
   subst hv
   refine callV mdo_get (by simp) (by simp) ?_
   unfold mdo_c
   obtain ⟨r, sk, nt, hb, hr, hs, hn⟩ := h
   have ws : IntKind.i64.wrap (m.pc + 1) = m.pc + 1 := wrap_in _ (by omega) (by omega)
   simp [hb, hop, ws]
   refine regi_end (by simp) (by rfl) ?_
   simp [ints, ha, ha2]
   refine push_v ⟨p0, who0, args0, d0, s0, o0, ints args0⟩ st { m with pc := m.pc + 1 } [args0[i.a.toNat]] (by simp) (by simp; omega) _ _ (MS.mk' (upd_same _ _ _) (by simpa [RegIs] using hr) (by simpa [StkIs] using hs) (by simpa [AccIs] using hn)) ?_
   rintro S1 ⟨ht1, hb1, hk1, hc1⟩ hM1
   simp [ht1]
   exact hk _ (Fr.here (fun n hn => by simp [hb1 n hn, ne_of_Lm hn, Lm]) (fun n hn => by first | rfl | simp [hk1 n hn, ne_of_Lm hn, Lm]) (by simp at hc1 ⊢; omega)) hM1.to
 . simp only at hv
   subst hv
   refine callV mdo_get (by simp) (by simp) ?_
   unfold mdo_c
   obtain ⟨r, sk, nt, hb, hr, hs, hn⟩ := h
   have ws : IntKind.i64.wrap (m.pc + 1) = m.pc + 1 := wrap_in _ (by omega) (by omega)
   simp [hb, hop, ws]
   refine regi_end (by simp) (by rfl) ?_
   simp [hbl, ha, ha2]
   refine push_v ⟨p0, who0, args0, d0, s0, o0, .sl 1000016008 sa 1 0 args0.length⟩ st { m with pc := m.pc + 1 } [args0[i.a.toNat]] (by simp) (by simp; omega) _ _ (MS.mk' (upd_same _ _ _) (by simpa [RegIs] using hr) (by simpa [StkIs] using hs) (by simpa [AccIs] using hn)) ?_
   rintro S1 ⟨ht1, hb1, hk1, hc1⟩ hM1
   simp [ht1]
   exact hk _ (Fr.here (fun n hn => by simp [hb1 n hn, ne_of_Lm hn, Lm]) (fun n hn => by first | rfl | simp [hk1 n hn, ne_of_Lm hn, Lm]) (by simp at hc1 ⊢; omega)) hM1.to
theorem do8_v (F : Fx) (st : Nat) (m : Mach) (i : Ins) (hop : i.op = 8) (hpc : 0 <= m.pc /\ m.pc < 1000) (hl : m.st.length < 900) {S : St} {k : AV -> St -> Prop} {u : Dep k} (h : MS F st m S)
   (hk : ∀ S', Fr Lm S S' -> MS F st { m with pc := m.pc + 1, st := m.st ++ [F.who] } S' -> k (iv 0) S') : CallG Tryz.prog (.fn 216 []) [.ptr 84026 st 14 0 0, i.av] S k u := by
 refine callV mdo_get (by simp) (by simp) ?_
 unfold mdo_c
 obtain ⟨r, sk, nt, hb, hr, hs, hn⟩ := h
 have ws : IntKind.i64.wrap (m.pc + 1) = m.pc + 1 := wrap_in _ (by omega) (by omega)
 simp [hb, hop, ws]
 refine push_v F st { m with pc := m.pc + 1 } [F.who] (by simp) (by simp; omega) _ _ (MS.mk' (upd_same _ _ _) (by simpa [RegIs] using hr) (by simpa [StkIs] using hs) (by simpa [AccIs] using hn)) ?_
 rintro S1 ⟨ht1, hb1, hk1, hc1⟩ hM1
 simp [ht1]
 exact hk _ (Fr.here (fun n hn => by simp [hb1 n hn, ne_of_Lm hn, Lm]) (fun n hn => by first | rfl | simp [hk1 n hn, ne_of_Lm hn, Lm]) (by simp at hc1 ⊢; omega)) hM1.to
theorem do20_v (F : Fx) (st : Nat) (m : Mach) (i : Ins) (hop : i.op = 20) (hpc : 0 <= m.pc /\ m.pc < 1000) (hl : m.st.length < 900) {S : St} {k : AV -> St -> Prop} {u : Dep k} (h : MS F st m S)
   (hk : ∀ S', Fr Lm S S' -> MS F st { m with pc := i.a } S' -> k (iv 0) S') : CallG Tryz.prog (.fn 216 []) [.ptr 84026 st 14 0 0, i.av] S k u := by
 refine callV mdo_get (by simp) (by simp) ?_
 unfold mdo_c
 obtain ⟨r, sk, nt, hb, hr, hs, hn⟩ := h
 have ws : IntKind.i64.wrap (m.pc + 1) = m.pc + 1 := wrap_in _ (by omega) (by omega)
 simp [hb, hop, ws]
 exact hk _ (Fr.here (fun n hn => by simp [ne_of_Lm hn, Lm]) (fun n hn => by first | rfl | simp [ne_of_Lm hn, Lm]) (by omega)) (MS.mk' (upd_same _ _ _) (by simpa [RegIs] using hr) (by simpa [StkIs] using hs) (by simpa [AccIs] using hn))
theorem do24_v (F : Fx) (st : Nat) (m : Mach) (i : Ins) (hop : i.op = 24) (hpc : 0 <= m.pc /\ m.pc < 1000) (hl : m.st.length < 900) {S : St} {k : AV -> St -> Prop} {u : Dep k} (h : MS F st m S)
   (hk : ∀ S', Fr Lm S S' -> MS F st { m with pc := m.pc + 1, armed := false } S' -> k (iv 0) S') : CallG Tryz.prog (.fn 216 []) [.ptr 84026 st 14 0 0, i.av] S k u := by
 refine callV mdo_get (by simp) (by simp) ?_
 unfold mdo_c
 obtain ⟨r, sk, nt, hb, hr, hs, hn⟩ := h
 have ws : IntKind.i64.wrap (m.pc + 1) = m.pc + 1 := wrap_in _ (by omega) (by omega)
 simp [hb, hop, ws]
 exact hk _ (Fr.here (fun n hn => by simp [ne_of_Lm hn, Lm]) (fun n hn => by first | rfl | simp [ne_of_Lm hn, Lm]) (by omega)) (MS.mk' (upd_same _ _ _) (by simpa [RegIs] using hr) (by simpa [StkIs] using hs) (by simpa [AccIs] using hn))
theorem do25_v (F : Fx) (st : Nat) (m : Mach) (i : Ins) (hop : i.op = 25) (hpc : 0 <= m.pc /\ m.pc < 1000) (hl : m.st.length < 900) {S : St} {k : AV -> St -> Prop} {u : Dep k} (h : MS F st m S)
   (hk : ∀ S', Fr Lm S S' -> MS F st { m with pc := -1 } S' -> k (iv 0) S') : CallG Tryz.prog (.fn 216 []) [.ptr 84026 st 14 0 0, i.av] S k u := by
 refine callV mdo_get (by simp) (by simp) ?_
 unfold mdo_c
 obtain ⟨r, sk, nt, hb, hr, hs, hn⟩ := h
 have ws : IntKind.i64.wrap (m.pc + 1) = m.pc + 1 := wrap_in _ (by omega) (by omega)
 simp [hb, hop, ws]
 exact hk _ (Fr.here (fun n hn => by simp [ne_of_Lm hn, Lm]) (fun n hn => by first | rfl | simp [ne_of_Lm hn, Lm]) (by omega)) (MS.mk' (upd_same _ _ _) (by simpa [RegIs] using hr) (by simpa [StkIs] using hs) (by simpa [AccIs] using hn))
end Go.Gv

namespace Go.Gv
open Go.Proofs
theorem regpop_v (F : Fx) (st : Nat) (m : Mach) (i : Ins) (h6 : i.op = 6) (h1 : 1 <= m.st.length) (hn1 : ¬ i.a < m.regs.length) (hl : m.st.length < 900) {S : St} {k : AV -> St -> Prop} {u : Dep k} (h : MS F st m S)
   (hk : ∀ S', Fr Lm S S' -> MS F st { m with st := m.st.dropLast } S' -> k (.tup []) S') : CallG Tryz.prog (.fn 239 []) [.ptr 84026 st 14 0 0, i.av] S k u := by
 refine callV mreg_get (by simp) (by simp) ?_
 unfold mreg_c
 obtain ⟨r, sk, nt, hb, hr, hs, hn⟩ := h
 have hrl := hr.len
 simp [hb, hrl, hn1, h6]
 refine pop_v F st m m.st.dropLast (top m.st) (top_split h1) (by simp; omega) (MS.to ⟨r, sk, nt, hb, hr, hs, hn⟩) ?_
 rintro S1 ⟨ht1, hb1, hk1, hc1⟩ hM1
 simp [ht1]
 exact hk _ (Fr.here (fun n hn => by simp [hb1 n hn, ne_of_Lm hn, Lm]) (fun n hn => by first | rfl | simp [hk1 n hn, ne_of_Lm hn, Lm]) (by simp at hc1 ⊢; omega)) hM1.to
theorem do6_v (F : Fx) (st : Nat) (m : Mach) (i : Ins) (hop : i.op = 6) (h1 : 1 <= m.st.length) (ha : 0 <= i.a) (hr8 : m.regs.length <= 1000) (hpc : 0 <= m.pc /\ m.pc < 1000) (hl : m.st.length < 900) {S : St} {k : AV -> St -> Prop} {u : Dep k} (h : MS F st m S)
   (hk : ∀ S', Fr Lm S S' -> MS F st { m with pc := m.pc + 1, st := m.st.dropLast, regs := if i.a < m.regs.length then m.regs.set i.a.toNat (top m.st) else m.regs } S' -> k (iv 0) S') : CallG Tryz.prog (.fn 216 []) [.ptr 84026 st 14 0 0, i.av] S k u := by
 refine callV mdo_get (by simp) (by simp) ?_
 unfold mdo_c
 obtain ⟨r, sk, nt, hb, hr, hs, hn⟩ := h
 have ws : IntKind.i64.wrap (m.pc + 1) = m.pc + 1 := wrap_in _ (by omega) (by omega)
 simp [hb, hop, ws]
 by_cases hlt : i.a < m.regs.length
 . rw [if_pos hlt] at hk
   refine regstore_v F st { m with pc := m.pc + 1 } ⟨6, i.a⟩ rfl m.st.dropLast (top m.st) (top_split h1) ha hlt hr8 (by simp; omega) (MS.mk' (upd_same _ _ _) (by simpa [RegIs] using hr) (by simpa [StkIs] using hs) (by simpa [AccIs] using hn)) ?_
   rintro S1 ⟨ht1, hb1, hk1, hc1⟩ hM1
   simp [ht1]
   exact hk _ (Fr.here (fun n hn => by simp [hb1 n hn, ne_of_Lm hn, Lm]) (fun n hn => by first | rfl | simp [hk1 n hn, ne_of_Lm hn, Lm]) (by simp at hc1 ⊢; omega)) hM1.to
 . rw [if_neg hlt] at hk
   refine regpop_v F st { m with pc := m.pc + 1 } ⟨6, i.a⟩ rfl h1 hlt hl (MS.mk' (upd_same _ _ _) (by simpa [RegIs] using hr) (by simpa [StkIs] using hs) (by simpa [AccIs] using hn)) ?_
   rintro S1 ⟨ht1, hb1, hk1, hc1⟩ hM1
   simp [ht1]
   exact hk _ (Fr.here (fun n hn => by simp [hb1 n hn, ne_of_Lm hn, Lm]) (fun n hn => by first | rfl | simp [hk1 n hn, ne_of_Lm hn, Lm]) (by simp at hc1 ⊢; omega)) hM1.to
theorem do21_v (F : Fx) (st : Nat) (m : Mach) (i : Ins) (hop : i.op = 21) (h1 : 1 <= m.st.length) (hpc : 0 <= m.pc /\ m.pc < 1000) (hl : m.st.length < 900) {S : St} {k : AV -> St -> Prop} {u : Dep k} (h : MS F st m S)
   (hk : ∀ S', Fr Lm S S' -> MS F st { m with pc := if top m.st = 0 then i.a else m.pc + 1, st := m.st.dropLast } S' -> k (iv 0) S') : CallG Tryz.prog (.fn 216 []) [.ptr 84026 st 14 0 0, i.av] S k u := by
 refine callV mdo_get (by simp) (by simp) ?_
 unfold mdo_c
 obtain ⟨r, sk, nt, hb, hr, hs, hn⟩ := h
 have ws : IntKind.i64.wrap (m.pc + 1) = m.pc + 1 := wrap_in _ (by omega) (by omega)
 obtain ⟨s2, es, q1, q2, q3, q4⟩ := hs.last h1
 have htk : es.take m.st.dropLast.length = m.st.dropLast.map iv := by
   rcases hs with ⟨_, e⟩ | ⟨s2', es', e1, e2, e3, e4⟩
   . rw [e] at h1; simp at h1
   . rw [q2] at e2; cases e2
     have := congrArg (List.take m.st.dropLast.length) e4
     rw [List.take_take, Nat.min_eq_left (by simp)] at this
     rw [this, List.dropLast_eq_take, List.map_take]; simp
 have hlen : m.st.length = m.st.dropLast.length + 1 := by simp; omega
 rw [q1, hlen] at hb
 rw [hlen] at q3
 rw [show m.st.length - 1 = m.st.dropLast.length by simp] at q4
 have hl' : m.st.dropLast.length < 1000 := by simp; omega
 generalize hq : m.st.dropLast = xs at *
 simp [hb, hop, ws]
 refine pop_x (s1 := s2) (es := es) hl' (by dsimp only; exact upd_same _ _ _) (by simp [q2]) q3 q4 ?_
 by_cases hz : top m.st = 0
 . rw [if_pos hz] at hk
   simp [hz]
   refine hk _ (Fr.here (fun n hn => by simp [ne_of_Lm hn, Lm]) (fun n hn => by first | rfl | simp [ne_of_Lm hn, Lm]) (by omega)) (MS.mk' (upd_same _ _ _) (by simpa [RegIs] using hr) (.inr ⟨s2, es, rfl, by simp [q2], by simp only []; omega, htk⟩) (by simpa [AccIs] using hn))
 . rw [if_neg hz] at hk
   simp [hz]
   refine hk _ (Fr.here (fun n hn => by simp [ne_of_Lm hn, Lm]) (fun n hn => by first | rfl | simp [ne_of_Lm hn, Lm]) (by omega)) (MS.mk' (upd_same _ _ _) (by simpa [RegIs] using hr) (.inr ⟨s2, es, rfl, by simp [q2], by simp only []; omega, htk⟩) (by simpa [AccIs] using hn))
theorem do23_v (F : Fx) (st : Nat) (m : Mach) (i : Ins) (hop : i.op = 23) (hw : 0 <= F.who) (x : Actr) (hx : F.p.as[F.who.toNat]? = some x) (hpc : 0 <= m.pc /\ m.pc < 1000) (hl : m.st.length < 900) {S : St} {k : AV -> St -> Prop} {u : Dep k} (h : MS F st m S)
   (hk : ∀ S', Fr Lm S S' -> MS F st { m with pc := m.pc + 1, armed := m.armed || !decide (x.timer = -1) } S' -> k (iv 0) S') : CallG Tryz.prog (.fn 216 []) [.ptr 84026 st 14 0 0, i.av] S k u := by
 refine callV mdo_get (by simp) (by simp) ?_
 unfold mdo_c
 obtain ⟨r, sk, nt, hb, hr, hs, hn⟩ := h
 have ws : IntKind.i64.wrap (m.pc + 1) = m.pc + 1 := wrap_in _ (by omega) (by omega)
 have hj : F.who.toNat < F.p.as.length := (List.getElem?_eq_some_iff.1 hx).1
 have hx' : F.p.as[F.who.toNat] = x := (List.getElem?_eq_some_iff.1 hx).2
 cases har : m.armed with
 | true =>
   simp [hb, hop, ws, har]
   refine hk _ (Fr.here (fun n hn => by simp [ne_of_Lm hn, Lm]) (fun n hn => by first | rfl | simp [ne_of_Lm hn, Lm]) (by omega)) (MS.mk' (by simp [har]; exact ⟨rfl, rfl, rfl⟩) (by simpa [RegIs] using hr) (by simpa [StkIs] using hs) (by simpa [AccIs] using hn))
 | false =>
   simp [hb, hop, ws, har, hw, hj, hx']
   refine hk _ (Fr.here (fun n hn => by simp [ne_of_Lm hn, Lm]) (fun n hn => by first | rfl | simp [ne_of_Lm hn, Lm]) (by omega)) (MS.mk' ?_ (by simpa [RegIs] using hr) (by simpa [StkIs] using hs) (by simpa [AccIs] using hn))
   simp [har]
theorem doc1_v (F : Fx) (st : Nat) (m : Mach) (i : Ins) (hop : 9 <= i.op /\ i.op <= 19) (h1 : 1 <= m.st.length) (ho : (oneV i.op (top m.st)).2 = true) (hpc : 0 <= m.pc /\ m.pc < 1000) (hl : m.st.length < 900) {S : St} {k : AV -> St -> Prop} {u : Dep k} (h : MS F st m S)
   (hk : ∀ S', Fr Lm S S' -> MS F st { m with pc := m.pc + 1, st := m.st.dropLast ++ [(oneV i.op (top m.st)).1] } S' -> k (iv 0) S') : CallG Tryz.prog (.fn 216 []) [.ptr 84026 st 14 0 0, i.av] S k u := by
 refine callV mdo_get (by simp) (by simp) ?_
 unfold mdo_c
 obtain ⟨r, sk, nt, hb, hr, hs, hn⟩ := h
 have ws : IntKind.i64.wrap (m.pc + 1) = m.pc + 1 := wrap_in _ (by omega) (by omega)
 simp [hb, ws, show i.op ≠ 1 by omega, show i.op ≠ 2 by omega, show i.op ≠ 3 by omega, show i.op ≠ 4 by omega, show i.op ≠ 5 by omega, show i.op ≠ 6 by omega, show i.op ≠ 7 by omega, show i.op ≠ 8 by omega, show i.op ≠ 20 by omega, show i.op ≠ 21 by omega, show i.op ≠ 22 by omega, show i.op ≠ 23 by omega, show i.op ≠ 24 by omega, show i.op ≠ 25 by omega]
 refine count1_v F st { m with pc := m.pc + 1 } i.op m.st.dropLast (top m.st) (top_split h1) (by simp; omega) ho (MS.mk' (upd_same _ _ _) (by simpa [RegIs] using hr) (by simpa [StkIs] using hs) (by simpa [AccIs] using hn)) ?_
 rintro S1 ⟨ht1, hb1, hk1, hc1⟩ hM1
 simp [ht1]
 exact hk _ (Fr.here (fun n hn => by simp [hb1 n hn, ne_of_Lm hn, Lm]) (fun n hn => by first | rfl | simp [hk1 n hn, ne_of_Lm hn, Lm]) (by simp at hc1 ⊢; omega)) hM1.to
theorem doc2_v (F : Fx) (st : Nat) (m : Mach) (i : Ins) (hop : 9 <= i.op /\ i.op <= 19) (h1 : 2 <= m.st.length) (ho : (oneV i.op (top m.st)).2 = false) (hpc : 0 <= m.pc /\ m.pc < 1000) (hl : m.st.length < 900) {S : St} {k : AV -> St -> Prop} {u : Dep k} (h : MS F st m S)
   (hk : ∀ S', Fr Lm S S' -> MS F st { m with pc := m.pc + 1, st := m.st.dropLast.dropLast ++ [(twoV i.op (top m.st.dropLast) (top m.st)).1] } S' -> k (iv (twoV i.op (top m.st.dropLast) (top m.st)).2) S') : CallG Tryz.prog (.fn 216 []) [.ptr 84026 st 14 0 0, i.av] S k u := by
 refine callV mdo_get (by simp) (by simp) ?_
 unfold mdo_c
 obtain ⟨r, sk, nt, hb, hr, hs, hn⟩ := h
 have ws : IntKind.i64.wrap (m.pc + 1) = m.pc + 1 := wrap_in _ (by omega) (by omega)
 simp [hb, ws, show i.op ≠ 1 by omega, show i.op ≠ 2 by omega, show i.op ≠ 3 by omega, show i.op ≠ 4 by omega, show i.op ≠ 5 by omega, show i.op ≠ 6 by omega, show i.op ≠ 7 by omega, show i.op ≠ 8 by omega, show i.op ≠ 20 by omega, show i.op ≠ 21 by omega, show i.op ≠ 22 by omega, show i.op ≠ 23 by omega, show i.op ≠ 24 by omega, show i.op ≠ 25 by omega]
 refine count2_v F st { m with pc := m.pc + 1 } i.op m.st.dropLast.dropLast (top m.st.dropLast) (top m.st) (top_split2 h1) (by simp; omega) ho (MS.mk' (upd_same _ _ _) (by simpa [RegIs] using hr) (by simpa [StkIs] using hs) (by simpa [AccIs] using hn)) ?_
 rintro S1 ⟨ht1, hb1, hk1, hc1⟩ hM1
 simp [ht1]
 exact hk _ (Fr.here (fun n hn => by simp [hb1 n hn, ne_of_Lm hn, Lm]) (fun n hn => by first | rfl | simp [hk1 n hn, ne_of_Lm hn, Lm]) (by simp at hc1 ⊢; omega)) hM1.to
theorem do22_v (F : Fx) (st : Nat) (m : Mach) (i : Ins) (hop : i.op = 22) (xs bs : List Int) (to : Int) (hx : m.st = xs ++ bs ++ [to]) (ha : 0 <= i.a) (x : Hnd) (hh : F.p.hs[i.a.toNat]? = some x) (hargs : x.args = bs.length) (hnl : m.notes.length < 1000) (hpc : 0 <= m.pc /\ m.pc < 1000) (hl : m.st.length < 900) {S : St} {k : AV -> St -> Prop} {u : Dep k} (h : MS F st m S)
   (hz1 : (to < 0 \/ to >= F.p.as.length) -> ∀ S', Fr Lm S S' -> MS F st { m with pc := m.pc + 1, st := xs ++ bs } S' -> k (iv 4) S')
   (hz2 : ¬ (to < 0 \/ to >= F.p.as.length) -> ∀ S', Fr Lm S S' -> MS F st { m with pc := m.pc + 1, st := xs, notes := m.notes ++ [⟨to, i.a, bs⟩] } S' -> k (iv 0) S') : CallG Tryz.prog (.fn 216 []) [.ptr 84026 st 14 0 0, i.av] S k u := by
 refine callV mdo_get (by simp) (by simp) ?_
 unfold mdo_c
 obtain ⟨r, sk, nt, hb, hr, hs, hn⟩ := h
 have ws : IntKind.i64.wrap (m.pc + 1) = m.pc + 1 := wrap_in _ (by omega) (by omega)
 simp [hb, hop, ws]
 have hll : (xs ++ bs).length < 900 := by rw [hx] at hl; simp at hl ⊢; omega
 refine send_v F st { m with pc := m.pc + 1 } i.a xs bs to hx ha x hh hargs hll hnl (MS.mk' (upd_same _ _ _) (by simpa [RegIs] using hr) (by simpa [StkIs] using hs) (by simpa [AccIs] using hn)) ?_ ?_
 . intro hc
   rintro S1 ⟨ht1, hb1, hk1, hc1⟩ hM1
   simp [ht1]
   exact hz1 hc _ (Fr.here (fun n hn => by simp [hb1 n hn, ne_of_Lm hn, Lm]) (fun n hn => by first | rfl | simp [hk1 n hn, ne_of_Lm hn, Lm]) (by simp at hc1 ⊢; omega)) hM1.to
 . intro hc
   rintro S1 ⟨ht1, hb1, hk1, hc1⟩ hM1
   simp [ht1]
   exact hz2 hc _ (Fr.here (fun n hn => by simp [hb1 n hn, ne_of_Lm hn, Lm]) (fun n hn => by first | rfl | simp [hk1 n hn, ne_of_Lm hn, Lm]) (by simp at hc1 ⊢; omega)) hM1.to
end Go.Gv

namespace Go.Gv
open Go.Proofs
def pops_r0 : List AI := [oA 2 (.mv (.c (.int .i64 0)))]
def pops_r1 : List AI := [oA 4 (.mv (.t 0)), oA 5 (.ibin .eql (.t 4) (.c (.int .i64 4))), oA 3 (.mv (.t 5))]
def pops_r2 : List AI := [oA 6 (.mv (.t 0)), oA 7 (.ibin .geq (.t 6) (.c (.int .i64 9))), oA 8 (.mv (.t 7)), oG 9 8 true (.mv (.t 0)), oG 10 8 true (.ibin .leq (.t 9) (.c (.int .i64 13))), oA 11 (.pick (.t 8) (.t 10) (.c (.bool false))), oA 3 (.mv (.t 11))]
def pops_r3 : List AI := [oA 12 (.mv (.t 0)), oA 13 (.ibin .geq (.t 12) (.c (.int .i64 15))), oA 14 (.mv (.t 13)), oG 15 14 true (.mv (.t 0)), oG 16 14 true (.ibin .leq (.t 15) (.c (.int .i64 18))), oA 17 (.pick (.t 14) (.t 16) (.c (.bool false))), oA 3 (.mv (.t 17))]
def pops_r4 : List AI := [oA 2 (.mv (.c (.int .i64 2)))]
def pops_r5 : List AI := [oA 19 (.mv (.t 0)), oA 20 (.ibin .eql (.t 19) (.c (.int .i64 2))), oA 18 (.mv (.t 20))]
def pops_r6 : List AI := [oA 21 (.mv (.t 0)), oA 22 (.ibin .eql (.t 21) (.c (.int .i64 3))), oA 18 (.mv (.t 22))]
def pops_r7 : List AI := [oA 23 (.mv (.t 0)), oA 24 (.ibin .eql (.t 23) (.c (.int .i64 6))), oA 18 (.mv (.t 24))]
def pops_r8 : List AI := [oA 25 (.mv (.t 0)), oA 26 (.ibin .eql (.t 25) (.c (.int .i64 14))), oA 18 (.mv (.t 26))]
def pops_r9 : List AI := [oA 27 (.mv (.t 0)), oA 28 (.ibin .eql (.t 27) (.c (.int .i64 19))), oA 18 (.mv (.t 28))]
def pops_r10 : List AI := [oA 29 (.mv (.t 0)), oA 30 (.ibin .eql (.t 29) (.c (.int .i64 21))), oA 18 (.mv (.t 30))]
def pops_r11 : List AI := [oA 31 (.mv (.t 0)), oA 32 (.ibin .eql (.t 31) (.c (.int .i64 22))), oA 18 (.mv (.t 32))]
def pops_r12 : List AI := [oA 2 (.mv (.c (.int .i64 1)))]
def pops_r13 : List AI := [oA 2 (.mv (.c (.int .i64 0)))]
def pops_c : AC := (.seq (.reg pops_r0) (.seq (.block 0 (.seq (.seq (.reg pops_r1) (.cond (.t 3) .skip (.seq (.reg pops_r2) (.cond (.t 3) .skip (.reg pops_r3))))) (.cond (.t 3) (.seq (.reg pops_r4) .ret) (.seq (.seq (.reg pops_r5) (.cond (.t 18) .skip (.seq (.reg pops_r6) (.cond (.t 18) .skip (.seq (.reg pops_r7) (.cond (.t 18) .skip (.seq (.reg pops_r8) (.cond (.t 18) .skip (.seq (.reg pops_r9) (.cond (.t 18) .skip (.seq (.reg pops_r10) (.cond (.t 18) .skip (.reg pops_r11))))))))))))) (.cond (.t 18) (.seq (.reg pops_r12) .ret) .skip))))) (.seq (.reg pops_r13) .ret)))
def pops_res : List ARes := [(.tmp 2)]
set_option maxRecDepth 100000 in
theorem pops_get : getF Tryz.prog 174 106000 [] = some ("gavotte/ops.Pops", 33, pops_c, pops_res) := by kernel_rfl
def puts_r0 : List AI := [oA 2 (.mv (.c (.int .i64 0)))]
def puts_r1 : List AI := [oA 4 (.mv (.t 0)), oA 5 (.ibin .eql (.t 4) (.c (.int .i64 3))), oA 3 (.mv (.t 5))]
def puts_r2 : List AI := [oA 6 (.mv (.t 0)), oA 7 (.ibin .eql (.t 6) (.c (.int .i64 4))), oA 3 (.mv (.t 7))]
def puts_r3 : List AI := [oA 2 (.mv (.c (.int .i64 2)))]
def puts_r4 : List AI := [oA 9 (.mv (.t 0)), oA 10 (.ibin .eql (.t 9) (.c (.int .i64 1))), oA 8 (.mv (.t 10))]
def puts_r5 : List AI := [oA 11 (.mv (.t 0)), oA 12 (.ibin .eql (.t 11) (.c (.int .i64 5))), oA 8 (.mv (.t 12))]
def puts_r6 : List AI := [oA 13 (.mv (.t 0)), oA 14 (.ibin .eql (.t 13) (.c (.int .i64 7))), oA 8 (.mv (.t 14))]
def puts_r7 : List AI := [oA 15 (.mv (.t 0)), oA 16 (.ibin .eql (.t 15) (.c (.int .i64 8))), oA 8 (.mv (.t 16))]
def puts_r8 : List AI := [oA 17 (.mv (.t 0)), oA 18 (.ibin .geq (.t 17) (.c (.int .i64 9))), oA 19 (.mv (.t 18)), oG 20 19 true (.mv (.t 0)), oG 21 19 true (.ibin .leq (.t 20) (.c (.int .i64 19))), oA 22 (.pick (.t 19) (.t 21) (.c (.bool false))), oA 8 (.mv (.t 22))]
def puts_r9 : List AI := [oA 2 (.mv (.c (.int .i64 1)))]
def puts_r10 : List AI := [oA 2 (.mv (.c (.int .i64 0)))]
def puts_c : AC := (.seq (.reg puts_r0) (.seq (.block 0 (.seq (.seq (.reg puts_r1) (.cond (.t 3) .skip (.reg puts_r2))) (.cond (.t 3) (.seq (.reg puts_r3) .ret) (.seq (.seq (.reg puts_r4) (.cond (.t 8) .skip (.seq (.reg puts_r5) (.cond (.t 8) .skip (.seq (.reg puts_r6) (.cond (.t 8) .skip (.seq (.reg puts_r7) (.cond (.t 8) .skip (.reg puts_r8))))))))) (.cond (.t 8) (.seq (.reg puts_r9) .ret) .skip))))) (.seq (.reg puts_r10) .ret)))
def puts_res : List ARes := [(.tmp 2)]
set_option maxRecDepth 100000 in
theorem puts_get : getF Tryz.prog 168 94000 [] = some ("gavotte/ops.Puts", 23, puts_c, puts_res) := by kernel_rfl
def takes_r0 : List AI := [oA 2 (.box 93002 4 (.t 0)), oA 3 (.box 93003 2 (.t 1)), oA 4 (.mv (.c (.int .i64 0)))]
def takes_r1 : List AI := [oA 6 (.fld 0 (.t 3)), oA 7 (.load none (.t 6)), oC 8 (.c (.fn 174 [])) [(.t 7)], oA 5 (.mv (.t 8))]
def takes_r2 : List AI := [oA 9 (.fld 0 (.t 3)), oA 10 (.load none (.t 9)), oA 11 (.ibin .eql (.t 10) (.c (.int .i64 22)))]
def takes_r3 : List AI := [oA 12 (.mv (.t 5)), oA 13 (.fld 0 (.t 2)), oA 14 (.load none (.t 13)), oA 15 (.fld 1 (.t 3)), oA 16 (.load none (.t 15)), oA 17 (.idx 2 (.t 14) (.t 16)), oA 18 (.fld 0 (.t 17)), oA 19 (.load none (.t 18)), oA 20 (.ibin .add (.t 12) (.t 19)), oA 5 (.mv (.t 20))]
def takes_r4 : List AI := [oA 21 (.mv (.t 5)), oA 4 (.mv (.t 21))]
def takes_c : AC := (.seq (.reg takes_r0) (.seq (.reg takes_r1) (.seq (.seq (.reg takes_r2) (.cond (.t 11) (.reg takes_r3) .skip)) (.seq (.reg takes_r4) .ret))))
def takes_res : List ARes := [(.tmp 4)]
set_option maxRecDepth 100000 in
theorem takes_get : getF Tryz.prog 167 93000 [] = some ("gavotte/flow.takes", 22, takes_c, takes_res) := by kernel_rfl
def next_r0 : List AI := [oA 3 (.box 95003 2 (.t 1)), oA 4 (.mv (.c .nils))]
def next_r1 : List AI := [oA 5 (.fld 0 (.t 3)), oA 6 (.load none (.t 5))]
def next_r2 : List AI := [oA 8 (.ibin .eql (.t 6) (.c (.int .i64 20))), oA 7 (.mv (.t 8))]
def next_r3 : List AI := [oA 9 (.fld 1 (.t 3)), oA 10 (.load none (.t 9)), oA 11 (.bsl 95011 1 3 1 (.int .i64 0) [(0, (.t 10))]), oA 4 (.mv (.t 11))]
def next_r4 : List AI := [oA 13 (.ibin .eql (.t 6) (.c (.int .i64 21))), oA 12 (.mv (.t 13))]
def next_r5 : List AI := [oA 14 (.fld 1 (.t 3)), oA 15 (.load none (.t 14)), oA 16 (.mv (.t 0)), oA 17 (.ibin .add (.t 16) (.c (.int .i64 1))), oA 18 (.bsl 95018 1 3 2 (.int .i64 0) [(0, (.t 15)), (1, (.t 17))]), oA 4 (.mv (.t 18))]
def next_r6 : List AI := [oA 20 (.ibin .eql (.t 6) (.c (.int .i64 25))), oA 19 (.mv (.t 20))]
def next_r7 : List AI := [oA 4 (.mv (.c .nils))]
def next_r8 : List AI := [oA 21 (.mv (.t 0)), oA 22 (.ibin .add (.t 21) (.c (.int .i64 1))), oA 23 (.bsl 95023 1 3 1 (.int .i64 0) [(0, (.t 22))]), oA 4 (.mv (.t 23))]
def next_c : AC := (.seq (.reg next_r0) (.seq (.seq (.reg next_r1) (.block 0 (.seq (.reg next_r2) (.cond (.t 7) (.seq (.reg next_r3) .ret) (.seq (.reg next_r4) (.cond (.t 12) (.seq (.reg next_r5) .ret) (.seq (.reg next_r6) (.cond (.t 19) (.seq (.reg next_r7) .ret) .skip)))))))) (.seq (.reg next_r8) .ret)))
def next_res : List ARes := [(.tmp 4)]
set_option maxRecDepth 100000 in
theorem next_get : getF Tryz.prog 169 95000 [] = some ("gavotte/flow.next", 24, next_c, next_res) := by kernel_rfl
def mul64_r0 : List AI := [oA 4 (.mv (.c (.int .u64 0))), oA 5 (.mv (.c (.int .u64 0)))]
def mul64_r1 : List AI := [oA 14 (.mv (.t 0)), oA 15 (.ibin .and (.t 14) (.c (.int .u64 4294967295))), oA 6 (.mv (.t 15))]
def mul64_r2 : List AI := [oA 16 (.mv (.t 0)), oA 17 (.shift false (.t 16) (.c (.int .u64 32))), oA 7 (.mv (.t 17))]
def mul64_r3 : List AI := [oA 18 (.mv (.t 1)), oA 19 (.ibin .and (.t 18) (.c (.int .u64 4294967295))), oA 8 (.mv (.t 19))]
def mul64_r4 : List AI := [oA 20 (.mv (.t 1)), oA 21 (.shift false (.t 20) (.c (.int .u64 32))), oA 9 (.mv (.t 21))]
def mul64_r5 : List AI := [oA 22 (.mv (.t 6)), oA 23 (.mv (.t 8)), oA 24 (.ibin .mul (.t 22) (.t 23)), oA 10 (.mv (.t 24))]
def mul64_r6 : List AI := [oA 25 (.mv (.t 7)), oA 26 (.mv (.t 8)), oA 27 (.ibin .mul (.t 25) (.t 26)), oA 28 (.mv (.t 10)), oA 29 (.shift false (.t 28) (.c (.int .u64 32))), oA 30 (.ibin .add (.t 27) (.t 29)), oA 11 (.mv (.t 30))]
def mul64_r7 : List AI := [oA 31 (.mv (.t 11)), oA 32 (.ibin .and (.t 31) (.c (.int .u64 4294967295))), oA 12 (.mv (.t 32))]
def mul64_r8 : List AI := [oA 33 (.mv (.t 11)), oA 34 (.shift false (.t 33) (.c (.int .u64 32))), oA 13 (.mv (.t 34))]
def mul64_r9 : List AI := [oA 35 (.mv (.t 12)), oA 36 (.mv (.t 6)), oA 37 (.mv (.t 9)), oA 38 (.ibin .mul (.t 36) (.t 37)), oA 39 (.ibin .add (.t 35) (.t 38)), oA 12 (.mv (.t 39))]
def mul64_r10 : List AI := [oA 40 (.mv (.t 7)), oA 41 (.mv (.t 9)), oA 42 (.ibin .mul (.t 40) (.t 41)), oA 43 (.mv (.t 13)), oA 44 (.ibin .add (.t 42) (.t 43)), oA 45 (.mv (.t 12)), oA 46 (.shift false (.t 45) (.c (.int .u64 32))), oA 47 (.ibin .add (.t 44) (.t 46)), oA 4 (.mv (.t 47))]
def mul64_r11 : List AI := [oA 48 (.mv (.t 0)), oA 49 (.mv (.t 1)), oA 50 (.ibin .mul (.t 48) (.t 49)), oA 5 (.mv (.t 50))]
def mul64_c : AC := (.seq (.reg mul64_r0) (.seq (.reg mul64_r1) (.seq (.reg mul64_r2) (.seq (.reg mul64_r3) (.seq (.reg mul64_r4) (.seq (.reg mul64_r5) (.seq (.reg mul64_r6) (.seq (.reg mul64_r7) (.seq (.reg mul64_r8) (.seq (.reg mul64_r9) (.seq (.reg mul64_r10) (.seq (.reg mul64_r11) .ret))))))))))))
def mul64_res : List ARes := [(.tmp 4), (.tmp 5)]
set_option maxRecDepth 100000 in
theorem mul64_get : getF Tryz.prog 232 120000 [] = some ("math/bits.Mul64", 51, mul64_c, mul64_res) := by kernel_rfl
def mul_r0 : List AI := [oA 4 (.mv (.c (.int .u64 0))), oA 5 (.mv (.c (.int .u64 0)))]
def mul_r1 : List AI := [oA 11 (.mv (.t 0)), oA 12 (.conv .u32 (.t 11)), oA 13 (.mv (.t 1)), oA 14 (.conv .u32 (.t 13)), oC 15 (.c (.fn 231 [])) [(.t 12), (.t 14)], oA 10 (.mv (.t 15)), oA 16 (.ext (.t 10) 0), oA 17 (.ext (.t 10) 1), oA 6 (.mv (.t 16)), oA 7 (.mv (.t 17))]
def mul_r2 : List AI := [oA 18 (.mv (.t 6)), oA 19 (.conv .u64 (.t 18)), oA 20 (.mv (.t 7)), oA 21 (.conv .u64 (.t 20)), oA 4 (.mv (.t 19)), oA 5 (.mv (.t 21))]
def mul_r3 : List AI := [oA 23 (.mv (.t 0)), oA 24 (.mv (.t 1)), oC 25 (.c (.fn 232 [])) [(.t 23), (.t 24)], oA 22 (.mv (.t 25)), oA 26 (.ext (.t 22) 0), oA 27 (.ext (.t 22) 1), oA 8 (.mv (.t 26)), oA 9 (.mv (.t 27))]
def mul_r4 : List AI := [oA 28 (.mv (.t 8)), oA 29 (.mv (.t 9)), oA 4 (.mv (.t 28)), oA 5 (.mv (.t 29))]
def mul_c : AC := (.seq (.reg mul_r0) (.seq (.cond (.c (.bool false)) (.seq (.reg mul_r1) (.seq (.reg mul_r2) .ret)) .skip) (.seq (.reg mul_r3) (.seq (.reg mul_r4) .ret))))
def mul_res : List ARes := [(.tmp 4), (.tmp 5)]
set_option maxRecDepth 100000 in
theorem mul_get : getF Tryz.prog 209 105000 [] = some ("math/bits.Mul", 30, mul_c, mul_res) := by kernel_rfl
attribute [simp] pops_r0 pops_r1 pops_r2 pops_r3 pops_r4 pops_r5 pops_r6 pops_r7 pops_r8 pops_r9 pops_r10 pops_r11 pops_r12 pops_r13 pops_res puts_r0 puts_r1 puts_r2 puts_r3 puts_r4 puts_r5 puts_r6 puts_r7 puts_r8 puts_r9 puts_r10 puts_res takes_r0 takes_r1 takes_r2 takes_r3 takes_r4 takes_res next_r0 next_r1 next_r2 next_r3 next_r4 next_r5 next_r6 next_r7 next_r8 next_res mul64_r0 mul64_r1 mul64_r2 mul64_r3 mul64_r4 mul64_r5 mul64_r6 mul64_r7 mul64_r8 mul64_r9 mul64_r10 mul64_r11 mul64_res mul_r0 mul_r1 mul_r2 mul_r3 mul_r4 mul_res
def popsV (n : Int) : Int := if n = 4 \/ (9 <= n /\ n <= 13) \/ (15 <= n /\ n <= 18) then 2 else if n = 2 \/ n = 3 \/ n = 6 \/ n = 14 \/ n = 19 \/ n = 21 \/ n = 22 then 1 else 0
def putsV (n : Int) : Int := if n = 3 \/ n = 4 then 2 else if n = 1 \/ n = 5 \/ n = 7 \/ n = 8 \/ (9 <= n /\ n <= 19) then 1 else 0
theorem popsV_range (n : Int) : 0 <= popsV n /\ popsV n <= 2 := by unfold popsV; split <;> (try split) <;> omega
theorem putsV_range (n : Int) : 0 <= putsV n /\ putsV n <= 2 := by unfold putsV; split <;> (try split) <;> omega
theorem pops_pc (n : Int) : PC Tryz.prog 174 [iv n] (iv (popsV n)) := by
 refine pc_of_get pops_get (by simp) _ (by simp) _ ?_
 unfold pops_c
 simp
 repeat' (refine split (fun hc => ?_) (fun hc => ?_) <;> simp [*])
 all_goals grind [popsV]
theorem puts_pc (n : Int) : PC Tryz.prog 168 [iv n] (iv (putsV n)) := by
 refine pc_of_get puts_get (by simp) _ (by simp) _ ?_
 unfold puts_c
 simp
 repeat' (refine split (fun hc => ?_) (fun hc => ?_) <;> simp [*])
 all_goals grind [putsV]
theorem lit25 {n : Int} (h1 : 1 <= n) (h2 : n <= 25) : n = 1 \/ n = 2 \/ n = 3 \/ n = 4 \/ n = 5 \/ n = 6 \/ n = 7 \/ n = 8 \/ n = 9 \/ n = 10 \/ n = 11 \/ n = 12 \/ n = 13 \/ n = 14 \/ n = 15 \/ n = 16 \/ n = 17 \/ n = 18 \/ n = 19 \/ n = 20 \/ n = 21 \/ n = 22 \/ n = 23 \/ n = 24 \/ n = 25 := by omega
def argsOf (hs : List Hnd) (a : Int) : Int := (hs[a.toNat]?.map Hnd.args).getD 0
def takesV (hs : List Hnd) (i : Ins) : Int := popsV i.op + if i.op = 22 then argsOf hs i.a else 0
def insOk (hs : List Hnd) (i : Ins) : Prop := i.op = 22 -> 0 <= i.a /\ i.a.toNat < hs.length /\ 0 <= argsOf hs i.a /\ argsOf hs i.a <= 4
theorem takesV_range {hs : List Hnd} {i : Ins} (h : insOk hs i) : 0 <= takesV hs i /\ takesV hs i <= 6 := by
 have := popsV_range i.op
 unfold takesV
 split
 . rename_i h1; have := h h1; omega
 . omega
theorem takes_pc (p : Prg) (i : Ins) (h : insOk p.hs i) : PC Tryz.prog 167 [p.av, i.av] (iv (takesV p.hs i)) := by
 refine pc_of_get takes_get (by simp) _ (by simp) _ ?_
 unfold takes_c
 simp
 refine call (pops_pc i.op) (by simp) ?_
 simp
 refine split (fun h1 => ?_) (fun h1 => ?_) <;> simp [h1]
 . obtain ⟨h2, h3, h4, h5⟩ := h h1
   have e : argsOf p.hs i.a = p.hs[i.a.toNat].args := by simp [argsOf, h3]
   have := popsV_range 22
   simp [h2, h3, takesV, h1]
   rw [wrap_in _ (by omega) (by omega)]
   omega
 . simp [takesV, h1]
def nextV (at' : Nat) (i : Ins) : List Nat :=
 if i.op = 20 then [i.a.toNat] else if i.op = 21 then [i.a.toNat, at' + 1] else if i.op = 25 then [] else [at' + 1]
def nats (l : List Nat) : AV := .lst 1 (l.map (fun n : Nat => iv n))
theorem next_pc (n : Nat) (i : Ins) (hn : n < 4611686018427387904) (h : i.op = 20 \/ i.op = 21 -> 0 <= i.a) : PC Tryz.prog 169 [iv n, i.av] (nats (nextV n i)) := by
 have w : IntKind.i64.wrap ((n : Int) + 1) = (n : Int) + 1 := wrap_in _ (by omega) (by omega)
 refine pc_of_get next_get (by simp) _ (by simp) _ ?_
 unfold next_c
 simp
 refine split (fun h1 => ?_) (fun h1 => ?_) <;> simp [h1]
 . have := h (.inl h1)
   simp [nextV, h1, nats]; omega
 refine split (fun h2 => ?_) (fun h2 => ?_) <;> simp [h2]
 . have := h (.inr h2)
   simp [nextV, h2, nats, w]; omega
 refine split (fun h3 => ?_) (fun h3 => ?_) <;> simp [h3]
 . simp [nextV, h3, nats]
 . simp [nextV, h1, h2, h3, nats, w]
abbrev uv (n : Int) : AV := .int .u64 n
theorem u64_wrap (n : Int) (h1 : 0 <= n) (h2 : n < 18446744073709551616) : IntKind.u64.wrap n = n := by
 simp [IntKind.wrap, IntKind.signed, IntKind.bits]; omega
theorem u64_low (n : Nat) (h : n < 18446744073709551616) : bitAnd .u64 (n : Int) 4294967295 = ((n % 4294967296 : Nat) : Int) := by
 have e : (BitVec.ofInt 64 (n : Int) &&& BitVec.ofInt 64 4294967295).toNat = n % 4294967296 := by
   have e1 : (BitVec.ofInt 64 (n : Int)).toNat = n := by rw [BitVec.toNat_ofInt]; omega
   have e2 : (BitVec.ofInt 64 4294967295).toNat = 2 ^ 32 - 1 := by decide
   rw [BitVec.toNat_and, e1, e2, Nat.and_two_pow_sub_one_eq_mod]
 show IntKind.u64.wrap ((BitVec.ofInt 64 (n : Int) &&& BitVec.ofInt 64 4294967295).toNat : Int) = _
 rw [e, u64_wrap _ (by omega) (by omega)]
theorem shr32 (n : Nat) : shiftI false .u64 n 32 = ((n / 4294967296 : Nat) : Int) := by
 show (n : Int).fdiv 4294967296 = _
 rw [Int.fdiv_eq_ediv_of_nonneg _ (by decide)]; rfl
theorem mul64_pc (n : Nat) (h : n < 4294967296) : PC Tryz.prog 232 [uv 1, uv n] (.tup [uv 0, uv n]) := by
 refine pc_of_get mul64_get (by simp) _ (by simp) _ ?_
 unfold mul64_c
 have e1 : bitAnd .u64 1 4294967295 = 1 := u64_low 1 (by omega)
 have e2 := u64_low n (by omega)
 rw [Nat.mod_eq_of_lt h] at e2
 have e0 : bitAnd .u64 0 4294967295 = 0 := u64_low 0 (by omega)
 have w0 : IntKind.u64.wrap 0 = 0 := by decide
 have wn : IntKind.u64.wrap (n : Int) = n := u64_wrap _ (by omega) (by omega)
 have s0 : shiftI false .u64 1 32 = 0 := shr32 1
 have s1 := shr32 n
 rw [Nat.div_eq_of_lt h] at s1
 have s2 : shiftI false .u64 0 32 = 0 := shr32 0
 simp only [Int.natCast_zero] at s1
 simp [e1, e2, s0, s1, s2, wn, w0, e0]
theorem mul_pc (n : Nat) (h : n < 4294967296) : PC Tryz.prog 209 [uv 1, uv n] (.tup [uv 0, uv n]) := by
 refine pc_of_get mul_get (by simp) _ (by simp) _ ?_
 unfold mul_c
 simp
 refine call (mul64_pc n h) (by simp) ?_
 simp
end Go.Gv

namespace Go.Gv
open Go.Proofs
def rep_r0 : List AI := [oA 4 (.mv (.c .nils))]
def rep_r1 : List AI := [oA 9 (.mv (.t 1)), oA 10 (.ibin .lss (.t 9) (.c (.int .i64 0)))]
def rep_r2 : List AI := [⟨(some 11), none, (.op .bad)⟩, ⟨none, none, (.op .bad)⟩]
def rep_r3 : List AI := [oA 13 (.mv (.t 0)), oA 14 (.len (.t 13)), oA 15 (.conv .u64 (.t 14)), oA 16 (.mv (.t 1)), oA 17 (.conv .u64 (.t 16)), oC 18 (.c (.fn 209 [])) [(.t 15), (.t 17)], oA 12 (.mv (.t 18)), oA 19 (.ext (.t 12) 0), oA 20 (.ext (.t 12) 1), oA 5 (.mv (.t 19)), oA 6 (.mv (.t 20))]
def rep_r4 : List AI := [oA 21 (.mv (.t 5)), oA 22 (.ibin .gtr (.t 21) (.c (.int .u64 0))), oA 23 (.mv (.t 22)), oG 24 23 false (.mv (.t 6)), oG 25 23 false (.ibin .gtr (.t 24) (.c (.int .u64 9223372036854775807))), oA 26 (.pick (.t 23) (.c (.bool true)) (.t 25))]
def rep_r5 : List AI := [⟨(some 27), none, (.op .bad)⟩, ⟨none, none, (.op .bad)⟩]
def rep_r6 : List AI := [oA 28 (.mv (.t 6)), oA 29 (.conv .i64 (.t 28)), oA 30 (.msl 92030 1 8 (.int .i64 0) (.t 29)), oA 7 (.mv (.t 30))]
def rep_r7 : List AI := [oA 31 (.mv (.t 7)), oA 32 (.mv (.t 0)), oA 33 (.cpy 1 (.t 31) (.t 32)), oA 8 (.mv (.t 33))]
def rep_r8 : List AI := [oA 34 (.mv (.t 8)), oA 35 (.mv (.t 7)), oA 36 (.len (.t 35)), oA 37 (.ibin .lss (.t 34) (.t 36))]
def rep_r9 : List AI := [oA 38 (.mv (.t 8)), oA 39 (.mv (.t 7)), oA 40 (.mv (.t 8)), oA 41 (.slice (some 1) (.t 39) (some (.t 40)) none), oA 42 (.mv (.t 7)), oA 43 (.mv (.t 8)), oA 44 (.slice (some 1) (.t 42) none (some (.t 43))), oA 45 (.cpy 1 (.t 41) (.t 44)), oA 46 (.ibin .add (.t 38) (.t 45)), oA 8 (.mv (.t 46))]
def rep_p9 : List (List Nat) := [[], [], [], [1, 2], [], [], [4, 5], [3, 6, 1, 2, 4, 5], [0, 7, 3, 6, 1, 2, 4, 5], [8, 7, 0, 1, 2, 3, 4, 5, 6]]
def rep_l0 : AC := (.seq (.seq (.reg rep_r8) (.cond (.t 37) .skip (.exit 0))) (.block 1 (.regd rep_r9 rep_p9)))
def rep_r10 : List AI := [oA 47 (.mv (.t 7)), oA 4 (.mv (.t 47))]
def rep_c : AC := (.seq (.reg rep_r0) (.seq (.seq (.reg rep_r1) (.cond (.t 10) (.reg rep_r2) .skip)) (.seq (.reg rep_r3) (.seq (.seq (.reg rep_r4) (.cond (.t 26) (.reg rep_r5) .skip)) (.seq (.reg rep_r6) (.seq (.reg rep_r7) (.seq (.block 0 (.loop rep_l0)) (.seq (.reg rep_r10) .ret))))))))
def rep_res : List ARes := [(.tmp 4)]
set_option maxRecDepth 100000 in
theorem rep_get : getF Tryz.prog 166 92000 [] = some ("slices.Repeat[[]int,int]", 48, rep_c, rep_res) := by kernel_rfl
attribute [simp] rep_r0 rep_r1 rep_r2 rep_r3 rep_r4 rep_r5 rep_r6 rep_r7 rep_r8 rep_r9 rep_p9 rep_r10 rep_res
theorem replicate_copy (n c : Nat) (a z : AV) (h1 : 0 < n) (h2 : n < c) :
   List.replicate n a ++ (List.replicate (min n (c - n)) a ++ (List.replicate n a ++ List.replicate (c - n) z).drop (n + min n (c - n))) =
     List.replicate (n + min n (c - n)) a ++ List.replicate (c - (n + min n (c - n))) z := by
 rw [List.drop_append]
 simp only [List.drop_replicate, List.length_replicate]
 have e2 : n - (n + min n (c - n)) = 0 := by omega
 rw [e2, List.replicate_zero, List.nil_append, <- List.append_assoc, List.replicate_append_replicate]
 congr 1
 congr 1; omega
theorem repeat_v (x v : Int) (c : Nat) (hv : v = c) (hc : 1 <= c) (hc2 : c <= 1000) (nm st0 : Nat) {S : St} {k : AV -> St -> Prop} {u : Dep k}
   (hk : ∀ st S', Fr (rng 92000 93000) S S' -> S'.blk 92030 = some ⟨st, 1, List.replicate c (iv x)⟩ -> k (.sl 92030 st 1 0 c) S') :
   CallG Tryz.prog (.fn 166 []) [.acc nm st0 1 [iv x], iv v] S k u := by
 subst hv
 refine callV rep_get (by simp) (by simp) ?_
 unfold rep_c
 have w1 : IntKind.u64.wrap (c : Int) = c := u64_wrap _ (by omega) (by omega)
 have w2 : IntKind.u64.wrap 1 = 1 := by decide
 have w3 : IntKind.i64.wrap (c : Int) = c := wrap_in _ (by omega) (by omega)
 have n1 : ¬ ((c : Int) < 0) := by omega
 have n2 : ¬ ((c : Int) > 9223372036854775807) := by omega
 have n2' : ¬ (9223372036854775807 < (c : Int)) := by omega
 simp [n1, w1, w2]
 refine call (mul_pc c (by omega)) (by simp) ?_
 have hm : c * 8 <= 140737488355328 := by omega
 have hl1 : min 1 c = 1 := by omega
 simp [n2, n2', w3, hm, hl1]
 refine loopM (fun m S' => ∃ (n : Nat), m = c - n /\ 1 <= n /\ n <= c /\ S'.t 8 = iv n /\ (∃ st, S'.t 7 = .sl 92030 st 1 0 c /\ S'.blk 92030 = some ⟨st, 1, List.replicate n (iv x) ++ List.replicate (c - n) (iv 0)⟩) /\ Fh (rng 92000 93000) S S') (c - 1) ?_ ?_
 . refine ⟨1, rfl, by omega, hc, by simp, ⟨S.clk + 1 + 2 + 11 + 6 + 1 + 1, by simp, ?_⟩, ?_⟩
   . simp
   . exact Fh.here (fun n hn => by repeat rw [upd_out hn rfl]) (fun n hn => rfl) (by omega)
 . rintro m S' ⟨n, rfl, h1, h2, g8, ⟨st, g7, gb⟩, hF⟩
   by_cases hlt : n < c
   . have hw : IntKind.i64.wrap ((n : Int) + ((min n (c - n) : Nat) : Int)) = ((n + min n (c - n) : Nat) : Int) := by rw [wrap_in _ (by omega) (by omega)]; omega
     have hle : n + (c - n) <= c := by omega
     have hcopy := replicate_copy n c (iv x) (iv 0) h1 hlt
     have hmin : min n c = n := by omega
     simp [rep_l0, g7, g8, gb, hlt, h2, hle]
     exact ⟨c - (n + min n (c - n)), by omega, n + min n (c - n), rfl, by omega, by omega, hw, hcopy, hF.step (fun n hn => by repeat rw [upd_out hn rfl]) (fun n hn => rfl) (by omega)⟩
   . have e : n = c := by omega
     subst e
     simp [rep_l0, g7, g8, gb]
     refine hk st _ ⟨rfl, hF.b, hF.k, by have := hF.c; simp only []; omega⟩ ?_
     simpa using gb
end Go.Gv

namespace Go.Gv
open Go.Proofs
def walk_r0 : List AI := [oA 2 (.box 79002 4 (.t 0)), oA 3 (.box 79003 2 (.t 1)), oA 4 (.mv (.c .nils)), oA 5 (.mv (.c (.int .i64 0))), oA 6 (.mv (.c (.bool false)))]
def walk_r1 : List AI := [oA 13 (.bsl 79013 1 3 1 (.int .i64 0) [(0, (.c (.int .i64 (-1))))]), oA 14 (.fld 1 (.t 3)), oA 15 (.load none (.t 14)), oA 16 (.len (.t 15)), oA 17 (.ibin .add (.t 16) (.c (.int .i64 1))), oC 18 (.c (.fn 166 [])) [(.t 13), (.t 17)], oA 4 (.mv (.t 18))]
def walk_r2 : List AI := [oA 19 (.mv (.t 4)), oA 20 (.idx 1 (.t 19) (.c (.int .i64 0))), oN (.store 1 (.t 20) (.c (.int .i64 0)))]
def walk_r3 : List AI := [oA 21 (.bslm 1000079021 1 3 1 (.int .i64 0) [(0, (.c (.int .i64 0)))]), oA 7 (.mv (.t 21))]
def walk_r4 : List AI := [oA 22 (.mv (.t 7)), oA 23 (.len (.t 22)), oA 24 (.ibin .gtr (.t 23) (.c (.int .i64 0)))]
def walk_r5 : List AI := [oA 25 (.mv (.t 7)), oA 26 (.idx 1 (.t 25) (.c (.int .i64 0))), oA 27 (.load none (.t 26)), oA 8 (.mv (.t 27))]
def walk_r6 : List AI := [oA 28 (.mv (.t 7)), oA 29 (.slice (some 1) (.t 28) (some (.c (.int .i64 1))) none), oA 7 (.mv (.t 29))]
def walk_r7 : List AI := [oA 30 (.mv (.t 8)), oA 31 (.fld 1 (.t 3)), oA 32 (.load none (.t 31)), oA 33 (.len (.t 32)), oA 34 (.ibin .eql (.t 30) (.t 33))]
def walk_r8 : List AI := [oA 35 (.fld 1 (.t 3)), oA 36 (.load none (.t 35)), oA 37 (.mv (.t 8)), oA 38 (.idx 2 (.t 36) (.t 37)), oA 39 (.load (some 2) (.t 38)), oA 9 (.new 79009 2 (.agg [(.int .i64 0), (.int .i64 0)])), oN (.store 2 (.t 9) (.t 39))]
def walk_r9 : List AI := [oA 40 (.mv (.t 4)), oA 41 (.mv (.t 8)), oA 42 (.idx 1 (.t 40) (.t 41)), oA 43 (.load none (.t 42)), oA 44 (.load (some 4) (.t 2)), oA 45 (.load (some 2) (.t 9)), oC 46 (.c (.fn 167 [])) [(.t 44), (.t 45)], oA 47 (.ibin .sub (.t 43) (.t 46)), oA 10 (.mv (.t 47))]
def walk_p9 : List (List Nat) := [[], [], [0, 1], [2, 0, 1], [], [], [4, 5], [3, 6, 2, 0, 1, 4, 5], [7, 6, 0, 1, 2, 3, 4, 5]]
def walk_r10 : List AI := [oA 48 (.mv (.t 10)), oA 49 (.ibin .lss (.t 48) (.c (.int .i64 0))), oA 50 (.mv (.t 49)), oG 51 50 false (.mv (.t 10)), oG 52 50 false (.fld 0 (.t 9)), oG 53 50 false (.load none (.t 52)), ⟨(some 54), (some (50, false)), (.call (.c (.fn 168 [])) [(.t 53)])⟩, oG 55 50 false (.ibin .add (.t 51) (.t 54)), oG 56 50 false (.ibin .gtr (.t 55) (.c (.int .i64 8))), oA 57 (.pick (.t 50) (.c (.bool true)) (.t 56))]
def walk_r11 : List AI := [oA 4 (.mv (.c .nils)), oA 5 (.mv (.c (.int .i64 0))), oA 6 (.mv (.c (.bool false)))]
def walk_r12 : List AI := [oA 58 (.mv (.t 10)), oA 59 (.fld 0 (.t 9)), oA 60 (.load none (.t 59)), oC 61 (.c (.fn 168 [])) [(.t 60)], oA 62 (.ibin .add (.t 58) (.t 61)), oA 10 (.mv (.t 62))]
def walk_r13 : List AI := [oA 63 (.mv (.t 5)), oA 64 (.mv (.t 4)), oA 65 (.mv (.t 8)), oA 66 (.idx 1 (.t 64) (.t 65)), oA 67 (.load none (.t 66)), oA 68 (.mv (.t 10)), oA 69 (.mm true (.t 63) [(.t 67), (.t 68)]), oA 5 (.mv (.t 69))]
def walk_r14 : List AI := [oA 70 (.mv (.t 8)), oA 71 (.load (some 2) (.t 9)), oC 72 (.c (.fn 169 [])) [(.t 70), (.t 71)], oA 73 (.len (.t 72)), oA 74 (.mv (.c (.int .i64 0)))]
def walk_r15 : List AI := [oA 75 (.ibin .lss (.t 74) (.t 73))]
def walk_r16 : List AI := [oA 76 (.idx 1 (.t 72) (.t 74)), oA 77 (.load none (.t 76)), oA 12 (.mv (.t 77))]
def walk_r17 : List AI := [oA 78 (.mv (.t 4)), oA 79 (.mv (.t 12)), oA 80 (.idx 1 (.t 78) (.t 79)), oA 81 (.load none (.t 80)), oA 82 (.ibin .eql (.t 81) (.c (.int .i64 (-1))))]
def walk_r18 : List AI := [oA 83 (.mv (.t 4)), oA 84 (.mv (.t 12)), oA 85 (.mv (.t 10)), oA 86 (.idx 1 (.t 83) (.t 84)), oN (.store 1 (.t 86) (.t 85))]
def walk_r19 : List AI := [oA 87 (.mv (.t 7)), oA 88 (.mv (.t 12)), oA 89 (.bsl 79089 1 3 1 (.int .i64 0) [(0, (.t 88))]), oA 90 (.appw 1000079021 1 3 8 (.t 87) (.t 89)), oA 7 (.mv (.t 90))]
def walk_r20 : List AI := [oA 91 (.mv (.t 4)), oA 92 (.mv (.t 12)), oA 93 (.idx 1 (.t 91) (.t 92)), oA 94 (.load none (.t 93)), oA 95 (.mv (.t 10)), oA 96 (.ibin .neq (.t 94) (.t 95))]
def walk_r21 : List AI := [oA 4 (.mv (.c .nils)), oA 5 (.mv (.c (.int .i64 0))), oA 6 (.mv (.c (.bool false)))]
def walk_r22 : List AI := [oA 97 (.ibin .add (.t 74) (.c (.int .i64 1))), oA 74 (.mv (.t 97))]
def walk_l0 : AC := (.seq (.reg walk_r15) (.seq (.cond (.t 75) .skip (.exit 2)) (.seq (.block 3 (.seq (.reg walk_r16) (.seq (.seq (.reg walk_r17) (.cond (.t 82) (.seq (.reg walk_r18) (.reg walk_r19)) .skip)) (.seq (.reg walk_r20) (.cond (.t 96) (.seq (.reg walk_r21) .ret) .skip))))) (.reg walk_r22))))
def walk_l1 : AC := (.seq (.seq (.reg walk_r4) (.cond (.t 24) .skip (.exit 0))) (.block 1 (.seq (.reg walk_r5) (.seq (.reg walk_r6) (.seq (.seq (.reg walk_r7) (.cond (.t 34) (.exit 1) .skip)) (.seq (.reg walk_r8) (.seq (.regd walk_r9 walk_p9) (.seq (.seq (.reg walk_r10) (.cond (.t 57) (.seq (.reg walk_r11) .ret) .skip)) (.seq (.reg walk_r12) (.seq (.reg walk_r13) (.seq (.reg walk_r14) (.block 2 (.loop walk_l0)))))))))))))
def walk_r23 : List AI := [oA 98 (.mv (.t 4)), oA 99 (.mv (.t 5)), oA 4 (.mv (.t 98)), oA 5 (.mv (.t 99)), oA 6 (.mv (.c (.bool true)))]
def walk_c : AC := (.seq (.reg walk_r0) (.seq (.reg walk_r1) (.seq (.reg walk_r2) (.seq (.seq (.reg walk_r3) (.block 0 (.loop walk_l1))) (.seq (.reg walk_r23) .ret)))))
def walk_res : List ARes := [(.tmp 4), (.tmp 5), (.tmp 6)]
set_option maxRecDepth 100000 in
theorem walk_get : getF Tryz.prog 123 79000 [(21, 1000000021), (90, 1000000021)] = some ("gavotte/flow.walk", 100, walk_c, walk_res) := by kernel_rfl
attribute [simp] walk_r0 walk_r1 walk_r2 walk_r3 walk_r4 walk_r5 walk_r6 walk_r7 walk_r8 walk_r9 walk_p9 walk_r10 walk_r11 walk_r12 walk_r13 walk_r14 walk_r15 walk_r16 walk_r17 walk_r18 walk_r19 walk_r20 walk_r21 walk_r22 walk_r23 walk_res
def visit1 (n : Int) (s : List Int × List Nat) (k : Nat) : Option (List Int × List Nat) :=
 if s.1[k]? = some (-1) then some (s.1.set k n, s.2 ++ [k]) else if s.1[k]? = some n then some s else none
def visitL (n : Int) : List Nat -> List Int × List Nat -> Option (List Int × List Nat)
 | [], s => some s
 | k :: ks, s => (visit1 n s k).bind (visitL n ks)
def walkGo (hs : List Hnd) (code : List Ins) : Nat -> List Int -> List Nat -> Int -> Option (List Int × Int)
 | 0, _, _, _ => none
 | _ + 1, out, [], most => some (out, most)
 | f + 1, out, a :: left, most =>
   if a = code.length then walkGo hs code f out left most else
     match code[a]?, out[a]? with
     | some i, some d =>
       if d - takesV hs i < 0 \/ d - takesV hs i + putsV i.op > 8 then none else
         match visitL (d - takesV hs i + putsV i.op) (nextV a i) (out, left) with
         | some s => walkGo hs code f s.1 s.2 (max (max most d) (d - takesV hs i + putsV i.op))
         | none => none
     | _, _ => none
def walkV (hs : List Hnd) (code : List Ins) : Option (List Int × Int) :=
 walkGo hs code (code.length + 3) ((List.replicate (code.length + 1) (-1)).set 0 0) [0] 0
def walkAV : Option (List Int × Int) -> AV
 | some r => .tup [ints r.1, iv r.2, .bool true]
 | none => .tup [ints [], iv 0, .bool false]
def codeOk (hs : List Hnd) (code : List Ins) : Prop := code.length <= 900 /\ ∀ i ∈ code, insOk hs i /\ (i.op = 20 \/ i.op = 21 -> 0 <= i.a /\ i.a <= code.length)
structure WfW (n : Nat) (out : List Int) (left : List Nat) : Prop where
 len : out.length = n + 1
 rng : ∀ x ∈ out, -1 <= x /\ x <= 8
 q : ∀ a ∈ left, a <= n
def unr (out : List Int) : Nat := out.countP (fun x => x == -1)
theorem unr_set (out : List Int) (k : Nat) (n : Int) (h : out[k]? = some (-1)) (hn : n ≠ -1) : unr (out.set k n) + 1 = unr out := by
 induction out generalizing k with
 | nil => simp at h
 | cons x l ih =>
   cases k with
   | zero =>
     simp at h; subst h
     simp [unr, hn]
   | succ k =>
     have := ih k (by simpa using h)
     simp only [unr, List.set_cons_succ, List.countP_cons] at this ⊢
     omega
theorem visit1_ok {m : Nat} {n : Int} {s s' : List Int × List Nat} {k : Nat} (h : visit1 n s k = some s') (hk : k <= m) (hn : 0 <= n /\ n <= 8) (hw : WfW m s.1 s.2) : WfW m s'.1 s'.2 /\ unr s'.1 + s'.2.length = unr s.1 + s.2.length := by
 unfold visit1 at h
 split at h
 . rename_i h1
   cases h
   have := unr_set s.1 k n h1 (by omega)
   refine ⟨⟨by simpa using hw.len, ?_, ?_⟩, by simp; omega⟩
   . intro x hx
     rcases List.mem_or_eq_of_mem_set hx with hx | hx
     . exact hw.rng x hx
     . omega
   . intro a ha
     simp at ha
     rcases ha with ha | ha
     . exact hw.q a ha
     . omega
 . split at h
   . cases h; exact ⟨hw, rfl⟩
   . cases h
theorem visitL_ok {m : Nat} {n : Int} : ∀ {ks : List Nat} {s s' : List Int × List Nat}, visitL n ks s = some s' -> (∀ k ∈ ks, k <= m) -> (0 <= n /\ n <= 8) -> WfW m s.1 s.2 -> WfW m s'.1 s'.2 /\ unr s'.1 + s'.2.length = unr s.1 + s.2.length
 | [], s, s', h, _, _, hw => by cases h; exact ⟨hw, rfl⟩
 | k :: ks, s, s', h, hk, hn, hw => by
   simp only [visitL, Option.bind_eq_some_iff] at h
   obtain ⟨s1, h1, h2⟩ := h
   obtain ⟨a1, a2⟩ := visit1_ok h1 (hk k (by simp)) hn hw
   obtain ⟨b1, b2⟩ := visitL_ok h2 (fun k hk' => hk k (by simp [hk'])) hn a1
   exact ⟨b1, b2.trans a2⟩
theorem nextV_le {code : List Ins} {hs : List Hnd} (hc : codeOk hs code) {a : Nat} {i : Ins} (hi : code[a]? = some i) : ∀ k ∈ nextV a i, k <= code.length := by
 have ha := (List.getElem?_eq_some_iff.1 hi).1
 have := (hc.2 i (List.mem_of_getElem? hi)).2
 intro k hk
 unfold nextV at hk
 split at hk
 . rename_i h; have := this (.inl h); simp at hk; omega
 . split at hk
   . rename_i h; have := this (.inr h); simp at hk; omega
   . split at hk
     . simp at hk
     . simp at hk; omega
def LQ (NL : Nat) (S : St) (v : AV) (xs : List AV) : Prop := ∃ st off es, v = .sl NL st 1 off xs.length /\ S.blk NL = some ⟨st, 1, es⟩ /\ off + xs.length <= es.length /\ (es.drop off).take xs.length = xs
theorem take_first {α : Type} {es xs : List α} {x : α} {off : Nat} (h : (es.drop off).take (x :: xs).length = x :: xs) : es[off]? = some x /\ (es.drop (off + 1)).take xs.length = xs := by
 have h0 : ((es.drop off).take (x :: xs).length)[0]? = some x := by rw [h]; rfl
 simp at h0
 refine ⟨h0, ?_⟩
 have hlt := (List.getElem?_eq_some_iff.1 h0).1
 rw [List.drop_eq_getElem_cons hlt, List.length_cons, List.take_succ_cons] at h
 exact (List.cons.inj h).2
theorem list_ints (l : List Int) (blk : Nat -> Option Blk) (nm st : Nat) (hb : blk nm = some ⟨st, 1, l.map iv⟩) : listOf blk 1 (.sl nm st 1 0 l.length) = some (l.map iv) := by
 have e : (l.map iv).take l.length = l.map iv := List.take_of_length_le (by simp)
 rw [listOf_sl]
 simp [hb, e]
def WI (p : Prg) (h : Hnd) (R : Option (List Int × Int)) (f : Nat) (S : St) : Prop :=
 ∃ (out : List Int) (left : List Nat) (most : Int), walkGo p.hs h.code f out left most = R /\ WfW h.code.length out left /\ (unr out + left.length < f /\ f <= h.code.length + 3) /\ (0 <= most /\ most <= 8) /\
   (∃ st, S.t 2 = .ptr 79002 st 4 0 0 /\ S.blk 79002 = some ⟨st, 4, [p.av]⟩) /\ (∃ st, S.t 3 = .ptr 79003 st 2 0 0 /\ S.blk 79003 = some ⟨st, 2, [h.av]⟩) /\
   (∃ st, S.t 4 = .sl 92030 st 1 0 out.length /\ S.blk 92030 = some ⟨st, 1, out.map iv⟩) /\ S.t 5 = iv most /\ LQ 1000079021 S (S.t 7) (left.map (fun n : Nat => iv n))
def WJ (p : Prg) (h : Hnd) (n : Int) (ks : List Nat) (m : Nat) (most : Int) (R : Option (List Int × List Nat)) (j : Nat) (S : St) : Prop :=
 ∃ (out : List Int) (left : List Nat), visitL n (ks.drop j) (out, left) = R /\ WfW h.code.length out left /\ unr out + left.length = m /\
   (∃ st, S.t 2 = .ptr 79002 st 4 0 0 /\ S.blk 79002 = some ⟨st, 4, [p.av]⟩) /\ (∃ st, S.t 3 = .ptr 79003 st 2 0 0 /\ S.blk 79003 = some ⟨st, 2, [h.av]⟩) /\
   (∃ st, S.t 4 = .sl 92030 st 1 0 out.length /\ S.blk 92030 = some ⟨st, 1, out.map iv⟩) /\ S.t 5 = iv most /\ LQ 1000079021 S (S.t 7) (left.map (fun n : Nat => iv n)) /\
   S.t 10 = iv n /\ S.t 72 = nats ks /\ S.t 73 = iv ks.length /\ S.t 74 = iv j
set_option maxHeartbeats 1000000 in
theorem walk_pc (p : Prg) (h : Hnd) (hc : codeOk p.hs h.code) : PC Tryz.prog 123 [p.av, h.av] (walkAV (walkV p.hs h.code)) := by
 have hlen := hc.1
 refine pc_of_get walk_get (by simp) _ (by simp) _ ?_
 unfold walk_c
 have w1 : IntKind.i64.wrap ((h.code.length : Int) + 1) = ((h.code.length + 1 : Nat) : Int) := by rw [wrap_in _ (by omega) (by omega)]; rfl
 simp
 refine repeat_v (-1) _ (h.code.length + 1) w1 (by omega) (by omega) _ _ (fun st S1 hF hb => ?_)
 have ht := hF.t
 have b2 := hF.b 79002 rfl
 have b3 := hF.b 79003 rfl
 simp at b2 b3 ht
 simp [ht, b2, b3, hb]
 clear hF ht
 refine loopM (WI p h (walkV p.hs h.code)) (h.code.length + 3) ?_ ?_
 . refine ⟨(List.replicate (h.code.length + 1) (-1)).set 0 0, [0], 0, rfl, ⟨by simp, ?_, by simp⟩, ?_, by omega, by simp [b2], by simp [b3], ?_, by simp, ?_⟩
   . intro x hx
     rcases List.mem_or_eq_of_mem_set hx with hx | hx
     . have := List.eq_of_mem_replicate hx; omega
     . omega
   . refine ⟨?_, by omega⟩
     simp [unr, List.replicate_succ, List.countP_replicate]
   . simp [List.map_set]
   . exact ⟨_, 0, [iv 0], by simp; rfl, by simp, by simp, by simp⟩
 clear b2 b3 hb S1 st
 rintro f S ⟨out, left, most, hgo, hwf, ⟨hun, hfl⟩, hmost, ⟨s2, g2, b2⟩, ⟨s3, g3, b3⟩, ⟨s4, g4, b4⟩, g5, ⟨s7, off, es, g7, b7, hle, hq⟩⟩
 obtain ⟨f, rfl⟩ : ∃ f', f = f' + 1 := ⟨f - 1, by omega⟩
 cases left with
 | nil =>
   simp at g7
   simp [walkGo] at hgo
   have hl := list_ints out S.blk 92030 s4 b4
   simp [walk_l1, g2, g3, g4, g5, g7, b2, b3, b4, <- hgo, walkAV, hl, ints]
 | cons a left =>
   simp at g7 hle hq
   obtain ⟨q1, q2⟩ := take_first (x := iv a) (xs := left.map (fun n : Nat => iv n)) (off := off) (es := es) (by simpa using hq)
   simp at q2
   have ha := hwf.q a (by simp)
   simp [walk_l1, g2, g3, g4, g5, g7, b2, b3, b4, b7, q1]
   refine split (fun hal => ?_) (fun hal => ?_)
   . have hal : a = h.code.length := by omega
     rw [walkGo, if_pos hal] at hgo
     simp
     refine ⟨f, by omega, out, left, most, hgo, ⟨hwf.len, hwf.rng, fun x hx => hwf.q x (by simp [hx])⟩, by simp at hun; omega, hmost, by simp [g2, b2], by simp [g3, b3], by simp [g4, b4], by simp [g5], ?_⟩
     exact ⟨s7, off + 1, es, by simp, by simp [b7], by simp; omega, by simpa using q2⟩
   . have hlt : a < h.code.length := by omega
     have hne : a ≠ h.code.length := by omega
     have hout := hwf.len
     have hi : h.code[a]? = some h.code[a] := List.getElem?_eq_getElem hlt
     have hd : out[a]? = some out[a] := List.getElem?_eq_getElem (by omega)
     have hlo : a < out.length := by omega
     have hrd := hwf.rng _ (List.getElem_mem (l := out) (n := a) (by omega))
     obtain ⟨hok, hjmp⟩ := hc.2 _ (List.getElem_mem (l := h.code) (n := a) hlt)
     have htk := takesV_range hok
     have hpt := putsV_range (h.code[a]).op
     have wt : IntKind.i64.wrap (out[a] - takesV p.hs h.code[a]) = out[a] - takesV p.hs h.code[a] := wrap_in _ (by omega) (by omega)
     have wp : IntKind.i64.wrap (out[a] - takesV p.hs h.code[a] + putsV (h.code[a]).op) = out[a] - takesV p.hs h.code[a] + putsV (h.code[a]).op := wrap_in _ (by omega) (by omega)
     simp [g2, g3, g4, g5, g7, b2, b3, b4, b7, hlt, hlo]
     refine calld (takes_pc p _ hok) (by simp) ?_
     simp [wt]
     rw [walkGo, if_neg hne, hi, hd] at hgo
     simp only at hgo
     refine split (fun hn1 => ?_) (fun hn1 => ?_) <;> simp [hn1]
     . rw [if_pos (.inl hn1)] at hgo
       simp [<- hgo, walkAV]
     refine call (puts_pc (h.code[a]).op) (by simp) ?_
     simp [wp]
     refine split (fun hn2 => ?_) (fun hn2 => ?_) <;> simp [hn2]
     . rw [if_pos (.inr hn2)] at hgo
       simp [<- hgo, walkAV]
     rw [if_neg (by omega)] at hgo
     refine call (puts_pc (h.code[a]).op) (by simp) ?_
     simp [wp, hlo, g2, g3, g4, g5, b2, b3, b4]
     refine call (next_pc a h.code[a] (by omega) (fun q => (hjmp q).1)) (by simp) ?_
     simp [nats]
     generalize hk : nextV a h.code[a] = ks at hgo ⊢
     generalize hn : out[a] - takesV p.hs h.code[a] + putsV (h.code[a]).op = n at hgo wp ⊢
     have hks : ∀ k ∈ ks, k <= h.code.length := by rw [<- hk]; exact nextV_le hc hi
     have hkl : ks.length <= 2 := by rw [<- hk]; unfold nextV; (repeat' split) <;> simp
     have hn0 : 0 <= n /\ n <= 8 := by omega
     refine loopN (WJ p h n ks (unr out + left.length) (max (max most out[a]) n) (visitL n ks (out, left))) ks.length ?_ ?_
     . exact ⟨out, left, rfl, ⟨hwf.len, hwf.rng, fun x hx => hwf.q x (by simp [hx])⟩, rfl, by simp [g2, b2], by simp [g3, b3], by simp [g4, b4], by simp, ⟨s7, off + 1, es, by simp, by simp [b7], by simp; omega, by simpa using q2⟩, by simp, by simp [nats], by simp, by simp⟩
     . rintro j S2 hj ⟨o2, l2, hv, hw2, hu2, ⟨t2, k2, c2⟩, ⟨t3, k3, c3⟩, ⟨t4, k4, c4⟩, k5, ⟨t7, of2, es2, k7, c7, hle2, hq2⟩, k10, k72, k73, k74⟩
       by_cases hjl : j < ks.length
       . have hd2 : ks.drop j = ks[j] :: ks.drop (j + 1) := List.drop_eq_getElem_cons hjl
         have hkj := hks _ (List.getElem_mem hjl)
         have ho2 := hw2.len
         have hko : ks[j] < o2.length := by omega
         have hr2 := hw2.rng _ (List.getElem_mem hko)
         rw [hd2] at hv
         simp at hle2
         have e2 : o2[ks[j]]? = some o2[ks[j]] := List.getElem?_eq_getElem hko
         simp [walk_l0, nats, k2, k3, k4, k5, k7, k10, k72, k73, k74, c2, c3, c4, c7, hjl, hko]
         have hl2 : (l2.length + 1) * 8 <= 140737488355328 := by simp at hun; omega
         have hq3 : (es2.drop of2).take l2.length = l2.map (fun n : Nat => iv n) := by simpa using hq2
         have wj := wrap_succ j _ hjl (by omega)
         refine split (fun hm1 => ?_) (fun hm1 => ?_)
         . have hv1 : visit1 n (o2, l2) ks[j] = some (o2.set ks[j] n, l2 ++ [ks[j]]) := by
             unfold visit1; rw [if_pos (by rw [e2, hm1])]
           obtain ⟨hw3, hu3⟩ := visit1_ok hv1 hkj hn0 hw2
           simp only [visitL, hv1, Option.bind_some] at hv
           simp [k2, k3, k4, k5, k7, k10, k72, k73, k74, c2, c3, c4, c7, hjl, hko, hle2, hl2, hq3, nats, wj]
           refine ⟨o2.set ks[j] n, l2 ++ [ks[j]], hv, hw3, by simpa [hu2] using hu3, by simp [k2, c2], by simp [k3, c3], by simp [k4, c4, List.map_set], by simp [k5], ?_, by simp [k10], by simp [k72, nats], by simp [k73], by simp⟩
           exact ⟨_, 0, (l2 ++ [ks[j]]).map (fun n : Nat => iv n), by simp; rfl, by simp, by simp, by rw [List.drop_zero]; exact List.take_of_length_le (Nat.le_refl _)⟩
         . simp [k2, k3, k4, k5, k7, k10, k72, k73, k74, c2, c3, c4, c7, hjl, hko, nats]
           refine split (fun hm2 => ?_) (fun hm2 => ?_)
           . have hv1 : visit1 n (o2, l2) ks[j] = some (o2, l2) := by
               unfold visit1; rw [if_neg (by rw [e2]; simpa using hm1), if_pos (by rw [e2, hm2])]
             simp only [visitL, hv1, Option.bind_some] at hv
             simp [k74, wj]
             refine ⟨o2, l2, hv, hw2, hu2, by simp [k2, c2], by simp [k3, c3], by simp [k4, c4], by simp [k5], ?_, by simp [k10], by simp [k72, nats], by simp [k73], by simp⟩
             exact ⟨t7, of2, es2, by simp [k7], by simp [c7], by simpa using hle2, hq2⟩
           . have hv1 : visit1 n (o2, l2) ks[j] = none := by
               unfold visit1; rw [if_neg (by rw [e2]; simpa using hm1), if_neg (by rw [e2]; simpa using hm2)]
             simp only [visitL, hv1, Option.bind_none] at hv
             rw [<- hv] at hgo
             simp only at hgo
             simp [<- hgo, walkAV]
       . have hjl : j = ks.length := by omega
         subst hjl
         rw [List.drop_length] at hv
         simp only [visitL] at hv
         rw [<- hv] at hgo
         simp only at hgo
         simp [walk_l0, k2, k3, k4, k5, k7, k10, k72, k73, k74, c2, c3, c4, c7]
         simp at hun
         refine ⟨f, by omega, o2, l2, _, hgo, hw2, by omega, by omega, by simp [k2, c2], by simp [k3, c3], by simp [k4, c4], by simp [k5], ?_⟩
         exact ⟨t7, of2, es2, by simp [k7], by simp [c7], by simpa using hle2, hq2⟩
end Go.Gv

namespace Go.Gv
open Go.Proofs
def fcheck_r0 : List AI := [oA 1 (.box 36001 4 (.t 0)), oA 2 (.mv (.c (.int .i64 0)))]
def fcheck_r1 : List AI := [oA 9 (.load (some 4) (.t 1)), oC 10 (.c (.fn 122 [])) [(.t 9)], oA 3 (.mv (.t 10))]
def fcheck_r2 : List AI := [oA 11 (.mv (.t 3)), oA 12 (.ibin .neq (.t 11) (.c (.int .i64 0)))]
def fcheck_r3 : List AI := [oA 13 (.mv (.t 3)), oA 2 (.mv (.t 13))]
def fcheck_r4 : List AI := [oA 14 (.fld 0 (.t 1)), oA 15 (.load none (.t 14)), oA 16 (.len (.t 15)), oA 17 (.mv (.c (.int .i64 0)))]
def fcheck_r5 : List AI := [oA 18 (.ibin .lss (.t 17) (.t 16))]
def fcheck_r6 : List AI := [oA 19 (.idx 2 (.t 15) (.t 17)), oA 20 (.load (some 2) (.t 19)), oA 5 (.new 36005 2 (.agg [(.int .i64 0), .nils])), oN (.store 2 (.t 5) (.t 20))]
def fcheck_r7 : List AI := [oA 22 (.load (some 4) (.t 1)), oA 23 (.load (some 2) (.t 5)), oC 24 (.c (.fn 123 [])) [(.t 22), (.t 23)], oA 21 (.mv (.t 24)), oA 25 (.ext (.t 21) 0), oA 26 (.ext (.t 21) 1), oA 27 (.ext (.t 21) 2), oA 6 (.mv (.t 25)), oA 7 (.mv (.t 26)), oA 8 (.mv (.t 27))]
def fcheck_r8 : List AI := [oA 28 (.mv (.t 8)), oA 29 (.not (.t 28))]
def fcheck_r9 : List AI := [oA 2 (.mv (.c (.int .i64 5)))]
def fcheck_r10 : List AI := [oA 30 (.ibin .add (.t 17) (.c (.int .i64 1))), oA 17 (.mv (.t 30))]
def fcheck_l0 : AC := (.seq (.reg fcheck_r5) (.seq (.cond (.t 18) .skip (.exit 0)) (.seq (.block 1 (.seq (.reg fcheck_r6) (.seq (.reg fcheck_r7) (.seq (.reg fcheck_r8) (.cond (.t 29) (.seq (.reg fcheck_r9) .ret) .skip))))) (.reg fcheck_r10))))
def fcheck_r11 : List AI := [oA 2 (.mv (.c (.int .i64 0)))]
def fcheck_c : AC := (.seq (.reg fcheck_r0) (.seq (.seq (.reg fcheck_r1) (.seq (.reg fcheck_r2) (.cond (.t 12) (.seq (.reg fcheck_r3) .ret) .skip))) (.seq (.seq (.reg fcheck_r4) (.block 0 (.loop fcheck_l0))) (.seq (.reg fcheck_r11) .ret))))
def fcheck_res : List ARes := [(.tmp 2)]
set_option maxRecDepth 100000 in
theorem fcheck_get : getF Tryz.prog 89 36000 [] = some ("gavotte/flow.Check", 31, fcheck_c, fcheck_res) := by kernel_rfl
attribute [simp] fcheck_r0 fcheck_r1 fcheck_r2 fcheck_r3 fcheck_r4 fcheck_r5 fcheck_r6 fcheck_r7 fcheck_r8 fcheck_r9 fcheck_r10 fcheck_r11 fcheck_res
theorem firstNZ_zero {l : List Int} (h : firstNZ l = 0) : ∀ x ∈ l, x = 0 := by
 induction l with
 | nil => simp
 | cons a l ih =>
   unfold firstNZ at h
   split at h
   . omega
   . rename_i ha
     intro x hx
     rcases List.mem_cons.1 hx with hx | hx
     . omega
     . exact ih h x hx
theorem checkV_zero {p : Prg} (h : checkV p = 0) : p.hs.length <= 16 /\ p.as.length <= 8 /\ p.boot.length <= 16 /\ 0 < p.as.length /\ 1 <= p.fuel /\ p.fuel <= 256 /\ (∀ x ∈ p.hs, handlerV p.hs.length x = 0) /\ (∀ a ∈ p.as, actorV p.hs a = 0) /\ (∀ n ∈ p.boot, noteV p.hs p.as.length n = 0) := by
 unfold checkV at h
 split at h
 . omega
 . rename_i h1
   split at h
   . omega
   . rename_i h2
     split at h
     . rename_i h3; exact absurd h h3
     . rename_i h3
       split at h
       . rename_i h4; exact absurd h h4
       . rename_i h4
         simp only [ne_eq, Decidable.not_not] at h3 h4
         refine ⟨by omega, by omega, by omega, by omega, by omega, by omega, ?_, ?_, ?_⟩
         . intro x hx; exact firstNZ_zero h3 _ (List.mem_map_of_mem hx)
         . intro x hx; exact firstNZ_zero h4 _ (List.mem_map_of_mem hx)
         . intro x hx; exact firstNZ_zero h _ (List.mem_map_of_mem hx)
theorem handlerV_zero {n : Int} {x : Hnd} (h : handlerV n x = 0) : 0 <= x.args /\ x.args <= 4 /\ x.code.length <= 64 /\ ∀ i ∈ x.code, instrV n x.args x.code.length i = 0 := by
 unfold handlerV at h
 split at h
 . omega
 . rename_i h1
   split at h
   . omega
   . rename_i h2
     exact ⟨by omega, by omega, by omega, fun i hi => firstNZ_zero h _ (List.mem_map_of_mem hi)⟩
theorem instrV_zero {n a k : Int} {i : Ins} (h : instrV n a k i = 0) : 1 <= i.op /\ i.op <= 25 /\ (i.op = 20 \/ i.op = 21 -> 0 <= i.a /\ i.a <= k) /\ (i.op = 5 \/ i.op = 6 -> 0 <= i.a /\ i.a < 8) /\ (i.op = 7 -> 0 <= i.a /\ i.a < a) /\ (i.op = 22 -> 0 <= i.a /\ i.a < n) := by
 unfold instrV at h
 split at h
 . omega
 . rename_i h1
   split at h
   . omega
   . rename_i h2
     split at h
     . omega
     . rename_i h3
       split at h
       . omega
       . rename_i h4
         simp only [not_or, not_and, Decidable.not_not] at h1 h2 h3 h4
         have hop : 1 <= i.op /\ i.op <= 25 := by
           have := h1.1; omega
         refine ⟨hop.1, hop.2, ?_, ?_, ?_, ?_⟩
         . intro q
           have : operandV i.op = 4 := by unfold operandV; rcases q with q | q <;> simp [q]
           have := h2 this; omega
         . intro q
           have : operandV i.op = 2 := by unfold operandV; rcases q with q | q <;> simp [q]
           have := h3.1 this; omega
         . intro q
           have : operandV i.op = 3 := by unfold operandV; simp [q]
           have := h3.2 this; omega
         . intro q
           have : operandV i.op = 5 := by unfold operandV; simp [q]
           have := h4 this; omega
theorem codeOk_of {p : Prg} (h : checkV p = 0) {x : Hnd} (hx : x ∈ p.hs) : codeOk p.hs x.code := by
 obtain ⟨c1, _, _, _, _, _, c7, _, _⟩ := checkV_zero h
 obtain ⟨_, _, d3, d4⟩ := handlerV_zero (c7 x hx)
 refine ⟨by omega, fun i hi => ?_⟩
 obtain ⟨_, _, e3, _, _, e6⟩ := instrV_zero (d4 i hi)
 refine ⟨fun q => ?_, e3⟩
 obtain ⟨f1, f2⟩ := e6 q
 have hlt : i.a.toNat < p.hs.length := by omega
 have ea : argsOf p.hs i.a = (p.hs[i.a.toNat]).args := by simp [argsOf, hlt]
 obtain ⟨g1, g2, _, _⟩ := handlerV_zero (c7 _ (List.getElem_mem hlt))
 exact ⟨f1, hlt, by omega, by omega⟩
def walkE (hs : List Hnd) (x : Hnd) : Int := match walkV hs x.code with | some _ => 0 | none => 5
def flowV (p : Prg) : Int := if checkV p ≠ 0 then checkV p else firstNZ (p.hs.map (walkE p.hs))
theorem fcheck_pc (p : Prg) : PC Tryz.prog 89 [p.av] (iv (flowV p)) := by
 refine pc_of_get fcheck_get (by simp) _ (by simp) _ ?_
 unfold fcheck_c
 simp
 refine call (check_pc p) (by simp) ?_
 simp
 refine split (fun h1 => ?_) (fun h1 => ?_) <;> simp [h1]
 rotate_left
 . simp [flowV, h1]
 have hl := (checkV_zero h1).1
 refine loopN (fun i S => firstNZ ((p.hs.map (walkE p.hs)).drop i) = flowV p /\ (∃ st, S.t 1 = .ptr 36001 st 4 0 0 /\ S.blk 36001 = some ⟨st, 4, [p.av]⟩) /\ S.t 15 = .lst 2 (p.hs.map Hnd.av) /\ S.t 16 = iv p.hs.length /\ S.t 17 = iv i) p.hs.length ?_ ?_
 . simp [flowV, h1]
 . rintro i S hi ⟨hv, ⟨st, g1, b1⟩, g15, g16, g17⟩
   by_cases hlt : i < p.hs.length
   . have e : p.hs[i]? = some p.hs[i] := List.getElem?_eq_getElem hlt
     simp [fcheck_l0, g1, b1, g15, g16, g17, hlt, wrap_succ i _ hlt (by omega)]
     refine call (walk_pc p p.hs[i] (codeOk_of h1 (List.getElem_mem hlt))) (by simp) ?_
     rw [firstNZ_drop _ _ (by simpa using hlt)] at hv
     simp only [List.getElem_map] at hv
     rw [walkE] at hv
     cases hw : walkV p.hs p.hs[i].code with
     | none =>
       rw [hw] at hv
       simp at hv
       simp [walkAV, <- hv]
     | some r =>
       rw [hw] at hv
       simp at hv
       simp [walkAV, g1, b1, g15, g16, g17, wrap_succ i _ hlt (by omega)]
       exact hv
   . have e : i = p.hs.length := by omega
     subst e
     rw [firstNZ_end _ _ (by simp)] at hv
     simp [fcheck_l0, g1, b1, g15, g16, g17, <- hv]
end Go.Gv

namespace Go.Gv
open Go.Proofs
structure RS where
 l : List Int
 most : Int
 again : Bool
structure WfR (n : Nat) (l : List Int) : Prop where
 len : l.length = n + 1
 rng : ∀ x ∈ l, -1 <= x /\ x <= 8
end Go.Gv
