/- Texts of this proof, one behind the other. What is proved, and on which conditions, stands ahead of each. -/
import Derived.Test.YthidhohdcjojhaaGreatDoorProg
import Derived.Test.YthidhohdcjojhaaGreatDoorM192658a4
import Derived.Test.YthidhohdcjojhaaGreatDoorM170220fe
import Derived.Test.YthidhohdcjojhaaGreatDoorM1661a20e

set_option linter.unusedVariables false
set_option linter.unusedSimpArgs false
namespace Go.Gv
open Go.Proofs
def mdo_c : AC := (.seq (.reg [oA 3 (.box 98003 2 (.t 1)), oI 4 0]) (.seq (.reg [oM 7 0, oH 8 7, oF 9 13 8, oL 10 9, oZ 11 .add 10 1, oH 12 7, oF 13 13 12, oN (.store 1 (.t 13) (.t 11))]) (.seq (.seq (.reg [oF 14 0 3, oL 15 14]) (.block 0 (.seq (.reg [oZ 21 .eql 15 1, oM 20 21]) (.cond (.t 20) (.reg [oM 22 0, oF 23 1 3, oL 24 23, oA 25 (.bsl 98025 1 3 1 (.int .i64 0) [(0, (.t 24))]), oC 26 (.c (.fn 237 [])) [(.t 22), (.t 25)]]) (.seq (.reg [oZ 28 .eql 15 2, oM 27 28]) (.cond (.t 27) (.reg [oM 29 0, oC 30 (.c (.fn 238 [])) [(.t 29)]]) (.seq (.reg [oZ 32 .eql 15 3, oM 31 32]) (.cond (.t 31) (.regi [oM 33 0, oM 34 0, oH 35 34, oF 36 11 35, oL 37 36, oM 38 0, oH 39 38, oF 40 11 39, oL 41 40, oK 42 41, oZ 43 .sub 42 1, oA 44 (.idx 1 (.t 37) (.t 43)), oL 45 44, oA 46 (.bsl 98046 1 3 1 (.int .i64 0) [(0, (.t 45))]), oC 47 (.c (.fn 237 [])) [(.t 33), (.t 46)]] [[], [], [1], [2, 1], [3, 2, 1], [], [5], [6, 5], [7, 6, 5], [8, 7, 6, 5], [9, 8, 7, 6, 5], [4, 10, 3, 2, 1, 9, 8, 7, 6, 5], [11, 4, 10, 3, 2, 1, 9, 8, 7, 6, 5], [12, 11, 4, 10, 3, 2, 1, 9, 8, 7, 6, 5], [0, 13, 12, 11, 4, 10, 3, 2, 1, 9, 8, 7, 6, 5]]) (.seq (.reg [oZ 49 .eql 15 4, oM 48 49]) (.cond (.t 48) (.seq (.reg [oM 50 0, oC 51 (.c (.fn 238 [])) [(.t 50)], oM 52 0, oC 53 (.c (.fn 238 [])) [(.t 52)], oM 5 51, oM 6 53]) (.reg [oM 54 0, oM 55 5, oM 56 6, oA 57 (.bsl 98057 1 3 2 (.int .i64 0) [(0, (.t 55)), (1, (.t 56))]), oC 58 (.c (.fn 237 [])) [(.t 54), (.t 57)]])) (.seq (.seq (.reg [oZ 60 .eql 15 5, oM 59 60]) (.cond (.t 59) .skip (.reg [oZ 61 .eql 15 6, oM 59 61]))) (.cond (.t 59) (.reg [oM 62 0, oA 63 (.load (some 2) (.t 3)), oC 64 (.c (.fn 239 [])) [(.t 62), (.t 63)]]) (.seq (.reg [oZ 66 .eql 15 7, oM 65 66]) (.cond (.t 65) (.regi [oM 67 0, oM 68 0, oH 69 68, oF 70 5 69, oL 71 70, oF 72 1 3, oL 73 72, oA 74 (.idx 1 (.t 71) (.t 73)), oL 75 74, oA 76 (.bsl 98076 1 3 1 (.int .i64 0) [(0, (.t 75))]), oC 77 (.c (.fn 237 [])) [(.t 67), (.t 76)]] [[], [], [1], [2, 1], [3, 2, 1], [], [5], [4, 6, 3, 2, 1, 5], [7, 4, 6, 3, 2, 1, 5], [8, 7, 4, 6, 3, 2, 1, 5], [0, 9, 8, 7, 4, 6, 3, 2, 1, 5]]) (.seq (.reg [oZ 79 .eql 15 8, oM 78 79]) (.cond (.t 78) (.reg [oM 80 0, oM 81 0, oH 82 81, oF 83 4 82, oL 84 83, oA 85 (.bsl 98085 1 3 1 (.int .i64 0) [(0, (.t 84))]), oC 86 (.c (.fn 237 [])) [(.t 80), (.t 85)]]) (.seq (.reg [oZ 88 .eql 15 20, oM 87 88]) (.cond (.t 87) (.reg [oM 89 0, oF 90 1 3, oL 91 90, oH 92 89, oF 93 13 92, oN (.store 1 (.t 93) (.t 91))]) (.seq (.reg [oZ 95 .eql 15 21, oM 94 95]) (.cond (.t 94) (.seq (.reg [oM 96 0, oC 97 (.c (.fn 238 [])) [(.t 96)], oZ 98 .eql 97 0]) (.cond (.t 98) (.reg [oM 99 0, oF 100 1 3, oL 101 100, oH 102 99, oF 103 13 102, oN (.store 1 (.t 103) (.t 101))]) .skip)) (.seq (.reg [oZ 105 .eql 15 22, oM 104 105]) (.cond (.t 104) (.seq (.reg [oM 106 0, oF 107 1 3, oL 108 107, oC 109 (.c (.fn 240 [])) [(.t 106), (.t 108)], oM 4 109]) .ret) (.seq (.reg [oZ 111 .eql 15 23, oM 110 111]) (.cond (.t 110) (.regd [oM 112 0, oM 113 0, oH 114 113, oF 115 6 114, oF 116 1 115, oL 117 116, oM 118 117, gM 119 118 false 0, oG 120 118 false (.nilck (.t 119)), gF 121 118 false 0 120, gF 122 118 false 1 121, gL 123 118 false 122, gM 124 118 false 0, oG 125 118 false (.nilck (.t 124)), gF 126 118 false 4 125, gL 127 118 false 126, oG 128 118 false (.idx 4 (.t 123) (.t 127)), gF 129 118 false 2 128, gL 130 118 false 129, oG 131 118 false (.ibin .neq (.t 130) (.c (.int .i64 (-1)))), oA 132 (.pick (.t 118) (.c (.bool true)) (.t 131)), oH 133 112, oF 134 6 133, oF 135 1 134, oN (.store 1 (.t 135) (.t 132))] [[], [], [1], [2, 1], [3, 2, 1], [4, 3, 2, 1], [5, 4, 3, 2, 1], [6, 5, 4, 3, 2, 1], [7, 6, 5, 4, 3, 2, 1], [8, 6, 7, 5, 4, 3, 2, 1], [9, 6, 8, 7, 5, 4, 3, 2, 1], [10, 6, 9, 8, 7, 5, 4, 3, 2, 1], [6, 5, 4, 3, 2, 1], [12, 6, 5, 4, 3, 2, 1], [13, 6, 12, 5, 4, 3, 2, 1], [14, 6, 13, 12, 5, 4, 3, 2, 1], [11, 15, 6, 10, 9, 8, 7, 5, 4, 3, 2, 1, 14, 13, 12], [16, 6, 11, 15, 10, 9, 8, 7, 5, 4, 3, 2, 1, 14, 13, 12], [17, 6, 16, 11, 15, 10, 9, 8, 7, 5, 4, 3, 2, 1, 14, 13, 12], [18, 6, 17, 16, 11, 15, 10, 9, 8, 7, 5, 4, 3, 2, 1, 14, 13, 12], [6, 19, 5, 4, 3, 2, 1, 18, 17, 16, 11, 15, 10, 9, 8, 7, 14, 13, 12], [0, 1, 2, 3, 4, 5, 6, 7, 8, 9, 10, 11, 12, 13, 14, 15, 16, 17, 18, 19, 20], [21, 0, 1, 2, 3, 4, 5, 6, 7, 8, 9, 10, 11, 12, 13, 14, 15, 16, 17, 18, 19, 20], [22, 0, 1, 2, 3, 4, 5, 6, 7, 8, 9, 10, 11, 12, 13, 14, 15, 16, 17, 18, 19, 20, 21], [23, 20, 6, 0, 1, 2, 3, 4, 5, 7, 8, 9, 10, 11, 12, 13, 14, 15, 16, 17, 18, 19, 22, 21]]) (.seq (.reg [oZ 137 .eql 15 24, oM 136 137]) (.cond (.t 136) (.reg [oM 138 0, oH 139 138, oF 140 6 139, oF 141 1 140, oN (.store 1 (.t 141) (.c (.bool false)))]) (.seq (.reg [oZ 143 .eql 15 25, oM 142 143]) (.cond (.t 142) (.reg [oM 144 0, oH 145 144, oF 146 13 145, oN (.store 1 (.t 146) (.c (.int .i64 (-1))))]) (.seq (.reg [oM 16 0, oF 17 0 3, oL 18 17, oC 19 (.c (.fn 241 [])) [(.t 16), (.t 18)], oM 4 19]) .ret))))))))))))))))))))))))))))) (.seq (.reg [oI 4 0]) .ret))))
set_option maxRecDepth 100000 in
theorem mdo_get : getF Tryz.prog 216 98000 [(2000009, 1), (2000017, 1)] = some ("(*gavotte/vm.machine).do", 147, mdo_c, [(.tmp 4)]) := by kernel_rfl
def top (l : List Int) : Int := l.getLast?.getD 0
theorem top_split {l : List Int} (h : 1 <= l.length) : l = l.dropLast ++ [top l] := by
 have hne : l ≠ [] := by rintro rfl; simp at h
 have := (List.dropLast_concat_getLast hne).symm
 rw [top, List.getLast?_eq_some_getLast hne]; exact this
theorem top_split2 {l : List Int} (h : 2 <= l.length) : l = l.dropLast.dropLast ++ [top l.dropLast, top l] := by
 have h1 := top_split (l := l) (by omega)
 have h2 := top_split (l := l.dropLast) (by simp; omega)
 rw [List.append_cons, <- h2, <- h1]
theorem do1_v (F : Fx) (st : Nat) (m : Mach) (i : Ins) (hop : i.op = 1) (hpc : 0 <= m.pc /\ m.pc < 1000) (hl : m.st.length < 900) {S : St} {k : AV -> St -> Prop} {u : Dep k} (h : MS F st m S)
   (hk : ∀ S', Fr Lm S S' -> MS F st { m with pc := m.pc + 1, st := m.st ++ [i.a] } S' -> k (iv 0) S') : CallG Tryz.prog (.fn 216 []) [.ptr 84026 st 14 0 0, i.av] S k u := by
 refine callV mdo_get (by simp) (by simp) ?_
 unfold mdo_c
 obtain ⟨r, sk, nt, hb, hr, hs, hn⟩ := h
 have ws : IntKind.i64.wrap (m.pc + 1) = m.pc + 1 := wrap_in _ (by omega) (by omega)
 simp [hb, hop, ws]
 refine push_v F st { m with pc := m.pc + 1 } [i.a] (by simp) (by simp; omega) _ _ (MS.mk' (upd_same _ _ _) ?_ ?_ ?_) ?_
 . simpa [RegIs] using hr
 . simpa [StkIs] using hs
 . simpa [AccIs] using hn
 rintro S1 ⟨ht1, hb1, hk1, hc1⟩ hM1
 simp [ht1]
 exact hk _ (Fr.here (fun n hn => by simp [hb1 n hn, ne_of_Lm hn, Lm]) (fun n hn => by simp [hk1 n hn, ne_of_Lm hn, Lm]) (by simp at hc1 ⊢; omega)) hM1.to
theorem StkIs.last {S : St} {v : AV} {xs : List Int} (h : StkIs S v xs) (h1 : 1 <= xs.length) : ∃ st es, v = .sl 1000107000 st 1 0 xs.length /\ S.blk 1000107000 = some ⟨st, 1, es⟩ /\ xs.length <= es.length /\ es[xs.length - 1]? = some (iv (top xs)) := by
 rcases h with ⟨_, rfl⟩ | ⟨st, es, q1, q2, q3, q4⟩
 . simp at h1
 refine ⟨st, es, q1, q2, q3, ?_⟩
 have := congrArg (fun l => l[xs.length - 1]?) q4
 simp only [List.getElem?_take_of_lt (show xs.length - 1 < xs.length by omega)] at this
 rw [this, List.getElem?_map]
 have hne : xs ≠ [] := by rintro rfl; simp at h1
 rw [top, List.getLast?_eq_some_getLast hne, List.getElem?_eq_getElem (by omega), List.getLast_eq_getElem]
 rfl
theorem do2_v (F : Fx) (st : Nat) (m : Mach) (i : Ins) (hop : i.op = 2) (h1 : 1 <= m.st.length) (hpc : 0 <= m.pc /\ m.pc < 1000) (hl : m.st.length < 900) {S : St} {k : AV -> St -> Prop} {u : Dep k} (h : MS F st m S)
   (hk : ∀ S', Fr Lm S S' -> MS F st { m with pc := m.pc + 1, st := m.st.dropLast } S' -> k (iv 0) S') : CallG Tryz.prog (.fn 216 []) [.ptr 84026 st 14 0 0, i.av] S k u := by
 refine callV mdo_get (by simp) (by simp) ?_
 unfold mdo_c
 obtain ⟨r, sk, nt, hb, hr, hs, hn⟩ := h
 have ws : IntKind.i64.wrap (m.pc + 1) = m.pc + 1 := wrap_in _ (by omega) (by omega)
 simp [hb, hop, ws]
 refine pop_v F st { m with pc := m.pc + 1 } m.st.dropLast (top m.st) (top_split h1) (by simp; omega) (MS.mk' (upd_same _ _ _) (by simpa [RegIs] using hr) (by simpa [StkIs] using hs) (by simpa [AccIs] using hn)) ?_
 rintro S1 ⟨ht1, hb1, hk1, hc1⟩ hM1
 simp [ht1]
 exact hk _ (Fr.here (fun n hn => by simp [hb1 n hn, ne_of_Lm hn, Lm]) (fun n hn => by first | rfl | simp [hk1 n hn, ne_of_Lm hn, Lm]) (by simp at hc1 ⊢; omega)) hM1.to
theorem do3_v (F : Fx) (st : Nat) (m : Mach) (i : Ins) (hop : i.op = 3) (h1 : 1 <= m.st.length) (hpc : 0 <= m.pc /\ m.pc < 1000) (hl : m.st.length < 900) {S : St} {k : AV -> St -> Prop} {u : Dep k} (h : MS F st m S)
   (hk : ∀ S', Fr Lm S S' -> MS F st { m with pc := m.pc + 1, st := m.st ++ [top m.st] } S' -> k (iv 0) S') : CallG Tryz.prog (.fn 216 []) [.ptr 84026 st 14 0 0, i.av] S k u := by
 refine callV mdo_get (by simp) (by simp) ?_
 unfold mdo_c
 obtain ⟨r, sk, nt, hb, hr, hs, hn⟩ := h
 have ws : IntKind.i64.wrap (m.pc + 1) = m.pc + 1 := wrap_in _ (by omega) (by omega)
 obtain ⟨s2, es, q1, q2, q3, q4⟩ := hs.last h1
 have wl : IntKind.i64.wrap ((m.st.length : Int) - 1) = ((m.st.length - 1 : Nat) : Int) := by rw [wrap_in _ (by omega) (by omega)]; omega
 simp [hb, hop, ws]
 refine regi_end (by simp) (by rfl) ?_
 simp [q1, q2, q4, wl, show m.st.length - 1 < m.st.length by omega]
 rw [q1] at hs
 refine push_v F st { m with pc := m.pc + 1 } [top m.st] (by simp) (by simp; omega) _ _ (MS.mk' (upd_same _ _ _) (by simpa [RegIs] using hr) (by simpa [StkIs] using hs) (by simpa [AccIs] using hn)) ?_
 rintro S1 ⟨ht1, hb1, hk1, hc1⟩ hM1
 simp [ht1]
 exact hk _ (Fr.here (fun n hn => by simp [hb1 n hn, ne_of_Lm hn, Lm]) (fun n hn => by first | rfl | simp [hk1 n hn, ne_of_Lm hn, Lm]) (by simp at hc1 ⊢; omega)) hM1.to
theorem do4_v (F : Fx) (st : Nat) (m : Mach) (i : Ins) (hop : i.op = 4) (h1 : 2 <= m.st.length) (hpc : 0 <= m.pc /\ m.pc < 1000) (hl : m.st.length < 900) {S : St} {k : AV -> St -> Prop} {u : Dep k} (h : MS F st m S)
   (hk : ∀ S', Fr Lm S S' -> MS F st { m with pc := m.pc + 1, st := m.st.dropLast.dropLast ++ [top m.st, top m.st.dropLast] } S' -> k (iv 0) S') : CallG Tryz.prog (.fn 216 []) [.ptr 84026 st 14 0 0, i.av] S k u := by
 refine callV mdo_get (by simp) (by simp) ?_
 unfold mdo_c
 obtain ⟨r, sk, nt, hb, hr, hs, hn⟩ := h
 have ws : IntKind.i64.wrap (m.pc + 1) = m.pc + 1 := wrap_in _ (by omega) (by omega)
 simp [hb, hop, ws]
 refine pop_v F st { m with pc := m.pc + 1 } m.st.dropLast (top m.st) (top_split (show 1 <= m.st.length by omega)) (by simp; omega) (MS.mk' (upd_same _ _ _) (by simpa [RegIs] using hr) (by simpa [StkIs] using hs) (by simpa [AccIs] using hn)) ?_
 rintro S1 ⟨ht1, hb1, hk1, hc1⟩ hM1
 simp [ht1]
 refine pop_v F st { m with pc := m.pc + 1, st := m.st.dropLast } m.st.dropLast.dropLast (top m.st.dropLast) (top_split (by simp; omega)) (by simp; omega) hM1.to ?_
 rintro S2 ⟨ht2, hb2, hk2, hc2⟩ hM2
 simp [ht2]
 refine push_v F st { m with pc := m.pc + 1, st := m.st.dropLast.dropLast } [top m.st, top m.st.dropLast] (by simp) (by simp; omega) _ _ hM2.to ?_
 rintro S3 ⟨ht3, hb3, hk3, hc3⟩ hM3
 simp [ht3]
 exact hk _ (Fr.here (fun n hn => by simp [hb3 n hn, hb2 n hn, hb1 n hn, ne_of_Lm hn, Lm]) (fun n hn => by first | rfl | simp [hk3 n hn, hk2 n hn, hk1 n hn, ne_of_Lm hn, Lm]) (by simp at hc1 hc2 hc3 ⊢; omega)) hM3.to
theorem do5_v (F : Fx) (st : Nat) (m : Mach) (i : Ins) (hop : i.op = 5) (ha : 0 <= i.a) (hr8 : m.regs.length <= 1000) (hpc : 0 <= m.pc /\ m.pc < 1000) (hl : m.st.length < 900) {S : St} {k : AV -> St -> Prop} {u : Dep k} (h : MS F st m S)
   (hk : ∀ S', Fr Lm S S' -> MS F st { m with pc := m.pc + 1, st := m.st ++ [loadV m i.a] } S' -> k (iv 0) S') : CallG Tryz.prog (.fn 216 []) [.ptr 84026 st 14 0 0, i.av] S k u := by
 refine callV mdo_get (by simp) (by simp) ?_
 unfold mdo_c
 obtain ⟨r, sk, nt, hb, hr, hs, hn⟩ := h
 have ws : IntKind.i64.wrap (m.pc + 1) = m.pc + 1 := wrap_in _ (by omega) (by omega)
 simp [hb, hop, ws]
 refine regload_v F st { m with pc := m.pc + 1 } ⟨5, i.a⟩ (by simp) ha hr8 hl (MS.mk' (upd_same _ _ _) (by simpa [RegIs] using hr) (by simpa [StkIs] using hs) (by simpa [AccIs] using hn)) ?_
 rintro S1 ⟨ht1, hb1, hk1, hc1⟩ hM1
 simp [ht1]
 exact hk _ (Fr.here (fun n hn => by simp [hb1 n hn, ne_of_Lm hn, Lm]) (fun n hn => by first | rfl | simp [hk1 n hn, ne_of_Lm hn, Lm]) (by simp at hc1 ⊢; omega)) hM1.to
def ArgIs (F : Fx) (S : St) : Prop := F.argv = ints F.args \/ ∃ st, F.argv = .sl 1000016008 st 1 0 F.args.length /\ S.blk 1000016008 = some ⟨st, 1, F.args.map iv⟩
theorem do7_v (F : Fx) (st : Nat) (m : Mach) (i : Ins) (hop : i.op = 7) (ha : 0 <= i.a) (ha2 : i.a.toNat < F.args.length) (hpc : 0 <= m.pc /\ m.pc < 1000) (hl : m.st.length < 900) {S : St} {k : AV -> St -> Prop} {u : Dep k} (harg : ArgIs F S) (h : MS F st m S)
   (hk : ∀ S', Fr Lm S S' -> MS F st { m with pc := m.pc + 1, st := m.st ++ [F.args[i.a.toNat]] } S' -> k (iv 0) S') : CallG Tryz.prog (.fn 216 []) [.ptr 84026 st 14 0 0, i.av] S k u := by
 obtain ⟨p0, who0, args0, d0, s0, o0, argv0⟩ := F
 simp only at ha2 hk
 rcases harg with hv | ⟨sa, hv, hbl⟩
 . simp only at hv
   subst hv
   refine callV mdo_get (by simp) (by simp) ?_
   unfold mdo_c
   obtain ⟨r, sk, nt, hb, hr, hs, hn⟩ := h
   have ws : IntKind.i64.wrap (m.pc + 1) = m.pc + 1 := wrap_in _ (by omega) (by omega)
   simp [hb, hop, ws]
   refine regi_end (by simp) (by rfl) ?_
   simp [ints, ha, ha2]
   refine push_v ⟨p0, who0, args0, d0, s0, o0, ints args0⟩ st { m with pc := m.pc + 1 } [args0[i.a.toNat]] (by simp) (by simp; omega) _ _ (MS.mk' (upd_same _ _ _) (by simpa [RegIs] using hr) (by simpa [StkIs] using hs) (by simpa [AccIs] using hn)) ?_
   rintro S1 ⟨ht1, hb1, hk1, hc1⟩ hM1
   simp [ht1]
   exact hk _ (Fr.here (fun n hn => by simp [hb1 n hn, ne_of_Lm hn, Lm]) (fun n hn => by first | rfl | simp [hk1 n hn, ne_of_Lm hn, Lm]) (by simp at hc1 ⊢; omega)) hM1.to
 . simp only at hv
   subst hv
   refine callV mdo_get (by simp) (by simp) ?_
   unfold mdo_c
   obtain ⟨r, sk, nt, hb, hr, hs, hn⟩ := h
   have ws : IntKind.i64.wrap (m.pc + 1) = m.pc + 1 := wrap_in _ (by omega) (by omega)
   simp [hb, hop, ws]
   refine regi_end (by simp) (by rfl) ?_
   simp [hbl, ha, ha2]
   refine push_v ⟨p0, who0, args0, d0, s0, o0, .sl 1000016008 sa 1 0 args0.length⟩ st { m with pc := m.pc + 1 } [args0[i.a.toNat]] (by simp) (by simp; omega) _ _ (MS.mk' (upd_same _ _ _) (by simpa [RegIs] using hr) (by simpa [StkIs] using hs) (by simpa [AccIs] using hn)) ?_
   rintro S1 ⟨ht1, hb1, hk1, hc1⟩ hM1
   simp [ht1]
   exact hk _ (Fr.here (fun n hn => by simp [hb1 n hn, ne_of_Lm hn, Lm]) (fun n hn => by first | rfl | simp [hk1 n hn, ne_of_Lm hn, Lm]) (by simp at hc1 ⊢; omega)) hM1.to
theorem do8_v (F : Fx) (st : Nat) (m : Mach) (i : Ins) (hop : i.op = 8) (hpc : 0 <= m.pc /\ m.pc < 1000) (hl : m.st.length < 900) {S : St} {k : AV -> St -> Prop} {u : Dep k} (h : MS F st m S)
   (hk : ∀ S', Fr Lm S S' -> MS F st { m with pc := m.pc + 1, st := m.st ++ [F.who] } S' -> k (iv 0) S') : CallG Tryz.prog (.fn 216 []) [.ptr 84026 st 14 0 0, i.av] S k u := by
 refine callV mdo_get (by simp) (by simp) ?_
 unfold mdo_c
 obtain ⟨r, sk, nt, hb, hr, hs, hn⟩ := h
 have ws : IntKind.i64.wrap (m.pc + 1) = m.pc + 1 := wrap_in _ (by omega) (by omega)
 simp [hb, hop, ws]
 refine push_v F st { m with pc := m.pc + 1 } [F.who] (by simp) (by simp; omega) _ _ (MS.mk' (upd_same _ _ _) (by simpa [RegIs] using hr) (by simpa [StkIs] using hs) (by simpa [AccIs] using hn)) ?_
 rintro S1 ⟨ht1, hb1, hk1, hc1⟩ hM1
 simp [ht1]
 exact hk _ (Fr.here (fun n hn => by simp [hb1 n hn, ne_of_Lm hn, Lm]) (fun n hn => by first | rfl | simp [hk1 n hn, ne_of_Lm hn, Lm]) (by simp at hc1 ⊢; omega)) hM1.to
theorem do20_v (F : Fx) (st : Nat) (m : Mach) (i : Ins) (hop : i.op = 20) (hpc : 0 <= m.pc /\ m.pc < 1000) (hl : m.st.length < 900) {S : St} {k : AV -> St -> Prop} {u : Dep k} (h : MS F st m S)
   (hk : ∀ S', Fr Lm S S' -> MS F st { m with pc := i.a } S' -> k (iv 0) S') : CallG Tryz.prog (.fn 216 []) [.ptr 84026 st 14 0 0, i.av] S k u := by
 refine callV mdo_get (by simp) (by simp) ?_
 unfold mdo_c
 obtain ⟨r, sk, nt, hb, hr, hs, hn⟩ := h
 have ws : IntKind.i64.wrap (m.pc + 1) = m.pc + 1 := wrap_in _ (by omega) (by omega)
 simp [hb, hop, ws]
 exact hk _ (Fr.here (fun n hn => by simp [ne_of_Lm hn, Lm]) (fun n hn => by first | rfl | simp [ne_of_Lm hn, Lm]) (by omega)) (MS.mk' (upd_same _ _ _) (by simpa [RegIs] using hr) (by simpa [StkIs] using hs) (by simpa [AccIs] using hn))
theorem do24_v (F : Fx) (st : Nat) (m : Mach) (i : Ins) (hop : i.op = 24) (hpc : 0 <= m.pc /\ m.pc < 1000) (hl : m.st.length < 900) {S : St} {k : AV -> St -> Prop} {u : Dep k} (h : MS F st m S)
   (hk : ∀ S', Fr Lm S S' -> MS F st { m with pc := m.pc + 1, armed := false } S' -> k (iv 0) S') : CallG Tryz.prog (.fn 216 []) [.ptr 84026 st 14 0 0, i.av] S k u := by
 refine callV mdo_get (by simp) (by simp) ?_
 unfold mdo_c
 obtain ⟨r, sk, nt, hb, hr, hs, hn⟩ := h
 have ws : IntKind.i64.wrap (m.pc + 1) = m.pc + 1 := wrap_in _ (by omega) (by omega)
 simp [hb, hop, ws]
 exact hk _ (Fr.here (fun n hn => by simp [ne_of_Lm hn, Lm]) (fun n hn => by first | rfl | simp [ne_of_Lm hn, Lm]) (by omega)) (MS.mk' (upd_same _ _ _) (by simpa [RegIs] using hr) (by simpa [StkIs] using hs) (by simpa [AccIs] using hn))
theorem do25_v (F : Fx) (st : Nat) (m : Mach) (i : Ins) (hop : i.op = 25) (hpc : 0 <= m.pc /\ m.pc < 1000) (hl : m.st.length < 900) {S : St} {k : AV -> St -> Prop} {u : Dep k} (h : MS F st m S)
   (hk : ∀ S', Fr Lm S S' -> MS F st { m with pc := -1 } S' -> k (iv 0) S') : CallG Tryz.prog (.fn 216 []) [.ptr 84026 st 14 0 0, i.av] S k u := by
 refine callV mdo_get (by simp) (by simp) ?_
 unfold mdo_c
 obtain ⟨r, sk, nt, hb, hr, hs, hn⟩ := h
 have ws : IntKind.i64.wrap (m.pc + 1) = m.pc + 1 := wrap_in _ (by omega) (by omega)
 simp [hb, hop, ws]
 exact hk _ (Fr.here (fun n hn => by simp [ne_of_Lm hn, Lm]) (fun n hn => by first | rfl | simp [ne_of_Lm hn, Lm]) (by omega)) (MS.mk' (upd_same _ _ _) (by simpa [RegIs] using hr) (by simpa [StkIs] using hs) (by simpa [AccIs] using hn))
end Go.Gv

namespace Go.Gv
open Go.Proofs
theorem regpop_v (F : Fx) (st : Nat) (m : Mach) (i : Ins) (h6 : i.op = 6) (h1 : 1 <= m.st.length) (hn1 : ¬ i.a < m.regs.length) (hl : m.st.length < 900) {S : St} {k : AV -> St -> Prop} {u : Dep k} (h : MS F st m S)
   (hk : ∀ S', Fr Lm S S' -> MS F st { m with st := m.st.dropLast } S' -> k (.tup []) S') : CallG Tryz.prog (.fn 239 []) [.ptr 84026 st 14 0 0, i.av] S k u := by
 refine callV mreg_get (by simp) (by simp) ?_
 unfold mreg_c
 obtain ⟨r, sk, nt, hb, hr, hs, hn⟩ := h
 have hrl := hr.len
 simp [hb, hrl, hn1, h6]
 refine pop_v F st m m.st.dropLast (top m.st) (top_split h1) (by simp; omega) (MS.to ⟨r, sk, nt, hb, hr, hs, hn⟩) ?_
 rintro S1 ⟨ht1, hb1, hk1, hc1⟩ hM1
 simp [ht1]
 exact hk _ (Fr.here (fun n hn => by simp [hb1 n hn, ne_of_Lm hn, Lm]) (fun n hn => by first | rfl | simp [hk1 n hn, ne_of_Lm hn, Lm]) (by simp at hc1 ⊢; omega)) hM1.to
theorem do6_v (F : Fx) (st : Nat) (m : Mach) (i : Ins) (hop : i.op = 6) (h1 : 1 <= m.st.length) (ha : 0 <= i.a) (hr8 : m.regs.length <= 1000) (hpc : 0 <= m.pc /\ m.pc < 1000) (hl : m.st.length < 900) {S : St} {k : AV -> St -> Prop} {u : Dep k} (h : MS F st m S)
   (hk : ∀ S', Fr Lm S S' -> MS F st { m with pc := m.pc + 1, st := m.st.dropLast, regs := if i.a < m.regs.length then m.regs.set i.a.toNat (top m.st) else m.regs } S' -> k (iv 0) S') : CallG Tryz.prog (.fn 216 []) [.ptr 84026 st 14 0 0, i.av] S k u := by
 refine callV mdo_get (by simp) (by simp) ?_
 unfold mdo_c
 obtain ⟨r, sk, nt, hb, hr, hs, hn⟩ := h
 have ws : IntKind.i64.wrap (m.pc + 1) = m.pc + 1 := wrap_in _ (by omega) (by omega)
 simp [hb, hop, ws]
 by_cases hlt : i.a < m.regs.length
 . rw [if_pos hlt] at hk
   refine regstore_v F st { m with pc := m.pc + 1 } ⟨6, i.a⟩ rfl m.st.dropLast (top m.st) (top_split h1) ha hlt hr8 (by simp; omega) (MS.mk' (upd_same _ _ _) (by simpa [RegIs] using hr) (by simpa [StkIs] using hs) (by simpa [AccIs] using hn)) ?_
   rintro S1 ⟨ht1, hb1, hk1, hc1⟩ hM1
   simp [ht1]
   exact hk _ (Fr.here (fun n hn => by simp [hb1 n hn, ne_of_Lm hn, Lm]) (fun n hn => by first | rfl | simp [hk1 n hn, ne_of_Lm hn, Lm]) (by simp at hc1 ⊢; omega)) hM1.to
 . rw [if_neg hlt] at hk
   refine regpop_v F st { m with pc := m.pc + 1 } ⟨6, i.a⟩ rfl h1 hlt hl (MS.mk' (upd_same _ _ _) (by simpa [RegIs] using hr) (by simpa [StkIs] using hs) (by simpa [AccIs] using hn)) ?_
   rintro S1 ⟨ht1, hb1, hk1, hc1⟩ hM1
   simp [ht1]
   exact hk _ (Fr.here (fun n hn => by simp [hb1 n hn, ne_of_Lm hn, Lm]) (fun n hn => by first | rfl | simp [hk1 n hn, ne_of_Lm hn, Lm]) (by simp at hc1 ⊢; omega)) hM1.to
theorem do21_v (F : Fx) (st : Nat) (m : Mach) (i : Ins) (hop : i.op = 21) (h1 : 1 <= m.st.length) (hpc : 0 <= m.pc /\ m.pc < 1000) (hl : m.st.length < 900) {S : St} {k : AV -> St -> Prop} {u : Dep k} (h : MS F st m S)
   (hk : ∀ S', Fr Lm S S' -> MS F st { m with pc := if top m.st = 0 then i.a else m.pc + 1, st := m.st.dropLast } S' -> k (iv 0) S') : CallG Tryz.prog (.fn 216 []) [.ptr 84026 st 14 0 0, i.av] S k u := by
 refine callV mdo_get (by simp) (by simp) ?_
 unfold mdo_c
 obtain ⟨r, sk, nt, hb, hr, hs, hn⟩ := h
 have ws : IntKind.i64.wrap (m.pc + 1) = m.pc + 1 := wrap_in _ (by omega) (by omega)
 obtain ⟨s2, es, q1, q2, q3, q4⟩ := hs.last h1
 have htk : es.take m.st.dropLast.length = m.st.dropLast.map iv := by
   rcases hs with ⟨_, e⟩ | ⟨s2', es', e1, e2, e3, e4⟩
   . rw [e] at h1; simp at h1
   . rw [q2] at e2; cases e2
     have := congrArg (List.take m.st.dropLast.length) e4
     rw [List.take_take, Nat.min_eq_left (by simp)] at this
     rw [this, List.dropLast_eq_take, List.map_take]; simp
 have hlen : m.st.length = m.st.dropLast.length + 1 := by simp; omega
 rw [q1, hlen] at hb
 rw [hlen] at q3
 rw [show m.st.length - 1 = m.st.dropLast.length by simp] at q4
 have hl' : m.st.dropLast.length < 1000 := by simp; omega
 generalize hq : m.st.dropLast = xs at *
 simp [hb, hop, ws]
 refine pop_x (s1 := s2) (es := es) hl' (by dsimp only; exact upd_same _ _ _) (by simp [q2]) q3 q4 ?_
 by_cases hz : top m.st = 0
 . rw [if_pos hz] at hk
   simp [hz]
   refine hk _ (Fr.here (fun n hn => by simp [ne_of_Lm hn, Lm]) (fun n hn => by first | rfl | simp [ne_of_Lm hn, Lm]) (by omega)) (MS.mk' (upd_same _ _ _) (by simpa [RegIs] using hr) (.inr ⟨s2, es, rfl, by simp [q2], by simp only []; omega, htk⟩) (by simpa [AccIs] using hn))
 . rw [if_neg hz] at hk
   simp [hz]
   refine hk _ (Fr.here (fun n hn => by simp [ne_of_Lm hn, Lm]) (fun n hn => by first | rfl | simp [ne_of_Lm hn, Lm]) (by omega)) (MS.mk' (upd_same _ _ _) (by simpa [RegIs] using hr) (.inr ⟨s2, es, rfl, by simp [q2], by simp only []; omega, htk⟩) (by simpa [AccIs] using hn))
theorem do23_v (F : Fx) (st : Nat) (m : Mach) (i : Ins) (hop : i.op = 23) (hw : 0 <= F.who) (x : Actr) (hx : F.p.as[F.who.toNat]? = some x) (hpc : 0 <= m.pc /\ m.pc < 1000) (hl : m.st.length < 900) {S : St} {k : AV -> St -> Prop} {u : Dep k} (h : MS F st m S)
   (hk : ∀ S', Fr Lm S S' -> MS F st { m with pc := m.pc + 1, armed := m.armed || !decide (x.timer = -1) } S' -> k (iv 0) S') : CallG Tryz.prog (.fn 216 []) [.ptr 84026 st 14 0 0, i.av] S k u := by
 refine callV mdo_get (by simp) (by simp) ?_
 unfold mdo_c
 obtain ⟨r, sk, nt, hb, hr, hs, hn⟩ := h
 have ws : IntKind.i64.wrap (m.pc + 1) = m.pc + 1 := wrap_in _ (by omega) (by omega)
 have hj : F.who.toNat < F.p.as.length := (List.getElem?_eq_some_iff.1 hx).1
 have hx' : F.p.as[F.who.toNat] = x := (List.getElem?_eq_some_iff.1 hx).2
 cases har : m.armed with
 | true =>
   simp [hb, hop, ws, har]
   refine hk _ (Fr.here (fun n hn => by simp [ne_of_Lm hn, Lm]) (fun n hn => by first | rfl | simp [ne_of_Lm hn, Lm]) (by omega)) (MS.mk' (by simp [har]; exact ⟨rfl, rfl, rfl⟩) (by simpa [RegIs] using hr) (by simpa [StkIs] using hs) (by simpa [AccIs] using hn))
 | false =>
   simp [hb, hop, ws, har, hw, hj, hx']
   refine hk _ (Fr.here (fun n hn => by simp [ne_of_Lm hn, Lm]) (fun n hn => by first | rfl | simp [ne_of_Lm hn, Lm]) (by omega)) (MS.mk' ?_ (by simpa [RegIs] using hr) (by simpa [StkIs] using hs) (by simpa [AccIs] using hn))
   simp [har]
theorem doc1_v (F : Fx) (st : Nat) (m : Mach) (i : Ins) (hop : 9 <= i.op /\ i.op <= 19) (h1 : 1 <= m.st.length) (ho : (oneV i.op (top m.st)).2 = true) (hpc : 0 <= m.pc /\ m.pc < 1000) (hl : m.st.length < 900) {S : St} {k : AV -> St -> Prop} {u : Dep k} (h : MS F st m S)
   (hk : ∀ S', Fr Lm S S' -> MS F st { m with pc := m.pc + 1, st := m.st.dropLast ++ [(oneV i.op (top m.st)).1] } S' -> k (iv 0) S') : CallG Tryz.prog (.fn 216 []) [.ptr 84026 st 14 0 0, i.av] S k u := by
 refine callV mdo_get (by simp) (by simp) ?_
 unfold mdo_c
 obtain ⟨r, sk, nt, hb, hr, hs, hn⟩ := h
 have ws : IntKind.i64.wrap (m.pc + 1) = m.pc + 1 := wrap_in _ (by omega) (by omega)
 simp [hb, ws, show i.op ≠ 1 by omega, show i.op ≠ 2 by omega, show i.op ≠ 3 by omega, show i.op ≠ 4 by omega, show i.op ≠ 5 by omega, show i.op ≠ 6 by omega, show i.op ≠ 7 by omega, show i.op ≠ 8 by omega, show i.op ≠ 20 by omega, show i.op ≠ 21 by omega, show i.op ≠ 22 by omega, show i.op ≠ 23 by omega, show i.op ≠ 24 by omega, show i.op ≠ 25 by omega]
 refine count1_v F st { m with pc := m.pc + 1 } i.op m.st.dropLast (top m.st) (top_split h1) (by simp; omega) ho (MS.mk' (upd_same _ _ _) (by simpa [RegIs] using hr) (by simpa [StkIs] using hs) (by simpa [AccIs] using hn)) ?_
 rintro S1 ⟨ht1, hb1, hk1, hc1⟩ hM1
 simp [ht1]
 exact hk _ (Fr.here (fun n hn => by simp [hb1 n hn, ne_of_Lm hn, Lm]) (fun n hn => by first | rfl | simp [hk1 n hn, ne_of_Lm hn, Lm]) (by simp at hc1 ⊢; omega)) hM1.to
theorem doc2_v (F : Fx) (st : Nat) (m : Mach) (i : Ins) (hop : 9 <= i.op /\ i.op <= 19) (h1 : 2 <= m.st.length) (ho : (oneV i.op (top m.st)).2 = false) (hpc : 0 <= m.pc /\ m.pc < 1000) (hl : m.st.length < 900) {S : St} {k : AV -> St -> Prop} {u : Dep k} (h : MS F st m S)
   (hk : ∀ S', Fr Lm S S' -> MS F st { m with pc := m.pc + 1, st := m.st.dropLast.dropLast ++ [(twoV i.op (top m.st.dropLast) (top m.st)).1] } S' -> k (iv (twoV i.op (top m.st.dropLast) (top m.st)).2) S') : CallG Tryz.prog (.fn 216 []) [.ptr 84026 st 14 0 0, i.av] S k u := by
 refine callV mdo_get (by simp) (by simp) ?_
 unfold mdo_c
 obtain ⟨r, sk, nt, hb, hr, hs, hn⟩ := h
 have ws : IntKind.i64.wrap (m.pc + 1) = m.pc + 1 := wrap_in _ (by omega) (by omega)
 simp [hb, ws, show i.op ≠ 1 by omega, show i.op ≠ 2 by omega, show i.op ≠ 3 by omega, show i.op ≠ 4 by omega, show i.op ≠ 5 by omega, show i.op ≠ 6 by omega, show i.op ≠ 7 by omega, show i.op ≠ 8 by omega, show i.op ≠ 20 by omega, show i.op ≠ 21 by omega, show i.op ≠ 22 by omega, show i.op ≠ 23 by omega, show i.op ≠ 24 by omega, show i.op ≠ 25 by omega]
 refine count2_v F st { m with pc := m.pc + 1 } i.op m.st.dropLast.dropLast (top m.st.dropLast) (top m.st) (top_split2 h1) (by simp; omega) ho (MS.mk' (upd_same _ _ _) (by simpa [RegIs] using hr) (by simpa [StkIs] using hs) (by simpa [AccIs] using hn)) ?_
 rintro S1 ⟨ht1, hb1, hk1, hc1⟩ hM1
 simp [ht1]
 exact hk _ (Fr.here (fun n hn => by simp [hb1 n hn, ne_of_Lm hn, Lm]) (fun n hn => by first | rfl | simp [hk1 n hn, ne_of_Lm hn, Lm]) (by simp at hc1 ⊢; omega)) hM1.to
theorem do22_v (F : Fx) (st : Nat) (m : Mach) (i : Ins) (hop : i.op = 22) (xs bs : List Int) (to : Int) (hx : m.st = xs ++ bs ++ [to]) (ha : 0 <= i.a) (x : Hnd) (hh : F.p.hs[i.a.toNat]? = some x) (hargs : x.args = bs.length) (hnl : m.notes.length < 1000) (hpc : 0 <= m.pc /\ m.pc < 1000) (hl : m.st.length < 900) {S : St} {k : AV -> St -> Prop} {u : Dep k} (h : MS F st m S)
   (hz1 : (to < 0 \/ to >= F.p.as.length) -> ∀ S', Fr Lm S S' -> MS F st { m with pc := m.pc + 1, st := xs ++ bs } S' -> k (iv 4) S')
   (hz2 : ¬ (to < 0 \/ to >= F.p.as.length) -> ∀ S', Fr Lm S S' -> MS F st { m with pc := m.pc + 1, st := xs, notes := m.notes ++ [⟨to, i.a, bs⟩] } S' -> k (iv 0) S') : CallG Tryz.prog (.fn 216 []) [.ptr 84026 st 14 0 0, i.av] S k u := by
 refine callV mdo_get (by simp) (by simp) ?_
 unfold mdo_c
 obtain ⟨r, sk, nt, hb, hr, hs, hn⟩ := h
 have ws : IntKind.i64.wrap (m.pc + 1) = m.pc + 1 := wrap_in _ (by omega) (by omega)
 simp [hb, hop, ws]
 have hll : (xs ++ bs).length < 900 := by rw [hx] at hl; simp at hl ⊢; omega
 refine send_v F st { m with pc := m.pc + 1 } i.a xs bs to hx ha x hh hargs hll hnl (MS.mk' (upd_same _ _ _) (by simpa [RegIs] using hr) (by simpa [StkIs] using hs) (by simpa [AccIs] using hn)) ?_ ?_
 . intro hc
   rintro S1 ⟨ht1, hb1, hk1, hc1⟩ hM1
   simp [ht1]
   exact hz1 hc _ (Fr.here (fun n hn => by simp [hb1 n hn, ne_of_Lm hn, Lm]) (fun n hn => by first | rfl | simp [hk1 n hn, ne_of_Lm hn, Lm]) (by simp at hc1 ⊢; omega)) hM1.to
 . intro hc
   rintro S1 ⟨ht1, hb1, hk1, hc1⟩ hM1
   simp [ht1]
   exact hz2 hc _ (Fr.here (fun n hn => by simp [hb1 n hn, ne_of_Lm hn, Lm]) (fun n hn => by first | rfl | simp [hk1 n hn, ne_of_Lm hn, Lm]) (by simp at hc1 ⊢; omega)) hM1.to
end Go.Gv

namespace Go.Gv
open Go.Proofs
def pops_c : AC := (.seq (.reg [oI 2 0]) (.seq (.block 0 (.seq (.seq (.reg [oM 4 0, oZ 5 .eql 4 4, oM 3 5]) (.cond (.t 3) .skip (.seq (.reg [oM 6 0, oZ 7 .geq 6 9, oM 8 7, gM 9 8 true 0, oG 10 8 true (.ibin .leq (.t 9) (.c (.int .i64 13))), oA 11 (.pick (.t 8) (.t 10) (.c (.bool false))), oM 3 11]) (.cond (.t 3) .skip (.reg [oM 12 0, oZ 13 .geq 12 15, oM 14 13, gM 15 14 true 0, oG 16 14 true (.ibin .leq (.t 15) (.c (.int .i64 18))), oA 17 (.pick (.t 14) (.t 16) (.c (.bool false))), oM 3 17]))))) (.cond (.t 3) (.seq (.reg [oI 2 2]) .ret) (.seq (.seq (.reg [oM 19 0, oZ 20 .eql 19 2, oM 18 20]) (.cond (.t 18) .skip (.seq (.reg [oM 21 0, oZ 22 .eql 21 3, oM 18 22]) (.cond (.t 18) .skip (.seq (.reg [oM 23 0, oZ 24 .eql 23 6, oM 18 24]) (.cond (.t 18) .skip (.seq (.reg [oM 25 0, oZ 26 .eql 25 14, oM 18 26]) (.cond (.t 18) .skip (.seq (.reg [oM 27 0, oZ 28 .eql 27 19, oM 18 28]) (.cond (.t 18) .skip (.seq (.reg [oM 29 0, oZ 30 .eql 29 21, oM 18 30]) (.cond (.t 18) .skip (.reg [oM 31 0, oZ 32 .eql 31 22, oM 18 32]))))))))))))) (.cond (.t 18) (.seq (.reg [oI 2 1]) .ret) .skip))))) (.seq (.reg [oI 2 0]) .ret)))
set_option maxRecDepth 100000 in
theorem pops_get : getF Tryz.prog 174 106000 [] = some ("gavotte/ops.Pops", 33, pops_c, [(.tmp 2)]) := by kernel_rfl
def puts_c : AC := (.seq (.reg [oI 2 0]) (.seq (.block 0 (.seq (.seq (.reg [oM 4 0, oZ 5 .eql 4 3, oM 3 5]) (.cond (.t 3) .skip (.reg [oM 6 0, oZ 7 .eql 6 4, oM 3 7]))) (.cond (.t 3) (.seq (.reg [oI 2 2]) .ret) (.seq (.seq (.reg [oM 9 0, oZ 10 .eql 9 1, oM 8 10]) (.cond (.t 8) .skip (.seq (.reg [oM 11 0, oZ 12 .eql 11 5, oM 8 12]) (.cond (.t 8) .skip (.seq (.reg [oM 13 0, oZ 14 .eql 13 7, oM 8 14]) (.cond (.t 8) .skip (.seq (.reg [oM 15 0, oZ 16 .eql 15 8, oM 8 16]) (.cond (.t 8) .skip (.reg [oM 17 0, oZ 18 .geq 17 9, oM 19 18, gM 20 19 true 0, oG 21 19 true (.ibin .leq (.t 20) (.c (.int .i64 19))), oA 22 (.pick (.t 19) (.t 21) (.c (.bool false))), oM 8 22]))))))))) (.cond (.t 8) (.seq (.reg [oI 2 1]) .ret) .skip))))) (.seq (.reg [oI 2 0]) .ret)))
set_option maxRecDepth 100000 in
theorem puts_get : getF Tryz.prog 168 94000 [] = some ("gavotte/ops.Puts", 23, puts_c, [(.tmp 2)]) := by kernel_rfl
def takes_c : AC := (.seq (.reg [oA 2 (.box 93002 4 (.t 0)), oA 3 (.box 93003 2 (.t 1)), oI 4 0]) (.seq (.reg [oF 6 0 3, oL 7 6, oC 8 (.c (.fn 174 [])) [(.t 7)], oM 5 8]) (.seq (.seq (.reg [oF 9 0 3, oL 10 9, oZ 11 .eql 10 22]) (.cond (.t 11) (.reg [oM 12 5, oF 13 0 2, oL 14 13, oF 15 1 3, oL 16 15, oA 17 (.idx 2 (.t 14) (.t 16)), oF 18 0 17, oL 19 18, oB 20 .add 12 19, oM 5 20]) .skip)) (.seq (.reg [oM 21 5, oM 4 21]) .ret))))
set_option maxRecDepth 100000 in
theorem takes_get : getF Tryz.prog 167 93000 [] = some ("gavotte/flow.takes", 22, takes_c, [(.tmp 4)]) := by kernel_rfl
def next_c : AC := (.seq (.reg [oA 3 (.box 95003 2 (.t 1)), oA 4 (.mv (.c .nils))]) (.seq (.seq (.reg [oF 5 0 3, oL 6 5]) (.block 0 (.seq (.reg [oZ 8 .eql 6 20, oM 7 8]) (.cond (.t 7) (.seq (.reg [oF 9 1 3, oL 10 9, oA 11 (.bsl 95011 1 3 1 (.int .i64 0) [(0, (.t 10))]), oM 4 11]) .ret) (.seq (.reg [oZ 13 .eql 6 21, oM 12 13]) (.cond (.t 12) (.seq (.reg [oF 14 1 3, oL 15 14, oM 16 0, oZ 17 .add 16 1, oA 18 (.bsl 95018 1 3 2 (.int .i64 0) [(0, (.t 15)), (1, (.t 17))]), oM 4 18]) .ret) (.seq (.reg [oZ 20 .eql 6 25, oM 19 20]) (.cond (.t 19) (.seq (.reg [oA 4 (.mv (.c .nils))]) .ret) .skip)))))))) (.seq (.reg [oM 21 0, oZ 22 .add 21 1, oA 23 (.bsl 95023 1 3 1 (.int .i64 0) [(0, (.t 22))]), oM 4 23]) .ret)))
set_option maxRecDepth 100000 in
theorem next_get : getF Tryz.prog 169 95000 [] = some ("gavotte/flow.next", 24, next_c, [(.tmp 4)]) := by kernel_rfl
def mul64_c : AC := (.seq (.reg [oA 4 (.mv (.c (.int .u64 0))), oA 5 (.mv (.c (.int .u64 0)))]) (.seq (.reg [oM 14 0, oA 15 (.ibin .and (.t 14) (.c (.int .u64 4294967295))), oM 6 15]) (.seq (.reg [oM 16 0, oA 17 (.shift false (.t 16) (.c (.int .u64 32))), oM 7 17]) (.seq (.reg [oM 18 1, oA 19 (.ibin .and (.t 18) (.c (.int .u64 4294967295))), oM 8 19]) (.seq (.reg [oM 20 1, oA 21 (.shift false (.t 20) (.c (.int .u64 32))), oM 9 21]) (.seq (.reg [oM 22 6, oM 23 8, oB 24 .mul 22 23, oM 10 24]) (.seq (.reg [oM 25 7, oM 26 8, oB 27 .mul 25 26, oM 28 10, oA 29 (.shift false (.t 28) (.c (.int .u64 32))), oB 30 .add 27 29, oM 11 30]) (.seq (.reg [oM 31 11, oA 32 (.ibin .and (.t 31) (.c (.int .u64 4294967295))), oM 12 32]) (.seq (.reg [oM 33 11, oA 34 (.shift false (.t 33) (.c (.int .u64 32))), oM 13 34]) (.seq (.reg [oM 35 12, oM 36 6, oM 37 9, oB 38 .mul 36 37, oB 39 .add 35 38, oM 12 39]) (.seq (.reg [oM 40 7, oM 41 9, oB 42 .mul 40 41, oM 43 13, oB 44 .add 42 43, oM 45 12, oA 46 (.shift false (.t 45) (.c (.int .u64 32))), oB 47 .add 44 46, oM 4 47]) (.seq (.reg [oM 48 0, oM 49 1, oB 50 .mul 48 49, oM 5 50]) .ret))))))))))))
set_option maxRecDepth 100000 in
theorem mul64_get : getF Tryz.prog 232 120000 [] = some ("math/bits.Mul64", 51, mul64_c, [(.tmp 4), (.tmp 5)]) := by kernel_rfl
def mul_c : AC := (.seq (.reg [oA 4 (.mv (.c (.int .u64 0))), oA 5 (.mv (.c (.int .u64 0)))]) (.seq (.cond (.c (.bool false)) (.seq (.reg [oM 11 0, oA 12 (.conv .u32 (.t 11)), oM 13 1, oA 14 (.conv .u32 (.t 13)), oC 15 (.c (.fn 231 [])) [(.t 12), (.t 14)], oM 10 15, oE 16 10 0, oE 17 10 1, oM 6 16, oM 7 17]) (.seq (.reg [oM 18 6, oA 19 (.conv .u64 (.t 18)), oM 20 7, oA 21 (.conv .u64 (.t 20)), oM 4 19, oM 5 21]) .ret)) .skip) (.seq (.reg [oM 23 0, oM 24 1, oC 25 (.c (.fn 232 [])) [(.t 23), (.t 24)], oM 22 25, oE 26 22 0, oE 27 22 1, oM 8 26, oM 9 27]) (.seq (.reg [oM 28 8, oM 29 9, oM 4 28, oM 5 29]) .ret))))
set_option maxRecDepth 100000 in
theorem mul_get : getF Tryz.prog 209 105000 [] = some ("math/bits.Mul", 30, mul_c, [(.tmp 4), (.tmp 5)]) := by kernel_rfl
def popsV (n : Int) : Int := if n = 4 \/ (9 <= n /\ n <= 13) \/ (15 <= n /\ n <= 18) then 2 else if n = 2 \/ n = 3 \/ n = 6 \/ n = 14 \/ n = 19 \/ n = 21 \/ n = 22 then 1 else 0
def putsV (n : Int) : Int := if n = 3 \/ n = 4 then 2 else if n = 1 \/ n = 5 \/ n = 7 \/ n = 8 \/ (9 <= n /\ n <= 19) then 1 else 0
theorem popsV_range (n : Int) : 0 <= popsV n /\ popsV n <= 2 := by unfold popsV; split <;> (try split) <;> omega
theorem putsV_range (n : Int) : 0 <= putsV n /\ putsV n <= 2 := by unfold putsV; split <;> (try split) <;> omega
theorem pops_pc (n : Int) : PC Tryz.prog 174 [iv n] (iv (popsV n)) := by
 refine pc_of_get pops_get (by simp) _ (by simp) _ ?_
 unfold pops_c
 simp
 repeat' (refine split (fun hc => ?_) (fun hc => ?_) <;> simp [*])
 all_goals grind [popsV]
theorem puts_pc (n : Int) : PC Tryz.prog 168 [iv n] (iv (putsV n)) := by
 refine pc_of_get puts_get (by simp) _ (by simp) _ ?_
 unfold puts_c
 simp
 repeat' (refine split (fun hc => ?_) (fun hc => ?_) <;> simp [*])
 all_goals grind [putsV]
theorem lit25 {n : Int} (h1 : 1 <= n) (h2 : n <= 25) : n = 1 \/ n = 2 \/ n = 3 \/ n = 4 \/ n = 5 \/ n = 6 \/ n = 7 \/ n = 8 \/ n = 9 \/ n = 10 \/ n = 11 \/ n = 12 \/ n = 13 \/ n = 14 \/ n = 15 \/ n = 16 \/ n = 17 \/ n = 18 \/ n = 19 \/ n = 20 \/ n = 21 \/ n = 22 \/ n = 23 \/ n = 24 \/ n = 25 := by omega
def argsOf (hs : List Hnd) (a : Int) : Int := (hs[a.toNat]?.map Hnd.args).getD 0
def takesV (hs : List Hnd) (i : Ins) : Int := popsV i.op + if i.op = 22 then argsOf hs i.a else 0
def insOk (hs : List Hnd) (i : Ins) : Prop := i.op = 22 -> 0 <= i.a /\ i.a.toNat < hs.length /\ 0 <= argsOf hs i.a /\ argsOf hs i.a <= 4
theorem takesV_range {hs : List Hnd} {i : Ins} (h : insOk hs i) : 0 <= takesV hs i /\ takesV hs i <= 6 := by
 have := popsV_range i.op
 unfold takesV
 split
 . rename_i h1; have := h h1; omega
 . omega
theorem takes_pc (p : Prg) (i : Ins) (h : insOk p.hs i) : PC Tryz.prog 167 [p.av, i.av] (iv (takesV p.hs i)) := by
 refine pc_of_get takes_get (by simp) _ (by simp) _ ?_
 unfold takes_c
 simp
 refine call (pops_pc i.op) (by simp) ?_
 simp
 refine split (fun h1 => ?_) (fun h1 => ?_) <;> simp [h1]
 . obtain ⟨h2, h3, h4, h5⟩ := h h1
   have e : argsOf p.hs i.a = p.hs[i.a.toNat].args := by simp [argsOf, h3]
   have := popsV_range 22
   simp [h2, h3, takesV, h1]
   rw [wrap_in _ (by omega) (by omega)]
   omega
 . simp [takesV, h1]
def nextV (at' : Nat) (i : Ins) : List Nat :=
 if i.op = 20 then [i.a.toNat] else if i.op = 21 then [i.a.toNat, at' + 1] else if i.op = 25 then [] else [at' + 1]
def nats (l : List Nat) : AV := .lst 1 (l.map (fun n : Nat => iv n))
theorem next_pc (n : Nat) (i : Ins) (hn : n < 4611686018427387904) (h : i.op = 20 \/ i.op = 21 -> 0 <= i.a) : PC Tryz.prog 169 [iv n, i.av] (nats (nextV n i)) := by
 have w : IntKind.i64.wrap ((n : Int) + 1) = (n : Int) + 1 := wrap_in _ (by omega) (by omega)
 refine pc_of_get next_get (by simp) _ (by simp) _ ?_
 unfold next_c
 simp
 refine split (fun h1 => ?_) (fun h1 => ?_) <;> simp [h1]
 . have := h (.inl h1)
   simp [nextV, h1, nats]; omega
 refine split (fun h2 => ?_) (fun h2 => ?_) <;> simp [h2]
 . have := h (.inr h2)
   simp [nextV, h2, nats, w]; omega
 refine split (fun h3 => ?_) (fun h3 => ?_) <;> simp [h3]
 . simp [nextV, h3, nats]
 . simp [nextV, h1, h2, h3, nats, w]
abbrev uv (n : Int) : AV := .int .u64 n
theorem u64_wrap (n : Int) (h1 : 0 <= n) (h2 : n < 18446744073709551616) : IntKind.u64.wrap n = n := by
 simp [IntKind.wrap, IntKind.signed, IntKind.bits]; omega
theorem u64_low (n : Nat) (h : n < 18446744073709551616) : bitAnd .u64 (n : Int) 4294967295 = ((n % 4294967296 : Nat) : Int) := by
 have e : (BitVec.ofInt 64 (n : Int) &&& BitVec.ofInt 64 4294967295).toNat = n % 4294967296 := by
   have e1 : (BitVec.ofInt 64 (n : Int)).toNat = n := by rw [BitVec.toNat_ofInt]; omega
   have e2 : (BitVec.ofInt 64 4294967295).toNat = 2 ^ 32 - 1 := by decide
   rw [BitVec.toNat_and, e1, e2, Nat.and_two_pow_sub_one_eq_mod]
 show IntKind.u64.wrap ((BitVec.ofInt 64 (n : Int) &&& BitVec.ofInt 64 4294967295).toNat : Int) = _
 rw [e, u64_wrap _ (by omega) (by omega)]
theorem shr32 (n : Nat) : shiftI false .u64 n 32 = ((n / 4294967296 : Nat) : Int) := by
 show (n : Int).fdiv 4294967296 = _
 rw [Int.fdiv_eq_ediv_of_nonneg _ (by decide)]; rfl
theorem mul64_pc (n : Nat) (h : n < 4294967296) : PC Tryz.prog 232 [uv 1, uv n] (.tup [uv 0, uv n]) := by
 refine pc_of_get mul64_get (by simp) _ (by simp) _ ?_
 unfold mul64_c
 have e1 : bitAnd .u64 1 4294967295 = 1 := u64_low 1 (by omega)
 have e2 := u64_low n (by omega)
 rw [Nat.mod_eq_of_lt h] at e2
 have e0 : bitAnd .u64 0 4294967295 = 0 := u64_low 0 (by omega)
 have w0 : IntKind.u64.wrap 0 = 0 := by decide
 have wn : IntKind.u64.wrap (n : Int) = n := u64_wrap _ (by omega) (by omega)
 have s0 : shiftI false .u64 1 32 = 0 := shr32 1
 have s1 := shr32 n
 rw [Nat.div_eq_of_lt h] at s1
 have s2 : shiftI false .u64 0 32 = 0 := shr32 0
 simp only [Int.natCast_zero] at s1
 simp [e1, e2, s0, s1, s2, wn, w0, e0]
theorem mul_pc (n : Nat) (h : n < 4294967296) : PC Tryz.prog 209 [uv 1, uv n] (.tup [uv 0, uv n]) := by
 refine pc_of_get mul_get (by simp) _ (by simp) _ ?_
 unfold mul_c
 simp
 refine call (mul64_pc n h) (by simp) ?_
 simp
end Go.Gv

namespace Go.Gv
open Go.Proofs
def rep_l0 : AC := (.seq (.seq (.reg [oM 34 8, oM 35 7, oK 36 35, oB 37 .lss 34 36]) (.cond (.t 37) .skip (.exit 0))) (.block 1 (.regd [oM 38 8, oM 39 7, oM 40 8, oA 41 (.slice (some 1) (.t 39) (some (.t 40)) none), oM 42 7, oM 43 8, oA 44 (.slice (some 1) (.t 42) none (some (.t 43))), oA 45 (.cpy 1 (.t 41) (.t 44)), oB 46 .add 38 45, oM 8 46] [[], [], [], [1, 2], [], [], [4, 5], [3, 6, 1, 2, 4, 5], [0, 7, 3, 6, 1, 2, 4, 5], [8, 7, 0, 1, 2, 3, 4, 5, 6]])))
def rep_c : AC := (.seq (.reg [oA 4 (.mv (.c .nils))]) (.seq (.seq (.reg [oM 9 1, oZ 10 .lss 9 0]) (.cond (.t 10) (.reg [⟨(some 11), none, (.op .bad)⟩, ⟨none, none, (.op .bad)⟩]) .skip)) (.seq (.reg [oM 13 0, oK 14 13, oA 15 (.conv .u64 (.t 14)), oM 16 1, oA 17 (.conv .u64 (.t 16)), oC 18 (.c (.fn 209 [])) [(.t 15), (.t 17)], oM 12 18, oE 19 12 0, oE 20 12 1, oM 5 19, oM 6 20]) (.seq (.seq (.reg [oM 21 5, oA 22 (.ibin .gtr (.t 21) (.c (.int .u64 0))), oM 23 22, gM 24 23 false 6, oG 25 23 false (.ibin .gtr (.t 24) (.c (.int .u64 9223372036854775807))), oA 26 (.pick (.t 23) (.c (.bool true)) (.t 25))]) (.cond (.t 26) (.reg [⟨(some 27), none, (.op .bad)⟩, ⟨none, none, (.op .bad)⟩]) .skip)) (.seq (.reg [oM 28 6, oA 29 (.conv .i64 (.t 28)), oA 30 (.msl 92030 1 8 (.int .i64 0) (.t 29)), oM 7 30]) (.seq (.reg [oM 31 7, oM 32 0, oA 33 (.cpy 1 (.t 31) (.t 32)), oM 8 33]) (.seq (.block 0 (.loop rep_l0)) (.seq (.reg [oM 47 7, oM 4 47]) .ret))))))))
set_option maxRecDepth 100000 in
theorem rep_get : getF Tryz.prog 166 92000 [] = some ("slices.Repeat[[]int,int]", 48, rep_c, [(.tmp 4)]) := by kernel_rfl
theorem replicate_copy (n c : Nat) (a z : AV) (h1 : 0 < n) (h2 : n < c) :
   List.replicate n a ++ (List.replicate (min n (c - n)) a ++ (List.replicate n a ++ List.replicate (c - n) z).drop (n + min n (c - n))) =
     List.replicate (n + min n (c - n)) a ++ List.replicate (c - (n + min n (c - n))) z := by
 rw [List.drop_append]
 simp only [List.drop_replicate, List.length_replicate]
 have e2 : n - (n + min n (c - n)) = 0 := by omega
 rw [e2, List.replicate_zero, List.nil_append, <- List.append_assoc, List.replicate_append_replicate]
 congr 1
 congr 1; omega
theorem repeat_v (x v : Int) (c : Nat) (hv : v = c) (hc : 1 <= c) (hc2 : c <= 1000) (nm st0 : Nat) {S : St} {k : AV -> St -> Prop} {u : Dep k}
   (hk : ∀ st S', Fr (rng 92000 93000) S S' -> S'.blk 92030 = some ⟨st, 1, List.replicate c (iv x)⟩ -> k (.sl 92030 st 1 0 c) S') :
   CallG Tryz.prog (.fn 166 []) [.acc nm st0 1 [iv x], iv v] S k u := by
 subst hv
 refine callV rep_get (by simp) (by simp) ?_
 unfold rep_c
 have w1 : IntKind.u64.wrap (c : Int) = c := u64_wrap _ (by omega) (by omega)
 have w2 : IntKind.u64.wrap 1 = 1 := by decide
 have w3 : IntKind.i64.wrap (c : Int) = c := wrap_in _ (by omega) (by omega)
 have n1 : ¬ ((c : Int) < 0) := by omega
 have n2 : ¬ ((c : Int) > 9223372036854775807) := by omega
 have n2' : ¬ (9223372036854775807 < (c : Int)) := by omega
 simp [n1, w1, w2]
 refine call (mul_pc c (by omega)) (by simp) ?_
 have hm : c * 8 <= 140737488355328 := by omega
 have hl1 : min 1 c = 1 := by omega
 simp [n2, n2', w3, hm, hl1]
 refine loopM (fun m S' => ∃ (n : Nat), m = c - n /\ 1 <= n /\ n <= c /\ S'.t 8 = iv n /\ (∃ st, S'.t 7 = .sl 92030 st 1 0 c /\ S'.blk 92030 = some ⟨st, 1, List.replicate n (iv x) ++ List.replicate (c - n) (iv 0)⟩) /\ Fh (rng 92000 93000) S S') (c - 1) ?_ ?_
 . refine ⟨1, rfl, by omega, hc, by simp, ⟨S.clk + 1 + 2 + 11 + 6 + 1 + 1, by simp, ?_⟩, ?_⟩
   . simp
   . exact Fh.here (fun n hn => by repeat rw [upd_out hn rfl]) (fun n hn => rfl) (by omega)
 . rintro m S' ⟨n, rfl, h1, h2, g8, ⟨st, g7, gb⟩, hF⟩
   by_cases hlt : n < c
   . have hw : IntKind.i64.wrap ((n : Int) + ((min n (c - n) : Nat) : Int)) = ((n + min n (c - n) : Nat) : Int) := by rw [wrap_in _ (by omega) (by omega)]; omega
     have hle : n + (c - n) <= c := by omega
     have hcopy := replicate_copy n c (iv x) (iv 0) h1 hlt
     have hmin : min n c = n := by omega
     simp [rep_l0, g7, g8, gb, hlt, h2, hle]
     exact ⟨c - (n + min n (c - n)), by omega, n + min n (c - n), rfl, by omega, by omega, hw, hcopy, hF.step (fun n hn => by repeat rw [upd_out hn rfl]) (fun n hn => rfl) (by omega)⟩
   . have e : n = c := by omega
     subst e
     simp [rep_l0, g7, g8, gb]
     refine hk st _ ⟨rfl, hF.b, hF.k, by have := hF.c; simp only []; omega⟩ ?_
     simpa using gb
end Go.Gv

namespace Go.Gv
open Go.Proofs
def walk_l0 : AC := (.seq (.reg [oB 75 .lss 74 73]) (.seq (.cond (.t 75) .skip (.exit 2)) (.seq (.block 3 (.seq (.reg [oA 76 (.idx 1 (.t 72) (.t 74)), oL 77 76, oM 12 77]) (.seq (.seq (.reg [oM 78 4, oM 79 12, oA 80 (.idx 1 (.t 78) (.t 79)), oL 81 80, oZ 82 .eql 81 (-1)]) (.cond (.t 82) (.seq (.reg [oM 83 4, oM 84 12, oM 85 10, oA 86 (.idx 1 (.t 83) (.t 84)), oN (.store 1 (.t 86) (.t 85))]) (.reg [oM 87 7, oM 88 12, oA 89 (.bsl 79089 1 3 1 (.int .i64 0) [(0, (.t 88))]), oA 90 (.appw 1000079021 1 3 8 (.t 87) (.t 89)), oM 7 90])) .skip)) (.seq (.reg [oM 91 4, oM 92 12, oA 93 (.idx 1 (.t 91) (.t 92)), oL 94 93, oM 95 10, oB 96 .neq 94 95]) (.cond (.t 96) (.seq (.reg [oA 4 (.mv (.c .nils)), oI 5 0, oA 6 (.mv (.c (.bool false)))]) .ret) .skip))))) (.reg [oZ 97 .add 74 1, oM 74 97]))))
def walk_l1 : AC := (.seq (.seq (.reg [oM 22 7, oK 23 22, oZ 24 .gtr 23 0]) (.cond (.t 24) .skip (.exit 0))) (.block 1 (.seq (.reg [oM 25 7, oA 26 (.idx 1 (.t 25) (.c (.int .i64 0))), oL 27 26, oM 8 27]) (.seq (.reg [oM 28 7, oA 29 (.slice (some 1) (.t 28) (some (.c (.int .i64 1))) none), oM 7 29]) (.seq (.seq (.reg [oM 30 8, oF 31 1 3, oL 32 31, oK 33 32, oB 34 .eql 30 33]) (.cond (.t 34) (.exit 1) .skip)) (.seq (.reg [oF 35 1 3, oL 36 35, oM 37 8, oA 38 (.idx 2 (.t 36) (.t 37)), oA 39 (.load (some 2) (.t 38)), oA 9 (.new 79009 2 (.agg [(.int .i64 0), (.int .i64 0)])), oN (.store 2 (.t 9) (.t 39))]) (.seq (.regd [oM 40 4, oM 41 8, oA 42 (.idx 1 (.t 40) (.t 41)), oL 43 42, oA 44 (.load (some 4) (.t 2)), oA 45 (.load (some 2) (.t 9)), oC 46 (.c (.fn 167 [])) [(.t 44), (.t 45)], oB 47 .sub 43 46, oM 10 47] [[], [], [0, 1], [2, 0, 1], [], [], [4, 5], [3, 6, 2, 0, 1, 4, 5], [7, 6, 0, 1, 2, 3, 4, 5]]) (.seq (.seq (.reg [oM 48 10, oZ 49 .lss 48 0, oM 50 49, gM 51 50 false 10, gF 52 50 false 0 9, gL 53 50 false 52, ⟨(some 54), (some (50, false)), (.call (.c (.fn 168 [])) [(.t 53)])⟩, oG 55 50 false (.ibin .add (.t 51) (.t 54)), oG 56 50 false (.ibin .gtr (.t 55) (.c (.int .i64 8))), oA 57 (.pick (.t 50) (.c (.bool true)) (.t 56))]) (.cond (.t 57) (.seq (.reg [oA 4 (.mv (.c .nils)), oI 5 0, oA 6 (.mv (.c (.bool false)))]) .ret) .skip)) (.seq (.reg [oM 58 10, oF 59 0 9, oL 60 59, oC 61 (.c (.fn 168 [])) [(.t 60)], oB 62 .add 58 61, oM 10 62]) (.seq (.reg [oM 63 5, oM 64 4, oM 65 8, oA 66 (.idx 1 (.t 64) (.t 65)), oL 67 66, oM 68 10, oA 69 (.mm true (.t 63) [(.t 67), (.t 68)]), oM 5 69]) (.seq (.reg [oM 70 8, oA 71 (.load (some 2) (.t 9)), oC 72 (.c (.fn 169 [])) [(.t 70), (.t 71)], oK 73 72, oI 74 0]) (.block 2 (.loop walk_l0)))))))))))))
def walk_c : AC := (.seq (.reg [oA 2 (.box 79002 4 (.t 0)), oA 3 (.box 79003 2 (.t 1)), oA 4 (.mv (.c .nils)), oI 5 0, oA 6 (.mv (.c (.bool false)))]) (.seq (.reg [oA 13 (.bsl 79013 1 3 1 (.int .i64 0) [(0, (.c (.int .i64 (-1))))]), oF 14 1 3, oL 15 14, oK 16 15, oZ 17 .add 16 1, oC 18 (.c (.fn 166 [])) [(.t 13), (.t 17)], oM 4 18]) (.seq (.reg [oM 19 4, oA 20 (.idx 1 (.t 19) (.c (.int .i64 0))), oN (.store 1 (.t 20) (.c (.int .i64 0)))]) (.seq (.seq (.reg [oA 21 (.bslm 1000079021 1 3 1 (.int .i64 0) [(0, (.c (.int .i64 0)))]), oM 7 21]) (.block 0 (.loop walk_l1))) (.seq (.reg [oM 98 4, oM 99 5, oM 4 98, oM 5 99, oA 6 (.mv (.c (.bool true)))]) .ret)))))
set_option maxRecDepth 100000 in
theorem walk_get : getF Tryz.prog 123 79000 [(21, 1000000021), (90, 1000000021)] = some ("gavotte/flow.walk", 100, walk_c, [(.tmp 4), (.tmp 5), (.tmp 6)]) := by kernel_rfl
def visit1 (n : Int) (s : List Int × List Nat) (k : Nat) : Option (List Int × List Nat) :=
 if s.1[k]? = some (-1) then some (s.1.set k n, s.2 ++ [k]) else if s.1[k]? = some n then some s else none
def visitL (n : Int) : List Nat -> List Int × List Nat -> Option (List Int × List Nat)
 | [], s => some s
 | k :: ks, s => (visit1 n s k).bind (visitL n ks)
def walkGo (hs : List Hnd) (code : List Ins) : Nat -> List Int -> List Nat -> Int -> Option (List Int × Int)
 | 0, _, _, _ => none
 | _ + 1, out, [], most => some (out, most)
 | f + 1, out, a :: left, most =>
   if a = code.length then walkGo hs code f out left most else
     match code[a]?, out[a]? with
     | some i, some d =>
       if d - takesV hs i < 0 \/ d - takesV hs i + putsV i.op > 8 then none else
         match visitL (d - takesV hs i + putsV i.op) (nextV a i) (out, left) with
         | some s => walkGo hs code f s.1 s.2 (max (max most d) (d - takesV hs i + putsV i.op))
         | none => none
     | _, _ => none
def walkV (hs : List Hnd) (code : List Ins) : Option (List Int × Int) :=
 walkGo hs code (code.length + 3) ((List.replicate (code.length + 1) (-1)).set 0 0) [0] 0
def walkAV : Option (List Int × Int) -> AV
 | some r => .tup [ints r.1, iv r.2, .bool true]
 | none => .tup [ints [], iv 0, .bool false]
def codeOk (hs : List Hnd) (code : List Ins) : Prop := code.length <= 900 /\ ∀ i ∈ code, insOk hs i /\ (i.op = 20 \/ i.op = 21 -> 0 <= i.a /\ i.a <= code.length)
structure WfW (n : Nat) (out : List Int) (left : List Nat) : Prop where
 len : out.length = n + 1
 rng : ∀ x ∈ out, -1 <= x /\ x <= 8
 q : ∀ a ∈ left, a <= n
def unr (out : List Int) : Nat := out.countP (fun x => x == -1)
theorem unr_set (out : List Int) (k : Nat) (n : Int) (h : out[k]? = some (-1)) (hn : n ≠ -1) : unr (out.set k n) + 1 = unr out := by
 induction out generalizing k with
 | nil => simp at h
 | cons x l ih =>
   cases k with
   | zero =>
     simp at h; subst h
     simp [unr, hn]
   | succ k =>
     have := ih k (by simpa using h)
     simp only [unr, List.set_cons_succ, List.countP_cons] at this ⊢
     omega
theorem visit1_ok {m : Nat} {n : Int} {s s' : List Int × List Nat} {k : Nat} (h : visit1 n s k = some s') (hk : k <= m) (hn : 0 <= n /\ n <= 8) (hw : WfW m s.1 s.2) : WfW m s'.1 s'.2 /\ unr s'.1 + s'.2.length = unr s.1 + s.2.length := by
 unfold visit1 at h
 split at h
 . rename_i h1
   cases h
   have := unr_set s.1 k n h1 (by omega)
   refine ⟨⟨by simpa using hw.len, ?_, ?_⟩, by simp; omega⟩
   . intro x hx
     rcases List.mem_or_eq_of_mem_set hx with hx | hx
     . exact hw.rng x hx
     . omega
   . intro a ha
     simp at ha
     rcases ha with ha | ha
     . exact hw.q a ha
     . omega
 . split at h
   . cases h; exact ⟨hw, rfl⟩
   . cases h
theorem nextV_le {code : List Ins} {hs : List Hnd} (hc : codeOk hs code) {a : Nat} {i : Ins} (hi : code[a]? = some i) : ∀ k ∈ nextV a i, k <= code.length := by
 have ha := (List.getElem?_eq_some_iff.1 hi).1
 have := (hc.2 i (List.mem_of_getElem? hi)).2
 intro k hk
 unfold nextV at hk
 split at hk
 . rename_i h; have := this (.inl h); simp at hk; omega
 . split at hk
   . rename_i h; have := this (.inr h); simp at hk; omega
   . split at hk
     . simp at hk
     . simp at hk; omega
def LQ (NL : Nat) (S : St) (v : AV) (xs : List AV) : Prop := ∃ st off es, v = .sl NL st 1 off xs.length /\ S.blk NL = some ⟨st, 1, es⟩ /\ off + xs.length <= es.length /\ (es.drop off).take xs.length = xs
theorem take_first {α : Type} {es xs : List α} {x : α} {off : Nat} (h : (es.drop off).take (x :: xs).length = x :: xs) : es[off]? = some x /\ (es.drop (off + 1)).take xs.length = xs := by
 have h0 : ((es.drop off).take (x :: xs).length)[0]? = some x := by rw [h]; rfl
 simp at h0
 refine ⟨h0, ?_⟩
 have hlt := (List.getElem?_eq_some_iff.1 h0).1
 rw [List.drop_eq_getElem_cons hlt, List.length_cons, List.take_succ_cons] at h
 exact (List.cons.inj h).2
theorem list_ints (l : List Int) (blk : Nat -> Option Blk) (nm st : Nat) (hb : blk nm = some ⟨st, 1, l.map iv⟩) : listOf blk 1 (.sl nm st 1 0 l.length) = some (l.map iv) := by
 have e : (l.map iv).take l.length = l.map iv := List.take_of_length_le (by simp)
 rw [listOf_sl]
 simp [hb, e]
def WI (p : Prg) (h : Hnd) (R : Option (List Int × Int)) (f : Nat) (S : St) : Prop :=
 ∃ (out : List Int) (left : List Nat) (most : Int), walkGo p.hs h.code f out left most = R /\ WfW h.code.length out left /\ (unr out + left.length < f /\ f <= h.code.length + 3) /\ (0 <= most /\ most <= 8) /\
   (∃ st, S.t 2 = .ptr 79002 st 4 0 0 /\ S.blk 79002 = some ⟨st, 4, [p.av]⟩) /\ (∃ st, S.t 3 = .ptr 79003 st 2 0 0 /\ S.blk 79003 = some ⟨st, 2, [h.av]⟩) /\
   (∃ st, S.t 4 = .sl 92030 st 1 0 out.length /\ S.blk 92030 = some ⟨st, 1, out.map iv⟩) /\ S.t 5 = iv most /\ LQ 1000079021 S (S.t 7) (left.map (fun n : Nat => iv n))
def WJ (p : Prg) (h : Hnd) (n : Int) (ks : List Nat) (m : Nat) (most : Int) (R : Option (List Int × List Nat)) (j : Nat) (S : St) : Prop :=
 ∃ (out : List Int) (left : List Nat), visitL n (ks.drop j) (out, left) = R /\ WfW h.code.length out left /\ unr out + left.length = m /\
   (∃ st, S.t 2 = .ptr 79002 st 4 0 0 /\ S.blk 79002 = some ⟨st, 4, [p.av]⟩) /\ (∃ st, S.t 3 = .ptr 79003 st 2 0 0 /\ S.blk 79003 = some ⟨st, 2, [h.av]⟩) /\
   (∃ st, S.t 4 = .sl 92030 st 1 0 out.length /\ S.blk 92030 = some ⟨st, 1, out.map iv⟩) /\ S.t 5 = iv most /\ LQ 1000079021 S (S.t 7) (left.map (fun n : Nat => iv n)) /\
   S.t 10 = iv n /\ S.t 72 = nats ks /\ S.t 73 = iv ks.length /\ S.t 74 = iv j
set_option maxHeartbeats 1000000 in
theorem walk_pc (p : Prg) (h : Hnd) (hc : codeOk p.hs h.code) : PC Tryz.prog 123 [p.av, h.av] (walkAV (walkV p.hs h.code)) := by
 have hlen := hc.1
 refine pc_of_get walk_get (by simp) _ (by simp) _ ?_
 unfold walk_c
 have w1 : IntKind.i64.wrap ((h.code.length : Int) + 1) = ((h.code.length + 1 : Nat) : Int) := by rw [wrap_in _ (by omega) (by omega)]; rfl
 simp
 refine repeat_v (-1) _ (h.code.length + 1) w1 (by omega) (by omega) _ _ (fun st S1 hF hb => ?_)
 have ht := hF.t
 have b2 := hF.b 79002 rfl
 have b3 := hF.b 79003 rfl
 simp at b2 b3 ht
 simp [ht, b2, b3, hb]
 clear hF ht
 refine loopM (WI p h (walkV p.hs h.code)) (h.code.length + 3) ?_ ?_
 . refine ⟨(List.replicate (h.code.length + 1) (-1)).set 0 0, [0], 0, rfl, ⟨by simp, ?_, by simp⟩, ?_, by omega, by simp [b2], by simp [b3], ?_, by simp, ?_⟩
   . intro x hx
     rcases List.mem_or_eq_of_mem_set hx with hx | hx
     . have := List.eq_of_mem_replicate hx; omega
     . omega
   . refine ⟨?_, by omega⟩
     simp [unr, List.replicate_succ, List.countP_replicate]
   . simp [List.map_set]
   . exact ⟨_, 0, [iv 0], by simp; rfl, by simp, by simp, by simp⟩
 clear b2 b3 hb S1 st
 rintro f S ⟨out, left, most, hgo, hwf, ⟨hun, hfl⟩, hmost, ⟨s2, g2, b2⟩, ⟨s3, g3, b3⟩, ⟨s4, g4, b4⟩, g5, ⟨s7, off, es, g7, b7, hle, hq⟩⟩
 obtain ⟨f, rfl⟩ : ∃ f', f = f' + 1 := ⟨f - 1, by omega⟩
 cases left with
 | nil =>
   simp at g7
   simp [walkGo] at hgo
   have hl := list_ints out S.blk 92030 s4 b4
   simp [walk_l1, g2, g3, g4, g5, g7, b2, b3, b4, <- hgo, walkAV, hl, ints]
 | cons a left =>
   simp at g7 hle hq
   obtain ⟨q1, q2⟩ := take_first (x := iv a) (xs := left.map (fun n : Nat => iv n)) (off := off) (es := es) (by simpa using hq)
   simp at q2
   have ha := hwf.q a (by simp)
   simp [walk_l1, g2, g3, g4, g5, g7, b2, b3, b4, b7, q1]
   refine split (fun hal => ?_) (fun hal => ?_)
   . have hal : a = h.code.length := by omega
     rw [walkGo, if_pos hal] at hgo
     simp
     refine ⟨f, by omega, out, left, most, hgo, ⟨hwf.len, hwf.rng, fun x hx => hwf.q x (by simp [hx])⟩, by simp at hun; omega, hmost, by simp [g2, b2], by simp [g3, b3], by simp [g4, b4], by simp [g5], ?_⟩
     exact ⟨s7, off + 1, es, by simp, by simp [b7], by simp; omega, by simpa using q2⟩
   . have hlt : a < h.code.length := by omega
     have hne : a ≠ h.code.length := by omega
     have hout := hwf.len
     have hi : h.code[a]? = some h.code[a] := List.getElem?_eq_getElem hlt
     have hd : out[a]? = some out[a] := List.getElem?_eq_getElem (by omega)
     have hlo : a < out.length := by omega
     have hrd := hwf.rng _ (List.getElem_mem (l := out) (n := a) (by omega))
     obtain ⟨hok, hjmp⟩ := hc.2 _ (List.getElem_mem (l := h.code) (n := a) hlt)
     have htk := takesV_range hok
     have hpt := putsV_range (h.code[a]).op
     have wt : IntKind.i64.wrap (out[a] - takesV p.hs h.code[a]) = out[a] - takesV p.hs h.code[a] := wrap_in _ (by omega) (by omega)
     have wp : IntKind.i64.wrap (out[a] - takesV p.hs h.code[a] + putsV (h.code[a]).op) = out[a] - takesV p.hs h.code[a] + putsV (h.code[a]).op := wrap_in _ (by omega) (by omega)
     simp [g2, g3, g4, g5, g7, b2, b3, b4, b7, hlt, hlo]
     refine calld (takes_pc p _ hok) (by simp) ?_
     simp [wt]
     rw [walkGo, if_neg hne, hi, hd] at hgo
     simp only at hgo
     refine split (fun hn1 => ?_) (fun hn1 => ?_) <;> simp [hn1]
     . rw [if_pos (.inl hn1)] at hgo
       simp [<- hgo, walkAV]
     refine call (puts_pc (h.code[a]).op) (by simp) ?_
     simp [wp]
     refine split (fun hn2 => ?_) (fun hn2 => ?_) <;> simp [hn2]
     . rw [if_pos (.inr hn2)] at hgo
       simp [<- hgo, walkAV]
     rw [if_neg (by omega)] at hgo
     refine call (puts_pc (h.code[a]).op) (by simp) ?_
     simp [wp, hlo, g2, g3, g4, g5, b2, b3, b4]
     refine call (next_pc a h.code[a] (by omega) (fun q => (hjmp q).1)) (by simp) ?_
     simp [nats]
     generalize hk : nextV a h.code[a] = ks at hgo ⊢
     generalize hn : out[a] - takesV p.hs h.code[a] + putsV (h.code[a]).op = n at hgo wp ⊢
     have hks : ∀ k ∈ ks, k <= h.code.length := by rw [<- hk]; exact nextV_le hc hi
     have hkl : ks.length <= 2 := by rw [<- hk]; unfold nextV; (repeat' split) <;> simp
     have hn0 : 0 <= n /\ n <= 8 := by omega
     refine loopN (WJ p h n ks (unr out + left.length) (max (max most out[a]) n) (visitL n ks (out, left))) ks.length ?_ ?_
     . exact ⟨out, left, rfl, ⟨hwf.len, hwf.rng, fun x hx => hwf.q x (by simp [hx])⟩, rfl, by simp [g2, b2], by simp [g3, b3], by simp [g4, b4], by simp, ⟨s7, off + 1, es, by simp, by simp [b7], by simp; omega, by simpa using q2⟩, by simp, by simp [nats], by simp, by simp⟩
     . rintro j S2 hj ⟨o2, l2, hv, hw2, hu2, ⟨t2, k2, c2⟩, ⟨t3, k3, c3⟩, ⟨t4, k4, c4⟩, k5, ⟨t7, of2, es2, k7, c7, hle2, hq2⟩, k10, k72, k73, k74⟩
       by_cases hjl : j < ks.length
       . have hd2 : ks.drop j = ks[j] :: ks.drop (j + 1) := List.drop_eq_getElem_cons hjl
         have hkj := hks _ (List.getElem_mem hjl)
         have ho2 := hw2.len
         have hko : ks[j] < o2.length := by omega
         have hr2 := hw2.rng _ (List.getElem_mem hko)
         rw [hd2] at hv
         simp at hle2
         have e2 : o2[ks[j]]? = some o2[ks[j]] := List.getElem?_eq_getElem hko
         simp [walk_l0, nats, k2, k3, k4, k5, k7, k10, k72, k73, k74, c2, c3, c4, c7, hjl, hko]
         have hl2 : (l2.length + 1) * 8 <= 140737488355328 := by simp at hun; omega
         have hq3 : (es2.drop of2).take l2.length = l2.map (fun n : Nat => iv n) := by simpa using hq2
         have wj := wrap_succ j _ hjl (by omega)
         refine split (fun hm1 => ?_) (fun hm1 => ?_)
         . have hv1 : visit1 n (o2, l2) ks[j] = some (o2.set ks[j] n, l2 ++ [ks[j]]) := by
             unfold visit1; rw [if_pos (by rw [e2, hm1])]
           obtain ⟨hw3, hu3⟩ := visit1_ok hv1 hkj hn0 hw2
           simp only [visitL, hv1, Option.bind_some] at hv
           simp [k2, k3, k4, k5, k7, k10, k72, k73, k74, c2, c3, c4, c7, hjl, hko, hle2, hl2, hq3, nats, wj]
           refine ⟨o2.set ks[j] n, l2 ++ [ks[j]], hv, hw3, by simpa [hu2] using hu3, by simp [k2, c2], by simp [k3, c3], by simp [k4, c4, List.map_set], by simp [k5], ?_, by simp [k10], by simp [k72, nats], by simp [k73], by simp⟩
           exact ⟨_, 0, (l2 ++ [ks[j]]).map (fun n : Nat => iv n), by simp; rfl, by simp, by simp, by rw [List.drop_zero]; exact List.take_of_length_le (Nat.le_refl _)⟩
         . simp [k2, k3, k4, k5, k7, k10, k72, k73, k74, c2, c3, c4, c7, hjl, hko, nats]
           refine split (fun hm2 => ?_) (fun hm2 => ?_)
           . have hv1 : visit1 n (o2, l2) ks[j] = some (o2, l2) := by
               unfold visit1; rw [if_neg (by rw [e2]; simpa using hm1), if_pos (by rw [e2, hm2])]
             simp only [visitL, hv1, Option.bind_some] at hv
             simp [k74, wj]
             refine ⟨o2, l2, hv, hw2, hu2, by simp [k2, c2], by simp [k3, c3], by simp [k4, c4], by simp [k5], ?_, by simp [k10], by simp [k72, nats], by simp [k73], by simp⟩
             exact ⟨t7, of2, es2, by simp [k7], by simp [c7], by simpa using hle2, hq2⟩
           . have hv1 : visit1 n (o2, l2) ks[j] = none := by
               unfold visit1; rw [if_neg (by rw [e2]; simpa using hm1), if_neg (by rw [e2]; simpa using hm2)]
             simp only [visitL, hv1, Option.bind_none] at hv
             rw [<- hv] at hgo
             simp only at hgo
             simp [<- hgo, walkAV]
       . have hjl : j = ks.length := by omega
         subst hjl
         rw [List.drop_length] at hv
         simp only [visitL] at hv
         rw [<- hv] at hgo
         simp only at hgo
         simp [walk_l0, k2, k3, k4, k5, k7, k10, k72, k73, k74, c2, c3, c4, c7]
         simp at hun
         refine ⟨f, by omega, o2, l2, _, hgo, hw2, by omega, by omega, by simp [k2, c2], by simp [k3, c3], by simp [k4, c4], by simp [k5], ?_⟩
         exact ⟨t7, of2, es2, by simp [k7], by simp [c7], by simpa using hle2, hq2⟩
end Go.Gv

namespace Go.Gv
open Go.Proofs
def fcheck_l0 : AC := (.seq (.reg [oB 18 .lss 17 16]) (.seq (.cond (.t 18) .skip (.exit 0)) (.seq (.block 1 (.seq (.reg [oA 19 (.idx 2 (.t 15) (.t 17)), oA 20 (.load (some 2) (.t 19)), oA 5 (.new 36005 2 (.agg [(.int .i64 0), .nils])), oN (.store 2 (.t 5) (.t 20))]) (.seq (.reg [oA 22 (.load (some 4) (.t 1)), oA 23 (.load (some 2) (.t 5)), oC 24 (.c (.fn 123 [])) [(.t 22), (.t 23)], oM 21 24, oE 25 21 0, oE 26 21 1, oE 27 21 2, oM 6 25, oM 7 26, oM 8 27]) (.seq (.reg [oM 28 8, oA 29 (.not (.t 28))]) (.cond (.t 29) (.seq (.reg [oI 2 5]) .ret) .skip))))) (.reg [oZ 30 .add 17 1, oM 17 30]))))
def fcheck_c : AC := (.seq (.reg [oA 1 (.box 36001 4 (.t 0)), oI 2 0]) (.seq (.seq (.reg [oA 9 (.load (some 4) (.t 1)), oC 10 (.c (.fn 122 [])) [(.t 9)], oM 3 10]) (.seq (.reg [oM 11 3, oZ 12 .neq 11 0]) (.cond (.t 12) (.seq (.reg [oM 13 3, oM 2 13]) .ret) .skip))) (.seq (.seq (.reg [oF 14 0 1, oL 15 14, oK 16 15, oI 17 0]) (.block 0 (.loop fcheck_l0))) (.seq (.reg [oI 2 0]) .ret))))
set_option maxRecDepth 100000 in
theorem fcheck_get : getF Tryz.prog 89 36000 [] = some ("gavotte/flow.Check", 31, fcheck_c, [(.tmp 2)]) := by kernel_rfl
theorem firstNZ_zero {l : List Int} (h : firstNZ l = 0) : ∀ x ∈ l, x = 0 := by
 induction l with
 | nil => simp
 | cons a l ih =>
   unfold firstNZ at h
   split at h
   . omega
   . rename_i ha
     intro x hx
     rcases List.mem_cons.1 hx with hx | hx
     . omega
     . exact ih h x hx
theorem checkV_zero {p : Prg} (h : checkV p = 0) : p.hs.length <= 16 /\ p.as.length <= 8 /\ p.boot.length <= 16 /\ 0 < p.as.length /\ 1 <= p.fuel /\ p.fuel <= 256 /\ (∀ x ∈ p.hs, handlerV p.hs.length x = 0) /\ (∀ a ∈ p.as, actorV p.hs a = 0) /\ (∀ n ∈ p.boot, noteV p.hs p.as.length n = 0) := by
 unfold checkV at h
 split at h
 . omega
 . rename_i h1
   split at h
   . omega
   . rename_i h2
     split at h
     . rename_i h3; exact absurd h h3
     . rename_i h3
       split at h
       . rename_i h4; exact absurd h h4
       . rename_i h4
         simp only [ne_eq, Decidable.not_not] at h3 h4
         refine ⟨by omega, by omega, by omega, by omega, by omega, by omega, ?_, ?_, ?_⟩
         . intro x hx; exact firstNZ_zero h3 _ (List.mem_map_of_mem hx)
         . intro x hx; exact firstNZ_zero h4 _ (List.mem_map_of_mem hx)
         . intro x hx; exact firstNZ_zero h _ (List.mem_map_of_mem hx)
theorem handlerV_zero {n : Int} {x : Hnd} (h : handlerV n x = 0) : 0 <= x.args /\ x.args <= 4 /\ x.code.length <= 64 /\ ∀ i ∈ x.code, instrV n x.args x.code.length i = 0 := by
 unfold handlerV at h
 split at h
 . omega
 . rename_i h1
   split at h
   . omega
   . rename_i h2
     exact ⟨by omega, by omega, by omega, fun i hi => firstNZ_zero h _ (List.mem_map_of_mem hi)⟩
theorem instrV_zero {n a k : Int} {i : Ins} (h : instrV n a k i = 0) : 1 <= i.op /\ i.op <= 25 /\ (i.op = 20 \/ i.op = 21 -> 0 <= i.a /\ i.a <= k) /\ (i.op = 5 \/ i.op = 6 -> 0 <= i.a /\ i.a < 8) /\ (i.op = 7 -> 0 <= i.a /\ i.a < a) /\ (i.op = 22 -> 0 <= i.a /\ i.a < n) := by
 unfold instrV at h
 split at h
 . omega
 . rename_i h1
   split at h
   . omega
   . rename_i h2
     split at h
     . omega
     . rename_i h3
       split at h
       . omega
       . rename_i h4
         simp only [not_or, not_and, Decidable.not_not] at h1 h2 h3 h4
         have hop : 1 <= i.op /\ i.op <= 25 := by
           have := h1.1; omega
         refine ⟨hop.1, hop.2, ?_, ?_, ?_, ?_⟩
         . intro q
           have : operandV i.op = 4 := by unfold operandV; rcases q with q | q <;> simp [q]
           have := h2 this; omega
         . intro q
           have : operandV i.op = 2 := by unfold operandV; rcases q with q | q <;> simp [q]
           have := h3.1 this; omega
         . intro q
           have : operandV i.op = 3 := by unfold operandV; simp [q]
           have := h3.2 this; omega
         . intro q
           have : operandV i.op = 5 := by unfold operandV; simp [q]
           have := h4 this; omega
theorem codeOk_of {p : Prg} (h : checkV p = 0) {x : Hnd} (hx : x ∈ p.hs) : codeOk p.hs x.code := by
 obtain ⟨c1, _, _, _, _, _, c7, _, _⟩ := checkV_zero h
 obtain ⟨_, _, d3, d4⟩ := handlerV_zero (c7 x hx)
 refine ⟨by omega, fun i hi => ?_⟩
 obtain ⟨_, _, e3, _, _, e6⟩ := instrV_zero (d4 i hi)
 refine ⟨fun q => ?_, e3⟩
 obtain ⟨f1, f2⟩ := e6 q
 have hlt : i.a.toNat < p.hs.length := by omega
 have ea : argsOf p.hs i.a = (p.hs[i.a.toNat]).args := by simp [argsOf, hlt]
 obtain ⟨g1, g2, _, _⟩ := handlerV_zero (c7 _ (List.getElem_mem hlt))
 exact ⟨f1, hlt, by omega, by omega⟩
def walkE (hs : List Hnd) (x : Hnd) : Int := match walkV hs x.code with | some _ => 0 | none => 5
def flowV (p : Prg) : Int := if checkV p ≠ 0 then checkV p else firstNZ (p.hs.map (walkE p.hs))
theorem fcheck_pc (p : Prg) : PC Tryz.prog 89 [p.av] (iv (flowV p)) := by
 refine pc_of_get fcheck_get (by simp) _ (by simp) _ ?_
 unfold fcheck_c
 simp
 refine call (check_pc p) (by simp) ?_
 simp
 refine split (fun h1 => ?_) (fun h1 => ?_) <;> simp [h1]
 rotate_left
 . simp [flowV, h1]
 have hl := (checkV_zero h1).1
 refine loopN (fun i S => firstNZ ((p.hs.map (walkE p.hs)).drop i) = flowV p /\ (∃ st, S.t 1 = .ptr 36001 st 4 0 0 /\ S.blk 36001 = some ⟨st, 4, [p.av]⟩) /\ S.t 15 = .lst 2 (p.hs.map Hnd.av) /\ S.t 16 = iv p.hs.length /\ S.t 17 = iv i) p.hs.length ?_ ?_
 . simp [flowV, h1]
 . rintro i S hi ⟨hv, ⟨st, g1, b1⟩, g15, g16, g17⟩
   by_cases hlt : i < p.hs.length
   . have e : p.hs[i]? = some p.hs[i] := List.getElem?_eq_getElem hlt
     simp [fcheck_l0, g1, b1, g15, g16, g17, hlt, wrap_succ i _ hlt (by omega)]
     refine call (walk_pc p p.hs[i] (codeOk_of h1 (List.getElem_mem hlt))) (by simp) ?_
     rw [firstNZ_drop _ _ (by simpa using hlt)] at hv
     simp only [List.getElem_map] at hv
     rw [walkE] at hv
     cases hw : walkV p.hs p.hs[i].code with
     | none =>
       rw [hw] at hv
       simp at hv
       simp [walkAV, <- hv]
     | some r =>
       rw [hw] at hv
       simp at hv
       simp [walkAV, g1, b1, g15, g16, g17, wrap_succ i _ hlt (by omega)]
       exact hv
   . have e : i = p.hs.length := by omega
     subst e
     rw [firstNZ_end _ _ (by simp)] at hv
     simp [fcheck_l0, g1, b1, g15, g16, g17, <- hv]
end Go.Gv

namespace Go.Gv
open Go.Proofs
structure RS where
 l : List Int
 most : Int
 again : Bool
structure WfR (n : Nat) (l : List Int) : Prop where
 len : l.length = n + 1
 rng : ∀ x ∈ l, -1 <= x /\ x <= 8
end Go.Gv

namespace Go.Gv
open Go.Proofs
section
variable {hs : List Hnd} {code : List Ins}
inductive Rch (hs : List Hnd) (code : List Ins) : Nat -> Int -> Prop
 | start : Rch hs code 0 0
 | step {a : Nat} {d : Int} {i : Ins} {k : Nat} (h : Rch hs code a d) (hi : code[a]? = some i) (h1 : takesV hs i <= d) (h2 : d - takesV hs i + putsV i.op <= 8) (hk : k ∈ nextV a i) : Rch hs code k (d - takesV hs i + putsV i.op)
def Cl (hs : List Hnd) (out : List Int) (most : Int) (a : Nat) (d : Int) (i : Ins) : Prop :=
 takesV hs i <= d /\ d - takesV hs i + putsV i.op <= 8 /\ (∀ k ∈ nextV a i, out[k]? = some (d - takesV hs i + putsV i.op)) /\ d <= most /\ d - takesV hs i + putsV i.op <= most
structure FInv (hs : List Hnd) (code : List Ins) (out : List Int) (most : Int) : Prop where
 len : out.length = code.length + 1
 zero : out[0]? = some 0
 sound : ∀ (a : Nat) (d : Int), out[a]? = some d -> d ≠ -1 -> Rch hs code a d /\ 0 <= d
 att : most = 0 \/ ∃ (a : Nat) (d : Int) (i : Ins), out[a]? = some d /\ d ≠ -1 /\ code[a]? = some i /\ (most = d \/ most = d - takesV hs i + putsV i.op)
 m0 : 0 <= most
structure Ext (n : Int) (out out' : List Int) (Q : Nat -> Prop) : Prop where
 len : out'.length = out.length
 keep : ∀ (a : Nat) (d : Int), out[a]? = some d -> d ≠ -1 -> out'[a]? = some d
 new : ∀ (a : Nat) (d : Int), out'[a]? = some d -> d ≠ -1 -> out[a]? = some d \/ (d = n /\ Q a)
theorem Ext.refl (n : Int) (out : List Int) (Q : Nat -> Prop) : Ext n out out Q := ⟨rfl, fun _ _ h _ => h, fun _ _ h _ => .inl h⟩
theorem Ext.trans {n : Int} {a b c : List Int} {Q R : Nat -> Prop} (h : Ext n a b Q) (k : Ext n b c R) (hq : ∀ x, Q x -> R x) : Ext n a c R :=
 ⟨k.len.trans h.len, fun x d h1 h2 => k.keep x d (h.keep x d h1 h2) h2, fun x d h1 h2 => (k.new x d h1 h2).elim (fun q => (h.new x d q h2).imp id (fun r => ⟨r.1, hq _ r.2⟩)) .inr⟩
theorem Ext.set {n : Int} {out : List Int} {k : Nat} (h : out[k]? = some (-1)) (Q : Nat -> Prop) (hq : Q k) : Ext n out (out.set k n) Q := by
 refine ⟨by simp, fun a d h1 h2 => ?_, fun a d h1 h2 => ?_⟩
 . rw [List.getElem?_set]
   split
   . rename_i e; subst e; rw [h] at h1; cases h1; exact absurd rfl h2
   . exact h1
 . rw [List.getElem?_set] at h1
   split at h1
   . rename_i e; subst e
     split at h1
     . cases h1; exact .inr ⟨rfl, hq⟩
     . cases h1
   . exact .inl h1
structure WInv (hs : List Hnd) (code : List Ins) (out : List Int) (left : List Nat) (most : Int) extends FInv hs code out most where
 q : ∀ a ∈ left, ∃ d, out[a]? = some d /\ d ≠ -1
 cl : ∀ (a : Nat) (d : Int) (i : Ins), out[a]? = some d -> d ≠ -1 -> code[a]? = some i -> a ∈ left \/ Cl hs out most a d i
theorem Cl.mono {out : List Int} {m n : Int} {a : Nat} {d : Int} {i : Ins} (h : Cl hs out m a d i) (hmn : m <= n) : Cl hs out n a d i :=
 ⟨h.1, h.2.1, h.2.2.1, Int.le_trans h.2.2.2.1 hmn, Int.le_trans h.2.2.2.2 hmn⟩
end
end Go.Gv

namespace Go.Gv
open Go.Proofs
def argsN (F : Fx) (a : Int) : Nat := (argsOf F.p.hs a).toNat
def doV (F : Fx) (i : Ins) (m : Mach) : Mach × Int :=
 if i.op = 1 then ({ m with pc := m.pc + 1, st := m.st ++ [i.a] }, 0)
 else if i.op = 2 then ({ m with pc := m.pc + 1, st := m.st.dropLast }, 0)
 else if i.op = 3 then ({ m with pc := m.pc + 1, st := m.st ++ [top m.st] }, 0)
 else if i.op = 4 then ({ m with pc := m.pc + 1, st := m.st.dropLast.dropLast ++ [top m.st, top m.st.dropLast] }, 0)
 else if i.op = 5 then ({ m with pc := m.pc + 1, st := m.st ++ [loadV m i.a] }, 0)
 else if i.op = 6 then ({ m with pc := m.pc + 1, st := m.st.dropLast, regs := if i.a < m.regs.length then m.regs.set i.a.toNat (top m.st) else m.regs }, 0)
 else if i.op = 7 then ({ m with pc := m.pc + 1, st := m.st ++ [(F.args[i.a.toNat]?).getD 0] }, 0)
 else if i.op = 8 then ({ m with pc := m.pc + 1, st := m.st ++ [F.who] }, 0)
 else if i.op = 20 then ({ m with pc := i.a }, 0)
 else if i.op = 21 then ({ m with pc := if top m.st = 0 then i.a else m.pc + 1, st := m.st.dropLast }, 0)
 else if i.op = 22 then
   (if top m.st < 0 \/ top m.st >= F.p.as.length then ({ m with pc := m.pc + 1, st := m.st.dropLast }, 4)
    else ({ m with pc := m.pc + 1, st := m.st.take (m.st.length - 1 - argsN F i.a), notes := m.notes ++ [⟨top m.st, i.a, m.st.dropLast.drop (m.st.length - 1 - argsN F i.a)⟩] }, 0))
 else if i.op = 23 then ({ m with pc := m.pc + 1, armed := m.armed || !decide ((F.p.as[F.who.toNat]?.map Actr.timer).getD 0 = -1) }, 0)
 else if i.op = 24 then ({ m with pc := m.pc + 1, armed := false }, 0)
 else if i.op = 25 then ({ m with pc := -1 }, 0)
 else if (oneV i.op (top m.st)).2 = true then ({ m with pc := m.pc + 1, st := m.st.dropLast ++ [(oneV i.op (top m.st)).1] }, 0)
 else ({ m with pc := m.pc + 1, st := m.st.dropLast.dropLast ++ [(twoV i.op (top m.st.dropLast) (top m.st)).1] }, (twoV i.op (top m.st.dropLast) (top m.st)).2)
structure DoOk (F : Fx) (i : Ins) (m : Mach) : Prop where
 op : 1 <= i.op /\ i.op <= 25
 takes : takesV F.p.hs i <= m.st.length
 reg : i.op = 5 \/ i.op = 6 -> 0 <= i.a
 arg : i.op = 7 -> 0 <= i.a /\ i.a.toNat < F.args.length
 snd : i.op = 22 -> 0 <= i.a /\ i.a.toNat < F.p.hs.length /\ 0 <= argsOf F.p.hs i.a
 who : 0 <= F.who /\ F.who.toNat < F.p.as.length
 rl : m.regs.length <= 1000
 nl : m.notes.length < 1000
 pc : 0 <= m.pc /\ m.pc < 1000
 sl : m.st.length < 900
theorem do_v (F : Fx) (st : Nat) (m : Mach) (i : Ins) (ok : DoOk F i m) {S : St} {k : AV -> St -> Prop} {u : Dep k} (harg : ArgIs F S) (h : MS F st m S)
   (hk : ∀ S', Fr Lm S S' -> MS F st (doV F i m).1 S' -> k (iv (doV F i m).2) S') : CallG Tryz.prog (.fn 216 []) [.ptr 84026 st 14 0 0, i.av] S k u := by
 obtain ⟨⟨o1, o2⟩, tk, rg, ag, sd, ⟨w1, w2⟩, rl, nl, pc, sl⟩ := ok
 have tk' : popsV i.op <= m.st.length := by
   have : 0 <= (if i.op = 22 then argsOf F.p.hs i.a else 0) := by
     split
     . exact (sd ‹_›).2.2
     . omega
   unfold takesV at tk; omega
 rcases lit25 o1 o2 with e | e | e | e | e | e | e | e | e | e | e | e | e | e | e | e | e | e | e | e | e | e | e | e | e
 ·
   have tp : popsV 1 <= m.st.length := e ▸ tk'
   exact do1_v F st m i e pc sl h (by simpa [doV, e] using hk)
 ·
   have tp : popsV 2 <= m.st.length := e ▸ tk'
   simp only [popsV] at tp
   simp at tp
   exact do2_v F st m i e (by omega) pc sl h (by simpa [doV, e] using hk)
 ·
   have tp : popsV 3 <= m.st.length := e ▸ tk'
   simp only [popsV] at tp
   simp at tp
   exact do3_v F st m i e (by omega) pc sl h (by simpa [doV, e] using hk)
 ·
   have tp : popsV 4 <= m.st.length := e ▸ tk'
   simp only [popsV] at tp
   simp at tp
   exact do4_v F st m i e (by omega) pc sl h (by simpa [doV, e] using hk)
 ·
   have tp : popsV 5 <= m.st.length := e ▸ tk'
   exact do5_v F st m i e (rg (.inl e)) rl pc sl h (by simpa [doV, e] using hk)
 ·
   have tp : popsV 6 <= m.st.length := e ▸ tk'
   simp only [popsV] at tp
   simp at tp
   exact do6_v F st m i e (by omega) (rg (.inr e)) rl pc sl h (by simpa [doV, e] using hk)
 ·
   have tp : popsV 7 <= m.st.length := e ▸ tk'
   exact do7_v F st m i e (ag e).1 (ag e).2 pc sl harg h (by simpa [doV, e, List.getElem?_eq_getElem (ag e).2] using hk)
 ·
   have tp : popsV 8 <= m.st.length := e ▸ tk'
   exact do8_v F st m i e pc sl h (by simpa [doV, e] using hk)
 ·
   have tp : popsV 9 <= m.st.length := e ▸ tk'
   simp only [popsV] at tp
   simp at tp
   have ho : (oneV i.op (top m.st)).2 = false := by simp [oneV, e]
   have hd : doV F i m = ({ m with pc := m.pc + 1, st := m.st.dropLast.dropLast ++ [(twoV i.op (top m.st.dropLast) (top m.st)).1] }, (twoV i.op (top m.st.dropLast) (top m.st)).2) := by
     unfold doV; rw [if_neg (by omega), if_neg (by omega), if_neg (by omega), if_neg (by omega), if_neg (by omega), if_neg (by omega), if_neg (by omega), if_neg (by omega), if_neg (by omega), if_neg (by omega), if_neg (by omega), if_neg (by omega), if_neg (by omega), if_neg (by omega), if_neg (by rw [ho]; simp)]
   rw [hd] at hk
   exact doc2_v F st m i (by omega) (by omega) ho pc sl h hk
 ·
   have tp : popsV 10 <= m.st.length := e ▸ tk'
   simp only [popsV] at tp
   simp at tp
   have ho : (oneV i.op (top m.st)).2 = false := by simp [oneV, e]
   have hd : doV F i m = ({ m with pc := m.pc + 1, st := m.st.dropLast.dropLast ++ [(twoV i.op (top m.st.dropLast) (top m.st)).1] }, (twoV i.op (top m.st.dropLast) (top m.st)).2) := by
     unfold doV; rw [if_neg (by omega), if_neg (by omega), if_neg (by omega), if_neg (by omega), if_neg (by omega), if_neg (by omega), if_neg (by omega), if_neg (by omega), if_neg (by omega), if_neg (by omega), if_neg (by omega), if_neg (by omega), if_neg (by omega), if_neg (by omega), if_neg (by rw [ho]; simp)]
   rw [hd] at hk
   exact doc2_v F st m i (by omega) (by omega) ho pc sl h hk
 ·
   have tp : popsV 11 <= m.st.length := e ▸ tk'
   simp only [popsV] at tp
   simp at tp
   have ho : (oneV i.op (top m.st)).2 = false := by simp [oneV, e]
   have hd : doV F i m = ({ m with pc := m.pc + 1, st := m.st.dropLast.dropLast ++ [(twoV i.op (top m.st.dropLast) (top m.st)).1] }, (twoV i.op (top m.st.dropLast) (top m.st)).2) := by
     unfold doV; rw [if_neg (by omega), if_neg (by omega), if_neg (by omega), if_neg (by omega), if_neg (by omega), if_neg (by omega), if_neg (by omega), if_neg (by omega), if_neg (by omega), if_neg (by omega), if_neg (by omega), if_neg (by omega), if_neg (by omega), if_neg (by omega), if_neg (by rw [ho]; simp)]
   rw [hd] at hk
   exact doc2_v F st m i (by omega) (by omega) ho pc sl h hk
 ·
   have tp : popsV 12 <= m.st.length := e ▸ tk'
   simp only [popsV] at tp
   simp at tp
   have ho : (oneV i.op (top m.st)).2 = false := by simp [oneV, e]
   have hd : doV F i m = ({ m with pc := m.pc + 1, st := m.st.dropLast.dropLast ++ [(twoV i.op (top m.st.dropLast) (top m.st)).1] }, (twoV i.op (top m.st.dropLast) (top m.st)).2) := by
     unfold doV; rw [if_neg (by omega), if_neg (by omega), if_neg (by omega), if_neg (by omega), if_neg (by omega), if_neg (by omega), if_neg (by omega), if_neg (by omega), if_neg (by omega), if_neg (by omega), if_neg (by omega), if_neg (by omega), if_neg (by omega), if_neg (by omega), if_neg (by rw [ho]; simp)]
   rw [hd] at hk
   exact doc2_v F st m i (by omega) (by omega) ho pc sl h hk
 ·
   have tp : popsV 13 <= m.st.length := e ▸ tk'
   simp only [popsV] at tp
   simp at tp
   have ho : (oneV i.op (top m.st)).2 = false := by simp [oneV, e]
   have hd : doV F i m = ({ m with pc := m.pc + 1, st := m.st.dropLast.dropLast ++ [(twoV i.op (top m.st.dropLast) (top m.st)).1] }, (twoV i.op (top m.st.dropLast) (top m.st)).2) := by
     unfold doV; rw [if_neg (by omega), if_neg (by omega), if_neg (by omega), if_neg (by omega), if_neg (by omega), if_neg (by omega), if_neg (by omega), if_neg (by omega), if_neg (by omega), if_neg (by omega), if_neg (by omega), if_neg (by omega), if_neg (by omega), if_neg (by omega), if_neg (by rw [ho]; simp)]
   rw [hd] at hk
   exact doc2_v F st m i (by omega) (by omega) ho pc sl h hk
 ·
   have tp : popsV 14 <= m.st.length := e ▸ tk'
   simp only [popsV] at tp
   simp at tp
   have ho : (oneV i.op (top m.st)).2 = true := by simp [oneV, e]
   have hd : doV F i m = ({ m with pc := m.pc + 1, st := m.st.dropLast ++ [(oneV i.op (top m.st)).1] }, 0) := by
     unfold doV; rw [if_neg (by omega), if_neg (by omega), if_neg (by omega), if_neg (by omega), if_neg (by omega), if_neg (by omega), if_neg (by omega), if_neg (by omega), if_neg (by omega), if_neg (by omega), if_neg (by omega), if_neg (by omega), if_neg (by omega), if_neg (by omega), if_pos ho]
   rw [hd] at hk
   exact doc1_v F st m i (by omega) (by omega) ho pc sl h hk
 ·
   have tp : popsV 15 <= m.st.length := e ▸ tk'
   simp only [popsV] at tp
   simp at tp
   have ho : (oneV i.op (top m.st)).2 = false := by simp [oneV, e]
   have hd : doV F i m = ({ m with pc := m.pc + 1, st := m.st.dropLast.dropLast ++ [(twoV i.op (top m.st.dropLast) (top m.st)).1] }, (twoV i.op (top m.st.dropLast) (top m.st)).2) := by
     unfold doV; rw [if_neg (by omega), if_neg (by omega), if_neg (by omega), if_neg (by omega), if_neg (by omega), if_neg (by omega), if_neg (by omega), if_neg (by omega), if_neg (by omega), if_neg (by omega), if_neg (by omega), if_neg (by omega), if_neg (by omega), if_neg (by omega), if_neg (by rw [ho]; simp)]
   rw [hd] at hk
   exact doc2_v F st m i (by omega) (by omega) ho pc sl h hk
 ·
   have tp : popsV 16 <= m.st.length := e ▸ tk'
   simp only [popsV] at tp
   simp at tp
   have ho : (oneV i.op (top m.st)).2 = false := by simp [oneV, e]
   have hd : doV F i m = ({ m with pc := m.pc + 1, st := m.st.dropLast.dropLast ++ [(twoV i.op (top m.st.dropLast) (top m.st)).1] }, (twoV i.op (top m.st.dropLast) (top m.st)).2) := by
     unfold doV; rw [if_neg (by omega), if_neg (by omega), if_neg (by omega), if_neg (by omega), if_neg (by omega), if_neg (by omega), if_neg (by omega), if_neg (by omega), if_neg (by omega), if_neg (by omega), if_neg (by omega), if_neg (by omega), if_neg (by omega), if_neg (by omega), if_neg (by rw [ho]; simp)]
   rw [hd] at hk
   exact doc2_v F st m i (by omega) (by omega) ho pc sl h hk
 ·
   have tp : popsV 17 <= m.st.length := e ▸ tk'
   simp only [popsV] at tp
   simp at tp
   have ho : (oneV i.op (top m.st)).2 = false := by simp [oneV, e]
   have hd : doV F i m = ({ m with pc := m.pc + 1, st := m.st.dropLast.dropLast ++ [(twoV i.op (top m.st.dropLast) (top m.st)).1] }, (twoV i.op (top m.st.dropLast) (top m.st)).2) := by
     unfold doV; rw [if_neg (by omega), if_neg (by omega), if_neg (by omega), if_neg (by omega), if_neg (by omega), if_neg (by omega), if_neg (by omega), if_neg (by omega), if_neg (by omega), if_neg (by omega), if_neg (by omega), if_neg (by omega), if_neg (by omega), if_neg (by omega), if_neg (by rw [ho]; simp)]
   rw [hd] at hk
   exact doc2_v F st m i (by omega) (by omega) ho pc sl h hk
 ·
   have tp : popsV 18 <= m.st.length := e ▸ tk'
   simp only [popsV] at tp
   simp at tp
   have ho : (oneV i.op (top m.st)).2 = false := by simp [oneV, e]
   have hd : doV F i m = ({ m with pc := m.pc + 1, st := m.st.dropLast.dropLast ++ [(twoV i.op (top m.st.dropLast) (top m.st)).1] }, (twoV i.op (top m.st.dropLast) (top m.st)).2) := by
     unfold doV; rw [if_neg (by omega), if_neg (by omega), if_neg (by omega), if_neg (by omega), if_neg (by omega), if_neg (by omega), if_neg (by omega), if_neg (by omega), if_neg (by omega), if_neg (by omega), if_neg (by omega), if_neg (by omega), if_neg (by omega), if_neg (by omega), if_neg (by rw [ho]; simp)]
   rw [hd] at hk
   exact doc2_v F st m i (by omega) (by omega) ho pc sl h hk
 ·
   have tp : popsV 19 <= m.st.length := e ▸ tk'
   simp only [popsV] at tp
   simp at tp
   have ho : (oneV i.op (top m.st)).2 = true := by simp [oneV, e]
   have hd : doV F i m = ({ m with pc := m.pc + 1, st := m.st.dropLast ++ [(oneV i.op (top m.st)).1] }, 0) := by
     unfold doV; rw [if_neg (by omega), if_neg (by omega), if_neg (by omega), if_neg (by omega), if_neg (by omega), if_neg (by omega), if_neg (by omega), if_neg (by omega), if_neg (by omega), if_neg (by omega), if_neg (by omega), if_neg (by omega), if_neg (by omega), if_neg (by omega), if_pos ho]
   rw [hd] at hk
   exact doc1_v F st m i (by omega) (by omega) ho pc sl h hk
 ·
   have tp : popsV 20 <= m.st.length := e ▸ tk'
   exact do20_v F st m i e pc sl h (by simpa [doV, e] using hk)
 ·
   have tp : popsV 21 <= m.st.length := e ▸ tk'
   simp only [popsV] at tp
   simp at tp
   exact do21_v F st m i e (by omega) pc sl h (by simpa [doV, e] using hk)
 ·
   obtain ⟨a0, a1, a2⟩ := sd e
   have ht : 1 + argsOf F.p.hs i.a <= m.st.length := by
     unfold takesV at tk; rw [if_pos e, e] at tk
     simpa [popsV] using tk
   have hh : F.p.hs[i.a.toNat]? = some F.p.hs[i.a.toNat] := List.getElem?_eq_getElem a1
   have hargs : F.p.hs[i.a.toNat].args = argsOf F.p.hs i.a := by unfold argsOf; rw [hh]; rfl
   have hN : (argsN F i.a : Int) = argsOf F.p.hs i.a := by unfold argsN; omega
   have hb : (m.st.dropLast.drop (m.st.length - 1 - argsN F i.a)).length = argsN F i.a := by simp; omega
   have hx : m.st = m.st.take (m.st.length - 1 - argsN F i.a) ++ m.st.dropLast.drop (m.st.length - 1 - argsN F i.a) ++ [top m.st] := by
     have e1 : m.st.take (m.st.length - 1 - argsN F i.a) = m.st.dropLast.take (m.st.length - 1 - argsN F i.a) := by
       rw [List.dropLast_eq_take, List.take_take, Nat.min_eq_left (by omega)]
     rw [e1, List.take_append_drop]
     exact top_split (by omega)
   have hdl : m.st.take (m.st.length - 1 - argsN F i.a) ++ m.st.dropLast.drop (m.st.length - 1 - argsN F i.a) = m.st.dropLast := by
     have e1 : m.st.take (m.st.length - 1 - argsN F i.a) = m.st.dropLast.take (m.st.length - 1 - argsN F i.a) := by
       rw [List.dropLast_eq_take, List.take_take, Nat.min_eq_left (by omega)]
     rw [e1, List.take_append_drop]
   refine do22_v F st m i e _ _ _ hx a0 _ hh (by rw [hargs, hb, hN]) nl pc sl h ?_ ?_
   . intro hc
     rw [hdl]
     have hd : doV F i m = ({ m with pc := m.pc + 1, st := m.st.dropLast }, 4) := by
       unfold doV; rw [if_neg (by omega), if_neg (by omega), if_neg (by omega), if_neg (by omega), if_neg (by omega), if_neg (by omega), if_neg (by omega), if_neg (by omega), if_neg (by omega), if_neg (by omega), if_pos e, if_pos hc]
     rw [hd] at hk
     exact hk
   . intro hc
     have hd : doV F i m = ({ m with pc := m.pc + 1, st := m.st.take (m.st.length - 1 - argsN F i.a), notes := m.notes ++ [⟨top m.st, i.a, m.st.dropLast.drop (m.st.length - 1 - argsN F i.a)⟩] }, 0) := by
       unfold doV; rw [if_neg (by omega), if_neg (by omega), if_neg (by omega), if_neg (by omega), if_neg (by omega), if_neg (by omega), if_neg (by omega), if_neg (by omega), if_neg (by omega), if_neg (by omega), if_pos e, if_neg hc]
     rw [hd] at hk
     exact hk
 ·
   have tp : popsV 23 <= m.st.length := e ▸ tk'
   have hx : F.p.as[F.who.toNat]? = some F.p.as[F.who.toNat] := List.getElem?_eq_getElem w2
   exact do23_v F st m i e w1 _ hx pc sl h (by simpa [doV, e, hx] using hk)
 ·
   have tp : popsV 24 <= m.st.length := e ▸ tk'
   exact do24_v F st m i e pc sl h (by simpa [doV, e] using hk)
 ·
   have tp : popsV 25 <= m.st.length := e ▸ tk'
   exact do25_v F st m i e pc sl h (by simpa [doV, e] using hk)
end Go.Gv

namespace Go.Gv
open Go.Proofs
section
variable {H : Type} {enc : TypeId × Value -> H} {P : Program} {w : World}
inductive RelL (E : Env) : List AV -> List Value -> Prop where
 | nil : RelL E [] []
 | cons {x : AV} {v : Value} {xs : List AV} {vs : List Value} : Rel E x v -> RelL E xs vs -> RelL E (x :: xs) (v :: vs)
end
section
variable {H : Type} {enc : TypeId × Value -> H} {w : World}
end
structure Lcl where
 regs : List Int
 armed : Bool
 down : Int
 sent : Int
 over : Int
def Lcl.av (l : Lcl) : AV := .agg [ints l.regs, .bool l.armed, iv l.down, iv l.sent, iv l.over]
@[simp] theorem Lcl.cells_av (l : Lcl) : l.av.cells = [ints l.regs, .bool l.armed, iv l.down, iv l.sent, iv l.over] := rfl
end Go.Gv
