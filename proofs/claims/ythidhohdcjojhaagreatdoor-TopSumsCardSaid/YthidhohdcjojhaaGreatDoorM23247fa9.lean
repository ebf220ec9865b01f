/- Texts of this proof, one behind the other. What is proved, and on which conditions, stands ahead of each. -/
import Derived.Test.YthidhohdcjojhaaGreatDoorProg
import Derived.Test.YthidhohdcjojhaaGreatDoorM224751cf
import Derived.Test.YthidhohdcjojhaaGreatDoorM20c6c7c0

set_option linter.unusedVariables false
set_option linter.unusedSimpArgs false
namespace Go.Gv
open Go.Proofs
def xtakes_c : AC := (.seq (.reg [oI 2 0]) (.seq (.reg [oM 3 0, oC 4 (.c (.fn 174 [])) [(.t 3)], oM 2 4]) .ret))
set_option maxRecDepth 100000 in
theorem xtakes_get : getF Tryz.prog 126 242000 [] = some ("gavotte/expr.takes", 5, xtakes_c, [(.tmp 2)]) := by kernel_rfl
def xputs_c : AC := (.seq (.reg [oI 2 0]) (.seq (.seq (.reg [oM 3 0, oC 4 (.c (.fn 171 [])) [(.t 3)]]) (.cond (.t 4) (.seq (.reg [oI 2 1]) .ret) .skip)) (.seq (.reg [oM 5 0, oC 6 (.c (.fn 168 [])) [(.t 5)], oM 2 6]) .ret)))
set_option maxRecDepth 100000 in
theorem xputs_get : getF Tryz.prog 125 243000 [] = some ("gavotte/expr.puts", 7, xputs_c, [(.tmp 2)]) := by kernel_rfl
def xinstr_c : AC := (.seq (.reg [oA 3 (.box 244003 4 (.t 0)), oA 4 (.box 244004 2 (.t 1)), oI 6 0]) (.seq (.reg [oA 10 (.load (some 2) (.t 4)), oC 11 (.c (.fn 170 [])) [(.t 10)], oM 9 11, oE 12 9 0, oE 13 9 1, oM 7 12, oM 8 13]) (.seq (.block 0 (.seq (.seq (.reg [oF 15 0 4, oL 16 15, oC 17 (.c (.fn 171 [])) [(.t 16)], oA 18 (.not (.t 17)), oM 19 18, gF 20 19 true 0 4, gL 21 19 true 20, ⟨(some 22), (some (19, true)), (.call (.c (.fn 172 [])) [(.t 21)])⟩, oG 23 19 true (.not (.t 22)), oA 24 (.pick (.t 19) (.t 23) (.c (.bool false))), oM 14 24]) (.cond (.t 14) .skip (.reg [oF 25 0 4, oL 26 25, oC 27 (.c (.fn 173 [])) [(.t 26)], oA 28 (.not (.t 27)), oM 29 28, gF 30 29 true 1 4, gL 31 29 true 30, oG 32 29 true (.ibin .neq (.t 31) (.c (.int .i64 0))), oA 33 (.pick (.t 29) (.t 32) (.c (.bool false))), oM 14 33]))) (.cond (.t 14) (.seq (.reg [oI 6 1]) .ret) (.seq (.reg [oF 35 0 4, oL 36 35, oZ 37 .eql 36 31, oM 38 37, gF 39 38 true 1 4, gL 40 38 true 39, oG 41 38 true (.ibin .and (.t 40) (.c (.int .i64 15))), oG 42 38 true (.ibin .geq (.t 41) (.c (.int .i64 8))), oA 43 (.pick (.t 38) (.t 42) (.c (.bool false))), oM 34 43]) (.cond (.t 34) (.seq (.reg [oI 6 6]) .ret) (.seq (.reg [oM 45 8, oM 46 45, gM 47 46 true 7, oG 48 46 true (.ibin .lss (.t 47) (.c (.int .i64 0))), gM 49 46 true 48, gM 50 49 false 7, gF 51 49 false 1 3, gL 52 49 false 51, oG 53 49 false (.len (.t 52)), oG 54 49 false (.ibin .geq (.t 50) (.t 53)), oG 55 46 true (.pick (.t 49) (.c (.bool true)) (.t 54)), oA 56 (.pick (.t 46) (.t 55) (.c (.bool false))), oM 44 56]) (.cond (.t 44) (.seq (.reg [oI 6 7]) .ret) (.seq (.seq (.reg [oM 58 2, oF 59 0 4, oL 60 59, oC 61 (.c (.fn 126 [])) [(.t 60)], oB 62 .lss 58 61, oM 57 62]) (.cond (.t 57) .skip (.regd [oM 63 2, oF 64 0 4, oL 65 64, oC 66 (.c (.fn 126 [])) [(.t 65)], oB 67 .sub 63 66, oF 68 0 4, oL 69 68, oC 70 (.c (.fn 125 [])) [(.t 69)], oB 71 .add 67 70, oZ 72 .gtr 71 8, oM 57 72] [[], [], [1], [2, 1], [0, 3, 2, 1], [], [5], [6, 3, 5, 2, 1], [4, 7, 0, 3, 2, 1, 6, 5], [8, 4, 7, 0, 3, 2, 1, 6, 5], [9, 7, 8, 4, 0, 3, 2, 1, 6, 5]]))) (.cond (.t 57) (.seq (.reg [oI 6 5]) .ret) .skip))))))))) (.seq (.reg [oI 6 0]) .ret))))
set_option maxRecDepth 100000 in
theorem xinstr_get : getF Tryz.prog 124 244000 [] = some ("gavotte/expr.instr", 73, xinstr_c, [(.tmp 6)]) := by kernel_rfl
def xcheck_l0 : AC := (.seq (.reg [oB 21 .lss 20 19]) (.seq (.cond (.t 21) .skip (.exit 0)) (.seq (.block 1 (.seq (.reg [oA 22 (.idx 2 (.t 18) (.t 20)), oA 23 (.load (some 2) (.t 22)), oA 8 (.new 245008 2 (.agg [(.int .i64 0), (.int .i64 0)])), oN (.store 2 (.t 8) (.t 23))]) (.seq (.seq (.reg [oA 24 (.load (some 4) (.t 2)), oA 25 (.load (some 2) (.t 8)), oM 26 6, oC 27 (.c (.fn 124 [])) [(.t 24), (.t 25), (.t 26)], oM 9 27]) (.seq (.reg [oM 28 9, oZ 29 .neq 28 0]) (.cond (.t 29) (.seq (.reg [oM 30 9, oM 4 30]) .ret) .skip))) (.regd [oM 31 6, oF 32 0 8, oL 33 32, oC 34 (.c (.fn 125 [])) [(.t 33)], oF 35 0 8, oL 36 35, oC 37 (.c (.fn 126 [])) [(.t 36)], oB 38 .sub 34 37, oB 39 .add 31 38, oM 6 39] [[], [], [1], [2, 1], [], [4], [5, 3, 4, 2, 1], [3, 6, 2, 1, 5, 4], [0, 7, 3, 6, 2, 1, 5, 4], [8, 6, 0, 1, 2, 3, 4, 5, 7]])))) (.reg [oZ 40 .add 20 1, oM 20 40]))))
def xcheck_c : AC := (.seq (.reg [oA 2 (.box 245002 4 (.t 0)), oI 4 0]) (.seq (.seq (.reg [oA 10 (.load (some 4) (.t 2)), oC 11 (.c (.fn 89 [])) [(.t 10)], oM 5 11]) (.seq (.reg [oM 12 5, oZ 13 .neq 12 0]) (.cond (.t 13) (.seq (.reg [oM 14 5, oM 4 14]) .ret) .skip))) (.seq (.seq (.reg [oM 15 1, oK 16 15, oZ 17 .gtr 16 64]) (.cond (.t 17) (.seq (.reg [oI 4 3]) .ret) .skip)) (.seq (.reg [oI 6 0]) (.seq (.seq (.reg [oM 18 1, oK 19 18, oI 20 0]) (.block 0 (.loop xcheck_l0))) (.seq (.seq (.reg [oM 41 6, oZ 42 .neq 41 1]) (.cond (.t 42) (.seq (.reg [oI 4 5]) .ret) .skip)) (.seq (.reg [oI 4 0]) .ret)))))))
set_option maxRecDepth 100000 in
theorem xcheck_get : getF Tryz.prog 90 245000 [] = some ("gavotte/expr.Check", 43, xcheck_c, [(.tmp 4)]) := by kernel_rfl
def wcheck_l0 : AC := (.seq (.reg [oB 20 .lss 19 18]) (.seq (.cond (.t 20) .skip (.exit 0)) (.seq (.block 1 (.seq (.reg [oA 21 (.idx 1 (.t 17) (.t 19)), oL 22 21, oM 7 22]) (.seq (.reg [oA 23 (.load (some 4) (.t 2)), oM 24 7, oC 25 (.c (.fn 90 [])) [(.t 23), (.t 24)], oM 8 25]) (.seq (.reg [oM 26 8, oZ 27 .neq 26 0]) (.cond (.t 27) (.seq (.reg [oM 28 8, oM 4 28]) .ret) .skip))))) (.reg [oZ 29 .add 19 1, oM 19 29]))))
def wcheck_c : AC := (.seq (.reg [oA 2 (.box 246002 4 (.t 0)), oI 4 0]) (.seq (.seq (.reg [oM 9 1, oK 10 9, oZ 11 .gtr 10 8]) (.cond (.t 11) (.seq (.reg [oI 4 3]) .ret) .skip)) (.seq (.seq (.reg [oA 12 (.load (some 4) (.t 2)), oC 13 (.c (.fn 89 [])) [(.t 12)], oM 5 13]) (.seq (.reg [oM 14 5, oZ 15 .neq 14 0]) (.cond (.t 15) (.seq (.reg [oM 16 5, oM 4 16]) .ret) .skip))) (.seq (.seq (.reg [oM 17 1, oK 18 17, oI 19 0]) (.block 0 (.loop wcheck_l0))) (.seq (.reg [oI 4 0]) .ret)))))
set_option maxRecDepth 100000 in
theorem wcheck_get : getF Tryz.prog 55 246000 [] = some ("gavotte/watch.Check", 30, wcheck_c, [(.tmp 4)]) := by kernel_rfl
def wof_l0 : AC := (.seq (.reg [oB 10 .lss 9 8]) (.seq (.cond (.t 10) .skip (.exit 0)) (.seq (.block 1 (.seq (.reg [oM 11 9, oA 12 (.idx 1 (.t 7) (.t 9)), oL 13 12, oM 5 11, oM 6 13]) (.seq (.reg [oA 14 (.load (some 6) (.t 2)), oM 15 6, oC 16 (.c (.fn 128 [])) [(.t 14), (.t 15)], oZ 17 .eql 16 0]) (.cond (.t 17) (.reg [oM 18 4, oM 19 5, oA 20 (.bsl 247020 1 3 1 (.int .i64 0) [(0, (.t 19))]), oA 21 (.app 247021 1 3 8 (.t 18) (.t 20)), oM 4 21]) .skip)))) (.reg [oZ 22 .add 9 1, oM 9 22]))))
def wof_c : AC := (.seq (.reg [oA 2 (.box 247002 6 (.t 0)), oA 4 (.mv (.c .nils))]) (.seq (.seq (.reg [oM 7 1, oK 8 7, oI 9 0]) (.block 0 (.loop wof_l0))) (.seq (.reg [oM 23 4, oM 4 23]) .ret)))
set_option maxRecDepth 100000 in
theorem wof_get : getF Tryz.prog 93 247000 [] = some ("gavotte/watch.Of", 24, wof_c, [(.tmp 4)]) := by kernel_rfl
theorem xtakes_pc (op : Int) : PC Tryz.prog 126 [iv op] (iv (popsV op)) := by
 refine pc_of_get xtakes_get (by simp) _ (by simp) _ ?_
 unfold xtakes_c
 simp
 refine call (pops_pc op) (by simp) ?_
 simp
def xputsV (op : Int) : Int := if asksV op = true then 1 else putsV op
theorem xputs_pc (op : Int) : PC Tryz.prog 125 [iv op] (iv (xputsV op)) := by
 refine pc_of_get xputs_get (by simp) _ (by simp) _ ?_
 unfold xputs_c xputsV
 simp
 refine call (xasks_pc op) (by simp) ?_
 cases ha : asksV op with
 | true => simp
 | false =>
   simp
   refine call (puts_pc op) (by simp) ?_
   simp
theorem badL_take (w : Wld) : ∀ (l : List (List Ins)) (i : Nat) (h : i < l.length) (j : Nat), badL w j (l.take (i + 1)) = badL w j (l.take i) ++ if ofV w l[i] = 0 then [((j + i : Nat) : Int)] else []
 | [], _, h, _ => by simp at h
 | x :: l, 0, _, j => by
   simp only [List.take_succ_cons, List.take_zero, badL, List.getElem_cons_zero, Nat.add_zero]
   split <;> simp
 | x :: l, i + 1, h, j => by
   rw [List.take_succ_cons, List.take_succ_cons, badL, badL, badL_take w l i (by simpa using h)]
   simp only [List.getElem_cons_succ]
   rw [show j + 1 + i = j + (i + 1) by omega]
   split <;> simp
theorem badL_len (w : Wld) : ∀ (l : List (List Ins)) (j : Nat), (badL w j l).length <= l.length
 | [], _ => Nat.le_refl _
 | x :: l, j => by
   unfold badL
   have := badL_len w l (j + 1)
   split <;> simp <;> omega
theorem wof_pc (w : Wld) (hw : WOk w) (l : List (List Ins)) (hl : l.length <= 1000) (h : ∀ x ∈ l, ExOk w x) : PC Tryz.prog 93 [w.av, .lst 1 (l.map fun x => .lst 2 (x.map Ins.av))] (ints (badV w l)) := by
 refine pc_of_get wof_get (by simp) _ (by simp) _ ?_
 unfold wof_c badV
 simp
 refine loopN (fun i S => S.t 2 = .ptr 247002 0 6 0 0 /\ S.blk 247002 = some ⟨0, 6, [w.av]⟩ /\ S.t 7 = .lst 1 (l.map fun x => .lst 2 (x.map Ins.av)) /\ S.t 8 = iv l.length /\ S.t 9 = iv i /\ AccIs S (S.t 4) 247021 1 3 ((badL w 0 (l.take i)).map iv)) l.length ?_ ?_
 . exact ⟨by simp, by simp, by simp, by simp, by simp, .inl ⟨by simp, by simp [badL]⟩⟩
 . rintro i S hi ⟨g2, b2, g7, g8, g9, g4⟩
   obtain ⟨v, g5⟩ : ∃ v, S.t 4 = v := ⟨_, rfl⟩
   rw [g5] at g4
   by_cases hlt : i < l.length
   . have ws := wrap_succ i _ hlt (by omega)
     have hbl := badL_take w l i hlt 0
     rw [Nat.zero_add] at hbl
     have hll := badL_len w (l.take i) 0
     rw [List.length_take] at hll
     have hx := xof_pc w hw l[i] (h _ (List.getElem_mem hlt))
     simp [wof_l0, g2, b2, g5, g7, g8, g9, hlt]
     refine call hx (by simp [Wld.av]) ?_
     simp [g2, b2, g5, g7, g8, g9]
     by_cases hz : ofV w l[i] = 0
     . rw [if_pos hz] at hbl
       have hbd : ((badL w 0 (l.take i)).length + 1) * 8 <= 140737488355328 := by omega
       rcases g4 with ⟨rfl, q⟩ | ⟨st, rfl, q⟩
       . simp [hz, g2, b2, g5, g7, g8, g9, ws]
         rw [hbl, List.map_append, q]
         exact .inr ⟨_, by simp; rfl, by simp⟩
       . simp [hz, g2, b2, g5, g7, g8, g9, ws, q, hbd]
         rw [hbl]
         exact .inr ⟨_, by simp; rfl, by simp⟩
     . rw [if_neg hz, List.append_nil] at hbl
       simp [hz, g2, b2, g5, g7, g8, g9, ws]
       rw [hbl]
       simpa [AccIs, g5] using g4
   . have e1 : i = l.length := by omega
     subst e1
     rw [List.take_length] at g4
     rcases g4 with ⟨rfl, q⟩ | ⟨st, rfl, q⟩
     . simp [wof_l0, g5, g7, g8, g9, ints, q]
     . simp [wof_l0, g5, g7, g8, g9, ints]
def low16 (a : Int) : Int := bitAnd IntKind.i64 a 15
def xinstrV (p : Prg) (i : Ins) (n : Int) : Int :=
 if (asksV i.op = false /\ reckV i.op = false) \/ (someV i.op = false /\ i.a ≠ 0) then 1
 else if i.op = 31 /\ 8 <= low16 i.a then 6
 else if (asksV i.op = true /\ i.op ≠ 37) /\ (whoX i < 0 \/ (p.as.length : Int) <= whoX i) then 7
 else if n < popsV i.op \/ 8 < n - popsV i.op + xputsV i.op then 5 else 0
theorem xinstr_end (p : Prg) (i : Ins) (n : Int) (h1 : -1000000 <= n /\ n <= 1000000) : IntKind.i64.wrap (n - popsV i.op) = n - popsV i.op /\ IntKind.i64.wrap (n - popsV i.op + xputsV i.op) = n - popsV i.op + xputsV i.op := by
 have a1 : 0 <= popsV i.op /\ popsV i.op <= 2 := by unfold popsV; split <;> (try split) <;> omega
 have a2 : 0 <= xputsV i.op /\ xputsV i.op <= 2 := by unfold xputsV putsV; split <;> (try split) <;> (try split) <;> omega
 exact ⟨wrap_in _ (by omega) (by omega), wrap_in _ (by omega) (by omega)⟩
theorem someV_asks {op : Int} (ha : asksV op = true) (h : op ≠ 37) : someV op = true := by
 unfold someV; rw [ha]; simp [h]
def tailV (i : Ins) (n : Int) : Int := if n < popsV i.op \/ 8 < n - popsV i.op + xputsV i.op then 5 else 0
theorem xinstr_A (p : Prg) (i : Ins) (n : Int) (hb : i.a <= 9223372036854775807) (hn : -1000000 <= n /\ n <= 1000000) (ha : asksV i.op = true) (h37 : i.op ≠ 37) : PC Tryz.prog 124 [p.av, i.av, iv n] (iv (xinstrV p i n)) := by
 have hs := someV_asks ha h37
 have d37 := decide_eq_false h37
 by_cases h31 : i.op = 31
 . have d31 := decide_eq_true h31
   by_cases hlo : 8 <= low16 i.a
   . have hv : xinstrV p i n = 6 := by unfold xinstrV; rw [if_neg (by simp [ha, hs]), if_pos ⟨h31, hlo⟩]
     unfold low16 at hlo
     obtain ⟨w1, w2⟩ := xinstr_end p i n hn
     refine pc_of_get xinstr_get (by simp) _ (by simp) _ ?_
     unfold xinstr_c
     rw [hv]
     simp [Prg.av]
     refine call (xwhose_pc i hb) (by simp) ?_
     simp
     refine call (xasks_pc i.op) (by simp) ?_
     rw [ha, d37]
     simp
     refine call (xsome_pc i.op) (by simp) ?_
     rw [hs]
     simp [d31, hlo]
   . unfold low16 at hlo
     by_cases hw0 : whoX i < 0
     . have hv : xinstrV p i n = 7 := by unfold xinstrV; rw [if_neg (by simp [ha, hs]), if_neg (fun q => hlo q.2), if_pos ⟨⟨ha, h37⟩, .inl hw0⟩]
       obtain ⟨w1, w2⟩ := xinstr_end p i n hn
       refine pc_of_get xinstr_get (by simp) _ (by simp) _ ?_
       unfold xinstr_c
       rw [hv]
       simp [Prg.av]
       refine call (xwhose_pc i hb) (by simp) ?_
       simp
       refine call (xasks_pc i.op) (by simp) ?_
       rw [ha, d37]
       simp
       refine call (xsome_pc i.op) (by simp) ?_
       rw [hs]
       simp [d31, hlo, hw0]
     . by_cases hw1 : (p.as.length : Int) <= whoX i
       . have hv : xinstrV p i n = 7 := by unfold xinstrV; rw [if_neg (by simp [ha, hs]), if_neg (fun q => hlo q.2), if_pos ⟨⟨ha, h37⟩, .inr hw1⟩]
         obtain ⟨w1, w2⟩ := xinstr_end p i n hn
         refine pc_of_get xinstr_get (by simp) _ (by simp) _ ?_
         unfold xinstr_c
         rw [hv]
         simp [Prg.av]
         refine call (xwhose_pc i hb) (by simp) ?_
         simp
         refine call (xasks_pc i.op) (by simp) ?_
         rw [ha, d37]
         simp
         refine call (xsome_pc i.op) (by simp) ?_
         rw [hs]
         simp [d31, hlo, hw0, hw1]
       . have hv : xinstrV p i n = tailV i n := by unfold xinstrV; rw [if_neg (by simp [ha, hs]), if_neg (fun q => hlo q.2), if_neg (fun q => q.2.elim hw0 hw1)]; rfl
         obtain ⟨w1, w2⟩ := xinstr_end p i n hn
         refine pc_of_get xinstr_get (by simp) _ (by simp) _ ?_
         unfold xinstr_c
         rw [hv]
         simp [Prg.av]
         refine call (xwhose_pc i hb) (by simp) ?_
         simp
         refine call (xasks_pc i.op) (by simp) ?_
         rw [ha, d37]
         simp
         refine call (xsome_pc i.op) (by simp) ?_
         rw [hs]
         unfold tailV
         simp [d31, hlo, hw0, hw1]
         refine call (xtakes_pc i.op) (by simp) ?_
         by_cases hlt : n < popsV i.op
         . simp [hlt]
         . simp [hlt]
           refine calld (xtakes_pc i.op) (by simp) ?_
           simp [w1]
           refine calld (xputs_pc i.op) (by simp) ?_
           simp [w1, w2]
           by_cases h8 : 8 < n - popsV i.op + xputsV i.op
           . simp [h8]
           . simp [h8]
             omega
 . have d31 := decide_eq_false h31
   by_cases hw0 : whoX i < 0
   . have hv : xinstrV p i n = 7 := by unfold xinstrV; rw [if_neg (by simp [ha, hs]), if_neg (fun q => h31 q.1), if_pos ⟨⟨ha, h37⟩, .inl hw0⟩]
     obtain ⟨w1, w2⟩ := xinstr_end p i n hn
     refine pc_of_get xinstr_get (by simp) _ (by simp) _ ?_
     unfold xinstr_c
     rw [hv]
     simp [Prg.av]
     refine call (xwhose_pc i hb) (by simp) ?_
     simp
     refine call (xasks_pc i.op) (by simp) ?_
     rw [ha, d37]
     simp
     refine call (xsome_pc i.op) (by simp) ?_
     rw [hs]
     simp [d31, hw0]
   . by_cases hw1 : (p.as.length : Int) <= whoX i
     . have hv : xinstrV p i n = 7 := by unfold xinstrV; rw [if_neg (by simp [ha, hs]), if_neg (fun q => h31 q.1), if_pos ⟨⟨ha, h37⟩, .inr hw1⟩]
       obtain ⟨w1, w2⟩ := xinstr_end p i n hn
       refine pc_of_get xinstr_get (by simp) _ (by simp) _ ?_
       unfold xinstr_c
       rw [hv]
       simp [Prg.av]
       refine call (xwhose_pc i hb) (by simp) ?_
       simp
       refine call (xasks_pc i.op) (by simp) ?_
       rw [ha, d37]
       simp
       refine call (xsome_pc i.op) (by simp) ?_
       rw [hs]
       simp [d31, hw0, hw1]
     . have hv : xinstrV p i n = tailV i n := by unfold xinstrV; rw [if_neg (by simp [ha, hs]), if_neg (fun q => h31 q.1), if_neg (fun q => q.2.elim hw0 hw1)]; rfl
       obtain ⟨w1, w2⟩ := xinstr_end p i n hn
       refine pc_of_get xinstr_get (by simp) _ (by simp) _ ?_
       unfold xinstr_c
       rw [hv]
       simp [Prg.av]
       refine call (xwhose_pc i hb) (by simp) ?_
       simp
       refine call (xasks_pc i.op) (by simp) ?_
       rw [ha, d37]
       simp
       refine call (xsome_pc i.op) (by simp) ?_
       rw [hs]
       unfold tailV
       simp [d31, hw0, hw1]
       refine call (xtakes_pc i.op) (by simp) ?_
       by_cases hlt : n < popsV i.op
       . simp [hlt]
       . simp [hlt]
         refine calld (xtakes_pc i.op) (by simp) ?_
         simp [w1]
         refine calld (xputs_pc i.op) (by simp) ?_
         simp [w1, w2]
         by_cases h8 : 8 < n - popsV i.op + xputsV i.op
         . simp [h8]
         . simp [h8]
           omega
theorem xinstr_37 (p : Prg) (i : Ins) (n : Int) (hb : i.a <= 9223372036854775807) (hn : -1000000 <= n /\ n <= 1000000) (h37 : i.op = 37) : PC Tryz.prog 124 [p.av, i.av, iv n] (iv (xinstrV p i n)) := by
 have ha : asksV i.op = true := by rw [h37]; rfl
 have hs : someV i.op = false := by rw [h37]; rfl
 have d37 := decide_eq_true h37
 have d31 : decide (i.op = 31) = false := decide_eq_false (by omega)
 by_cases h0 : i.a = 0
 . have hv : xinstrV p i n = tailV i n := by unfold xinstrV; rw [if_neg (by simp [ha, h0]), if_neg (fun q => by omega), if_neg (fun q => q.1.2 h37)]; rfl
   obtain ⟨w1, w2⟩ := xinstr_end p i n hn
   refine pc_of_get xinstr_get (by simp) _ (by simp) _ ?_
   unfold xinstr_c
   rw [hv]
   simp [Prg.av]
   refine call (xwhose_pc i hb) (by simp) ?_
   simp
   refine call (xasks_pc i.op) (by simp) ?_
   rw [ha, d37]
   simp
   refine call (xsome_pc i.op) (by simp) ?_
   rw [hs]
   unfold tailV
   simp [h0, d31]
   refine call (xtakes_pc i.op) (by simp) ?_
   by_cases hlt : n < popsV i.op
   . simp [hlt]
   . simp [hlt]
     refine calld (xtakes_pc i.op) (by simp) ?_
     simp [w1]
     refine calld (xputs_pc i.op) (by simp) ?_
     simp [w1, w2]
     by_cases h8 : 8 < n - popsV i.op + xputsV i.op
     . simp [h8]
     . simp [h8]
       omega
 . have hv : xinstrV p i n = 1 := by unfold xinstrV; rw [if_pos (.inr ⟨hs, h0⟩)]
   obtain ⟨w1, w2⟩ := xinstr_end p i n hn
   refine pc_of_get xinstr_get (by simp) _ (by simp) _ ?_
   unfold xinstr_c
   rw [hv]
   simp [Prg.av]
   refine call (xwhose_pc i hb) (by simp) ?_
   simp
   refine call (xasks_pc i.op) (by simp) ?_
   rw [ha, d37]
   simp
   refine call (xsome_pc i.op) (by simp) ?_
   rw [hs]
   simp [h0]
theorem xinstr_B (p : Prg) (i : Ins) (n : Int) (hb : i.a <= 9223372036854775807) (hn : -1000000 <= n /\ n <= 1000000) (ha : asksV i.op = false) : PC Tryz.prog 124 [p.av, i.av, iv n] (iv (xinstrV p i n)) := by
 have d31 : decide (i.op = 31) = false := decide_eq_false (fun q => by rw [q] at ha; cases ha)
 cases hr : reckV i.op with
 | false =>
   have hv : xinstrV p i n = 1 := by unfold xinstrV; rw [if_pos (.inl ⟨ha, hr⟩)]
   obtain ⟨w1, w2⟩ := xinstr_end p i n hn
   refine pc_of_get xinstr_get (by simp) _ (by simp) _ ?_
   unfold xinstr_c
   rw [hv]
   simp [Prg.av]
   refine call (xwhose_pc i hb) (by simp) ?_
   simp
   refine call (xasks_pc i.op) (by simp) ?_
   rw [ha]
   simp
   refine call (xreck_pc i.op) (by simp) ?_
   rw [hr]
   simp
 | true =>
   by_cases h0 : someV i.op = false /\ i.a ≠ 0
   . have hv : xinstrV p i n = 1 := by unfold xinstrV; rw [if_pos (.inr h0)]
     obtain ⟨w1, w2⟩ := xinstr_end p i n hn
     refine pc_of_get xinstr_get (by simp) _ (by simp) _ ?_
     unfold xinstr_c
     rw [hv]
     simp [Prg.av]
     refine call (xwhose_pc i hb) (by simp) ?_
     simp
     refine call (xasks_pc i.op) (by simp) ?_
     rw [ha]
     simp
     refine call (xreck_pc i.op) (by simp) ?_
     rw [hr]
     simp
     refine call (xsome_pc i.op) (by simp) ?_
     rw [h0.1]
     simp [h0.2]
   . have hv : xinstrV p i n = tailV i n := by
       unfold xinstrV
       rw [if_neg (by rintro (q | q)
                      . rw [hr] at q; cases q.2
                      . exact h0 q), if_neg (fun q => by rw [q.1] at ha; cases ha), if_neg (fun q => by rw [ha] at q; cases q.1.1)]
       rfl
     obtain ⟨w1, w2⟩ := xinstr_end p i n hn
     refine pc_of_get xinstr_get (by simp) _ (by simp) _ ?_
     unfold xinstr_c
     rw [hv]
     simp [Prg.av]
     refine call (xwhose_pc i hb) (by simp) ?_
     simp
     refine call (xasks_pc i.op) (by simp) ?_
     rw [ha]
     simp
     refine call (xreck_pc i.op) (by simp) ?_
     rw [hr]
     simp
     refine call (xsome_pc i.op) (by simp) ?_
     unfold tailV
     cases hs : someV i.op with
     | true =>
       simp [d31]
       refine call (xtakes_pc i.op) (by simp) ?_
       by_cases hlt : n < popsV i.op
       . simp [hlt]
       . simp [hlt]
         refine calld (xtakes_pc i.op) (by simp) ?_
         simp [w1]
         refine calld (xputs_pc i.op) (by simp) ?_
         simp [w1, w2]
         by_cases h8 : 8 < n - popsV i.op + xputsV i.op
         . simp [h8]
         . simp [h8]
           omega
     | false =>
       have h1 : i.a = 0 := Classical.byContradiction fun q => h0 ⟨hs, q⟩
       simp [d31, h1]
       refine call (xtakes_pc i.op) (by simp) ?_
       by_cases hlt : n < popsV i.op
       . simp [hlt]
       . simp [hlt]
         refine calld (xtakes_pc i.op) (by simp) ?_
         simp [w1]
         refine calld (xputs_pc i.op) (by simp) ?_
         simp [w1, w2]
         by_cases h8 : 8 < n - popsV i.op + xputsV i.op
         . simp [h8]
         . simp [h8]
           omega
theorem xinstr_pc (p : Prg) (i : Ins) (n : Int) (hb : i.a <= 9223372036854775807) (hn : -1000000 <= n /\ n <= 1000000) : PC Tryz.prog 124 [p.av, i.av, iv n] (iv (xinstrV p i n)) := by
 cases ha : asksV i.op with
 | false => exact xinstr_B p i n hb hn ha
 | true =>
   by_cases h37 : i.op = 37
   . exact xinstr_37 p i n hb hn h37
   . exact xinstr_A p i n hb hn ha h37
def xwalkV (p : Prg) : Int -> List Ins -> Int
 | n, [] => if n ≠ 1 then 5 else 0
 | n, i :: l => if xinstrV p i n ≠ 0 then xinstrV p i n else xwalkV p (n + (xputsV i.op - popsV i.op)) l
def xcheckV (p : Prg) (x : List Ins) : Int := if flowV p ≠ 0 then flowV p else if 64 < x.length then 3 else xwalkV p 0 x
theorem xops_rng (op : Int) : (0 <= popsV op /\ popsV op <= 2) /\ 0 <= xputsV op /\ xputsV op <= 2 := by
 refine ⟨?_, ?_⟩
 . unfold popsV; split <;> (try split) <;> omega
 . unfold xputsV putsV; split <;> (try split) <;> (try split) <;> omega
theorem xcheck_pc (p : Prg) (x : List Ins) (hb : ∀ i ∈ x, i.a <= 9223372036854775807) : PC Tryz.prog 90 [p.av, .lst 2 (x.map Ins.av)] (iv (xcheckV p x)) := by
 have hfc := fcheck_pc p
 refine pc_of_get xcheck_get (by simp) _ (by simp) _ ?_
 unfold xcheck_c
 by_cases hf : flowV p = 0
 case neg =>
   have hv : xcheckV p x = flowV p := by unfold xcheckV; rw [if_pos hf]
   rw [hv]
   simp [Prg.av]
   refine call hfc (by simp [Prg.av]) ?_
   simp [hf]
 rw [hf] at hfc
 by_cases hl : (64 : Int) < x.length
 case pos =>
   have hv : xcheckV p x = 3 := by unfold xcheckV; rw [if_neg (by simp [hf]), if_pos (by omega)]
   rw [hv]
   simp [Prg.av]
   refine call hfc (by simp [Prg.av]) ?_
   simp [hl]
 have hv : xcheckV p x = xwalkV p 0 x := by unfold xcheckV; rw [if_neg (by simp [hf]), if_neg (by omega)]
 rw [hv]
 simp [Prg.av]
 refine call hfc (by simp [Prg.av]) ?_
 simp [hl]
 refine loopN (fun i S => ∃ n : Int, S.t 2 = .ptr 245002 0 4 0 0 /\ S.blk 245002 = some ⟨0, 4, [p.av]⟩ /\ S.t 18 = .lst 2 (x.map Ins.av) /\ S.t 19 = iv x.length /\ S.t 20 = iv i /\ S.t 6 = iv n /\ (-2 * (i : Int) <= n /\ n <= 2 * i) /\ xwalkV p 0 x = xwalkV p n (x.drop i)) x.length ?_ ?_
 . exact ⟨0, by simp, by simp [Prg.av], by simp, by simp, by simp, by simp, by omega, by simp⟩
 . rintro i S hi ⟨n, g2, b2, g18, g19, g20, g6, hn, hx⟩
   by_cases hlt : i < x.length
   . have ws := wrap_succ i _ hlt (by omega)
     rw [List.drop_eq_getElem_cons hlt] at hx
     rw [xwalkV] at hx
     simp [xcheck_l0, g2, b2, g18, g19, g20, g6, hlt]
     refine call (xinstr_pc p x[i] n (hb _ (List.getElem_mem hlt)) (by omega)) (by simp [Prg.av]) ?_
     obtain ⟨a1, a2⟩ := xops_rng x[i].op
     by_cases hz : xinstrV p x[i] n = 0
     . rw [if_neg (by simp [hz])] at hx
       have w1 : IntKind.i64.wrap (xputsV x[i].op - popsV x[i].op) = xputsV x[i].op - popsV x[i].op := wrap_in _ (by omega) (by omega)
       have w2 : IntKind.i64.wrap (n + (xputsV x[i].op - popsV x[i].op)) = n + (xputsV x[i].op - popsV x[i].op) := wrap_in _ (by omega) (by omega)
       simp [hz, g2, b2, g18, g19, g20, g6]
       refine calld (xputs_pc x[i].op) (by simp) ?_
       simp [g2, b2, g18, g19, g20, g6]
       refine calld (xtakes_pc x[i].op) (by simp) ?_
       simp [g2, b2, g18, g19, g20, g6, w1, w2, ws]
       exact ⟨by omega, hx⟩
     . rw [if_pos hz] at hx
       rw [hx]
       simp [hz]
   . have e1 : i = x.length := by omega
     subst e1
     rw [List.drop_length, xwalkV] at hx
     rw [hx]
     simp [xcheck_l0, g18, g19, g20, g6]
     by_cases hz : n = 1 <;> simp [hz]
def wfirst (p : Prg) : List (List Ins) -> Int
 | [] => 0
 | x :: l => if xcheckV p x ≠ 0 then xcheckV p x else wfirst p l
def wcheckV (p : Prg) (l : List (List Ins)) : Int := if 8 < l.length then 3 else if flowV p ≠ 0 then flowV p else wfirst p l
theorem wcheck_pc (p : Prg) (l : List (List Ins)) (hb : ∀ x ∈ l, ∀ i ∈ x, i.a <= 9223372036854775807) : PC Tryz.prog 55 [p.av, .lst 1 (l.map fun x => .lst 2 (x.map Ins.av))] (iv (wcheckV p l)) := by
 have hfc := fcheck_pc p
 refine pc_of_get wcheck_get (by simp) _ (by simp) _ ?_
 unfold wcheck_c
 by_cases hl : (8 : Int) < l.length
 case pos =>
   have hv : wcheckV p l = 3 := by unfold wcheckV; rw [if_pos (by omega)]
   rw [hv]
   simp [Prg.av, hl]
 by_cases hf : flowV p = 0
 case neg =>
   have hv : wcheckV p l = flowV p := by unfold wcheckV; rw [if_neg (by omega), if_pos hf]
   rw [hv]
   simp [Prg.av, hl]
   refine call hfc (by simp [Prg.av]) ?_
   simp [hf]
 rw [hf] at hfc
 have hv : wcheckV p l = wfirst p l := by unfold wcheckV; rw [if_neg (by omega), if_neg (by simp [hf])]
 rw [hv]
 simp [Prg.av, hl]
 refine call hfc (by simp [Prg.av]) ?_
 simp
 refine loopN (fun i S => S.t 2 = .ptr 246002 0 4 0 0 /\ S.blk 246002 = some ⟨0, 4, [p.av]⟩ /\ S.t 17 = .lst 1 (l.map fun x => .lst 2 (x.map Ins.av)) /\ S.t 18 = iv l.length /\ S.t 19 = iv i /\ wfirst p l = wfirst p (l.drop i)) l.length ?_ ?_
 . exact ⟨by simp, by simp [Prg.av], by simp, by simp, by simp, by simp⟩
 . rintro i S hi ⟨g2, b2, g17, g18, g19, hx⟩
   by_cases hlt : i < l.length
   . have ws := wrap_succ i _ hlt (by omega)
     rw [List.drop_eq_getElem_cons hlt, wfirst] at hx
     simp [wcheck_l0, g2, b2, g17, g18, g19, hlt]
     refine call (xcheck_pc p l[i] (hb _ (List.getElem_mem hlt))) (by simp [Prg.av]) ?_
     by_cases hz : xcheckV p l[i] = 0
     . rw [if_neg (by simp [hz])] at hx
       simp [hz, g2, b2, g17, g18, g19, ws]
       exact hx
     . rw [if_pos hz] at hx
       rw [hx]
       simp [hz]
   . have e1 : i = l.length := by omega
     subst e1
     rw [List.drop_length, wfirst] at hx
     rw [hx]
     simp [wcheck_l0, g17, g18, g19]
end Go.Gv
