/- Texts of this proof, one behind the other. What is proved, and on which conditions, stands ahead of each. -/
import Derived.Test.YthidhohdcjojhaaGreatDoorProg
import Derived.Test.YthidhohdcjojhaaGreatDoorM154e79cd

set_option linter.unusedVariables false
set_option linter.unusedSimpArgs false
namespace Go.Gv
open Go.Proofs
def valid_c : AC := (.seq (.reg [oA 2 (.mv (.c (.bool false)))]) (.seq (.reg [oM 3 0, oZ 4 .geq 3 1, oM 5 4, gM 6 5 true 0, oG 7 5 true (.ibin .leq (.t 6) (.c (.int .i64 25))), oA 8 (.pick (.t 5) (.t 7) (.c (.bool false))), oM 2 8]) .ret))
set_option maxRecDepth 100000 in
theorem valid_get : getF Tryz.prog 230 59000 [] = some ("gavotte/ops.Valid", 9, valid_c, [(.tmp 2)]) := by kernel_rfl
def operand_c : AC := (.seq (.reg [oI 2 0]) (.seq (.seq (.reg [oM 3 0]) (.block 0 (.seq (.reg [oZ 5 .eql 3 1, oM 4 5]) (.cond (.t 4) (.seq (.reg [oI 2 1]) .ret) (.seq (.seq (.reg [oZ 7 .eql 3 5, oM 6 7]) (.cond (.t 6) .skip (.reg [oZ 8 .eql 3 6, oM 6 8]))) (.cond (.t 6) (.seq (.reg [oI 2 2]) .ret) (.seq (.reg [oZ 10 .eql 3 7, oM 9 10]) (.cond (.t 9) (.seq (.reg [oI 2 3]) .ret) (.seq (.seq (.reg [oZ 12 .eql 3 20, oM 11 12]) (.cond (.t 11) .skip (.reg [oZ 13 .eql 3 21, oM 11 13]))) (.cond (.t 11) (.seq (.reg [oI 2 4]) .ret) (.seq (.reg [oZ 15 .eql 3 22, oM 14 15]) (.cond (.t 14) (.seq (.reg [oI 2 5]) .ret) .skip)))))))))))) (.seq (.reg [oI 2 0]) .ret)))
set_option maxRecDepth 100000 in
theorem operand_get : getF Tryz.prog 154 58000 [] = some ("gavotte/ops.Operand", 16, operand_c, [(.tmp 2)]) := by kernel_rfl
def eachH_l0 : AC := (.seq (.reg [oB 13 .lss 12 11]) (.seq (.cond (.t 13) .skip (.exit 0)) (.seq (.block 1 (.seq (.reg [oA 14 (.idx 2 (.t 10) (.t 12)), oA 15 (.load (some 2) (.t 14)), oA 8 (.new 33008 2 (.agg [(.int .i64 0), .nils])), oN (.store 2 (.t 8) (.t 15))]) (.seq (.reg [oM 16 2, oA 17 (.load (some 4) (.t 3)), oA 18 (.load (some 2) (.t 8)), oC 19 (.t 16) [(.t 17), (.t 18)], oM 9 19]) (.seq (.reg [oM 20 9, oZ 21 .neq 20 0]) (.cond (.t 21) (.seq (.reg [oM 22 9, oM 6 22]) .ret) .skip))))) (.reg [oZ 23 .add 12 1, oM 12 23]))))
def eachH_c : AC := (.seq (.reg [oA 3 (.box 33003 4 (.t 0)), oI 6 0]) (.seq (.seq (.reg [oM 10 1, oK 11 10, oI 12 0]) (.block 0 (.loop eachH_l0))) (.seq (.reg [oI 6 0]) .ret)))
set_option maxRecDepth 100000 in
theorem eachH_get : getF Tryz.prog 160 33000 [] = some ("gavotte/prog.each[gavotte/api.Handler]", 24, eachH_c, [(.tmp 6)]) := by kernel_rfl
def eachA_l0 : AC := (.seq (.reg [oB 13 .lss 12 11]) (.seq (.cond (.t 13) .skip (.exit 0)) (.seq (.block 1 (.seq (.reg [oA 14 (.idx 4 (.t 10) (.t 12)), oA 15 (.load (some 4) (.t 14)), oA 8 (.new 35008 4 (.agg [.nils, (.int .i64 0), (.int .i64 0), (.bool false)])), oN (.store 4 (.t 8) (.t 15))]) (.seq (.reg [oM 16 2, oA 17 (.load (some 4) (.t 3)), oA 18 (.load (some 4) (.t 8)), oC 19 (.t 16) [(.t 17), (.t 18)], oM 9 19]) (.seq (.reg [oM 20 9, oZ 21 .neq 20 0]) (.cond (.t 21) (.seq (.reg [oM 22 9, oM 6 22]) .ret) .skip))))) (.reg [oZ 23 .add 12 1, oM 12 23]))))
def eachA_c : AC := (.seq (.reg [oA 3 (.box 35003 4 (.t 0)), oI 6 0]) (.seq (.seq (.reg [oM 10 1, oK 11 10, oI 12 0]) (.block 0 (.loop eachA_l0))) (.seq (.reg [oI 6 0]) .ret)))
set_option maxRecDepth 100000 in
theorem eachA_get : getF Tryz.prog 162 35000 [] = some ("gavotte/prog.each[gavotte/api.Actor]", 24, eachA_c, [(.tmp 6)]) := by kernel_rfl
def eachN_l0 : AC := (.seq (.reg [oB 13 .lss 12 11]) (.seq (.cond (.t 13) .skip (.exit 0)) (.seq (.block 1 (.seq (.reg [oA 14 (.idx 3 (.t 10) (.t 12)), oA 15 (.load (some 3) (.t 14)), oA 8 (.new 37008 3 (.agg [(.int .i64 0), (.int .i64 0), .nils])), oN (.store 3 (.t 8) (.t 15))]) (.seq (.reg [oM 16 2, oA 17 (.load (some 4) (.t 3)), oA 18 (.load (some 3) (.t 8)), oC 19 (.t 16) [(.t 17), (.t 18)], oM 9 19]) (.seq (.reg [oM 20 9, oZ 21 .neq 20 0]) (.cond (.t 21) (.seq (.reg [oM 22 9, oM 6 22]) .ret) .skip))))) (.reg [oZ 23 .add 12 1, oM 12 23]))))
def eachN_c : AC := (.seq (.reg [oA 3 (.box 37003 4 (.t 0)), oI 6 0]) (.seq (.seq (.reg [oM 10 1, oK 11 10, oI 12 0]) (.block 0 (.loop eachN_l0))) (.seq (.reg [oI 6 0]) .ret)))
set_option maxRecDepth 100000 in
theorem eachN_get : getF Tryz.prog 164 37000 [] = some ("gavotte/prog.each[gavotte/api.Note]", 24, eachN_c, [(.tmp 6)]) := by kernel_rfl
def instr_c : AC := (.seq (.reg [oA 3 (.box 53003 4 (.t 0)), oA 4 (.box 53004 2 (.t 1)), oA 5 (.box 53005 2 (.t 2)), oI 6 0]) (.seq (.seq (.reg [oF 8 0 5, oL 9 8, oC 10 (.c (.fn 154 [])) [(.t 9)], oM 7 10]) (.block 0 (.seq (.seq (.reg [oF 12 0 5, oL 13 12, oC 14 (.c (.fn 230 [])) [(.t 13)], oA 15 (.not (.t 14)), oM 11 15]) (.cond (.t 11) .skip (.reg [oM 16 7, oZ 17 .eql 16 0, oM 18 17, gF 19 18 true 1 5, gL 20 18 true 19, oG 21 18 true (.ibin .neq (.t 20) (.c (.int .i64 0))), oA 22 (.pick (.t 18) (.t 21) (.c (.bool false))), oM 11 22]))) (.cond (.t 11) (.seq (.reg [oI 6 1]) .ret) (.seq (.reg [oM 24 7, oZ 25 .eql 24 4, oM 26 25, gF 27 26 true 1 5, gL 28 26 true 27, oG 29 26 true (.ibin .lss (.t 28) (.c (.int .i64 0))), gM 30 26 true 29, gF 31 30 false 1 5, gL 32 30 false 31, gF 33 30 false 1 4, gL 34 30 false 33, oG 35 30 false (.len (.t 34)), oG 36 30 false (.ibin .gtr (.t 32) (.t 35)), oG 37 26 true (.pick (.t 30) (.c (.bool true)) (.t 36)), oA 38 (.pick (.t 26) (.t 37) (.c (.bool false))), oM 23 38]) (.cond (.t 23) (.seq (.reg [oI 6 4]) .ret) (.seq (.seq (.reg [oM 40 7, oZ 41 .eql 40 2, oM 42 41, gF 43 42 true 1 5, gL 44 42 true 43, oG 45 42 true (.ibin .lss (.t 44) (.c (.int .i64 0))), gM 46 42 true 45, gF 47 46 false 1 5, gL 48 46 false 47, oG 49 46 false (.ibin .geq (.t 48) (.c (.int .i64 8))), oG 50 42 true (.pick (.t 46) (.c (.bool true)) (.t 49)), oA 51 (.pick (.t 42) (.t 50) (.c (.bool false))), oM 39 51]) (.cond (.t 39) .skip (.reg [oM 52 7, oZ 53 .eql 52 3, oM 54 53, gF 55 54 true 1 5, gL 56 54 true 55, oG 57 54 true (.ibin .lss (.t 56) (.c (.int .i64 0))), gM 58 54 true 57, gF 59 58 false 1 5, gL 60 58 false 59, gF 61 58 false 0 4, gL 62 58 false 61, oG 63 58 false (.ibin .geq (.t 60) (.t 62)), oG 64 54 true (.pick (.t 58) (.c (.bool true)) (.t 63)), oA 65 (.pick (.t 54) (.t 64) (.c (.bool false))), oM 39 65]))) (.cond (.t 39) (.seq (.reg [oI 6 6]) .ret) (.seq (.reg [oM 67 7, oZ 68 .eql 67 5, oM 69 68, gF 70 69 true 1 5, gL 71 69 true 70, oG 72 69 true (.ibin .lss (.t 71) (.c (.int .i64 0))), gM 73 69 true 72, gF 74 73 false 1 5, gL 75 73 false 74, gF 76 73 false 0 3, gL 77 73 false 76, oG 78 73 false (.len (.t 77)), oG 79 73 false (.ibin .geq (.t 75) (.t 78)), oG 80 69 true (.pick (.t 73) (.c (.bool true)) (.t 79)), oA 81 (.pick (.t 69) (.t 80) (.c (.bool false))), oM 66 81]) (.cond (.t 66) (.seq (.reg [oI 6 7]) .ret) .skip)))))))))) (.seq (.reg [oI 6 0]) .ret)))
set_option maxRecDepth 100000 in
theorem instr_get : getF Tryz.prog 208 53000 [] = some ("gavotte/prog.instr", 82, instr_c, [(.tmp 6)]) := by kernel_rfl
def handler_l0 : AC := (.seq (.reg [oB 24 .lss 23 22]) (.seq (.cond (.t 24) .skip (.exit 1)) (.seq (.block 2 (.seq (.reg [oA 25 (.idx 2 (.t 21) (.t 23)), oA 26 (.load (some 2) (.t 25)), oA 6 (.new 34006 2 (.agg [(.int .i64 0), (.int .i64 0)])), oN (.store 2 (.t 6) (.t 26))]) (.seq (.reg [oA 27 (.load (some 4) (.t 2)), oA 28 (.load (some 2) (.t 3)), oA 29 (.load (some 2) (.t 6)), oC 30 (.c (.fn 208 [])) [(.t 27), (.t 28), (.t 29)], oM 7 30]) (.seq (.reg [oM 31 7, oZ 32 .neq 31 0]) (.cond (.t 32) (.seq (.reg [oM 33 7, oM 4 33]) .ret) .skip))))) (.reg [oZ 34 .add 23 1, oM 23 34]))))
def handler_c : AC := (.seq (.reg [oA 2 (.box 34002 4 (.t 0)), oA 3 (.box 34003 2 (.t 1)), oI 4 0]) (.seq (.block 0 (.seq (.seq (.reg [oF 9 0 3, oL 10 9, oZ 11 .lss 10 0, oM 8 11]) (.cond (.t 8) .skip (.reg [oF 12 0 3, oL 13 12, oZ 14 .gtr 13 4, oM 8 14]))) (.cond (.t 8) (.seq (.reg [oI 4 1]) .ret) (.seq (.reg [oF 16 1 3, oL 17 16, oK 18 17, oZ 19 .gtr 18 64, oM 15 19]) (.cond (.t 15) (.seq (.reg [oI 4 3]) .ret) .skip))))) (.seq (.seq (.reg [oF 20 1 3, oL 21 20, oK 22 21, oI 23 0]) (.block 1 (.loop handler_l0))) (.seq (.reg [oI 4 0]) .ret))))
set_option maxRecDepth 100000 in
theorem handler_get : getF Tryz.prog 161 34000 [] = some ("gavotte/prog.handler", 35, handler_c, [(.tmp 4)]) := by kernel_rfl
def actor_c : AC := (.seq (.reg [oA 2 (.box 36002 4 (.t 0)), oA 3 (.box 36003 4 (.t 1)), oI 4 0]) (.seq (.block 0 (.seq (.reg [oF 6 0 3, oL 7 6, oK 8 7, oZ 9 .gtr 8 8, oM 5 9]) (.cond (.t 5) (.seq (.reg [oI 4 3]) .ret) (.seq (.seq (.reg [oF 11 1 3, oL 12 11, oZ 13 .lss 12 0, oM 10 13]) (.cond (.t 10) .skip (.reg [oF 14 1 3, oL 15 14, oZ 16 .gtr 15 16, oM 10 16]))) (.cond (.t 10) (.seq (.reg [oI 4 1]) .ret) (.seq (.reg [oF 18 2 3, oL 19 18, oZ 20 .neq 19 (-1), oM 21 20, gF 22 21 true 2 3, gL 23 21 true 22, oG 24 21 true (.ibin .lss (.t 23) (.c (.int .i64 0))), gM 25 21 true 24, gF 26 25 false 2 3, gL 27 25 false 26, gF 28 25 false 0 2, gL 29 25 false 28, oG 30 25 false (.len (.t 29)), oG 31 25 false (.ibin .geq (.t 27) (.t 30)), oG 32 21 true (.pick (.t 25) (.c (.bool true)) (.t 31)), gM 33 21 true 32, gF 34 33 false 0 2, gL 35 33 false 34, gF 36 33 false 2 3, gL 37 33 false 36, oG 38 33 false (.idx 2 (.t 35) (.t 37)), gF 39 33 false 0 38, gL 40 33 false 39, oG 41 33 false (.ibin .neq (.t 40) (.c (.int .i64 0))), oG 42 21 true (.pick (.t 33) (.c (.bool true)) (.t 41)), oA 43 (.pick (.t 21) (.t 42) (.c (.bool false))), oM 17 43]) (.cond (.t 17) (.seq (.reg [oI 4 7]) .ret) (.seq (.reg [oF 45 3 3, oL 46 45, oM 47 46, gF 48 47 true 2 3, gL 49 47 true 48, oG 50 47 true (.ibin .eql (.t 49) (.c (.int .i64 (-1)))), oA 51 (.pick (.t 47) (.t 50) (.c (.bool false))), oM 44 51]) (.cond (.t 44) (.seq (.reg [oI 4 1]) .ret) .skip))))))))) (.seq (.reg [oI 4 0]) .ret)))
set_option maxRecDepth 100000 in
theorem actor_get : getF Tryz.prog 163 36000 [] = some ("gavotte/prog.actor", 52, actor_c, [(.tmp 4)]) := by kernel_rfl
def note_c : AC := (.seq (.reg [oA 2 (.box 38002 4 (.t 0)), oA 3 (.box 38003 3 (.t 1)), oI 4 0]) (.seq (.block 0 (.seq (.seq (.reg [oF 6 0 3, oL 7 6, oZ 8 .lss 7 0, oM 5 8]) (.cond (.t 5) .skip (.seq (.reg [oF 9 0 3, oL 10 9, oF 11 1 2, oL 12 11, oK 13 12, oB 14 .geq 10 13, oM 5 14]) (.cond (.t 5) .skip (.seq (.reg [oF 15 1 3, oL 16 15, oZ 17 .lss 16 0, oM 5 17]) (.cond (.t 5) .skip (.reg [oF 18 1 3, oL 19 18, oF 20 0 2, oL 21 20, oK 22 21, oB 23 .geq 19 22, oM 5 23]))))))) (.cond (.t 5) (.seq (.reg [oI 4 7]) .ret) (.seq (.regd [oF 25 2 3, oL 26 25, oK 27 26, oF 28 0 2, oL 29 28, oF 30 1 3, oL 31 30, oA 32 (.idx 2 (.t 29) (.t 31)), oF 33 0 32, oL 34 33, oB 35 .neq 27 34, oM 24 35] [[], [0], [1, 0], [], [3], [], [5], [4, 6, 3, 5], [7, 4, 6, 3, 5], [8, 7, 4, 6, 3, 5], [2, 9, 1, 0, 8, 7, 4, 6, 3, 5], [10, 2, 9, 1, 0, 8, 7, 4, 6, 3, 5]]) (.cond (.t 24) (.seq (.reg [oI 4 1]) .ret) .skip))))) (.seq (.reg [oI 4 0]) .ret)))
set_option maxRecDepth 100000 in
theorem note_get : getF Tryz.prog 165 38000 [] = some ("gavotte/prog.Note", 36, note_c, [(.tmp 4)]) := by kernel_rfl
theorem valid_pc (n : Int) : PC Tryz.prog 230 [iv n] (.bool (decide (1 <= n) && decide (n <= 25))) := by
 refine pc_of_get valid_get (by simp) _ (by simp) _ ?_
 unfold valid_c
 simp
 repeat' (refine split (fun hc => ?_) (fun hc => ?_) <;> simp [*])
theorem operand_pc (n : Int) : PC Tryz.prog 154 [iv n] (iv (operandV n)) := by
 refine pc_of_get operand_get (by simp) _ (by simp) _ ?_
 unfold operand_c
 simp
 repeat' (refine split (fun hc => ?_) (fun hc => ?_) <;> simp [*])
 all_goals grind [operandV]
theorem eachH_pc (p : Prg) (hs : List Hnd) (f : FuncId) (g : Hnd -> Int) (hg : ∀ h ∈ hs, PC Tryz.prog f [p.av, h.av] (iv (g h))) (hl : hs.length < 4611686018427387904) :
   PC Tryz.prog 160 [p.av, .lst 2 (hs.map Hnd.av), .fn f []] (iv (firstNZ (hs.map g))) := by
 refine pc_of_get eachH_get (by simp) _ (by simp) _ ?_
 unfold eachH_c
 simp
 refine loopN (fun i S => S.t 10 = .lst 2 (hs.map Hnd.av) /\ S.t 11 = iv hs.length /\ S.t 12 = iv i /\ S.t 2 = .fn f [] /\ (∃ st, S.t 3 = .ptr 33003 st 4 0 0 /\ S.blk 33003 = some ⟨st, 4, [p.av]⟩) /\ firstNZ (hs.map g) = firstNZ ((hs.map g).drop i)) hs.length ?_ ?_
 . simp
 . rintro i S hi ⟨h10, h11, h12, h2, ⟨st, h3, hb⟩, hv⟩
   by_cases hlt : i < hs.length
   . have e : hs[i]? = some hs[i] := List.getElem?_eq_getElem hlt
     have hm := hg hs[i] (List.getElem_mem hlt)
     rw [firstNZ_drop _ _ (by simpa using hlt), List.getElem_map] at hv
     simp [eachH_l0, h10, h11, h12, h2, h3, hb, hlt, e]
     refine call hm (by simp) ?_
     simp [h10, h11, h12, h2, h3, hb, hlt, hv]
     refine split (fun hc => ?_) (fun hc => ?_) <;> simp [hc, h10, h11, h12, h2, h3, hb, hlt, hv, wrap_succ i _ hlt hl]
   . have e : i = hs.length := by omega
     subst e
     rw [firstNZ_end _ _ (by simp)] at hv
     simp [eachH_l0, h10, h11, h12, h2, h3, hb, hv]
theorem eachA_pc (p : Prg) (hs : List Actr) (f : FuncId) (g : Actr -> Int) (hg : ∀ h ∈ hs, PC Tryz.prog f [p.av, h.av] (iv (g h))) (hl : hs.length < 4611686018427387904) :
   PC Tryz.prog 162 [p.av, .lst 4 (hs.map Actr.av), .fn f []] (iv (firstNZ (hs.map g))) := by
 refine pc_of_get eachA_get (by simp) _ (by simp) _ ?_
 unfold eachA_c
 simp
 refine loopN (fun i S => S.t 10 = .lst 4 (hs.map Actr.av) /\ S.t 11 = iv hs.length /\ S.t 12 = iv i /\ S.t 2 = .fn f [] /\ (∃ st, S.t 3 = .ptr 35003 st 4 0 0 /\ S.blk 35003 = some ⟨st, 4, [p.av]⟩) /\ firstNZ (hs.map g) = firstNZ ((hs.map g).drop i)) hs.length ?_ ?_
 . simp
 . rintro i S hi ⟨h10, h11, h12, h2, ⟨st, h3, hb⟩, hv⟩
   by_cases hlt : i < hs.length
   . have e : hs[i]? = some hs[i] := List.getElem?_eq_getElem hlt
     have hm := hg hs[i] (List.getElem_mem hlt)
     rw [firstNZ_drop _ _ (by simpa using hlt), List.getElem_map] at hv
     simp [eachA_l0, h10, h11, h12, h2, h3, hb, hlt, e]
     refine call hm (by simp) ?_
     simp [h10, h11, h12, h2, h3, hb, hlt, hv]
     refine split (fun hc => ?_) (fun hc => ?_) <;> simp [hc, h10, h11, h12, h2, h3, hb, hlt, hv, wrap_succ i _ hlt hl]
   . have e : i = hs.length := by omega
     subst e
     rw [firstNZ_end _ _ (by simp)] at hv
     simp [eachA_l0, h10, h11, h12, h2, h3, hb, hv]
theorem eachN_pc (p : Prg) (hs : List Nt) (f : FuncId) (g : Nt -> Int) (hg : ∀ h ∈ hs, PC Tryz.prog f [p.av, h.av] (iv (g h))) (hl : hs.length < 4611686018427387904) :
   PC Tryz.prog 164 [p.av, .lst 3 (hs.map Nt.av), .fn f []] (iv (firstNZ (hs.map g))) := by
 refine pc_of_get eachN_get (by simp) _ (by simp) _ ?_
 unfold eachN_c
 simp
 refine loopN (fun i S => S.t 10 = .lst 3 (hs.map Nt.av) /\ S.t 11 = iv hs.length /\ S.t 12 = iv i /\ S.t 2 = .fn f [] /\ (∃ st, S.t 3 = .ptr 37003 st 4 0 0 /\ S.blk 37003 = some ⟨st, 4, [p.av]⟩) /\ firstNZ (hs.map g) = firstNZ ((hs.map g).drop i)) hs.length ?_ ?_
 . simp
 . rintro i S hi ⟨h10, h11, h12, h2, ⟨st, h3, hb⟩, hv⟩
   by_cases hlt : i < hs.length
   . have e : hs[i]? = some hs[i] := List.getElem?_eq_getElem hlt
     have hm := hg hs[i] (List.getElem_mem hlt)
     rw [firstNZ_drop _ _ (by simpa using hlt), List.getElem_map] at hv
     simp [eachN_l0, h10, h11, h12, h2, h3, hb, hlt, e]
     refine call hm (by simp) ?_
     simp [h10, h11, h12, h2, h3, hb, hlt, hv]
     refine split (fun hc => ?_) (fun hc => ?_) <;> simp [hc, h10, h11, h12, h2, h3, hb, hlt, hv, wrap_succ i _ hlt hl]
   . have e : i = hs.length := by omega
     subst e
     rw [firstNZ_end _ _ (by simp)] at hv
     simp [eachN_l0, h10, h11, h12, h2, h3, hb, hv]
theorem instr_pc (p : Prg) (h : Hnd) (i : Ins) : PC Tryz.prog 208 [p.av, h.av, i.av] (iv (instrV p.hs.length h.args h.code.length i)) := by
 refine pc_of_get instr_get (by simp) _ (by simp) _ ?_
 unfold instr_c
 simp
 refine call (operand_pc i.op) (by simp) ?_
 simp
 refine call (valid_pc i.op) (by simp) ?_
 have hk := operandV_cases i.op
 unfold instrV
 generalize operandV i.op = k at hk
 simp
 by_cases h1 : 1 <= i.op
 . by_cases h2 : i.op <= 25
   . rcases hk with rfl | rfl | rfl | rfl | rfl | rfl <;> simp [h1, h2]
     all_goals
       repeat' (refine split (fun hc => ?_) (fun hc => ?_) <;> simp [*])
     all_goals grind
   . simp [h1, h2]
 . simp [h1]
theorem handler_pc (p : Prg) (h : Hnd) : PC Tryz.prog 161 [p.av, h.av] (iv (handlerV p.hs.length h)) := by
 refine pc_of_get handler_get (by simp) _ (by simp) _ ?_
 unfold handler_c
 simp
 refine split (fun h1 => ?_) (fun h1 => ?_) <;> simp [h1]
 . grind [handlerV]
 refine split (fun h2 => ?_) (fun h2 => ?_) <;> simp [h2]
 . grind [handlerV]
 refine split (fun h3 => ?_) (fun h3 => ?_) <;> simp [h3]
 . grind [handlerV]
 have hv : handlerV p.hs.length h = firstNZ (h.code.map (instrV p.hs.length h.args h.code.length)) := by grind [handlerV]
 rw [hv]
 refine loopN (fun i S => S.t 21 = .lst 2 (h.code.map Ins.av) /\ S.t 22 = iv h.code.length /\ S.t 23 = iv i /\ (∃ st, S.t 2 = .ptr 34002 st 4 0 0 /\ S.blk 34002 = some ⟨st, 4, [p.av]⟩) /\ (∃ st, S.t 3 = .ptr 34003 st 2 0 0 /\ S.blk 34003 = some ⟨st, 2, [h.av]⟩) /\
   firstNZ (h.code.map (instrV p.hs.length h.args h.code.length)) = firstNZ ((h.code.map (instrV p.hs.length h.args h.code.length)).drop i)) h.code.length ?_ ?_
 . simp
 . rintro i S hi ⟨h10, h11, h12, ⟨st, g1, g2⟩, ⟨st', g3, g4⟩, hv⟩
   by_cases hlt : i < h.code.length
   . rw [firstNZ_drop _ _ (by simpa using hlt), List.getElem_map] at hv
     simp [handler_l0, h10, h11, h12, g1, g2, g3, g4, hlt]
     refine call (instr_pc p h h.code[i]) (by simp) ?_
     simp
     refine split (fun hc => ?_) (fun hc => ?_) <;> simp [hc, h10, h11, h12, g1, g2, g3, g4, hlt, hv, wrap_succ i _ hlt (by omega)]
   . have e : i = h.code.length := by omega
     subst e
     rw [firstNZ_end _ _ (by simp)] at hv
     simp [handler_l0, h10, h11, h12, g1, g2, g3, g4, hv]
theorem actor_pc (p : Prg) (a : Actr) : PC Tryz.prog 163 [p.av, a.av] (iv (actorV p.hs a)) := by
 refine pc_of_get actor_get (by simp) _ (by simp) _ ?_
 unfold actor_c
 simp
 refine split (fun h1 => ?_) (fun h1 => ?_) <;> simp [h1]
 . grind [actorV]
 refine split (fun h2 => ?_) (fun h2 => ?_) <;> simp [h2]
 . grind [actorV]
 refine split (fun h3 => ?_) (fun h3 => ?_) <;> simp [h3]
 . grind [actorV]
 obtain ⟨regs, cap, timer, armed⟩ := a
 simp at h1 h2 h3
 by_cases ht : timer = -1
 . subst ht
   simp
   cases armed <;> simp <;> grind [actorV]
 . simp [ht]
   by_cases ht2 : timer < 0
   . simp [ht2]; grind [actorV]
   . obtain ⟨k, rfl⟩ := Int.eq_ofNat_of_zero_le (by omega : 0 <= timer)
     have hn : ¬ ((k : Int) < 0) := by omega
     by_cases hk : k < p.hs.length
     . simp [hk, ht, hn, Nat.not_le.2 hk]
       by_cases hz : p.hs[k].args = 0
       . simp [hk, ht, hn, hz, Nat.not_le.2 hk]
         cases armed <;> simp [hk, ht, hn, hz, Nat.not_le.2 hk] <;> grind [actorV]
       . simp [hk, ht, hn, hz, Nat.not_le.2 hk]; grind [actorV]
     . simp [hk, ht, hn, Nat.not_lt.1 hk]; grind [actorV]
theorem note_pc (p : Prg) (n : Nt) : PC Tryz.prog 165 [p.av, n.av] (iv (noteV p.hs p.as.length n)) := by
 refine pc_of_get note_get (by simp) _ (by simp) _ ?_
 unfold note_c
 simp
 refine split (fun h1 => ?_) (fun h1 => ?_) <;> simp [h1]
 . grind [noteV]
 refine split (fun h2 => ?_) (fun h2 => ?_) <;> simp [h2]
 . grind [noteV]
 refine split (fun h3 => ?_) (fun h3 => ?_) <;> simp [h3]
 . grind [noteV]
 refine split (fun h4 => ?_) (fun h4 => ?_) <;> simp only [h4]
 . simp [h4]; grind [noteV]
 obtain ⟨to, hd, args⟩ := n
 obtain ⟨k, rfl⟩ := Int.eq_ofNat_of_zero_le (by simpa using h3 : 0 <= hd)
 have hk : k < p.hs.length := by simpa using h4
 simp [hk]
 refine split (fun h5 => ?_) (fun h5 => ?_) <;> simp <;> grind [noteV]
end Go.Gv

namespace Go.Gv
open Go.Proofs
def check_c : AC := (.seq (.reg [oA 1 (.box 21001 4 (.t 0)), oI 2 0]) (.seq (.block 0 (.seq (.seq (.reg [oF 6 0 1, oL 7 6, oK 8 7, oZ 9 .gtr 8 16, oM 5 9]) (.cond (.t 5) .skip (.seq (.reg [oF 10 1 1, oL 11 10, oK 12 11, oZ 13 .gtr 12 8, oM 5 13]) (.cond (.t 5) .skip (.reg [oF 14 2 1, oL 15 14, oK 16 15, oZ 17 .gtr 16 16, oM 5 17]))))) (.cond (.t 5) (.seq (.reg [oI 2 3]) .ret) (.seq (.seq (.reg [oF 19 1 1, oL 20 19, oK 21 20, oZ 22 .eql 21 0, oM 18 22]) (.cond (.t 18) .skip (.seq (.reg [oF 23 3 1, oL 24 23, oZ 25 .lss 24 1, oM 18 25]) (.cond (.t 18) .skip (.reg [oF 26 3 1, oL 27 26, oZ 28 .gtr 27 256, oM 18 28]))))) (.cond (.t 18) (.seq (.reg [oI 2 1]) .ret) .skip))))) (.seq (.seq (.reg [oA 29 (.load (some 4) (.t 1)), oF 30 0 1, oL 31 30, oC 32 (.c (.fn 160 [])) [(.t 29), (.t 31), (.c (.fn 161 []))], oM 3 32]) (.seq (.reg [oM 33 3, oZ 34 .neq 33 0]) (.cond (.t 34) (.seq (.reg [oM 35 3, oM 2 35]) .ret) .skip))) (.seq (.seq (.reg [oA 36 (.load (some 4) (.t 1)), oF 37 1 1, oL 38 37, oC 39 (.c (.fn 162 [])) [(.t 36), (.t 38), (.c (.fn 163 []))], oM 4 39]) (.seq (.reg [oM 40 4, oZ 41 .neq 40 0]) (.cond (.t 41) (.seq (.reg [oM 42 4, oM 2 42]) .ret) .skip))) (.seq (.reg [oA 43 (.load (some 4) (.t 1)), oF 44 2 1, oL 45 44, oC 46 (.c (.fn 164 [])) [(.t 43), (.t 45), (.c (.fn 165 []))], oM 2 46]) .ret)))))
set_option maxRecDepth 100000 in
theorem check_get : getF Tryz.prog 122 21000 [] = some ("gavotte/prog.Check", 47, check_c, [(.tmp 2)]) := by kernel_rfl
theorem check_pc (p : Prg) : PC Tryz.prog 122 [p.av] (iv (checkV p)) := by
 refine pc_of_get check_get (by simp) _ (by simp) _ ?_
 unfold check_c
 simp
 refine split (fun h1 => ?_) (fun h1 => ?_) <;> simp [h1]
 . grind [checkV]
 refine split (fun h2 => ?_) (fun h2 => ?_) <;> simp [h2]
 . grind [checkV]
 refine split (fun h3 => ?_) (fun h3 => ?_) <;> simp [h3]
 . grind [checkV]
 refine split (fun h4 => ?_) (fun h4 => ?_) <;> simp [h4]
 . grind [checkV]
 refine split (fun h5 => ?_) (fun h5 => ?_) <;> simp [h5]
 . grind [checkV]
 refine split (fun h6 => ?_) (fun h6 => ?_) <;> simp [h6]
 . grind [checkV]
 refine call (eachH_pc p p.hs 161 (handlerV p.hs.length) (fun h _ => handler_pc p h) (by omega)) (by simp) ?_
 simp
 refine split (fun h7 => ?_) (fun h7 => ?_) <;> simp [h7]
 rotate_left
 . grind [checkV]
 refine call (eachA_pc p p.as 163 (actorV p.hs) (fun h _ => actor_pc p h) (by omega)) (by simp) ?_
 simp
 refine split (fun h8 => ?_) (fun h8 => ?_) <;> simp [h8]
 rotate_left
 . grind [checkV]
 refine call (eachN_pc p p.boot 165 (noteV p.hs p.as.length) (fun h _ => note_pc p h) (by omega)) (by simp) ?_
 simp
 grind [checkV]
end Go.Gv

namespace Go.Gv
open Go.Proofs
end Go.Gv

namespace Go.Gv
open Go.Proofs
end Go.Gv

namespace Go.Gv
open Go.Proofs
def smallV (p : Prg) : Prop := p.hs.length <= 18 /\ p.as.length <= 10 /\ p.boot.length <= 18 /\ (∀ h ∈ p.hs, h.code.length <= 70) /\ (∀ a ∈ p.as, a.regs.length <= 10) /\ (∀ n ∈ p.boot, n.args.length <= 6)
instance (p : Prg) : Decidable (smallV p) := inferInstanceAs (Decidable (_ /\ _))
end Go.Gv
