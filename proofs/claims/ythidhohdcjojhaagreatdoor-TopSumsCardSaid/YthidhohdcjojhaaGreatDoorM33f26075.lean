/- Texts of this proof, one behind the other. What is proved, and on which conditions, stands ahead of each. -/
import Derived.Test.YthidhohdcjojhaaGreatDoorProg
import Derived.Test.YthidhohdcjojhaaGreatDoorM26dbdbd
import Derived.Test.YthidhohdcjojhaaGreatDoorM29e5cb9b
import Derived.Test.YthidhohdcjojhaaGreatDoorM329b61bf
import Derived.Test.YthidhohdcjojhaaGreatDoorM31b5864d
import Derived.Test.YthidhohdcjojhaaGreatDoorM1661a20e

set_option linter.unusedVariables false
set_option linter.unusedSimpArgs false
namespace Go.Gv
open Go.Proofs
def concB_l0 : AC := (.seq (.reg [oB 12 .lss 11 10]) (.seq (.cond (.t 12) .skip (.exit 0)) (.seq (.block 1 (.seq (.reg [oA 13 (.idx 1 (.t 9) (.t 11)), oL 14 13, oM 5 14]) (.seq (.reg [oM 15 3, oM 16 5, oK 17 16, oB 18 .add 15 17, oM 3 18]) (.seq (.reg [oM 19 3, oZ 20 .lss 19 0]) (.cond (.t 20) (.reg [⟨(some 21), none, (.op .bad)⟩, ⟨none, none, (.op .bad)⟩]) .skip))))) (.reg [oZ 22 .add 11 1, oM 11 22]))))
def concB_l1 : AC := (.seq (.reg [oB 28 .lss 27 26]) (.seq (.cond (.t 28) .skip (.exit 2)) (.seq (.block 3 (.seq (.reg [oA 29 (.idx 1 (.t 25) (.t 27)), oL 30 29, oM 8 30]) (.reg [oM 31 6, oM 32 8, oA 33 (.app 349033 1 5 1 (.t 31) (.t 32)), oM 6 33]))) (.reg [oZ 34 .add 27 1, oM 27 34]))))
def concB_c : AC := (.seq (.reg [oA 2 (.mv (.c .nils))]) (.seq (.reg [oI 3 0]) (.seq (.seq (.reg [oM 9 0, oK 10 9, oI 11 0]) (.block 0 (.loop concB_l0))) (.seq (.reg [oM 23 3, oC 24 (.c (.fn 104 [])) [(.c .nils), (.t 23)], oM 6 24]) (.seq (.seq (.reg [oM 25 0, oK 26 25, oI 27 0]) (.block 2 (.loop concB_l1))) (.seq (.reg [oM 35 6, oM 2 35]) .ret))))))
set_option maxRecDepth 100000 in
theorem concB_get : getF Tryz.prog 73 349000 [] = some ("slices.Concat[[]byte,byte]", 36, concB_c, [(.tmp 2)]) := by kernel_rfl
open Go.Sort Go.Shelf Go.RowKit
theorem growB_v (n : Nat) (hn : n <= 1000000) {S : St} {k : AV -> St -> Prop} {u : Dep k} (h0 : n = 0 -> k .nils S) (h1 : 0 < n -> k (.acc 99002 S.clk 1 []) ⟨S.t, S.blk, upd S.tok 99002 (some ⟨S.clk, 1, 5⟩), S.clk + 1⟩) :
   CallG Tryz.prog (.fn 104 []) [.nils, iv n] S k u := by
 refine ⟨104, [], rfl, entersF 104 _ Tryz.func104 (by kernel_rfl) (by kernel_rfl), fun E B W w args H hW hG hu hsz hrel => ?_⟩
 have hB := hG.le
 obtain ⟨v0, v1, rfl⟩ := args2 (by simpa using hsz)
 obtain rfl := (hrel 0 _ v0 rfl rfl).nils_inv
 obtain rfl := rel_int (hrel 1 _ v1 rfl rfl)
 by_cases hz : n = 0
 . subst hz
   have hcon := Any8.slices_Grow_room Tryz.growB none 0 0 0 w (by omega) (by omega) (by omega) (by omega)
   change Calls Tryz.prog 104 _ _ _ at hcon
   refine hcon.mono ?_
   rintro e w' ⟨rfl, rfl⟩
   exact ⟨_, E, .nils, S, rfl, .refl E, H, hW, fun _ _ _ => rfl, fun s hs => ⟨.inl hs, hu s hs⟩, Nat.le_refl _, rfl, .nils, h0 rfl⟩
 . have hpos : 0 < n := by omega
   obtain ⟨i0, hi0, hz0, hs1, hby⟩ : ∃ i0 : TypeInfo, Tryz.prog.info? 5 = some i0 /\ i0.zero = some (.int .u8 0) /\ i0.size = 1 /\ i0.bytes = 1 := by
     have hm : (Tryz.prog.info? 5).map (fun i => (i.zero, i.size, i.bytes)) = some (some (.int .u8 0), 1, 1) := by kernel_rfl
     rw [Option.map_eq_some_iff] at hm
     obtain ⟨i0, q1, q2⟩ := hm
     simp only [Prod.mk.injEq] at q2
     exact ⟨i0, q1, q2.1, q2.2.1, q2.2.2⟩
   have hcon := Any8.slices_Grow_grow Tryz.growB i0 (.int .u8 0) hi0 hz0 (by omega) none 0 0 n [] w (by omega) (by omega) (by rw [hby]; omega) (by omega) (by simp) (by simp) (by simp)
   change Calls Tryz.prog 104 _ _ _ at hcon
   rw [show Tryz.growB_ren.t 25 = 5 from rfl] at hcon
   refine hcon.mono ?_
   rintro e w' ⟨rfl, rfl⟩
   have hge := grownCap_ge w (0 + n) 0 5
   have hcm : grownCap w (0 + n) 0 5 <= maxLen := grownCap_le_maxLen w (0 + n) 0 5 (by simp [maxLen]; omega)
   generalize hcap : grownCap w (0 + n) 0 5 = cap at *
   have hcells : (([] : List Value).toArray ++ Builtin.zeroCells (Value.int .u8 0).cells (0 + n - 0) ++ Builtin.zeroCells (Value.int .u8 0).cells (cap - (0 + n))).size = cap := by
     simp [size_zeroCells, Value.cells]; omega
   generalize (([] : List Value).toArray ++ Builtin.zeroCells (Value.int .u8 0).cells (0 + n - 0) ++ Builtin.zeroCells (Value.int .u8 0).cells (cap - (0 + n))) = cur at hcells
   have hst : ¬ E.u S.clk := fun q => by have := hu _ q; omega
   have Hd : HConc E B S.h w.drew := H.change H.K (fun _ _ _ => rfl) (fun _ _ _ _ _ => rfl)
   have H1 : HConc E B S.h (w.drew.alloc (.cells cur 5)) := Hd.grow (fun k hk => _root_.Go.heap_alloc_old w.drew _ hk)
   have hown : (w.drew.alloc (.cells cur 5)).ownsRow B 5 1 (.slice (some ⟨w.heap.size, 0, none⟩) 0 cap) ([] : List AV).length [] :=
     ⟨rfl, .inr ⟨w.heap.size, cap, cur, rfl, Nat.le_trans hB hW.size, _root_.Go.heap_alloc_new w.drew _, Nat.zero_le _, hcm, by omega, by simp⟩⟩
   obtain ⟨E', a1, a2, a3, a4, a5⟩ := H1.newAcc 99002 S.clk 1 5 hst [] (.slice (some ⟨w.heap.size, 0, none⟩) 0 cap) [] (.of hown) (by simp) (by simp)
     (fun n b hb q => by have := (H.bk n b hb).lt; simp [Value.ownBlock] at q; omega) (fun n t ht _ g hg q => by have := ((H.tk n t ht).lt hg).2; simp [Value.ownBlock] at q; omega)
     (fun g j hg _ => by simp [Value.ownBlock] at hg; subst hg; exact K_none H (Nat.le_refl _) j)
   refine ⟨_, E', .acc 99002 S.clk 1 [], ⟨S.t, S.blk, upd S.tok 99002 (some ⟨S.clk, 1, 5⟩), S.clk + 1⟩, rfl, a1, a4, ?_, a3, fun s hs => ?_, by simp, rfl, a5, h1 hpos⟩
   . exact hW.drew.alloc (Nat.le_trans hB hW.size) _
   . rcases a2 s hs with q | q
     . exact ⟨.inl q, Nat.lt_succ_of_lt (hu s q)⟩
     . exact ⟨.inr (by omega), by simp only; omega⟩
def AccY (S : St) (v : AV) (xs : List AV) : Prop := (v = .nils /\ xs = []) \/ ∃ nm st, v = .acc nm st 1 xs /\ S.tok nm = some ⟨st, 1, 5⟩
def totB (ls : List (List AV)) (i : Nat) : Nat := (ls.take i).flatten.length
theorem flatB_take (ls : List (List AV)) (i : Nat) (h : i < ls.length) : (ls.take (i + 1)).flatten = (ls.take i).flatten ++ ls[i] := by
 rw [List.take_succ_eq_append_getElem h, List.flatten_append]; simp
theorem totB_succ (ls : List (List AV)) (i : Nat) (h : i < ls.length) : totB ls (i + 1) = totB ls i + ls[i].length := by simp only [totB, flatB_take ls i h, List.length_append]
theorem totB_le (ls : List (List AV)) (i : Nat) : totB ls i <= ls.flatten.length := by
 have : ls.flatten = (ls.take i).flatten ++ (ls.drop i).flatten := by rw [<- List.flatten_append, List.take_append_drop]
 rw [this, List.length_append]; unfold totB; omega
def CJB (ls : List (List AV)) (i : Nat) (S : St) : Prop := S.t 0 = .lst 1 (ls.map (AV.lst 1)) /\ S.t 25 = .lst 1 (ls.map (AV.lst 1)) /\ S.t 26 = iv ls.length /\ S.t 27 = iv i /\ ∃ v, S.t 6 = v /\ AccY S v (ls.take i).flatten
theorem concB_in (ls : List (List AV)) (h1 : ls.length <= 1000) (h2 : ls.flatten.length <= 1000000) {κ : Ex -> St -> Prop} (hκ : ∀ S v, S.t 6 = v -> AccY S v ls.flatten -> κ (.exit 2) S) (i : Nat) (S : St) (hi : i <= ls.length) (h : CJB ls i S) :
   V Tryz.prog concB_l1 (Lp κ fun S'' => i < ls.length /\ CJB ls (i + 1) S'') S := by
 obtain ⟨g0, g25, g26, g27, v, g6, hv⟩ := h
 by_cases hlt : i < ls.length
 . have hw := wrap_succ i _ hlt (by omega)
   have e3 := totB_le ls (i + 1)
   rw [totB_succ ls i hlt] at e3
   have hb : ((ls.take i).flatten).length + ls[i].length <= 140737488355328 := by
     unfold totB at e3; omega
   have ht := flatB_take ls i hlt
   rcases hv with ⟨rfl, hx⟩ | ⟨nm, st, rfl, hk⟩
   . rw [hx] at hb ht
     simp only [List.length_nil, Nat.zero_add] at hb
     simp only [concB_l1, CJB, AccY]
     generalize (ls.take (i + 1)).flatten = ys at *
     simp [g0, g25, g26, g27, g6, hlt, ints, hb, hw]
     exact ⟨349033, _, ⟨rfl, rfl, by rw [ht]; simp⟩, by simp⟩
   . simp only [concB_l1, CJB, AccY]
     generalize (ls.take i).flatten = xs at *
     generalize (ls.take (i + 1)).flatten = ys at *
     simp [g0, g25, g26, g27, g6, hlt, ints, hb, hw, hk]
     exact ⟨349033, _, ⟨rfl, rfl, by rw [ht]⟩, by simp⟩
 . have e1 : i = ls.length := by omega
   subst e1
   rw [List.take_length] at hv
   simp [concB_l1, g0, g25, g26, g27]
   exact hκ _ v (by simp [g6]) (by rcases hv with q | ⟨nm, st, q1, q2⟩; exact .inl q; exact .inr ⟨nm, st, q1, q2⟩)
theorem concB_pc (ls : List (List AV)) (h1 : ls.length <= 1000) (h2 : ls.flatten.length <= 1000000) : PC Tryz.prog 73 [.lst 1 (ls.map (AV.lst 1))] (.lst 1 ls.flatten) := by
 refine pc_of_get concB_get (by simp) _ (by simp) _ ?_
 unfold concB_c
 simp
 refine loopN (fun i S => S.t 0 = .lst 1 (ls.map (AV.lst 1)) /\ S.t 9 = .lst 1 (ls.map (AV.lst 1)) /\ S.t 10 = iv ls.length /\ S.t 11 = iv i /\ S.t 3 = iv (totB ls i)) ls.length ?_ ?_
 . simp [totB]
 . rintro i S hi ⟨g0, g9, g10, g11, g3⟩
   by_cases hlt : i < ls.length
   . have hw := wrap_succ i _ hlt (by omega)
     have e3 := totB_le ls (i + 1)
     rw [totB_succ ls i hlt] at e3
     have hw2 : IntKind.i64.wrap ((totB ls i : Int) + (ls[i].length : Int)) = (totB ls (i + 1) : Int) := by
       rw [totB_succ ls i hlt, wrap_in _ (by omega) (by omega)]; simp
     have hnn : ¬ ((totB ls (i + 1) : Int) < 0) := by omega
     simp [concB_l0, g0, g9, g10, g11, g3, hlt, ints, hw2, hnn, hw]
   . have e1 : i = ls.length := by omega
     subst e1
     have ht : totB ls ls.length = ls.flatten.length := by simp only [totB, List.take_length]
     simp [concB_l0, g0, g9, g10, g11, g3]
     generalize hT : totB ls ls.length = T at *
     refine growB_v T (by omega) (fun h0 => ?_) (fun h0 => ?_)
     . simp [g0]
       refine loopN (CJB ls) ls.length ?_ (concB_in ls h1 h2 ?_)
       . simp [CJB, g0, AccY]
       . intro S' v g6 hv
         simp [g6]
         rcases hv with ⟨rfl, q⟩ | ⟨nm, st, rfl, _⟩
         . simp [ints, q]
         . simp [ints]
     . simp [g0]
       refine loopN (CJB ls) ls.length ?_ (concB_in ls h1 h2 ?_)
       . simp [CJB, g0, AccY]
         exact ⟨99002, _, ⟨rfl, rfl⟩, by simp⟩
       . intro S' v g6 hv
         simp [g6]
         rcases hv with ⟨rfl, q⟩ | ⟨nm, st, rfl, _⟩
         . simp [ints, q]
         . simp [ints]
end Go.Gv

namespace Go.Gv
open Go.Proofs
def wpath_l0 : AC := (.seq (.reg [oB 17 .lss 16 15]) (.seq (.cond (.t 17) .skip (.exit 0)) (.seq (.block 1 (.seq (.reg [oA 18 (.idx 5 (.t 14) (.t 16)), oA 19 (.load (some 5) (.t 18)), oA 6 (.new 351006 5 (.agg [(.int .i64 0), (.int .i64 0), (.int .i64 0), (.int .i64 0), (.int .i64 0)])), oN (.store 5 (.t 6) (.t 19))]) (.reg [oM 20 4, oF 21 0 6, oL 22 21, oF 23 1 6, oF 24 0 23, oL 25 24, oF 26 1 6, oF 27 1 26, oL 28 27, oF 29 1 6, oF 30 2 29, oL 31 30, oF 32 4 6, oL 33 32, oA 34 (.bsl 351034 1 3 5 (.int .i64 0) [(0, (.t 22)), (1, (.t 25)), (2, (.t 28)), (3, (.t 31)), (4, (.t 33))]), oC 35 (.c (.fn 32 [])) [(.t 20), (.t 34)], oM 4 35]))) (.reg [oZ 36 .add 16 1, oM 16 36]))))
def wpath_c : AC := (.seq (.reg [oA 2 (.mv (.c .nils)), oI 3 0]) (.seq (.seq (.reg [oM 7 0, oK 8 7, oZ 9 .gtr 8 1000]) (.cond (.t 9) (.seq (.reg [oA 2 (.mv (.c .nils)), oI 3 3]) .ret) .skip)) (.seq (.reg [oM 10 0, oK 11 10, oA 12 (.bsl 351012 1 3 1 (.int .i64 0) [(0, (.t 11))]), oC 13 (.c (.fn 32 [])) [(.c .nils), (.t 12)], oM 4 13]) (.seq (.seq (.reg [oM 14 0, oK 15 14, oI 16 0]) (.block 0 (.loop wpath_l0))) (.seq (.reg [oM 37 4, oM 2 37, oI 3 0]) .ret)))))
set_option maxRecDepth 100000 in
theorem wpath_get : getF Tryz.prog 72 351000 [] = some ("gavotte/wire.Path", 38, wpath_c, [(.tmp 2), (.tmp 3)]) := by kernel_rfl
def wevts_l0 : AC := (.seq (.reg [oB 7 .lss 6 5]) (.seq (.cond (.t 7) .skip (.exit 0)) (.seq (.block 1 (.seq (.reg [oM 8 0, oC 9 (.c (.fn 36 [])) [(.t 8)], oA 10 (.build [(.int .i64 0), (.int .i64 0), (.int .i64 0), (.int .i64 0), (.int .i64 0)] [(0, (1, (.t 9)))]), oA 3 (.new 352003 5 (.agg [(.int .i64 0), (.int .i64 0), (.int .i64 0), (.int .i64 0), (.int .i64 0)])), oN (.store 5 (.t 3) (.t 10))]) (.seq (.reg [oM 11 0, oC 12 (.c (.fn 36 [])) [(.t 11)], oM 13 0, oC 14 (.c (.fn 36 [])) [(.t 13)], oM 15 0, oC 16 (.c (.fn 36 [])) [(.t 15)], oA 17 (.build [(.int .i64 0), (.int .i64 0), (.int .i64 0)] [(0, (1, (.t 12))), (1, (1, (.t 14))), (2, (1, (.t 16)))]), oF 18 1 3, oN (.store 3 (.t 18) (.t 17))]) (.seq (.reg [oM 19 0, oC 20 (.c (.fn 36 [])) [(.t 19)], oF 21 4 3, oN (.store 1 (.t 21) (.t 20))]) (.reg [oM 22 2, oA 23 (.load (some 5) (.t 3)), oA 24 (.bsl 352024 5 77 1 (.agg [(.int .i64 0), (.int .i64 0), (.int .i64 0), (.int .i64 0), (.int .i64 0)]) [(0, (.t 23))]), oA 25 (.app 352025 5 77 40 (.t 22) (.t 24)), oM 2 25]))))) (.reg [oZ 26 .add 6 1, oM 6 26]))))
def wevts_c : AC := (.seq (.reg [oA 2 (.mv (.c .nils))]) (.seq (.seq (.reg [oM 4 0, oC 5 (.c (.fn 37 [])) [(.t 4)], oI 6 0]) (.block 0 (.loop wevts_l0))) (.seq (.reg [oM 27 2, oM 2 27]) .ret)))
set_option maxRecDepth 100000 in
theorem wevts_get : getF Tryz.prog 38 352000 [] = some ("(*gavotte/wire.Reader).Events", 28, wevts_c, [(.tmp 2)]) := by kernel_rfl
def wrefd_c : AC := (.seq (.reg [oA 1 (.box 353001 7 (.t 0)), oA 2 (.mv (.c (.bool false)))]) (.seq (.reg [oF 3 0 1, oL 4 3, oZ 5 .eql 4 1, oM 6 5, gF 7 6 false 0 1, gL 8 6 false 7, oG 9 6 false (.ibin .eql (.t 8) (.c (.int .i64 2))), oA 10 (.pick (.t 6) (.c (.bool true)) (.t 9)), oM 2 10]) .ret))
set_option maxRecDepth 100000 in
theorem wrefd_get : getF Tryz.prog 68 353000 [] = some ("(gavotte/report.Report).refused", 11, wrefd_c, [(.tmp 2)]) := by kernel_rfl
def wchkd_c : AC := (.seq (.reg [oA 1 (.box 354001 7 (.t 0)), oA 2 (.mv (.c (.bool false)))]) (.seq (.reg [oF 3 0 1, oL 4 3, oZ 5 .eql 4 3, oM 6 5, gF 7 6 false 0 1, gL 8 6 false 7, oG 9 6 false (.ibin .eql (.t 8) (.c (.int .i64 4))), oA 10 (.pick (.t 6) (.c (.bool true)) (.t 9)), oM 2 10]) .ret))
set_option maxRecDepth 100000 in
theorem wchkd_get : getF Tryz.prog 69 354000 [] = some ("(gavotte/report.Report).checked", 11, wchkd_c, [(.tmp 2)]) := by kernel_rfl
def wchk_l0 : AC := (.seq (.reg [oB 67 .lss 66 65]) (.seq (.cond (.t 67) .skip (.exit 0)) (.seq (.block 1 (.seq (.reg [oA 68 (.idx 2 (.t 64) (.t 66)), oA 69 (.load (some 2) (.t 68)), oA 5 (.new 355005 2 (.agg [(.int .i64 0), .nils])), oN (.store 2 (.t 5) (.t 69))]) (.seq (.seq (.reg [oF 70 0 5, oL 71 70, oZ 72 .lss 71 0, oM 73 72, gF 74 73 false 0 5, gL 75 73 false 74, oG 76 73 false (.ibin .geq (.t 75) (.c (.int .i64 8))), oA 77 (.pick (.t 73) (.c (.bool true)) (.t 76)), oM 78 77, gM 79 78 false 3, gF 80 78 false 0 5, gL 81 78 false 80, oG 82 78 false (.mget .i64 (.bool false) (.t 79) (.t 81)), oA 83 (.pick (.t 78) (.c (.bool true)) (.t 82)), oM 84 83, gF 85 84 false 1 5, gL 86 84 false 85, oG 87 84 false (.len (.t 86)), oG 88 84 false (.ibin .gtr (.t 87) (.c (.int .i64 64))), oA 89 (.pick (.t 84) (.c (.bool true)) (.t 88))]) (.cond (.t 89) (.seq (.reg [oA 2 (.mv (.c (.bool false)))]) .ret) .skip)) (.reg [oM 90 3, oF 91 0 5, oL 92 91, oN (.mput (.t 90) (.t 92) (.c (.bool true)))])))) (.reg [oZ 93 .add 66 1, oM 66 93]))))
def wchk_c : AC := (.seq (.reg [oA 1 (.box 355001 7 (.t 0)), oA 2 (.mv (.c (.bool false)))]) (.seq (.seq (.reg [oA 6 (.load (some 7) (.t 1)), oC 7 (.c (.fn 68 [])) [(.t 6)]]) (.cond (.t 7) (.seq (.reg [oF 8 1 1, oL 9 8, oZ 10 .geq 9 1, oM 11 10, gF 12 11 true 1 1, gL 13 11 true 12, oG 14 11 true (.ibin .leq (.t 13) (.c (.int .i64 8))), oA 15 (.pick (.t 11) (.t 14) (.c (.bool false))), oM 16 15, gF 17 16 true 2 1, gL 18 16 true 17, oG 19 16 true (.ibin .eql (.t 18) (.c (.int .i64 0))), oA 20 (.pick (.t 16) (.t 19) (.c (.bool false))), oM 21 20, gF 22 21 true 3 1, gL 23 21 true 22, oG 24 21 true (.ibin .eql (.t 23) (.c (.int .i64 0))), oA 25 (.pick (.t 21) (.t 24) (.c (.bool false))), oM 26 25, gF 27 26 true 4 1, gL 28 26 true 27, oG 29 26 true (.ibin .eql (.t 28) (.c (.int .i64 0))), oA 30 (.pick (.t 26) (.t 29) (.c (.bool false))), oM 31 30, gF 32 31 true 5 1, gL 33 31 true 32, oG 34 31 true (.ibin .eql (.t 33) (.c (.int .i64 0))), oA 35 (.pick (.t 31) (.t 34) (.c (.bool false))), oM 36 35, gF 37 36 true 6 1, gL 38 36 true 37, oG 39 36 true (.len (.t 38)), oG 40 36 true (.ibin .eql (.t 39) (.c (.int .i64 0))), oA 41 (.pick (.t 36) (.t 40) (.c (.bool false))), oM 2 41]) .ret) .skip)) (.seq (.seq (.reg [oA 42 (.load (some 7) (.t 1)), oC 43 (.c (.fn 69 [])) [(.t 42)], oA 44 (.not (.t 43)), oM 45 44, gF 46 45 false 1 1, gL 47 45 false 46, oG 48 45 false (.ibin .neq (.t 47) (.c (.int .i64 0))), oA 49 (.pick (.t 45) (.c (.bool true)) (.t 48)), oM 50 49, gF 51 50 false 2 1, gL 52 50 false 51, gF 53 50 false 3 1, gL 54 50 false 53, gF 55 50 false 4 1, gL 56 50 false 55, gF 57 50 false 5 1, gL 58 50 false 57, oG 59 50 false (.mm false (.t 52) [(.t 54), (.t 56), (.t 58)]), oG 60 50 false (.ibin .lss (.t 59) (.c (.int .i64 0))), oA 61 (.pick (.t 50) (.c (.bool true)) (.t 60))]) (.cond (.t 61) (.seq (.reg [oA 2 (.mv (.c (.bool false)))]) .ret) .skip)) (.seq (.reg [oA 62 (.mkm 355062), oM 3 62]) (.seq (.seq (.reg [oF 63 6 1, oL 64 63, oK 65 64, oI 66 0]) (.block 0 (.loop wchk_l0))) (.seq (.reg [oA 2 (.mv (.c (.bool true)))]) .ret))))))
set_option maxRecDepth 100000 in
theorem wchk_get : getF Tryz.prog 40 355000 [] = some ("gavotte/report.Check", 94, wchk_c, [(.tmp 2)]) := by kernel_rfl
def wrenc_l0 : AC := (.seq (.reg [oB 34 .lss 33 32]) (.seq (.cond (.t 34) .skip (.exit 0)) (.seq (.block 1 (.seq (.reg [oA 35 (.idx 1 (.t 31) (.t 33)), oL 36 35, oM 6 36]) (.reg [oM 37 4, oM 38 6, oC 39 (.c (.fn 64 [])) [(.t 38)], oA 40 (.app 329984 1 5 1 (.t 37) (.t 39)), oM 4 40]))) (.reg [oZ 41 .add 33 1, oM 33 41]))))
def wrenc_l1 : AC := (.seq (.reg [oB 46 .lss 45 44]) (.seq (.cond (.t 46) .skip (.exit 2)) (.seq (.block 3 (.seq (.reg [oA 47 (.idx 2 (.t 43) (.t 45)), oA 48 (.load (some 2) (.t 47)), oA 8 (.new 329978 2 (.agg [(.int .i64 0), .nils])), oN (.store 2 (.t 8) (.t 48))]) (.seq (.reg [oF 50 1 8, oL 51 50, oC 52 (.c (.fn 72 [])) [(.t 51)], oM 49 52, oE 53 49 0, oE 54 49 1, oM 9 53, oM 10 54]) (.reg [oM 55 4, oF 56 0 8, oL 57 56, oC 58 (.c (.fn 64 [])) [(.t 57)], oM 59 9, oA 60 (.bsl 330030 1 80 3 .nils [(0, (.t 55)), (1, (.t 58)), (2, (.t 59))]), oC 61 (.c (.fn 73 [])) [(.t 60)], oM 4 61])))) (.reg [oZ 62 .add 45 1, oM 45 62]))))
def wrenc_c : AC := (.seq (.reg [oA 1 (.box 329971 7 (.t 0)), oA 2 (.mv (.c .nils)), oI 3 0]) (.seq (.seq (.reg [oA 11 (.load (some 7) (.t 1)), oC 12 (.c (.fn 40 [])) [(.t 11)], oA 13 (.not (.t 12))]) (.cond (.t 13) (.seq (.reg [oA 2 (.mv (.c .nils)), oI 3 2]) .ret) .skip)) (.seq (.reg [oA 14 (.bsl 329984 1 5 4 (.int .u8 0) [(0, (.c (.int .u8 71))), (1, (.c (.int .u8 65))), (2, (.c (.int .u8 86))), (3, (.c (.int .u8 82)))]), oA 15 (.mark (.t 14)), oM 4 15]) (.seq (.seq (.reg [oF 16 0 1, oL 17 16, oF 18 1 1, oL 19 18, oF 20 2 1, oL 21 20, oF 22 3 1, oL 23 22, oF 24 4 1, oL 25 24, oF 26 5 1, oL 27 26, oF 28 6 1, oL 29 28, oK 30 29, oA 31 (.bsl 330001 1 3 7 (.int .i64 0) [(0, (.t 17)), (1, (.t 19)), (2, (.t 21)), (3, (.t 23)), (4, (.t 25)), (5, (.t 27)), (6, (.t 30))]), oK 32 31, oI 33 0]) (.block 0 (.loop wrenc_l0))) (.seq (.seq (.reg [oF 42 6 1, oL 43 42, oK 44 43, oI 45 0]) (.block 2 (.loop wrenc_l1))) (.seq (.reg [oM 63 4, oM 2 63, oI 3 0]) .ret))))))
set_option maxRecDepth 100000 in
theorem wrenc_get : getF Tryz.prog 42 329970 [(40, 14)] = some ("gavotte/report.Encode", 64, wrenc_c, [(.tmp 2), (.tmp 3)]) := by kernel_rfl
def wrdec_l0 : AC := (.seq (.reg [oB 28 .lss 27 26]) (.seq (.cond (.t 28) .skip (.exit 0)) (.seq (.block 1 (.regd [oF 29 6 5, oL 30 29, oM 31 4, oC 32 (.c (.fn 36 [])) [(.t 31)], oM 33 4, oC 34 (.c (.fn 38 [])) [(.t 33)], oA 35 (.build [(.int .i64 0), .nils] [(0, (1, (.t 32))), (1, (1, (.t 34)))]), oA 36 (.bsl 356036 2 43 1 (.agg [(.int .i64 0), .nils]) [(0, (.t 35))]), oA 37 (.app 356037 2 43 32 (.t 30) (.t 36)), oF 38 6 5, oN (.store 1 (.t 38) (.t 37))] [[], [0], [], [2], [], [4, 3, 2], [3, 5, 2, 4], [6, 3, 5, 2, 4], [1, 7, 5, 0, 6, 3, 2, 4], [0, 1, 2, 3, 4, 5, 6, 7, 8], [9, 8, 0, 1, 2, 3, 4, 5, 6, 7]])) (.reg [oZ 39 .add 27 1, oM 27 39]))))
def wrdec_c : AC := (.seq (.reg [oA 2 (.new 356002 7 (.agg [(.int .i64 0), (.int .i64 0), (.int .i64 0), (.int .i64 0), (.int .i64 0), (.int .i64 0), .nils])), oI 3 0]) (.seq (.seq (.reg [oM 6 0, oK 7 6, oZ 8 .gtr 7 65536]) (.cond (.t 8) (.seq (.reg [oA 9 (.build [(.int .i64 0), (.int .i64 0), (.int .i64 0), (.int .i64 0), (.int .i64 0), (.int .i64 0), .nils] []), oN (.store 7 (.t 2) (.t 9)), oI 3 2]) .ret) .skip)) (.seq (.reg [oM 10 0, oC 11 (.c (.fn 35 [])) [(.t 10), (.c (.str ⟨#[71, 65, 86, 82]⟩))], oM 4 11]) (.seq (.reg [oM 12 4, oC 13 (.c (.fn 36 [])) [(.t 12)], oM 14 4, oC 15 (.c (.fn 36 [])) [(.t 14)], oM 16 4, oC 17 (.c (.fn 36 [])) [(.t 16)], oM 18 4, oC 19 (.c (.fn 36 [])) [(.t 18)], oM 20 4, oC 21 (.c (.fn 36 [])) [(.t 20)], oM 22 4, oC 23 (.c (.fn 36 [])) [(.t 22)], oA 24 (.build [(.int .i64 0), (.int .i64 0), (.int .i64 0), (.int .i64 0), (.int .i64 0), (.int .i64 0), .nils] [(0, (1, (.t 13))), (1, (1, (.t 15))), (2, (1, (.t 17))), (3, (1, (.t 19))), (4, (1, (.t 21))), (5, (1, (.t 23)))]), oA 5 (.new 356005 7 (.agg [(.int .i64 0), (.int .i64 0), (.int .i64 0), (.int .i64 0), (.int .i64 0), (.int .i64 0), .nils])), oN (.store 7 (.t 5) (.t 24))]) (.seq (.seq (.reg [oM 25 4, oC 26 (.c (.fn 37 [])) [(.t 25)], oI 27 0]) (.block 0 (.loop wrdec_l0))) (.seq (.seq (.reg [oM 40 4, oC 41 (.c (.fn 39 [])) [(.t 40)], oA 42 (.not (.t 41)), oM 43 42, oG 44 43 false (.load (some 7) (.t 5)), ⟨(some 45), (some (43, false)), (.call (.c (.fn 40 [])) [(.t 44)])⟩, oG 46 43 false (.not (.t 45)), oA 47 (.pick (.t 43) (.c (.bool true)) (.t 46))]) (.cond (.t 47) (.seq (.reg [oA 48 (.build [(.int .i64 0), (.int .i64 0), (.int .i64 0), (.int .i64 0), (.int .i64 0), (.int .i64 0), .nils] []), oN (.store 7 (.t 2) (.t 48)), oI 3 2]) .ret) .skip)) (.seq (.reg [oA 49 (.load (some 7) (.t 5)), oN (.store 7 (.t 2) (.t 49)), oI 3 0]) .ret)))))))
set_option maxRecDepth 100000 in
theorem wrdec_get : getF Tryz.prog 22 356000 [] = some ("gavotte/report.Decode", 50, wrdec_c, [(.cell (some 7) 2), (.tmp 3)]) := by kernel_rfl
def evN (e : Evt) : List Int := [e.kind, e.id.frm, e.id.n, e.id.cpy, e.who]
def paN (l : List Evt) : List Int := (l.length : Int) :: l.flatMap evN
theorem evN_len : ∀ l : List Evt, (l.flatMap evN).length = 5 * l.length
 | [] => rfl
 | e :: l => by simp only [List.flatMap_cons, List.length_append, evN_len l, evN, List.length_cons, List.length_nil]; omega
theorem wpath_pc (l : List Evt) (h : Ok64 (paN l)) (hl : l.length <= 64) : PC Tryz.prog 72 [evts l] (.tup [.lst 1 (encA (paN l)), iv 0]) := by
 have h1 : Ok64 [(l.length : Int)] := ⟨by simpa using h.head, by simp⟩
 have hl1 := h1.len
 have ht : Ok64 (l.flatMap evN) := h.tail
 refine pc_of_get wpath_get (by simp) _ (by simp) _ ?_
 unfold wpath_c
 simp [evts, show ¬ (1000 : Int) < l.length by omega]
 refine wput_a [(l.length : Int)] h1 _ _ .nils [] (by simp) (.inl ⟨rfl, rfl⟩) (fun S1 v1 a1 a2 a3 a4 => ?_)
 simp [a2]
 refine loopN (fun i S => S.t 16 = iv i /\ S.t 14 = .lst 5 (l.map Evt.av) /\ S.t 15 = iv l.length /\ AccB S (S.t 4) (encA [(l.length : Int)] ++ encA ((l.take i).flatMap evN))) l.length ⟨rfl, rfl, by simp, by simp; exact a1.at fun _ _ => rfl⟩ ?_
 rintro i S hi ⟨g16, g14, g15, ga⟩
 by_cases hlt : i < l.length
 . have ws := wrap_succ i _ hlt (by omega)
   have htl := (ok_take ht i).len
   rw [enc_take evN l i hlt]
   have ho := ok_of ht (List.getElem_mem hlt)
   simp [wpath_l0, g16, g14, g15, hlt, Evt.av]
   refine wput_a (evN l[i]) ho _ _ _ _ (by rw [List.length_append]; omega) (ga.at fun n hn => by simp; intro; omega) (fun S2 v2 b1 b2 b3 b4 => ?_)
   simp [b2, g16, g14, g15, ws, Evt.av]
   rw [<- List.append_assoc]
   exact b1.at fun _ _ => rfl
 . have e : l.take i = l := List.take_of_length_le (by omega)
   rw [e] at ga
   simp [wpath_l0, g16, g14, g15, hlt]
   rw [show encA [(l.length : Int)] ++ encA (l.flatMap evN) = encA (paN l) by rw [paN, encA_cons (l.length : Int) (l.flatMap evN)]] at ga
   rcases ga with ⟨q1, q2⟩ | ⟨nm, s', q0, q1, q2⟩
   . rw [q2]; simp [q1]
   . simp [q1]
theorem wevts_L {l : List Evt} {ns : List Int} (h : Ok64 (paN l ++ ns)) : RdL 38 (evts l) (paN l ++ ns) ns := by
 refine rdl_of rfl fun nm st T hnm hb => ?_
 have hlen := h.2
 simp only [paN, List.length_append, List.length_cons, evN_len] at hlen
 refine callV (u := .mk) wevts_get (by simp) (by simp) ?_
 unfold wevts_c
 simp [hb]
 refine callLG (count_L (n := l.length) (ns := l.flatMap evN ++ ns) h (by rw [List.length_append, evN_len]; omega) nm st _ hb) ?_
 simp
 refine loopN (fun i S => S.t 6 = iv i /\ S.t 5 = iv l.length /\ S.t 0 = .ptr nm st 2 0 0 /\ AccIs S (S.t 2) 352025 5 77 ((l.take i).map Evt.av) /\ S.blk nm = some ⟨st, 2, [rdC ((l.drop i).flatMap evN ++ ns)]⟩ /\ (∀ n, 400000 <= n -> n ≠ nm -> S.blk n = T.blk n) /\ (∀ n, 400000 <= n -> n ≠ nm -> S.tok n = T.tok n)) l.length
   ⟨rfl, rfl, by simp, .inl ⟨by simp, by simp⟩, by simp, fun n _ hn => by simp [hn], fun n _ hn => by simp [hn]⟩ ?_
 rintro i S hi ⟨g6, g5, g0, ga, gr, gb, gt⟩
 by_cases hlt : i < l.length
 . have ws := wrap_succ i _ hlt (by omega)
   have hk := ok_drop (f := evN) (show Ok64 (l.flatMap evN ++ ns) from h.tail) i
   rw [List.drop_eq_getElem_cons hlt, List.flatMap_cons, List.append_assoc] at gr hk
   rw [List.take_succ_eq_append_getElem hlt, List.map_append]
   have hAl : ((l.take i).map Evt.av).length <= 60000 := by rw [List.length_map, List.length_take]; omega
   generalize (l.take i).map Evt.av = A at *
   have n1 : 352025 ≠ nm := by omega
   have n2 : 352024 ≠ nm := by omega
   have n3 : 352003 ≠ nm := by omega
   generalize l[i] = x at *
   generalize ((l.drop (i + 1)).flatMap evN) ++ ns = R at *
   simp [evN] at gr hk
   simp [wevts_l0, g6, g5, g0, hlt]
   refine callLG (num_L hk nm st _ gr) ?_
   simp [g0]
   refine callLG (num_L hk.tail nm st _ (by simp [n3.symm])) ?_
   simp [g0]
   refine callLG (num_L hk.tail.tail nm st _ (by simp [n3.symm])) ?_
   simp [g0]
   refine callLG (num_L hk.tail.tail.tail nm st _ (by simp [n3.symm])) ?_
   simp [g0, n3, n3.symm]
   refine callLG (num_L hk.tail.tail.tail.tail nm st _ (by simp [n3.symm])) ?_
   rcases ga with ⟨q1, q2⟩ | ⟨s', q1, q2⟩
   . rw [q2]
     simp [q1, g6, g5, g0, ws, n1, n2, n3, n3.symm, n1.symm, n2.symm, Evt.av]
     exact ⟨.inr ⟨_, rfl, by simp⟩, fun n h1 h2 => by simp [h2, gb n h1 h2, show n ≠ 352003 by omega], fun n h1 h2 => by simp [h2, gt n h1 h2, show n ≠ 352024 by omega, show n ≠ 352025 by omega]⟩
   . simp [q1, q2, g6, g5, g0, ws, n1, n2, n3, n3.symm, n1.symm, n2.symm, Evt.av, show (A.length + 1) * 40 <= 140737488355328 by omega]
     exact ⟨.inr ⟨_, rfl, by simp⟩, fun n h1 h2 => by simp [h2, gb n h1 h2, show n ≠ 352003 by omega], fun n h1 h2 => by simp [h2, gt n h1 h2, show n ≠ 352024 by omega, show n ≠ 352025 by omega]⟩
 . have e : l.take i = l := List.take_of_length_le (by omega)
   have e2 : l.drop i = [] := List.drop_of_length_le (by omega)
   rw [e] at ga
   rw [e2] at gr
   simp [wevts_l0, g6, g5, g0, hlt]
   exact ⟨ga.rel, gr, gb, gt⟩
def rep1 (runs worlds slept cut : Int) (l : List Evt) : AV := .agg [iv 3, iv 0, iv runs, iv worlds, iv slept, iv cut, .lst 2 [.agg [iv 0, evts l]]]
theorem wrefd_pc (a b c d : Int) (l : List Evt) : PC Tryz.prog 68 [rep1 a b c d l] (.bool false) := by
 refine pc_of_get wrefd_get (by simp) _ (by simp) _ ?_
 unfold wrefd_c
 simp [rep1]
theorem wchkd_pc (a b c d : Int) (l : List Evt) : PC Tryz.prog 69 [rep1 a b c d l] (.bool true) := by
 refine pc_of_get wchkd_get (by simp) _ (by simp) _ ?_
 unfold wchkd_c
 simp [rep1]
theorem wchk_pc (a b c d : Int) (ha : 0 <= a) (hb : 0 <= b) (hc : 0 <= c) (hd : 0 <= d) (l : List Evt) (hl : l.length <= 64) : PC Tryz.prog 40 [rep1 a b c d l] (.bool true) := by
 refine pc_of_get wchk_get (by simp) _ (by simp) _ ?_
 unfold wchk_c
 simp [rep1]
 refine call (wrefd_pc a b c d l) (by simp [rep1]) ?_
 simp
 refine call (wchkd_pc a b c d l) (by simp [rep1]) ?_
 simp [show ¬ min a (min b (min c d)) < 0 by omega]
 refine loopN (fun i S => S.t 66 = iv i /\ S.t 65 = iv 1 /\ S.t 64 = .lst 2 [.agg [iv 0, evts l]] /\ (i = 0 -> ∃ s, S.t 3 = .mp 355062 s /\ S.blk 355062 = some ⟨s, 0, []⟩)) 1 ⟨rfl, rfl, rfl, fun _ => ⟨_, rfl, by simp⟩⟩ ?_
 rintro i S hi ⟨g66, g65, g64, gm⟩
 match i, hi, g66, gm with
 | 0, _, g66, gm =>
   obtain ⟨s, g3, bm⟩ := gm rfl
   simp [wchk_l0, g66, g65, g64, g3, bm, evts, findM, show IntKind.i64.wrap 1 = 1 by decide, show ¬ (64 : Int) < l.length by omega]
 | 1, _, g66, gm => simp [wchk_l0, g66, g65, g64]
 | i + 2, h, _, _ => omega
def rpN (runs worlds slept cut : Int) (l : List Evt) : List Int := [3, 0, runs, worlds, slept, cut, 1] ++ (0 :: paN l)
theorem we_l0 (l : List Int) (h : Ok64 l) (X : List AV) (hX : X.length <= 1000) (a b : Nat) (s1 : Nat) (B1 : Blk) {S : St} {κ : Ex -> St -> Prop} {u : Dep κ}
   (g33 : S.t 33 = iv 0) (g32 : S.t 32 = iv l.length) (g31 : S.t 31 = .acc a b 1 (l.map iv)) (g1 : S.t 1 = .ptr 329971 s1 7 0 0) (b1 : S.blk 329971 = some B1) (ga : AccB S (S.t 4) X)
   (hk : ∀ S', S'.t 1 = .ptr 329971 s1 7 0 0 -> S'.blk 329971 = some B1 -> AccB S' (S'.t 4) (X ++ encA l) -> κ (.exit 0) S') : LoopG Tryz.prog wrenc_l0 κ S u := by
 refine loopN (fun i S' => S'.t 33 = iv i /\ S'.t 32 = iv l.length /\ S'.t 31 = .acc a b 1 (l.map iv) /\ S'.t 1 = .ptr 329971 s1 7 0 0 /\ S'.blk 329971 = some B1 /\ AccB S' (S'.t 4) (X ++ encA (l.take i))) l.length ⟨g33, g32, g31, g1, b1, by simpa using ga⟩ ?_
 clear g33 g32 g31 g1 b1 ga
 rintro i S' hi ⟨g33, g32, g31, g1, b1, ga⟩
 by_cases hlt : i < l.length
 . have hn := wnumb_pc l[i] (h.1 _ (List.getElem_mem hlt))
   have ws := wrap_succ i _ hlt (by have := h.2; omega)
   have e : X ++ encA (l.take (i + 1)) = (X ++ encA (l.take i)) ++ encA [l[i]] := by
     rw [List.take_succ_eq_append_getElem hlt, encA_append, List.append_assoc]
   have hb : (encA (l.take (i + 1))).length <= 600000 := by
     have h1 := encA_le (l.take (i + 1)) (fun n hn => h.1 n (List.mem_of_mem_take hn))
     have := h.2
     rw [List.length_take] at h1
     omega
   have hb2 : X.length + (encA (l.take i)).length + (encA [l[i]]).length <= 140737488355328 := by
     have := congrArg List.length e
     simp only [List.length_append] at this
     omega
   simp [wrenc_l0, g33, g32, g31, hlt]
   refine call hn (by simp) ?_
   rw [e]
   rcases ga with ⟨q1, q2⟩ | ⟨nm, st, q0, q1, q2⟩
   . rw [q2]
     simp [q1, g33, g32, g31, g1, b1, ws, show (encA [l[i]]).length <= 140737488355328 by omega]
     exact .inr ⟨_, _, by decide, rfl, by simp⟩
   . simp [q1, q2, g33, g32, g31, g1, b1, ws, hb2, <- Nat.add_assoc]
     exact .inr ⟨_, _, by decide, rfl, by simp⟩
 . have e : l.take i = l := List.take_of_length_le (by omega)
   rw [e] at ga
   simp [wrenc_l0, g33, g32, g31, hlt]
   exact hk _ g1 b1 (ga.at fun _ _ => rfl)
theorem wrenc_pc (a b c d : Int) (ha : 0 <= a) (hb : 0 <= b) (hc : 0 <= c) (hd : 0 <= d) (l : List Evt) (hl : l.length <= 64) (h : Ok64 (rpN a b c d l)) : PC Tryz.prog 42 [rep1 a b c d l] (.tup [.lst 1 (lit4 71 65 86 82 ++ encA (rpN a b c d l)), iv 0]) := by
 refine pc_of_get wrenc_get (by simp) _ (by simp) _ ?_
 unfold wrenc_c
 simp [rep1]
 refine call (wchk_pc a b c d ha hb hc hd l hl) (by simp [rep1]) ?_
 have o1 : Ok64 [3, 0, a, b, c, d, 1] := ⟨fun n hn => h.1 n (List.mem_append.2 (.inl hn)), by simp⟩
 have o2 : Ok64 (0 :: paN l) := h.drop
 have q1 : (encA [3, 0, a, b, c, d, 1]).length <= 70 := encA_le _ o1.1
 have q2 := o2.tail.len
 have q3 := o2.len
 have w1 : IntKind.i64.wrap 1 = 1 := by decide
 simp
 refine we_l0 [3, 0, a, b, c, d, 1] o1 (lit4 71 65 86 82) (by simp [lit4]) 330001 24 0 _ rfl (by simp) (by simp) (by simp) (by simp; rfl) (by simp; exact .inr ⟨329984, _, by decide, rfl, by simp⟩) (fun S1 g1 b1 ga => ?_)
 generalize hX : lit4 71 65 86 82 ++ encA [3, 0, a, b, c, d, 1] = X at *
 have hXl : X.length <= 74 := by rw [<- hX, List.length_append]; simp only [lit4, List.length_cons, List.length_nil]; omega
 have hXe : lit4 71 65 86 82 ++ encA (rpN a b c d l) = X ++ (encA [0] ++ encA (paN l)) := by
   rw [<- hX, rpN, encA_append, encA_cons 0 (paN l), List.append_assoc]
 have hX0 : X ≠ [] := by rw [<- hX]; simp [lit4]
 rw [hXe]
 simp [g1, b1]
 refine loopN (fun i S => S.t 45 = iv i /\ S.t 44 = iv 1 /\ S.t 43 = .lst 2 [.agg [iv 0, evts l]] /\ (i = 0 -> AccB S (S.t 4) X) /\ (i = 1 -> S.t 4 = .lst 1 (X ++ (encA [0] ++ encA (paN l))))) 1 ⟨rfl, rfl, rfl, fun _ => by simp; exact ga.at fun _ _ => rfl, fun q => by cases q⟩ ?_
 rintro i S hi ⟨g45, g44, g43, gA, gB⟩
 match i, hi, g45, gA, gB with
 | 0, _, g45, gA, _ =>
   rcases gA rfl with ⟨_, q⟩ | ⟨nm, st, q0, q1', q2'⟩
   . exact absurd q hX0
   simp [wrenc_l1, g45, g44, g43, evts]
   refine call (wpath_pc l o2.tail hl) (by simp [evts]) ?_
   simp [evts]
   refine call (wnumb_pc 0 ⟨by decide, by decide⟩) (by simp) ?_
   simp [q1']
   refine call (concB_pc [X, encA [0], encA (paN l)] (by simp) (by simp; rw [encA_cons, List.length_append] at q3; omega)) (by simp) ?_
   simp [g45, g44, g43, w1, evts]
 | 1, _, g45, _, gB => simp [wrenc_l1, g45, g44, g43, gB rfl]
 | i + 2, h, _, _, _ => omega
theorem wrdec_pc (a b c d : Int) (ha : 0 <= a) (hb : 0 <= b) (hc : 0 <= c) (hd : 0 <= d) (l : List Evt) (hl : l.length <= 64) (h : Ok64 (rpN a b c d l)) : PC Tryz.prog 22 [.lst 1 (lit4 71 65 86 82 ++ encA (rpN a b c d l))] (.tup [rep1 a b c d l, iv 0]) := by
 have hT := encA_le (rpN a b c d l) h.1
 have hL : (rpN a b c d l).length <= 400 := by simp only [rpN, paN, List.length_append, List.length_cons, List.length_nil, evN_len]; omega
 have hX : ¬ (65536 : Int) < ((lit4 71 65 86 82).length : Int) + ((encA (rpN a b c d l)).length : Int) := by
   have : (lit4 71 65 86 82).length = 4 := rfl
   omega
 have w1 : IntKind.i64.wrap 1 = 1 := by decide
 refine pc_of_get wrdec_get (by simp) _ (by simp) _ ?_
 unfold wrdec_c
 simp [hX]
 refine wread_v (lit4 71 65 86 82) ⟨#[71, 65, 86, 82]⟩ [71, 65, 86, 82] rfl rfl (by decide) (by simp [strEq]) (rpN a b c d l) (fun S1 st a1 a2 a3 a4 => ?_)
 have b2 := a3 356002 (by decide)
 simp at b2
 simp [rpN] at a2 h
 simp [a1]
 refine callLG (num_L h 347026 st _ (by simp [a2])) ?_
 simp [a1]
 refine callLG (num_L h.tail 347026 st _ (by simp)) ?_
 simp [a1]
 refine callLG (num_L h.tail.tail 347026 st _ (by simp)) ?_
 simp [a1]
 refine callLG (num_L h.tail.tail.tail 347026 st _ (by simp)) ?_
 simp [a1]
 refine callLG (num_L h.tail.tail.tail.tail 347026 st _ (by simp)) ?_
 simp [a1]
 refine callLG (num_L h.tail.tail.tail.tail.tail 347026 st _ (by simp)) ?_
 simp [a1]
 have h6 := h.tail.tail.tail.tail.tail.tail
 refine callLG (count_L (n := 1) h6 (by simp) 347026 st _ (by simp)) ?_
 simp [a1]
 refine loopN (fun i S => S.t 27 = iv i /\ S.t 26 = iv 1 /\ S.t 4 = .ptr 347026 st 2 0 0 /\ (∃ s, S.t 5 = .ptr 356005 s 7 0 0 /\ (i = 0 -> S.blk 356005 = some ⟨s, 7, [.agg [iv 3, iv 0, iv a, iv b, iv c, iv d, .nils]]⟩ /\ S.blk 347026 = some ⟨st, 2, [rdC (0 :: paN l)]⟩) /\
   (i = 1 -> S.blk 347026 = some ⟨st, 2, [rdC []]⟩ /\ ∃ nm s', S.blk 356005 = some ⟨s, 7, [.agg [iv 3, iv 0, iv a, iv b, iv c, iv d, .acc nm s' 2 [.agg [iv 0, evts l]]]]⟩)) /\ (∃ s, S.t 2 = .ptr 356002 s 7 0 0 /\ S.blk 356002 = some ⟨s, 7, [.agg [iv 0, iv 0, iv 0, iv 0, iv 0, iv 0, .nils]]⟩)) 1 ⟨rfl, by simp, by simp, ⟨_, by simp; rfl, fun _ => ⟨by simp, by simp⟩, fun q => by cases q⟩, ⟨_, by simp; rfl, by simp [b2]⟩⟩ ?_
 rintro i S hi ⟨g27, g26, g4, ⟨s5, g5, gA, gB⟩, ⟨s2, g2, bb2⟩⟩
 match i, hi, g27, gA, gB with
 | 0, _, g27, gA, _ =>
   obtain ⟨b5, br⟩ := gA rfl
   simp [wrdec_l0, g27, g26, g4, g5, b5]
   refine callL (num_L h6.tail 347026 st _ br) ?_
   simp [g27, g26, g4, g5, b5]
   refine callL (wevts_L (l := l) (ns := []) (by simpa using h6.tail.tail) 347026 st _ (by simp)) ?_
   simp [g27, g26, g4, g5, b5, w1, evts, g2, bb2]
 | 1, _, g27, _, gB =>
   obtain ⟨br, nm, s', b5⟩ := gB rfl
   simp [wrdec_l0, g27, g26, g4, g5, b5]
   refine callLG (rgood_L 347026 st _ (by simp [br])) ?_
   simp [g4, g5, b5]
   refine call (wchk_pc a b c d ha hb hc hd l hl) (by simp [rep1]) ?_
   simp [g4, g5, b5, g2, bb2, rep1]
 | i + 2, h, _, _, _ => omega
end Go.Gv

namespace Go.Gv
open Go.Proofs
def DoP (F : Fx) (i : Ins) (m : Mach) : Prop :=
 (1 <= i.op /\ i.op <= 25) /\ takesV F.p.hs i <= m.st.length /\ (i.op = 5 \/ i.op = 6 -> 0 <= i.a) /\ (i.op = 7 -> 0 <= i.a /\ i.a.toNat < F.args.length) /\ (i.op = 22 -> 0 <= i.a /\ i.a.toNat < F.p.hs.length /\ 0 <= argsOf F.p.hs i.a) /\
 (0 <= F.who /\ F.who.toNat < F.p.as.length) /\ m.regs.length <= 1000 /\ m.notes.length < 1000 /\ (0 <= m.pc /\ m.pc < 1000) /\ m.st.length < 900
instance (F : Fx) (i : Ins) (m : Mach) : Decidable (DoP F i m) := by unfold DoP; infer_instance
theorem DoP.ok {F : Fx} {i : Ins} {m : Mach} (h : DoP F i m) : DoOk F i m := by
 obtain ⟨a, b, c, d, e, f, g, h, i, j⟩ := h
 exact ⟨a, b, c, d, e, f, g, h, i, j⟩
def runB (F : Fx) (code : List Ins) : Nat -> Mach -> Int -> Bool
 | 0, _, _ => true
 | f + 1, m, s => if (0 <= m.pc /\ m.pc < code.length) /\ s < F.p.fuel then
     (match code[m.pc.toNat]? with
      | some i => decide (DoP F i m) && (if (doV F i m).2 = 0 then runB F code f (doV F i m).1 (s + 1) else true)
      | none => true)
   else true
theorem runB_ok (F : Fx) (code : List Ins) : ∀ (f : Nat) (m : Mach) (s : Int), runB F code f m s = true -> RunOk F code f m s
 | 0, _, _, _ => trivial
 | f + 1, m, s, h => by
   intro h1 h2 i hi
   unfold runB at h
   rw [if_pos ⟨h1, h2⟩, hi] at h
   simp only [Bool.and_eq_true, decide_eq_true_eq] at h
   refine ⟨h.1.ok, fun hz => ?_⟩
   have := h.2
   rw [if_pos hz] at this
   exact runB_ok F code f _ _ this
def goB (p : Prg) (who : Int) (l : Lcl) (h : Int) (args : List Int) : Bool :=
 match p.hs[h.toNat]? with
 | some x => decide (0 <= h) && decide (0 <= p.fuel) && decide (p.fuel <= 1000) && decide (l.regs.length <= 1000) && runB (fxOf p who l args) x.code (p.fuel.toNat + 1) (m0Of l) 0
 | none => false
theorem goB_ok {p : Prg} {who : Int} {l : Lcl} {h : Int} {args : List Int} (hb : goB p who l h args = true) : GoOk p who l h args := by
 unfold goB at hb
 split at hb
 . rename_i x hx
   simp only [Bool.and_eq_true, decide_eq_true_eq] at hb
   exact ⟨x, hb.1.1.1.1, hx, ⟨hb.1.1.1.2, hb.1.1.2⟩, hb.1.2, runB_ok _ _ _ _ _ hb.2⟩
 . cases hb
def AskP (w : Wld) (i : Ins) : Prop := asksV i.op = true /\ 0 <= whoX i /\ whoX i < w.acts.length /\ (i.op = 31 -> 0 <= i.a) /\ i.a <= 9223372036854775807
instance (w : Wld) (i : Ins) : Decidable (AskP w i) := by unfold AskP; infer_instance
def XP (w : Wld) (s : List Int) (i : Ins) : Prop :=
 (asksV i.op = true -> AskP w i) /\ s.length < 900 /\ (asksV i.op = true \/ i.op = 1 \/ 1 <= s.length) /\ (asksV i.op = true \/ i.op = 1 \/ i.op = 2 \/ i.op = 3 \/ i.op = 14 \/ i.op = 19 \/ 2 <= s.length)
instance (w : Wld) (s : List Int) (i : Ins) : Decidable (XP w s i) := by unfold XP; infer_instance
def exB (w : Wld) : List Ins -> List Int -> Bool
 | [], s => decide (1 <= s.length)
 | i :: l, s => decide (XP w s i) && exB w l (exV w [i] s)
theorem exV_cons (w : Wld) (i : Ins) (l : List Ins) (s : List Int) : exV w (i :: l) s = exV w l (exV w [i] s) := rfl
theorem exB_ok (w : Wld) : ∀ (l : List Ins) (s : List Int), exB w l s = true -> (∀ (i : Nat) (h : i < l.length), XOk w (exV w (l.take i) s) l[i]) /\ 1 <= (exV w l s).length
 | [], s, h => ⟨fun i h => by simp at h, by simpa [exB, exV] using h⟩
 | x :: l, s, h => by
   unfold exB at h
   simp only [Bool.and_eq_true, decide_eq_true_eq] at h
   obtain ⟨q1, q2⟩ := exB_ok w l _ h.2
   refine ⟨fun i hi => ?_, by rw [exV_cons]; exact q2⟩
   cases i with
   | zero =>
     obtain ⟨a, b, c, d⟩ := h.1
     refine ⟨a, b, fun h1 h2 => ?_, fun h1 h2 h3 h4 h5 h6 => ?_⟩
     . rcases c with q | q | q
       . exact absurd (h1.symm.trans q) (by decide)
       . exact absurd q h2
       . exact q
     . rcases d with q | q | q | q | q | q | q
       . exact absurd (h1.symm.trans q) (by decide)
       . exact absurd q h2
       . exact absurd q h3
       . exact absurd q h4
       . exact absurd q h5
       . exact absurd q h6
       . exact q
   | succ i =>
     have := q1 i (by simpa using hi)
     rw [List.take_succ_cons, exV_cons]
     exact this
def okW (c : Cfg) (w : Wld) : Bool :=
 decide (w.mail.length <= 500) && decide (w.acts.length = c.p.as.length) && decide (w.acts.length <= 1000) && w.acts.all (fun l => decide (l.regs.length <= 1000)) &&
 w.mail.all (fun m => decide (0 <= m.note.to) && decide (m.note.to < w.acts.length) && decide (m.note.args.length <= 1000) && goB c.p m.note.to (lclV w m.note.to) m.note.hd m.note.args &&
   decide ((goV c.p m.note.to (lclV w m.note.to) m.note.hd m.note.args).notes.length <= 300) && (goV c.p m.note.to (lclV w m.note.to) m.note.hd m.note.args).notes.all (fun x => decide (x.args.length <= 1000))) &&
 (List.range w.acts.length).all (fun i => !armedV w i || goB c.p i { lclV w i with armed := false } (timerV c.p i) []) &&
 c.l.all (fun x => decide (x.length <= 1000) && exB w x []) &&
 decide ((allV c.b w).length <= 5000) && (allV c.b w).all (fun e => decide (e.kind = 1))
structure OkW (c : Cfg) (w : Wld) : Prop where
 wk : WK c.p w 500
 rg : ∀ l ∈ w.acts, l.regs.length <= 1000
 go : WGo c.p w
 nn : ∀ m ∈ w.mail, (goV c.p m.note.to (lclV w m.note.to) m.note.hd m.note.args).notes.length <= 300 /\ ∀ x ∈ (goV c.p m.note.to (lclV w m.note.to) m.note.hd m.note.args).notes, x.args.length <= 1000
 ex : ∀ x ∈ c.l, ExOk w x
 al : (allV c.b w).length <= 5000
 k1 : ∀ e ∈ allV c.b w, e.kind = 1
theorem okW_ok {c : Cfg} {w : Wld} (h : okW c w = true) : OkW c w := by
 unfold okW at h
 simp only [Bool.and_eq_true, decide_eq_true_eq, List.all_eq_true] at h
 obtain ⟨⟨⟨⟨⟨⟨⟨⟨a1, a2⟩, a3⟩, a4⟩, a5⟩, a6⟩, a7⟩, a8⟩, a9⟩ := h
 refine ⟨⟨a1, a2, a3, fun m hm => ⟨(a5 m hm).1.1.1.1.1, (a5 m hm).1.1.1.1.2⟩, fun m hm => (a5 m hm).1.1.1.2⟩, a4, ⟨fun m hm => goB_ok (a5 m hm).1.1.2, fun i hi ha => ?_, a2⟩, fun m hm => ⟨(a5 m hm).1.2, (a5 m hm).2⟩, fun x hx => ?_, a8, a9⟩
 . have := a6 i (List.mem_range.2 hi)
   rw [ha] at this
   exact goB_ok (by simpa using this)
 . obtain ⟨q1, q2⟩ := a7 x hx
   obtain ⟨r1, r2⟩ := exB_ok w x [] q2
   exact ⟨q1, r1, r2⟩
def treeB (c : Cfg) : Nat -> Wld -> Bool
 | 0, w => okW c w
 | f + 1, w => okW c w && (allV c.b w).all fun e => treeB c f (applyV c.p w e)
theorem treeB_ok {c : Cfg} {f : Nat} {w : Wld} (h : treeB c f w = true) : OkW c w := by
 cases f with
 | zero => exact okW_ok h
 | succ f =>
   unfold treeB at h
   rw [Bool.and_eq_true] at h
   exact okW_ok h.1
theorem sortI_len' (l : List Int) : (sortI l).length = l.length := (sortI_perm l).length_eq
theorem would_len {c : Cfg} {w : Wld} (h : OkW c w) (e : Evt) (hk : e.kind = 1) : (wouldV c.p w e).length <= 300 := by
 unfold wouldV
 rw [if_pos hk]
 split
 . split
   . rename_i n hn
     unfold ntAt at hn
     rw [Option.bind_eq_some_iff] at hn
     obtain ⟨i, _, hi⟩ := hn
     rw [Option.map_eq_some_iff] at hi
     obtain ⟨m, hm, rfl⟩ := hi
     exact (h.nn m (List.mem_of_getElem? hm)).1
   . simp
 . simp
theorem touch_len {c : Cfg} {w : Wld} (h : OkW c w) (e : Evt) (hk : e.kind = 1) : (touchV c.p w e).length <= 1000 := by
 unfold touchV
 rw [if_pos (.inl hk)]
 split
 . have h1 := compI_len (sortI ((‹Nt›).to :: (wouldV c.p w e).map Nt.to))
   have h2 := would_len h e hk
   rw [sortI_len'] at h1
   simp at h1
   omega
 . simp
theorem sok (hput : PutAll) (c : Cfg) (hl : c.l.length <= 1000) (hd : c.depth <= 64) : SOk c (fun f w => treeB c f w = true) (fun e => e.kind = 1) where
 hl := hl
 hd := hd
 ok := fun f w h => by
   have h := treeB_ok h
   exact ⟨h.wk.ok (by decide), h.ex, h.al⟩
 ap := fun f w h e he => by
   have hok := treeB_ok h
   have hk := hok.k1 e he
   have ht : treeB c f (applyV c.p w e) = true := by
     unfold treeB at h
     rw [Bool.and_eq_true, List.all_eq_true] at h
     exact h.2 e he
   refine ⟨?_, ht⟩
   have hcan : canV w e = true := by
     unfold allV at he
     have := (List.mem_filter.1 he).2
     rw [Bool.and_eq_true] at this
     exact this.2
   obtain ⟨i, hi⟩ := canV_1 hcan hk
   obtain ⟨hlt, _⟩ := idxV_some hi
   have hm : w.mail[i] ∈ w.mail := List.getElem_mem hlt
   exact sapply_1 hput c.p w 500 hok.wk (by decide) hok.rg e hk i hi hlt (hok.go.nt _ hm) (hok.nn _ hm).1 (hok.nn _ hm).2
 tk := fun f w h e hk => by
   have hok := treeB_ok h
   exact ⟨touch1_pc c.p w (hok.wk.ok (by decide)) hok.go e (Nat.le_trans (would_len hok e hk) (by decide)) hk, touch_len hok e hk⟩
 al := fun f w h e he => (treeB_ok h).k1 e he
end Go.Gv

namespace Go.Gv
open Go.Proofs
open Go.Proofs
def sumP (a b : Int) : Prg := ⟨[⟨0, [⟨1, a⟩, ⟨1, b⟩, ⟨9, 0⟩, ⟨6, 0⟩]⟩], [⟨[0], 2, -1, false⟩], [⟨0, 0, []⟩], 9⟩
def sumX (a b : Int) : List Ins := [⟨31, 0⟩, ⟨1, a⟩, ⟨10, 0⟩, ⟨1, b⟩, ⟨10, 0⟩]
def sumY (a b : Int) : List Ins := [⟨1, a⟩, ⟨1, b⟩, ⟨11, 0⟩, ⟨1, b⟩, ⟨1, a⟩, ⟨11, 0⟩, ⟨15, 0⟩]
def sumC (a b : Int) : Cfg := ⟨sumP a b, ⟨0, 0, 0, 0⟩, [sumX a b, sumY a b], 1, 1⟩
def sumW : Wld := ⟨[⟨[0], false, 0, 0, 0⟩], [⟨⟨-1, 0, 0⟩, ⟨0, 0, []⟩⟩], ⟨0, 0, 0, 0⟩⟩
def sumE : Evt := ⟨1, ⟨-1, 0, 0⟩, 0⟩
def sumV (a b : Int) : Wld := ⟨[⟨[w64 (a + b)], false, 0, 0, 0⟩], [], ⟨0, 0, 0, 0⟩⟩
theorem sum_start (a b : Int) : startV (sumP a b) = sumW := by kernel_rfl
theorem sum_step (a b : Int) : applyV (sumP a b) sumW sumE = sumV a b := by kernel_rfl
theorem sum_all : allV ⟨0, 0, 0, 0⟩ sumW = [sumE] := by decide +kernel
theorem sum_wc (a b : Int) : wcheckV (sumC a b).p (sumC a b).l = 0 := by kernel_rfl
theorem sum_fl (a b : Int) : flowV (sumC a b).p = 0 := by kernel_rfl
theorem sum_tree (a b : Int) : treeB (sumC a b) 1 (startV (sumP a b)) = true := by kernel_rfl
theorem sum_x0 (a b : Int) : ofV sumW (sumX a b) = w64 (w64 (0 - a) - b) := by kernel_rfl
theorem sum_x1 (a b : Int) : ofV (sumV a b) (sumX a b) = w64 (w64 (w64 (a + b) - a) - b) := by kernel_rfl
theorem sum_y (a b : Int) (w : Wld) : ofV w (sumY a b) = tv (decide (w64 (a * b) = w64 (b * a))) := by kernel_rfl
theorem w64_eq (n : Int) : w64 n = if 9223372036854775808 <= n % 18446744073709551616 then n % 18446744073709551616 - 18446744073709551616 else n % 18446744073709551616 := by
 simp [w64, IntKind.wrap, IntKind.bits, IntKind.signed]
theorem sum_zero (a b : Int) : w64 (w64 (w64 (a + b) - a) - b) = 0 := by
 have h1 := w64_eq (a + b)
 have h2 := w64_eq (w64 (a + b) - a)
 have h3 := w64_eq (w64 (w64 (a + b) - a) - b)
 split at h1 <;> split at h2 <;> split at h3 <;> omega
theorem sum_bad0 (a b : Int) : badV sumW [sumX a b, sumY a b] = if w64 (w64 (0 - a) - b) = 0 then [0] else [] := by
 have hy : ¬ ofV sumW (sumY a b) = 0 := by rw [sum_y, Int.mul_comm]; simp [tv]
 unfold badV badL
 rw [sum_x0]
 unfold badL
 rw [if_neg hy]
 rfl
theorem sum_bad1 (a b : Int) : badV (sumV a b) [sumX a b, sumY a b] = [0] := by
 have hy : ¬ ofV (sumV a b) (sumY a b) = 0 := by rw [sum_y, Int.mul_comm]; simp [tv]
 unfold badV badL
 rw [sum_x1, sum_zero, if_pos rfl]
 unfold badL
 rw [if_neg hy]
 rfl
def sumPa (a b : Int) : List Evt := if w64 (w64 (0 - a) - b) = 0 then [] else [sumE]
theorem sum_deep (a b : Int) (F : List Fnd) (sl : List Evt) : visitS (sumC a b) 1 ⟨0, 1, F, [sumE], false, 0, 0⟩ (sumV a b) sl = ⟨1, 2, addF ⟨0, 1, F, [sumE], false, 0, 0⟩ [0] F, [sumE], false, 0, 0⟩ := by
 have e1 : enterV (sumC a b) ⟨0, 1, F, [sumE], false, 0, 0⟩ (sumV a b) = ⟨0, 2, addF ⟨0, 1, F, [sumE], false, 0, 0⟩ [0] F, [sumE], false, 0, 0⟩ := by
   unfold enterV
   rw [show (sumC a b).l = [sumX a b, sumY a b] from rfl, sum_bad1 a b]
   kernel_rfl
 rw [visitS, e1]
 generalize addF _ [0] F = G
 show _ = _
 kernel_rfl
theorem sum_run (a b : Int) : exploreS (sumC a b) = ⟨1, 2, [⟨0, sumPa a b⟩], [], false, 0, 0⟩ := by
 have ht := sum_step a b
 have h0 := sum_bad0 a b
 unfold exploreS
 rw [show (sumC a b).p = sumP a b from rfl, sum_start a b, show (sumC a b).depth.toNat + 1 = 2 from rfl]
 have e0 : enterV (sumC a b) sr0 sumW = ⟨0, 1, if w64 (w64 (0 - a) - b) = 0 then [⟨0, []⟩] else [], [], false, 0, 0⟩ := by
   unfold enterV
   rw [show (sumC a b).l = [sumX a b, sumY a b] from rfl, h0]
   by_cases hc : w64 (w64 (0 - a) - b) = 0
   . rw [if_pos hc, if_pos hc]; kernel_rfl
   . rw [if_neg hc, if_neg hc]; kernel_rfl
 have key : ∀ F : List Fnd, loopS (visitS (sumC a b) 1) (sumC a b) sumW [] [] [sumE] ⟨0, 1, F, [], false, 0, 0⟩ = ⟨1, 2, addF ⟨0, 1, F, [sumE], false, 0, 0⟩ [0] F, [], false, 0, 0⟩ := by
   intro F
   unfold loopS
   rw [show (sumC a b).p = sumP a b from rfl, ht]
   rw [show ({ (⟨0, 1, F, [], false, 0, 0⟩ : Sr) with path := (⟨0, 1, F, [], false, 0, 0⟩ : Sr).path ++ [sumE] } : Sr) = ⟨0, 1, F, [sumE], false, 0, 0⟩ from rfl, sum_deep]
   generalize addF _ [0] F = G
   kernel_rfl
 have e2 : ∀ F : List Fnd, enterV (sumC a b) sr0 sumW = ⟨0, 1, F, [], false, 0, 0⟩ -> visitS (sumC a b) 2 sr0 sumW [] = loopS (visitS (sumC a b) 1) (sumC a b) sumW [] [] [sumE] ⟨0, 1, F, [], false, 0, 0⟩ := by
   intro F hF
   rw [visitS, hF, show allV (sumC a b).b sumW = [sumE] from sum_all]
   kernel_rfl
 rw [e2 _ e0, key]
 unfold sumPa
 by_cases hc : w64 (w64 (0 - a) - b) = 0
 . rw [if_pos hc, if_pos hc]; show _ = _; kernel_rfl
 . rw [if_neg hc, if_neg hc]; show _ = _; kernel_rfl
end Go.Gv

namespace Go.Gv
open Go.Proofs
end Go.Gv

namespace Go.Gv
open Go.Proofs
def wfound_l0 : AC := (.seq (.seq (.reg [oM 6 5, oF 7 6 2, oL 8 7, oK 9 8, oB 10 .lss 6 9]) (.cond (.t 10) .skip (.exit 0))) (.seq (.block 1 (.seq (.reg [oF 13 6 2, oL 14 13, oM 15 5, oA 16 (.idx 2 (.t 14) (.t 15)), oF 17 0 16, oL 18 17, oM 19 1, oB 20 .eql 18 19]) (.cond (.t 20) (.seq (.reg [oA 4 (.mv (.c (.bool true)))]) .ret) .skip))) (.reg [oM 11 5, oZ 12 .add 11 1, oM 5 12])))
def wfound_c : AC := (.seq (.reg [oA 2 (.box 301002 7 (.t 0)), oA 4 (.mv (.c (.bool false)))]) (.seq (.seq (.reg [oI 5 0]) (.block 0 (.loop wfound_l0))) (.seq (.reg [oA 4 (.mv (.c (.bool false)))]) .ret)))
set_option maxRecDepth 100000 in
theorem wfound_get : getF Tryz.prog 10 301000 [] = some ("gavotte/gavottetop.found", 21, wfound_c, [(.tmp 4)]) := by kernel_rfl
theorem wfound_pc (a b c d e f : Int) (fs : List Fnd) (hl : fs.length <= 1000) (i : Int) : PC Tryz.prog 10 [.agg [iv a, iv b, iv c, iv d, iv e, iv f, .lst 2 (fs.map Fnd.av)], iv i] (.bool (fs.any fun x => decide (x.watch = i))) := by
 refine pc_of_get wfound_get (by simp) _ (by simp) _ ?_
 unfold wfound_c
 simp
 refine loopN (fun j S' => S'.t 1 = iv i /\ S'.t 5 = iv j /\ (∃ s, S'.t 2 = .ptr 301002 s 7 0 0 /\ S'.blk 301002 = some ⟨s, 7, [.agg [iv a, iv b, iv c, iv d, iv e, iv f, .lst 2 (fs.map Fnd.av)]]⟩) /\ ∀ x ∈ fs.take j, decide (x.watch = i) = false) fs.length ?_ ?_
 . simp
 . rintro j S' hj ⟨g1, g5, ⟨s, g2, b2⟩, gp⟩
   by_cases hlt : j < fs.length
   . have hw := wrap_succ j _ hlt (by omega)
     have hc : ∀ x : Fnd, x.av.cells = [iv x.watch, evts x.path] := fun _ => rfl
     by_cases hp : fs[j].watch = i
     . simp [wfound_l0, g1, g5, g2, b2, hlt, hc, hp]
       exact ⟨fs[j], List.getElem_mem hlt, hp⟩
     . simp [wfound_l0, g1, g5, g2, b2, hlt, hc, hp, hw]
       intro x hx
       rw [List.take_succ_eq_append_getElem hlt] at hx
       rcases List.mem_append.1 hx with q | q
       . simpa using gp x q
       . rw [List.mem_singleton.1 q]; exact hp
   . have e1 : j = fs.length := by omega
     subst e1
     rw [List.take_length] at gp
     simp [wfound_l0, g1, g5, g2, b2]
     intro x hx
     simpa using gp x hx
end Go.Gv
