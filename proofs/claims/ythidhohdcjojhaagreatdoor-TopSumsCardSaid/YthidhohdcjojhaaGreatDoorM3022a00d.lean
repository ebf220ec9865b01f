/- Texts of this proof, one behind the other. What is proved, and on which conditions, stands ahead of each. -/
import Derived.Test.YthidhohdcjojhaaGreatDoorProg
import Derived.Test.YthidhohdcjojhaaGreatDoorM224751cf
import Derived.Test.YthidhohdcjojhaaGreatDoorM29e5cb9b
import Derived.Test.YthidhohdcjojhaaGreatDoorM26dbdbd
import Derived.Test.YthidhohdcjojhaaGreatDoorM170220fe
import Derived.Test.YthidhohdcjojhaaGreatDoorM23247fa9

set_option linter.unusedVariables false
set_option linter.unusedSimpArgs false
namespace Go.Gv
open Go.Proofs
def tset_l0 : AC := (.seq (.reg [oB 54 .lss 53 52]) (.seq (.cond (.t 54) .skip (.exit 1)) (.seq (.block 2 (.seq (.reg [oA 55 (.idx 3 (.t 51) (.t 53)), oA 56 (.load (some 3) (.t 55)), oA 11 (.new 248011 3 (.agg [(.int .i64 0), (.int .i64 0), .nils])), oN (.store 3 (.t 11) (.t 56))]) (.reg [oM 57 9, oF 58 0 11, oL 59 58, oA 60 (.bsl 248060 1 3 1 (.int .i64 0) [(0, (.t 59))]), oA 61 (.appw 1000248047 1 3 8 (.t 57) (.t 60)), oM 9 61]))) (.reg [oZ 62 .add 53 1, oM 53 62]))))
def tset_c : AC := (.seq (.reg [oA 3 (.box 248003 4 (.t 0)), oA 4 (.box 248004 6 (.t 1)), oA 5 (.box 248005 5 (.t 2)), oA 6 (.mv (.c .nils))]) (.seq (.reg [oF 12 4 5, oL 13 12, oM 7 13]) (.seq (.seq (.reg [oF 14 0 5, oL 15 14]) (.block 0 (.seq (.seq (.reg [oZ 17 .eql 15 1, oM 16 17]) (.cond (.t 16) .skip (.seq (.reg [oZ 18 .eql 15 2, oM 16 18]) (.cond (.t 16) .skip (.reg [oZ 19 .eql 15 3, oM 16 19]))))) (.cond (.t 16) (.seq (.reg [oF 20 1 4, oL 21 20, oF 22 1 5, oA 23 (.load (some 3) (.t 22)), oC 24 (.c (.fn 131 [])) [(.t 21), (.t 23)], oM 8 24]) (.seq (.seq (.reg [oM 25 8, oZ 26 .lss 25 0]) (.cond (.t 26) (.seq (.reg [oA 6 (.mv (.c .nils))]) .ret) .skip)) (.reg [oF 27 1 4, oL 28 27, oM 29 8, oA 30 (.idx 6 (.t 28) (.t 29)), oF 31 3 30, oF 32 0 31, oL 33 32, oM 7 33]))) (.seq (.seq (.reg [oZ 35 .eql 15 4, oM 34 35]) (.cond (.t 34) .skip (.reg [oZ 36 .eql 15 5, oM 34 36]))) (.cond (.t 34) (.seq (.reg [oM 37 7, oZ 38 .lss 37 0, oM 39 38, gM 40 39 false 7, gF 41 39 false 0 4, gL 42 39 false 41, oG 43 39 false (.len (.t 42)), oG 44 39 false (.ibin .geq (.t 40) (.t 43)), oA 45 (.pick (.t 39) (.c (.bool true)) (.t 44))]) (.cond (.t 45) (.seq (.reg [oA 6 (.mv (.c .nils))]) .ret) .skip)) (.seq (.reg [oA 6 (.mv (.c .nils))]) .ret))))))) (.seq (.reg [oM 46 7, oA 47 (.bslm 1000248047 1 3 1 (.int .i64 0) [(0, (.t 46))]), oM 9 47]) (.seq (.seq (.reg [oA 48 (.load (some 4) (.t 3)), oA 49 (.load (some 6) (.t 4)), oA 50 (.load (some 5) (.t 5)), oC 51 (.c (.fn 157 [])) [(.t 48), (.t 49), (.t 50)], oK 52 51, oI 53 0]) (.block 1 (.loop tset_l0))) (.seq (.reg [oM 63 9, oC 64 (.c (.fn 75 [])) [(.t 63)]]) (.seq (.reg [oM 65 9, oC 66 (.c (.fn 45 [])) [(.t 65)], oM 6 66]) .ret)))))))
set_option maxRecDepth 100000 in
theorem tset_get : getF Tryz.prog 119 248000 [(47, 1000000047), (61, 1000000047)] = some ("gavotte/touch.Set", 67, tset_c, [(.tmp 6)]) := by kernel_rfl
theorem le_perm_eq : ∀ {l l' : List Int}, l.Perm l' -> l.Pairwise (· <= ·) -> l'.Pairwise (· <= ·) -> l = l'
 | [], l', h, _, _ => (List.nil_perm.1 h).symm ▸ rfl
 | x :: l, [], h, _, _ => absurd h.length_eq (by simp)
 | x :: l, y :: l', h, h1, h2 => by
   rw [List.pairwise_cons] at h1 h2
   have hxy : x = y := by
     have a : x ∈ y :: l' := h.subset (by simp)
     have b : y ∈ x :: l := h.symm.subset (by simp)
     rcases List.mem_cons.1 a with q | q
     . exact q
     . rcases List.mem_cons.1 b with q' | q'
       . exact q'.symm
       . have := h2.1 x q
         have := h1.1 y q'
         omega
   subst hxy
   rw [le_perm_eq (List.Perm.cons_inv h) h1.2 h2.2]
theorem filt_perm (x : Int) : ∀ r : List Int, ((r.filter fun y => decide (y < x)) ++ x :: (r.filter fun y => !decide (y < x))).Perm (x :: r) := by
 intro r
 refine (List.perm_middle).trans (.cons _ ?_)
 exact List.filter_append_perm _ r
theorem sortI_perm : ∀ l : List Int, (sortI l).Perm l
 | [] => .nil
 | x :: l => (filt_perm x (sortI l)).trans (.cons _ (sortI_perm l))
theorem sortI_sorted : ∀ l : List Int, (sortI l).Pairwise (· <= ·)
 | [] => .nil
 | x :: l => by
   have ih := sortI_sorted l
   unfold sortI
   rw [List.pairwise_append]
   refine ⟨ih.filter _, ?_, ?_⟩
   . rw [List.pairwise_cons]
     refine ⟨fun y hy => ?_, ih.filter _⟩
     have := (List.mem_filter.1 hy).2
     simp at this
     exact this
   . intro a ha b hb
     have h1 := (List.mem_filter.1 ha).2
     simp at h1
     rcases List.mem_cons.1 hb with q | q
     . omega
     . have h2 := (List.mem_filter.1 q).2
       simp at h2
       omega
theorem sortI_merge (l : List Int) : sortI l = l.mergeSort fun x y => decide (x <= y) := by
 refine le_perm_eq ((sortI_perm l).trans (List.mergeSort_perm _ _).symm) (sortI_sorted l) ?_
 have := List.pairwise_mergeSort (le := fun x y : Int => decide (x <= y)) (fun a b c => by simp; omega) (fun a b => by simp; omega) l
 simpa using this
theorem compI_snoc (a : Int) : ∀ l : List Int, compI (l ++ [a]) = compI l ++ if l.getLast? = some a then [] else [a]
 | [] => by simp [compI]
 | [x] => by
   by_cases h : x = a <;> simp [compI, h]
 | x :: y :: l => by
   have ih := compI_snoc a (y :: l)
   have e : (x :: y :: l).getLast? = (y :: l).getLast? := by simp [List.getLast?_cons_cons]
   rw [e]
   simp only [List.cons_append] at ih ⊢
   rw [compI, compI, ih]
   split <;> simp
theorem compI_upTo (zs : List Int) : ∀ m, m <= zs.length -> compI (zs.take m) = Lib.compactUpTo zs.toArray m
 | 0, _ => by simp [compI, Lib.compactUpTo]
 | m + 1, h => by
   have hm : m < zs.length := by omega
   rw [List.take_succ_eq_append_getElem hm, compI_snoc, compI_upTo zs m (by omega), Lib.compactUpTo_succ]
   congr 1
   have e1 : zs.toArray[m]! = zs[m] := by simp [hm]
   rw [e1]
   by_cases h0 : m = 0
   . subst h0
     simp [Lib.keeps]
   . have e2 : zs.toArray[m - 1]! = zs[m - 1] := by
       have : m - 1 < zs.length := by omega
       simp [this]
     have e3 : (zs.take m).getLast? = some zs[m - 1] := by
       rw [List.getLast?_take, if_neg h0, List.getElem?_eq_getElem (by omega)]
       rfl
     rw [e3]
     by_cases h1 : zs[m - 1] = zs[m]
     . have := Lib.keeps_neg (d := zs.toArray) (by omega : 0 < m) (by rw [e1, e2]; exact h1.symm)
       simp [h1, this]
     . have := Lib.keeps_pos (d := zs.toArray) (m := m) (by rw [e1, e2]; exact fun q => h1 q.symm)
       simp [h1, this]
theorem compI_lib (l : List Int) : compI l = Lib.compact l := by
 have := compI_upTo l l.length (Nat.le_refl _)
 rw [List.take_length] at this
 exact this
theorem compI_len : ∀ l : List Int, (compI l).length <= l.length
 | [] => Nat.le_refl _
 | [x] => Nat.le_refl _
 | x :: y :: l => by
   have := compI_len (y :: l)
   unfold compI
   split <;> simp at * <;> omega
theorem tset_loop (l : List Nt) (hl : l.length <= 1000) (who : Int) {S : St} {κ : Ex -> St -> Prop} {u : Dep κ} (g51 : S.t 51 = .lst 3 (l.map Nt.av)) (g52 : S.t 52 = iv l.length) (g53 : S.t 53 = iv 0) (hM : MutIs S 1000248047 1 (S.t 9) [iv who])
   (hk : ∀ S' st, S'.t 9 = .sl 1000248047 st 1 0 (l.length + 1) -> S'.blk 1000248047 = some ⟨st, 1, (who :: l.map Nt.to).map iv⟩ -> κ (.exit 1) S') : LoopG Tryz.prog tset_l0 κ S u := by
 refine loopN (fun i S' => S'.t 51 = .lst 3 (l.map Nt.av) /\ S'.t 52 = iv l.length /\ S'.t 53 = iv i /\ MutIs S' 1000248047 1 (S'.t 9) (iv who :: (l.take i).map fun n => iv n.to)) l.length ⟨g51, g52, g53, by simpa using hM⟩ ?_
 rintro i S' hi ⟨g51, g52, g53, hM⟩
 obtain ⟨v, g9⟩ : ∃ v, S'.t 9 = v := ⟨_, rfl⟩
 rw [g9] at hM
 obtain ⟨st, rfl, hb⟩ := hM.sl (by simp)
 by_cases hlt : i < l.length
 . have ws := wrap_succ i _ hlt (by omega)
   have hbd : (i + 1 + 1) * 8 <= 140737488355328 := by omega
   have hmin : min i l.length = i := Nat.min_eq_left (by omega)
   have ht : List.take (i + 1) (l.map fun n => iv n.to) = List.take i (l.map fun n => iv n.to) ++ [iv l[i].to] := by rw [List.take_succ_eq_append_getElem (by simpa using hlt)]; simp
   simp [tset_l0, g51, g52, g53, g9, hb, hlt, ws, hmin, hbd]
   refine .inr ⟨S'.clk + 1 + 4 + 1 + 1 + 1 + 1, by simp [hlt]; omega, ?_⟩
   rw [ht]
   simp [List.take_take]
 . have e1 : i = l.length := by omega
   subst e1
   rw [List.take_length] at hb g9
   simp [tset_l0, g51, g52, g53]
   refine hk _ st (by simp [g9]) (by simp [hb])
theorem touch1_pc (p : Prg) (w : Wld) (hw : WOk w) (hg : WGo p w) (e : Evt) (hN : (wouldV p w e).length <= 1000) (hk : e.kind = 1) : PC Tryz.prog 119 [p.av, w.av, e.av] (ints (touchV p w e)) := by
 have hf := mfind_pc w.mail e.id hw.ml
 have hwd := would_pc p w hw hg e
 cases hi : idxV e.id w.mail with
 | none =>
   obtain ⟨q1, q2⟩ := ntAt_none hi
   have hv : touchV p w e = [] := by unfold touchV; rw [if_pos (.inl hk), q1]
   rw [hv]
   rw [q2] at hf
   refine pc_of_get tset_get (by simp) _ (by simp) _ ?_
   unfold tset_c
   simp [Prg.av, Wld.av, Evt.av, hk]
   refine call hf (by simp [MId.av]) ?_
   simp [ints]
 | some i =>
   obtain ⟨hl, q1, q2⟩ := ntAt_some hi
   have hv : touchV p w e = compI (sortI (w.mail[i].note.to :: (wouldV p w e).map Nt.to)) := by unfold touchV; rw [if_pos (.inl hk), q1]
   rw [hv]
   rw [q2] at hf
   refine pc_of_get tset_get (by simp) _ (by simp) _ ?_
   unfold tset_c
   simp [Prg.av, Wld.av, Evt.av, hk]
   refine call hf (by simp [MId.av]) ?_
   have hneg : ¬ (i : Int) < 0 := by omega
   simp [hl, hneg]
   refine call hwd (by simp [Prg.av, Wld.av, Evt.av, hk]) ?_
   simp
   refine tset_loop (wouldV p w e) hN w.mail[i].note.to (by simp) (by simp) (by simp) (.inr ⟨_, by simp; rfl, by simp⟩) (fun S' st g9 hb => ?_)
   simp [g9]
   have hlen : ((wouldV p w e).length + 1) = (w.mail[i].note.to :: (wouldV p w e).map Nt.to).length := by simp
   rw [hlen]
   refine sort_v 1000248047 st ((w.mail[i].note.to :: (wouldV p w e).map Nt.to).map iv) (w.mail[i].note.to :: (wouldV p w e).map Nt.to) (by simp) (by simp; omega) (fun j hj => by rw [List.getElem?_map, List.getElem?_eq_getElem hj]; rfl) (by simpa using hb) ?_
   rw [<- sortI_merge]
   obtain ⟨zs, hzs⟩ : ∃ zs, zs = sortI (w.mail[i].note.to :: (wouldV p w e).map Nt.to) := ⟨_, rfl⟩
   have hz1 : zs.length = (wouldV p w e).length + 1 := by rw [hzs, (sortI_perm _).length_eq]; simp
   have hcl := compI_len zs
   rw [<- hzs]
   rw [compI_lib] at hcl ⊢
   simp [g9]
   rw [<- hz1]
   refine compact_v 1000248047 st zs (by omega) (by simp) ?_ hcl
   simp [ints, listOf]
end Go.Gv

namespace Go.Gv
open Go.Proofs
def idxE_l0 : AC := (.seq (.reg [oB 9 .lss 8 7]) (.seq (.cond (.t 9) .skip (.exit 0)) (.seq (.block 1 (.seq (.reg [oM 10 8, oM 5 10]) (.seq (.regd [oA 11 (.load (some 5) (.t 3)), oM 12 0, oM 13 5, oA 14 (.idx 5 (.t 12) (.t 13)), oA 15 (.load (some 5) (.t 14)), oA 16 (.eqs [false, false, false, false, false] false (.t 11) (.t 15))] [[], [], [], [1, 2], [3, 1, 2], [0, 4, 3, 1, 2]]) (.cond (.t 16) (.seq (.reg [oM 17 5, oM 4 17]) .ret) .skip)))) (.reg [oZ 18 .add 8 1, oM 8 18]))))
def idxE_c : AC := (.seq (.reg [oA 3 (.box 249003 5 (.t 1)), oI 4 0]) (.seq (.seq (.reg [oM 6 0, oK 7 6, oI 8 0]) (.block 0 (.loop idxE_l0))) (.seq (.reg [oI 4 (-1)]) .ret)))
set_option maxRecDepth 100000 in
theorem idxE_get : getF Tryz.prog 118 249000 [] = some ("slices.Index[[]gavotte/api.Event,gavotte/api.Event]", 19, idxE_c, [(.tmp 4)]) := by kernel_rfl
def contE_c : AC := (.seq (.reg [oA 3 (.box 250003 5 (.t 1)), oA 4 (.mv (.c (.bool false)))]) (.seq (.reg [oM 5 0, oA 6 (.load (some 5) (.t 3)), oC 7 (.c (.fn 118 [])) [(.t 5), (.t 6)], oZ 8 .geq 7 0, oM 4 8]) .ret))
set_option maxRecDepth 100000 in
theorem contE_get : getF Tryz.prog 86 250000 [] = some ("slices.Contains[[]gavotte/api.Event,gavotte/api.Event]", 9, contE_c, [(.tmp 4)]) := by kernel_rfl
def concE_l0 : AC := (.seq (.reg [oB 12 .lss 11 10]) (.seq (.cond (.t 12) .skip (.exit 0)) (.seq (.block 1 (.seq (.reg [oA 13 (.idx 1 (.t 9) (.t 11)), oL 14 13, oM 5 14]) (.seq (.reg [oM 15 3, oM 16 5, oK 17 16, oB 18 .add 15 17, oM 3 18]) (.seq (.reg [oM 19 3, oZ 20 .lss 19 0]) (.cond (.t 20) (.reg [⟨(some 21), none, (.op .bad)⟩, ⟨none, none, (.op .bad)⟩]) .skip))))) (.reg [oZ 22 .add 11 1, oM 11 22]))))
def concE_l1 : AC := (.seq (.reg [oB 28 .lss 27 26]) (.seq (.cond (.t 28) .skip (.exit 2)) (.seq (.block 3 (.seq (.reg [oA 29 (.idx 1 (.t 25) (.t 27)), oL 30 29, oM 8 30]) (.reg [oM 31 6, oM 32 8, oA 33 (.app 251033 5 77 40 (.t 31) (.t 32)), oM 6 33]))) (.reg [oZ 34 .add 27 1, oM 27 34]))))
def concE_c : AC := (.seq (.reg [oA 2 (.mv (.c .nils))]) (.seq (.reg [oI 3 0]) (.seq (.seq (.reg [oM 9 0, oK 10 9, oI 11 0]) (.block 0 (.loop concE_l0))) (.seq (.reg [oM 23 3, oC 24 (.c (.fn 121 [])) [(.c .nils), (.t 23)], oM 6 24]) (.seq (.seq (.reg [oM 25 0, oK 26 25, oI 27 0]) (.block 2 (.loop concE_l1))) (.seq (.reg [oM 35 6, oM 2 35]) .ret))))))
set_option maxRecDepth 100000 in
theorem concE_get : getF Tryz.prog 88 251000 [] = some ("slices.Concat[[]gavotte/api.Event,gavotte/api.Event]", 36, concE_c, [(.tmp 2)]) := by kernel_rfl
def cloneE_c : AC := (.seq (.reg [oA 2 (.mv (.c .nils))]) (.seq (.seq (.reg [oM 3 0, ⟨(some 4), none, (.nq 0 false (.t 3))⟩]) (.cond (.t 4) (.seq (.reg [oA 2 (.mv (.c .nils))]) .ret) .skip)) (.seq (.reg [oA 5 (.bsl 252005 5 77 0 (.agg [(.int .i64 0), (.int .i64 0), (.int .i64 0), (.int .i64 0), (.int .i64 0)]) []), oM 6 0, oA 7 (.app 252007 5 77 40 (.t 5) (.t 6)), oM 2 7]) .ret)))
set_option maxRecDepth 100000 in
theorem cloneE_get : getF Tryz.prog 96 252000 [] = some ("slices.Clone[[]gavotte/api.Event,gavotte/api.Event]", 8, cloneE_c, [(.tmp 2)]) := by kernel_rfl
open Go.Sort Go.Shelf Go.RowKit
def evts (l : List Evt) : AV := .lst 5 (l.map Evt.av)
theorem idxE_pc (l : List Evt) (x : Evt) (hl : l.length <= 500000) : PC Tryz.prog 118 [evts l, x.av] (iv (idxB (fun y => decide (x = y)) l)) := by
 refine pc_of_get idxE_get (by simp) _ (by simp) _ ?_
 unfold idxE_c
 simp [evts]
 refine loopN (fun i S => S.t 0 = .lst 5 (l.map Evt.av) /\ (∃ s, S.t 3 = .ptr 249003 s 5 0 0 /\ S.blk 249003 = some ⟨s, 5, [x.av]⟩) /\ S.t 7 = iv l.length /\ S.t 8 = iv i /\ (∀ y ∈ l.take i, (decide (x = y)) = false)) l.length ?_ ?_
 . simp [Evt.av]
 . rintro i S hi ⟨g0, ⟨s, g3, b3⟩, g7, g8, gp⟩
   by_cases hlt : i < l.length
   . have hw := wrap_succ i _ hlt (by omega)
     simp [idxE_l0, g0, g3, b3, g7, g8, hlt]
     by_cases h : x = l[i]
     . have e : idxB (fun y => decide (x = y)) l = (i : Int) := by unfold idxB; rw [findIdx_at _ hlt gp (by simpa using h)]
       simp [h, g8, Evt.av]
       rw [<- h, e]
     . simp [h, g0, g3, b3, g7, g8, hw, Evt.av]
       intro y hy
       rw [List.take_succ_eq_append_getElem hlt] at hy
       rcases List.mem_append.1 hy with q | q
       . simpa using gp y q
       . rw [List.mem_singleton.1 q]; exact h
   . have e1 : i = l.length := by omega
     subst e1
     rw [List.take_length] at gp
     have e : idxB (fun y => decide (x = y)) l = -1 := by unfold idxB; rw [findIdx_none _ gp]
     simp [idxE_l0, g0, g7, g8, e]
theorem contE_pc (l : List Evt) (x : Evt) (hl : l.length <= 500000) : PC Tryz.prog 86 [evts l, x.av] (.bool (l.contains x)) := by
 refine pc_of_get contE_get (by simp) _ (by simp) _ ?_
 unfold contE_c
 simp [evts, Evt.av]
 refine call (idxE_pc l x hl) (by simp [evts, Evt.av]) ?_
 simp
 rw [<- decide_eq_true_iff (p := 0 <= _), idxB_pos]
 simp
theorem growE_v (n : Nat) (hn : n <= 1000000) {S : St} {k : AV -> St -> Prop} {u : Dep k} (h0 : n = 0 -> k .nils S) (h1 : 0 < n -> k (.acc 99001 S.clk 5 []) ⟨S.t, S.blk, upd S.tok 99001 (some ⟨S.clk, 5, 77⟩), S.clk + 1⟩) :
   CallG Tryz.prog (.fn 121 []) [.nils, iv n] S k u := by
 refine ⟨121, [], rfl, entersF 121 _ Tryz.func121 (by kernel_rfl) (by kernel_rfl), fun E B W w args H hW hG hu hsz hrel => ?_⟩
 have hB := hG.le
 obtain ⟨v0, v1, rfl⟩ := args2 (by simpa using hsz)
 obtain rfl := (hrel 0 _ v0 rfl rfl).nils_inv
 obtain rfl := rel_int (hrel 1 _ v1 rfl rfl)
 by_cases hz : n = 0
 . subst hz
   have hcon := Any8.slices_Grow_room Tryz.growE none 0 0 0 w (by omega) (by omega) (by omega) (by omega)
   change Calls Tryz.prog 121 _ _ _ at hcon
   refine hcon.mono ?_
   rintro e w' ⟨rfl, rfl⟩
   exact ⟨_, E, .nils, S, rfl, .refl E, H, hW, fun _ _ _ => rfl, fun s hs => ⟨.inl hs, hu s hs⟩, Nat.le_refl _, rfl, .nils, h0 rfl⟩
 . have hpos : 0 < n := by omega
   obtain ⟨i0, z, hi0, hz0, hzs, hs1, hby⟩ : ∃ (i0 : TypeInfo) (z : Value), Tryz.prog.info? 77 = some i0 /\ i0.zero = some z /\ z.cells.size = 5 /\ i0.size = 5 /\ i0.bytes = 40 := by
     have hm : (Tryz.prog.info? 77).map (fun i => (i.zero.map fun z => z.cells.size, i.size, i.bytes)) = some (some 5, 5, 40) := by kernel_rfl
     rw [Option.map_eq_some_iff] at hm
     obtain ⟨i0, q1, q2⟩ := hm
     simp only [Prod.mk.injEq, Option.map_eq_some_iff] at q2
     obtain ⟨⟨z, q3, q4⟩, q5, q6⟩ := q2
     exact ⟨i0, z, q1, q3, q4, q5, q6⟩
   have hcon := Any8.slices_Grow_grow Tryz.growE i0 z hi0 hz0 (by omega) none 0 0 n [] w (by omega) (by omega) (by rw [hby]; omega) (by omega) (by simp) (by simp) (by simp)
   change Calls Tryz.prog 121 _ _ _ at hcon
   rw [show Tryz.growE_ren.t 25 = 77 from rfl] at hcon
   refine hcon.mono ?_
   rintro e w' ⟨rfl, rfl⟩
   have hge := grownCap_ge w (0 + n) 0 77
   have hcm : grownCap w (0 + n) 0 77 <= maxLen := grownCap_le_maxLen w (0 + n) 0 77 (by simp [maxLen]; omega)
   generalize hcap : grownCap w (0 + n) 0 77 = cap at *
   have hcells : (([] : List Value).toArray ++ Builtin.zeroCells z.cells (0 + n - 0) ++ Builtin.zeroCells z.cells (cap - (0 + n))).size = cap * 5 := by
     simp [size_zeroCells, hzs]; omega
   generalize (([] : List Value).toArray ++ Builtin.zeroCells z.cells (0 + n - 0) ++ Builtin.zeroCells z.cells (cap - (0 + n))) = cur at hcells
   have hst : ¬ E.u S.clk := fun q => by have := hu _ q; omega
   have Hd : HConc E B S.h w.drew := H.change H.K (fun _ _ _ => rfl) (fun _ _ _ _ _ => rfl)
   have H1 : HConc E B S.h (w.drew.alloc (.cells cur 77)) := Hd.grow (fun k hk => _root_.Go.heap_alloc_old w.drew _ hk)
   have hown : (w.drew.alloc (.cells cur 77)).ownsRow B 77 5 (.slice (some ⟨w.heap.size, 0, none⟩) 0 cap) ([] : List AV).length [] :=
     ⟨rfl, .inr ⟨w.heap.size, cap, cur, rfl, Nat.le_trans hB hW.size, _root_.Go.heap_alloc_new w.drew _, Nat.zero_le _, hcm, by omega, by simp⟩⟩
   obtain ⟨E', a1, a2, a3, a4, a5⟩ := H1.newAcc 99001 S.clk 5 77 hst [] (.slice (some ⟨w.heap.size, 0, none⟩) 0 cap) [] (.of hown) (by simp) (by simp)
     (fun n b hb q => by have := (H.bk n b hb).lt; simp [Value.ownBlock] at q; omega) (fun n t ht _ g hg q => by have := ((H.tk n t ht).lt hg).2; simp [Value.ownBlock] at q; omega)
     (fun g j hg _ => by simp [Value.ownBlock] at hg; subst hg; exact K_none H (Nat.le_refl _) j)
   refine ⟨_, E', .acc 99001 S.clk 5 [], ⟨S.t, S.blk, upd S.tok 99001 (some ⟨S.clk, 5, 77⟩), S.clk + 1⟩, rfl, a1, a4, ?_, a3, fun s hs => ?_, by simp, rfl, a5, h1 hpos⟩
   . exact hW.drew.alloc (Nat.le_trans hB hW.size) _
   . rcases a2 s hs with q | q
     . exact ⟨.inl q, Nat.lt_succ_of_lt (hu s q)⟩
     . exact ⟨.inr (by omega), by simp only; omega⟩
def AccE (S : St) (v : AV) (xs : List Evt) : Prop := (v = .nils /\ xs = []) \/ ∃ nm st, v = .acc nm st 5 (xs.map Evt.av) /\ S.tok nm = some ⟨st, 5, 77⟩
theorem conc_in (a b : List Evt) (ha : a.length <= 500000) (hb : b.length <= 500000) {S : St} {κ : Ex -> St -> Prop} {u : Dep κ} (g25 : S.t 25 = .lst 1 [evts a, evts b]) (g26 : S.t 26 = iv 2) (g27 : S.t 27 = iv 0) {v : AV} (g6 : S.t 6 = v) (hv : AccE S v [])
   (hk : ∀ S' v, S'.t 6 = v -> AccE S' v (a ++ b) -> κ (.exit 2) S') : LoopG Tryz.prog concE_l1 κ S u := by
 have b1 : ∀ n : Nat, n <= 1000000 -> n * 40 <= 140737488355328 := fun n h => by omega
 have step : ∀ (ls : List AV) (i : Nat) (x y : List Evt) (S : St) (κ : Ex -> St -> Prop), i < 2 -> ls[i]? = some (.lst 5 (y.map Evt.av)) -> ls.length = 2 -> x.length + y.length <= 1000000 -> S.t 25 = .lst 1 ls -> S.t 26 = iv 2 -> S.t 27 = iv i -> (∃ v, S.t 6 = v /\ AccE S v x) ->
     (∀ S', S'.t 25 = .lst 1 ls -> S'.t 26 = iv 2 -> S'.t 27 = iv (i + 1 : Nat) -> (∃ v, S'.t 6 = v /\ AccE S' v (x ++ y)) -> κ .normal S') -> V Tryz.prog concE_l1 κ S := by
   rintro ls i x y S κ hi hy hls hb g25 g26 g27 ⟨v, g6, hv⟩ hk
   have hbb := b1 _ hb
   have ws : IntKind.i64.wrap ((i : Int) + 1) = (i : Int) + 1 := wrap_in _ (by omega) (by omega)
   have hi2 : (i : Int) < 2 := by omega
   rcases hv with ⟨rfl, rfl⟩ | ⟨nm, st, rfl, hk2⟩
   . simp at hbb
     simp [concE_l1, g25, g26, g27, g6, hi2, hy, hls, hbb, ws]
     refine hk _ (by simp [g25]) (by simp [g26]) (by simp) ⟨_, by simp; rfl, ?_⟩
     simp [AccE]
     exact ⟨251033, _, ⟨rfl, rfl⟩, by simp⟩
   . simp [concE_l1, g25, g26, g27, g6, hi2, hy, hls, hbb, ws, hk2]
     refine hk _ (by simp [g25]) (by simp [g26]) (by simp) ⟨_, by simp; rfl, ?_⟩
     simp [AccE]
     exact ⟨251033, _, ⟨rfl, rfl⟩, by simp⟩
 refine loopN (fun i S => S.t 25 = .lst 1 [evts a, evts b] /\ S.t 26 = iv 2 /\ S.t 27 = iv i /\ ∃ v, S.t 6 = v /\ AccE S v (match i with | 0 => [] | 1 => a | _ => a ++ b)) 2 ⟨g25, g26, g27, v, g6, hv⟩ ?_
 rintro i S hi ⟨g25, g26, g27, hv⟩
 match i, hi, g27, hv with
 | 0, _, g27, hv => exact step _ 0 [] a S _ (by omega) rfl rfl (by simp; omega) g25 g26 g27 hv (fun S' q1 q2 q3 q4 => ⟨by omega, q1, q2, q3, q4⟩)
 | 1, _, g27, hv => exact step _ 1 a b S _ (by omega) rfl rfl (by omega) g25 g26 g27 hv (fun S' q1 q2 q3 q4 => ⟨by omega, q1, q2, q3, q4⟩)
 | 2, _, g27, ⟨v, g6, hv⟩ =>
   simp [concE_l1, g25, g26, g27]
   exact hk _ v (by simp [g6]) hv
 | i + 3, h, _, _ => omega
theorem conc2 (a b : List Evt) (ha : a.length <= 500000) (hb : b.length <= 500000) : PC Tryz.prog 88 [.lst 1 [evts a, evts b]] (evts (a ++ b)) := by
 refine pc_of_get concE_get (by simp) _ (by simp) _ ?_
 unfold concE_c
 simp
 have wa : IntKind.i64.wrap (a.length : Int) = a.length := wrap_in _ (by omega) (by omega)
 have wb : IntKind.i64.wrap ((a.length : Int) + b.length) = (a.length : Int) + b.length := wrap_in _ (by omega) (by omega)
 have na : ¬ ((a.length : Int) < 0) := by omega
 have nb : ¬ ((a.length : Int) + b.length < 0) := by omega
 refine loopN (fun i S => S.t 0 = .lst 1 [evts a, evts b] /\ S.t 9 = .lst 1 [evts a, evts b] /\ S.t 10 = iv 2 /\ S.t 11 = iv i /\ S.t 3 = iv (match i with | 0 => 0 | 1 => a.length | _ => (a.length : Int) + b.length)) 2 ?_ ?_
 . simp
 . rintro i S hi ⟨g0, g9, g10, g11, g3⟩
   match i, hi, g11, g3 with
   | 0, _, g11, g3 => simp [concE_l0, g0, g9, g10, g11, g3, evts, wa, na, wrap1]
   | 1, _, g11, g3 => simp [concE_l0, g0, g9, g10, g11, g3, evts, wb, nb, wrap2]
   | 2, _, g11, g3 =>
     simp [concE_l0, g0, g9, g10, g11, g3]
     have e : iv ((a.length : Int) + b.length) = iv ((a.length + b.length : Nat) : Int) := by simp
     rw [e]
     refine growE_v (a.length + b.length) (by omega) (fun h0 => ?_) (fun h0 => ?_)
     . simp [g0]
       refine conc_in a b ha hb (by simp) (by simp) (by simp) (by simp) (.inl ⟨rfl, rfl⟩) (fun S' v g6 hv => ?_)
       simp [g6]
       rcases hv with ⟨rfl, q⟩ | ⟨nm, st, rfl, _⟩
       . rw [q]; simp [evts]
       . simp [evts]
     . simp [g0]
       refine conc_in a b ha hb (by simp) (by simp) (by simp) (v := .acc 99001 (S.clk + 1 + 3) 5 []) (by simp) (.inr ⟨99001, S.clk + 1 + 3, rfl, by simp⟩) (fun S' v g6 hv => ?_)
       simp [g6]
       rcases hv with ⟨rfl, q⟩ | ⟨nm, st, rfl, _⟩
       . rw [q]; simp [evts]
       . simp [evts]
   | i + 3, h, _, _ => omega
end Go.Gv

namespace Go.Gv
open Go.Proofs
def still_l0 : AC := (.seq (.reg [oB 19 .lss 18 17]) (.seq (.cond (.t 19) .skip (.exit 0)) (.seq (.block 1 (.seq (.reg [oA 20 (.idx 5 (.t 16) (.t 18)), oA 21 (.load (some 5) (.t 20)), oA 11 (.new 253011 5 (.agg [(.int .i64 0), (.int .i64 0), (.int .i64 0), (.int .i64 0), (.int .i64 0)])), oN (.store 5 (.t 11) (.t 21))]) (.seq (.regd [oA 22 (.load (some 5) (.t 11)), oA 23 (.load (some 5) (.t 7)), oA 24 (.load (some 4) (.t 4)), oA 25 (.load (some 6) (.t 5)), oA 26 (.load (some 5) (.t 11)), oC 27 (.c (.fn 119 [])) [(.t 24), (.t 25), (.t 26)], oM 28 9, oC 29 (.c (.fn 120 [])) [(.t 22), (.t 23), (.t 27), (.t 28)]] [[], [], [], [], [], [2, 3, 4], [], [0, 1, 5, 6, 2, 3, 4]]) (.cond (.t 29) (.reg [oM 30 8, oA 31 (.load (some 5) (.t 11)), oA 32 (.bsl 253032 5 77 1 (.agg [(.int .i64 0), (.int .i64 0), (.int .i64 0), (.int .i64 0), (.int .i64 0)]) [(0, (.t 31))]), oA 33 (.app 253033 5 77 40 (.t 30) (.t 32)), oM 8 33]) .skip)))) (.reg [oZ 34 .add 18 1, oM 18 34]))))
def still_c : AC := (.seq (.reg [oA 4 (.box 253004 4 (.t 0)), oA 5 (.box 253005 6 (.t 1)), oA 7 (.box 253007 5 (.t 3)), oA 8 (.mv (.c .nils))]) (.seq (.reg [oA 12 (.load (some 4) (.t 4)), oA 13 (.load (some 6) (.t 5)), oA 14 (.load (some 5) (.t 7)), oC 15 (.c (.fn 119 [])) [(.t 12), (.t 13), (.t 14)], oM 9 15]) (.seq (.seq (.reg [oM 16 2, oK 17 16, oI 18 0]) (.block 0 (.loop still_l0))) (.seq (.reg [oM 35 8, oM 8 35]) .ret))))
set_option maxRecDepth 100000 in
theorem still_get : getF Tryz.prog 87 253000 [] = some ("gavotte/sleep.still", 36, still_c, [(.tmp 8)]) := by kernel_rfl
def TOk (p : Prg) (w : Wld) (e : Evt) : Prop := PC Tryz.prog 119 [p.av, w.av, e.av] (ints (touchV p w e)) /\ (touchV p w e).length <= 1000
theorem still_pc (p : Prg) (w : Wld) (sl : List Evt) (e : Evt) (hs : sl.length <= 500000) (he : TOk p w e) (hx : ∀ x ∈ sl, TOk p w x) : PC Tryz.prog 87 [p.av, w.av, evts sl, e.av] (evts (stillV p w sl e)) := by
 refine pc_of_get still_get (by simp) _ (by simp) _ ?_
 unfold still_c
 simp [evts, Prg.av, Wld.av, Evt.av]
 refine call he.1 (by simp [Prg.av, Wld.av, Evt.av]) ?_
 simp
 refine loopN (fun i S => (∃ s, S.t 4 = .ptr 253004 s 4 0 0 /\ S.blk 253004 = some ⟨s, 4, [p.av]⟩) /\ (∃ s, S.t 5 = .ptr 253005 s 6 0 0 /\ S.blk 253005 = some ⟨s, 6, [w.av]⟩) /\ (∃ s, S.t 7 = .ptr 253007 s 5 0 0 /\ S.blk 253007 = some ⟨s, 5, [e.av]⟩) /\
   S.t 9 = ints (touchV p w e) /\ S.t 16 = .lst 5 (sl.map Evt.av) /\ S.t 17 = iv sl.length /\ S.t 18 = iv i /\ ∃ v, S.t 8 = v /\ AccIs S v 253033 5 77 ((stillV p w (sl.take i) e).map Evt.av)) sl.length ?_ ?_
 . simp [AccIs, stillV, Prg.av, Wld.av, Evt.av]
 . rintro i S hi ⟨⟨s4, g4, b4⟩, ⟨s5, g5, b5⟩, ⟨s7, g7, b7⟩, g9, g16, g17, g18, v, g8, hv⟩
   by_cases hlt : i < sl.length
   . have hw := wrap_succ i _ hlt (by omega)
     have ht := hx _ (List.getElem_mem hlt)
     simp [still_l0, g4, b4, g5, b5, g7, b7, g9, g16, g17, g18, g8, hlt]
     refine calld ht.1 (by simp [Prg.av, Wld.av, Evt.av]) ?_
     simp
     refine calld (apart_pc sl[i] e _ _ ht.2 he.2) (by simp [Evt.av, g9]) ?_
     simp
     have htk : stillV p w (sl.take (i + 1)) e = if apartV sl[i] e (touchV p w sl[i]) (touchV p w e) = true then stillV p w (sl.take i) e ++ [sl[i]] else stillV p w (sl.take i) e := by
       unfold stillV
       rw [List.take_succ_eq_append_getElem hlt, List.filter_append]
       cases h : apartV sl[i] e (touchV p w sl[i]) (touchV p w e) <;> simp [h]
     have hln : (stillV p w (sl.take i) e).length <= i := by
       unfold stillV
       refine Nat.le_trans (List.length_filter_le _ _) ?_
       simp
       omega
     have hbd : ((stillV p w (sl.take i) e).length + 1) * 40 <= 140737488355328 := by omega
     cases hap : apartV sl[i] e (touchV p w sl[i]) (touchV p w e) with
     | false =>
       rw [hap] at htk
       simp at htk
       simp [g4, b4, g5, b5, g7, b7, g9, g16, g17, g18, g8, hw, htk]
       exact hv
     | true =>
       rw [hap] at htk
       simp at htk
       rcases hv with ⟨rfl, q⟩ | ⟨st, rfl, hk⟩
       . simp at q
         simp [g4, b4, g5, b5, g7, b7, g9, g16, g17, g18, g8, hw, htk, q, AccIs, Evt.av]
       . simp [g4, b4, g5, b5, g7, b7, g9, g16, g17, g18, g8, hw, htk, hk, hbd, AccIs, Evt.av]
   . have e1 : i = sl.length := by omega
     subst e1
     rw [List.take_length] at hv
     rcases hv with ⟨rfl, q⟩ | ⟨st, rfl, ht⟩
     . simp [still_l0, g16, g17, g18, g8, q]
     . simp [still_l0, g16, g17, g18, g8]
end Go.Gv

namespace Go.Gv
open Go.Proofs
def enter1_c : AC := (.seq (.reg [oA 2 (.box 255002 2 (.t 0)), oA 3 (.mv (.c (.bool false)))]) (.seq (.reg [oF 4 0 2, oL 5 4, oL 6 1, oB 7 .eql 5 6, oM 3 7]) .ret))
set_option maxRecDepth 100000 in
theorem enter1_get : getF Tryz.prog 95 255000 [] = some ("(*gavotte/naive.Search).Enter$1", 8, enter1_c, [(.tmp 3)]) := by kernel_rfl
def contF_c : AC := (.seq (.reg [oA 4 (.mv (.c (.bool false)))]) (.seq (.reg [oM 5 0, oM 6 1, oC 7 (.c (.fn 129 [])) [(.t 5), (.t 6)], oZ 8 .geq 7 0, oM 4 8]) .ret))
set_option maxRecDepth 100000 in
theorem contF_get : getF Tryz.prog 94 256000 [] = some ("slices.ContainsFunc[[]gavotte/naive.Found,gavotte/naive.Found]", 9, contF_c, [(.tmp 4)]) := by kernel_rfl
def idxF_l0 : AC := (.seq (.reg [oB 9 .lss 8 7]) (.seq (.cond (.t 9) .skip (.exit 0)) (.seq (.block 1 (.seq (.reg [oM 10 8, oM 5 10]) (.seq (.reg [oM 11 1, oM 12 0, oM 13 5, oA 14 (.idx 2 (.t 12) (.t 13)), oA 15 (.load (some 2) (.t 14)), oC 16 (.t 11) [(.t 15)]]) (.cond (.t 16) (.seq (.reg [oM 17 5, oM 4 17]) .ret) .skip)))) (.reg [oZ 18 .add 8 1, oM 8 18]))))
def idxF_c : AC := (.seq (.reg [oI 4 0]) (.seq (.seq (.reg [oM 6 0, oK 7 6, oI 8 0]) (.block 0 (.loop idxF_l0))) (.seq (.reg [oI 4 (-1)]) .ret)))
set_option maxRecDepth 100000 in
theorem idxF_get : getF Tryz.prog 129 257000 [] = some ("slices.IndexFunc[[]gavotte/naive.Found,gavotte/naive.Found]", 19, idxF_c, [(.tmp 4)]) := by kernel_rfl
def Fnd.av (f : Fnd) : AV := .agg [iv f.watch, evts f.path]
def L255 : Nat -> Bool := fun n => decide (n = 255002)
theorem enter1_v (nm st : Nat) (hn : nm ≠ 255002) (i : Int) (f : Fnd) {S : St} {k : AV -> St -> Prop} {u : Dep k} (hb : S.blk nm = some ⟨st, 1, [iv i]⟩)
   (hk : ∀ S', Fr L255 S S' -> k (.bool (decide (f.watch = i))) S') : CallG Tryz.prog (.fn 95 [.ptr nm st 1 0 0]) [f.av] S k u := by
 refine callV enter1_get (by simp) (by simp) ?_
 unfold enter1_c
 simp [Fnd.av, evts, hn, hb]
 refine hk _ ⟨rfl, fun n h => ?_, fun _ _ => rfl, by simp only []; omega⟩
 simp [L255] at h
 simp [h]
theorem idxF_v (L : Nat -> Bool) (l : List Fnd) (hl : l.length < 1000000) (fv : AV) (p : Fnd -> Bool) {S : St} {k : AV -> St -> Prop} {u : Dep k}
   (hf : ∀ x ∈ l, ∀ (S' : St) (κ : AV -> St -> Prop), Fh L S S' -> (∀ S'', Fr L S' S'' -> κ (.bool (p x)) S'') -> CallG Tryz.prog fv [x.av] S' κ .mk)
   (hk : ∀ S', Fr L S S' -> k (iv (idxB p l)) S') :
   CallG Tryz.prog (.fn 129 []) [.lst 2 (l.map Fnd.av), fv] S k u := by
 refine callV idxF_get (by simp) (by simp) ?_
 unfold idxF_c
 simp
 refine loopN (fun i S' => S'.t 0 = .lst 2 (l.map Fnd.av) /\ S'.t 1 = fv /\ S'.t 7 = iv l.length /\ S'.t 8 = iv i /\ Fh L S S' /\ (∀ x ∈ l.take i, p x = false)) l.length ?_ ?_
 . exact ⟨by simp, by simp, by simp, by simp, ⟨fun _ _ => rfl, fun _ _ => rfl, by simp; omega⟩, by simp⟩
 . rintro i S' hi ⟨g0, g1, g7, g8, gf, gp⟩
   by_cases hlt : i < l.length
   . have hw := wrap_succ i _ hlt (by omega)
     have hc : ∀ x : Fnd, x.av.cells = [iv x.watch, evts x.path] := fun _ => rfl
     simp [idxF_l0, g0, g1, g7, g8, hlt, hc, evts]
     refine hf l[i] (List.getElem_mem hlt) _ _ (gf.trans ⟨fun _ _ => rfl, fun _ _ => rfl, by simp; omega⟩) ?_
     rintro S'' hF
     have q1 := hF.t
     cases hp : p l[i] with
     | true =>
       simp [q1, g0, g1, g7, g8]
       have e : idxB p l = (i : Int) := by unfold idxB; rw [findIdx_at p hlt gp hp]
       rw [<- e]
       exact hk _ ⟨rfl, fun n hn => (hF.b n hn).trans (gf.b n hn), fun n hn => (hF.k n hn).trans (gf.k n hn), by have := hF.c; have := gf.c; simp at *; omega⟩
     | false =>
       simp [q1, g0, g1, g7, g8, hw, hlt]
       refine ⟨⟨fun n hn => (hF.b n hn).trans (gf.b n hn), fun n hn => (hF.k n hn).trans (gf.k n hn), by have := hF.c; have := gf.c; simp at *; omega⟩, fun x hx => ?_⟩
       rw [List.take_succ_eq_append_getElem hlt] at hx
       rcases List.mem_append.1 hx with q | q
       . exact gp x q
       . rw [List.mem_singleton.1 q]; exact hp
   . have e1 : i = l.length := by omega
     subst e1
     rw [List.take_length] at gp
     simp [idxF_l0, g0, g1, g7, g8]
     have e : idxB p l = -1 := by unfold idxB; rw [findIdx_none p gp]
     rw [<- e]
     exact hk _ ⟨rfl, gf.b, gf.k, by have := gf.c; simp at *; omega⟩
def FndIs (v : AV) (fs : List Fnd) : Prop := (v = .nils /\ fs = []) \/ ∃ a b, v = .acc a b 2 (fs.map Fnd.av)
theorem contF_v (fs : List Fnd) (hl : fs.length < 1000000) (v : AV) (hv : FndIs v fs) (nm st : Nat) (hn : nm ≠ 255002) (i : Int) {S : St} {k : AV -> St -> Prop} {u : Dep k} (hb : S.blk nm = some ⟨st, 1, [iv i]⟩)
   (hk : ∀ S', Fr L255 S S' -> k (.bool (fs.any fun x => decide (x.watch = i))) S') :
   CallG Tryz.prog (.fn 94 []) [v, .fn 95 [.ptr nm st 1 0 0]] S k u := by
 have hco : elemR (dco (fun _ => none) 0) v (.lst 2 (fs.map Fnd.av)) := by
   rcases hv with ⟨rfl, rfl⟩ | ⟨a, b, rfl⟩
   . simp [elemR, dco]
   . simp [elemR, dco]
 refine call_coarse 0 (vals' := [.lst 2 (fs.map Fnd.av), .fn 95 [.ptr nm st 1 0 0]]) rfl (fun j x y hx hy => ?_) ?_
 . match j, hx, hy with
   | 0, hx, hy => simp at hx hy; subst hx hy; exact .inr hco
   | 1, hx, hy => simp at hx hy; subst hx hy; exact .inl rfl
   | j + 2, hx, _ => simp at hx
 refine callV contF_get (by simp) (by simp) ?_
 unfold contF_c
 simp
 refine idxF_v L255 fs hl _ (fun x => decide (x.watch = i)) (fun x hx S' κ hF hκ => ?_) (fun S' hF => ?_)
 . exact enter1_v nm st hn i x ((hF.b nm (by simp [L255, hn])).trans hb) hκ
 . have := idxB_pos (fun x : Fnd => decide (x.watch = i)) fs
   simp [hF.t]
   rw [this]
   exact hk _ ⟨rfl, hF.b, hF.k, by have := hF.c; simp at *; omega⟩
end Go.Gv

namespace Go.Gv
open Go.Proofs
def enter_l0 : AC := (.seq (.reg [oB 48 .lss 47 46]) (.seq (.cond (.t 48) .skip (.exit 0)) (.seq (.block 1 (.seq (.reg [oA 49 (.idx 1 (.t 45) (.t 47)), oL 50 49, oA 6 (.new 254006 1 (.int .i64 0)), oN (.store 1 (.t 6) (.t 50))]) (.seq (.reg [oM 51 0, oH 52 51, oF 53 0 52, oF 54 3 53, oL 55 54, oA 56 (.mkf 95 [(.t 6)]), oC 57 (.c (.fn 94 [])) [(.t 55), (.t 56)], oA 58 (.not (.t 57))]) (.cond (.t 58) (.regd [oM 59 0, oM 60 0, oH 61 60, oF 62 0 61, oF 63 3 62, oL 64 63, oL 65 6, oM 66 0, oH 67 66, oF 68 14 67, oL 69 68, oC 70 (.c (.fn 96 [])) [(.t 69)], oA 71 (.build [(.int .i64 0), .nils] [(0, (1, (.t 65))), (1, (1, (.t 70)))]), oA 72 (.bsl 254072 2 43 1 (.agg [(.int .i64 0), .nils]) [(0, (.t 71))]), oA 73 (.app 254073 2 43 32 (.t 64) (.t 72)), oH 74 59, oF 75 0 74, oF 76 3 75, oN (.store 1 (.t 76) (.t 73))] [[], [], [1], [2, 1], [3, 2, 1], [4, 3, 2, 1], [], [], [7], [8, 7], [9, 8, 7], [10, 9, 8, 7], [6, 11, 10, 9, 8, 7], [12, 6, 11, 10, 9, 8, 7], [5, 13, 11, 4, 3, 2, 1, 12, 6, 10, 9, 8, 7], [0, 1, 2, 3, 4, 5, 6, 7, 8, 9, 10, 11, 12, 13, 14], [15, 0, 1, 2, 3, 4, 5, 6, 7, 8, 9, 10, 11, 12, 13, 14], [16, 0, 1, 2, 3, 4, 5, 6, 7, 8, 9, 10, 11, 12, 13, 14, 15], [17, 14, 0, 1, 2, 3, 4, 5, 6, 7, 8, 9, 10, 11, 12, 13, 16, 15]]) .skip)))) (.reg [oZ 77 .add 47 1, oM 47 77]))))
def enter_c : AC := (.seq (.reg [oA 3 (.box 254003 6 (.t 1)), oA 4 (.mv (.c (.bool false)))]) (.seq (.seq (.regd [oM 7 0, oM 8 0, oH 9 8, oF 10 16 9, oL 11 10, oM 12 11, gM 13 12 false 0, oG 14 12 false (.nilck (.t 13)), gF 15 12 false 0 14, gF 16 12 false 1 15, gL 17 12 false 16, gM 18 12 false 0, oG 19 12 false (.nilck (.t 18)), gF 20 12 false 12 19, gF 21 12 false 1 20, gL 22 12 false 21, oG 23 12 false (.ibin .geq (.t 17) (.t 22)), oA 24 (.pick (.t 12) (.c (.bool true)) (.t 23)), oH 25 7, oF 26 16 25, oN (.store 1 (.t 26) (.t 24))] [[], [], [1], [2, 1], [3, 2, 1], [4, 3, 2, 1], [5, 4, 3, 2, 1], [6, 5, 4, 3, 2, 1], [7, 5, 6, 4, 3, 2, 1], [8, 5, 7, 6, 4, 3, 2, 1], [9, 5, 8, 7, 6, 4, 3, 2, 1], [5, 4, 3, 2, 1], [11, 5, 4, 3, 2, 1], [12, 5, 11, 4, 3, 2, 1], [13, 5, 12, 11, 4, 3, 2, 1], [14, 5, 13, 12, 11, 4, 3, 2, 1], [10, 15, 5, 9, 8, 7, 6, 4, 3, 2, 1, 14, 13, 12, 11], [5, 16, 4, 3, 2, 1, 10, 15, 9, 8, 7, 6, 14, 13, 12, 11], [0, 1, 2, 3, 4, 5, 6, 7, 8, 9, 10, 11, 12, 13, 14, 15, 16, 17], [18, 0, 1, 2, 3, 4, 5, 6, 7, 8, 9, 10, 11, 12, 13, 14, 15, 16, 17], [19, 17, 5, 0, 1, 2, 3, 4, 6, 7, 8, 9, 10, 11, 12, 13, 14, 15, 16, 18]]) (.seq (.reg [oM 27 0, oH 28 27, oF 29 16 28, oL 30 29]) (.cond (.t 30) (.seq (.reg [oA 4 (.mv (.c (.bool false)))]) .ret) .skip))) (.seq (.reg [oM 31 0, oH 32 31, oF 33 0 32, oF 34 2 33, oL 35 34, oZ 36 .add 35 1, oH 37 31, oF 38 0 37, oF 39 2 38, oN (.store 1 (.t 39) (.t 36))]) (.seq (.seq (.regd [oA 40 (.load (some 6) (.t 3)), oM 41 0, oH 42 41, oF 43 15 42, oL 44 43, oC 45 (.c (.fn 93 [])) [(.t 40), (.t 44)], oK 46 45, oI 47 0] [[], [], [1], [2, 1], [3, 2, 1], [0, 4, 3, 2, 1], [5, 0, 4, 3, 2, 1], []]) (.block 0 (.loop enter_l0))) (.seq (.reg [oA 4 (.mv (.c (.bool true)))]) .ret)))))
set_option maxRecDepth 100000 in
theorem enter_get : getF Tryz.prog 59 254000 [] = some ("(*gavotte/naive.Search).Enter", 78, enter_c, [(.tmp 4)]) := by kernel_rfl
def watchesAv (l : List (List Ins)) : AV := .lst 1 (l.map fun x => .lst 2 (x.map Ins.av))
def SrC (c : Cfg) (vf vp : AV) (sr : Sr) : List AV := [.bool false, iv sr.runs, iv sr.worlds, vf, .lst 2 (c.p.hs.map Hnd.av), .lst 4 (c.p.as.map Actr.av), .lst 3 (c.p.boot.map Nt.av), iv c.p.fuel, iv c.b.drop, iv c.b.dup, iv c.b.time, iv c.b.crash, iv c.depth, iv c.most, vp, watchesAv c.l, .bool sr.ended]
def StkE (S : St) (NP : Nat) (v : AV) (path : List Evt) : Prop := (v = .nils /\ path = []) \/ ∃ st es, v = .sl NP st 5 0 path.length /\ S.blk NP = some ⟨st, 5, es⟩ /\ path.length <= es.length /\ es.take path.length = path.map Evt.av
def SrIs (c : Cfg) (NS NF NP s : Nat) (sr : Sr) (S : St) : Prop := ∃ vf vp, S.blk NS = some ⟨s, 17, [.agg (SrC c vf vp sr)]⟩ /\ AccIs S vf NF 2 43 (sr.found.map Fnd.av) /\ StkE S NP vp sr.path
theorem StkE.at {S S' : St} {NP : Nat} {v : AV} {path : List Evt} (h : StkE S NP v path) (hb : S'.blk NP = S.blk NP) : StkE S' NP v path := by
 rcases h with h | ⟨st, es, h1, h2, h3, h4⟩
 . exact .inl h
 . exact .inr ⟨st, es, h1, hb.trans h2, h3, h4⟩
theorem StkE.one {S : St} {NP : Nat} {v : AV} {path : List Evt} (h : StkE S NP v path) : v.one = true /\ v.cells = [v] /\ lenOf v = some path.length := by
 rcases h with ⟨rfl, rfl⟩ | ⟨st, es, rfl, _⟩ <;> simp
theorem AccIs.at {S S' : St} {v : AV} {nm sz : Nat} {ty : TypeId} {xs : List AV} (h : AccIs S v nm sz ty xs) (hb : S'.tok nm = S.tok nm) : AccIs S' v nm sz ty xs := by
 rcases h with h | ⟨st, h1, h2⟩
 . exact .inl h
 . exact .inr ⟨st, h1, hb.trans h2⟩
theorem StkE.take {S : St} {NP : Nat} {v : AV} {path : List Evt} (h : StkE S NP v path) : v = .nils /\ path = [] \/ ∃ st es, v = .sl NP st 5 0 path.length /\ S.blk NP = some ⟨st, 5, path.map Evt.av ++ es⟩ := by
 rcases h with h | ⟨st, es, h1, h2, h3, h4⟩
 . exact .inl h
 . refine .inr ⟨st, es.drop path.length, h1, ?_⟩
   rw [h2, <- h4, List.take_append_drop]
theorem listOf_path {blk : Nat -> Option Blk} {NP st : Nat} {path : List Evt} {es : List AV} (hb : blk NP = some ⟨st, 5, path.map Evt.av ++ es⟩) : listOf blk 5 (.sl NP st 5 0 path.length) = some (path.map Evt.av) := by
 have hc : ((List.map Evt.av path).all fun x => x.cells.all AV.cl1) = true := by
   rw [List.all_eq_true]
   intro x hx
   obtain ⟨e, _, rfl⟩ := List.mem_map.1 hx
   rfl
 have ht : List.take path.length (List.map Evt.av path ++ es) = List.map Evt.av path := by
   rw [List.take_append_of_le_length (by simp), List.take_of_length_le (by simp)]
 simp only [listOf, getB, hb, if_true, and_self, ne_eq, true_and, Option.bind_some, List.drop_zero, ht]
 rw [if_pos (by decide)]
 simp [hc]
theorem cloneE_v (NP : Nat) (hNP : 10000000000 <= NP) (v : AV) (path : List Evt) (hl : path.length <= 100000) {S : St} {k : AV -> St -> Prop} {u : Dep k} (h : StkE S NP v path)
   (hk : ∀ r S', S'.t = S.t -> (∀ n, n ∉ ([] : List Nat) -> S'.blk n = S.blk n) -> (∀ n, n ∉ [252005, 252007] -> S'.tok n = S.tok n) -> (∀ (E : Env) (v : Value), Rel E r v -> Rel E (evts path) v) -> k r S') :
   CallG Tryz.prog (.fn 96 []) [v] S k u := by
 have hacc : ∀ (nm st : Nat) (xs : List AV) (E : Env) (v : Value), Rel E (.acc nm st 5 xs) v -> Rel E (.lst 5 xs) v := by
   intro nm st xs E v h
   cases h with | acc _ _ _ _ _ _ _ h => exact h
 refine callV cloneE_get (by simp) (by simp) ?_
 unfold cloneE_c
 rcases h.take with ⟨rfl, rfl⟩ | ⟨st, es, rfl, hb⟩
 . simp
   refine hk _ _ rfl (fun _ _ => rfl) (fun _ _ => rfl) (fun E v h => ?_)
   cases h
   exact .lst0 5 none 0
 . have hn : NP ≠ 252005 := by omega
   cases path with
   | nil =>
     simp
     refine opG_none _ _ ?_ ?_
     . simp
       refine hk _ _ rfl (fun _ _ => rfl) (fun _ _ => rfl) (fun E v h => ?_)
       cases h
       exact .lst0 5 none 0
     . have hlo := listOf_path hb
       simp at hlo
       simp [hlo]
       refine hk _ _ rfl (fun _ _ => rfl) (fun n h => ?_) (fun E v h => ?_)
       . simp at h
         simp [h]
       . exact hacc _ _ _ E v h
   | cons e path =>
     simp at hl
     have hbd : (path.length + 1) * 40 <= 140737488355328 := by omega
     have hlo := listOf_path hb
     simp at hlo
     simp [hlo, hbd]
     refine hk _ _ rfl (fun _ _ => rfl) (fun n h => ?_) (fun E v h => ?_)
     . simp at h
       simp [h]
     . exact hacc _ _ _ E v h
theorem addF_snoc (s : Sr) (i : Int) : ∀ (l : List Int) (f : List Fnd), addF s (l ++ [i]) f = if ((addF s l f).any fun x => decide (x.watch = i)) = true then addF s l f else addF s l f ++ [⟨i, s.path⟩]
 | [], f => rfl
 | j :: l, f => by
   simp only [List.cons_append, addF]
   exact addF_snoc s i l _
theorem addF_path {s s' : Sr} (h : s.path = s'.path) : ∀ (l : List Int) (f : List Fnd), addF s l f = addF s' l f
 | [], f => rfl
 | j :: l, f => by
   simp only [addF]
   rw [h]
   exact addF_path h l _
theorem addF_len (s : Sr) : ∀ (l : List Int) (f : List Fnd), (addF s l f).length <= f.length + l.length
 | [], f => by simp [addF]
 | j :: l, f => by
   simp only [addF]
   refine Nat.le_trans (addF_len s l _) ?_
   split <;> simp <;> omega
def EnF (c : Cfg) (NS NF NP s : Nat) (sr : Sr) (S : St) : Prop := ∃ nm, (nm = NF \/ nm = 254073) /\ SrIs c NS nm NP s sr S
def Out4 (n : Nat) : Prop := n < 252000 \/ 258000 <= n
theorem enter_loop (c : Cfg) (NS NF NP s : Nat) (hNS : 10000000000 <= NS) (hNF : 10000000000 <= NF) (hNP : 10000000000 <= NP) (hne : NS ≠ NP) (sr : Sr) (hen : sr.ended = false) (hp : sr.path.length <= 1000) (hf : sr.found.length <= 1000) (bs : List Int) (hbs : bs.length <= 1000) {S : St} {κ : Ex -> St -> Prop} {u : Dep κ}
   (g0 : S.t 0 = .ptr NS s 17 0 0) (g45 : S.t 45 = ints bs) (g46 : S.t 46 = iv bs.length) (g47 : S.t 47 = iv 0) (h : SrIs c NS NF NP s sr S)
   (hk : ∀ S' nm, nm = NF \/ nm = 254073 -> S.clk <= S'.clk -> (∀ n, Out4 n -> n ≠ NS -> S'.blk n = S.blk n) -> (∀ n, Out4 n -> n ≠ NF -> S'.tok n = S.tok n) -> SrIs c NS nm NP s { sr with found := addF sr bs sr.found } S' -> κ (.exit 0) S') : LoopG Tryz.prog enter_l0 κ S u := by
 have n1 : NS ≠ 254003 := by omega
 have n2 : NS ≠ 254006 := by omega
 have n2' := n2.symm
 have n3 : NP ≠ 254006 := by omega
 have n4 : NP ≠ NS := hne.symm
 have n5 : NF ≠ 254073 := by omega
 have n6 : NF ≠ 254072 := by omega
 refine loopN (fun i S' => S'.t 0 = .ptr NS s 17 0 0 /\ S'.t 45 = ints bs /\ S'.t 46 = iv bs.length /\ S'.t 47 = iv i /\ S.clk <= S'.clk /\ (∀ n, Out4 n -> n ≠ NS -> S'.blk n = S.blk n) /\ (∀ n, Out4 n -> n ≠ NF -> S'.tok n = S.tok n) /\
   EnF c NS NF NP s { sr with found := addF sr (bs.take i) sr.found } S') bs.length ?_ ?_
 . exact ⟨g0, g45, g46, g47, Nat.le_refl _, fun _ _ _ => rfl, fun _ _ _ => rfl, NF, .inl rfl, h⟩
 . rintro i S' hi ⟨g0, g45, g46, g47, gc, gb, gt, nm, hnm, vf, vp, hb, hf1, hp1⟩
   have m1 : nm ≠ 255002 := by omega
   have m2 : nm ≠ 254072 := by omega
   by_cases hlt : i < bs.length
   . have ws := wrap_succ i _ hlt (by omega)
     have hfl := addF_len sr (bs.take i) sr.found
     rw [List.length_take] at hfl
     obtain ⟨vp1, vp2, vp3⟩ := hp1.one
     have ho := hf1.out
     have htk : addF sr (bs.take (i + 1)) sr.found = if ((addF sr (bs.take i) sr.found).any fun x => decide (x.watch = bs[i])) = true then addF sr (bs.take i) sr.found else addF sr (bs.take i) sr.found ++ [⟨bs[i], sr.path⟩] := by
       rw [List.take_succ_eq_append_getElem hlt, addF_snoc]
     obtain ⟨fs, hfs⟩ : ∃ fs, fs = addF sr (bs.take i) sr.found := ⟨_, rfl⟩
     rw [<- hfs] at hb hf1 hfl htk
     simp [enter_l0, g0, g45, g46, g47, hlt, hb, n2, n2', SrC, hen, ints, ho.1, ho.2.1]
     have hfi : FndIs vf fs := by
       rcases hf1 with ⟨rfl, q⟩ | ⟨st, rfl, _⟩
       . exact .inl ⟨rfl, by simpa using q⟩
       . exact .inr ⟨_, _, rfl⟩
     refine contF_v fs (by omega) vf hfi 254006 _ (by simp) bs[i] (by simp) (fun S1 hF => ?_)
     have e1 : ∀ n, n ≠ 255002 -> n ≠ 254006 -> S1.blk n = S'.blk n := fun n hn h2 => (hF.b n (by simp [L255, hn])).trans (by simp [h2])
     have e2 : ∀ n, n ≠ 255002 -> S1.tok n = S'.tok n := fun n hn => hF.k n (by simp [L255, hn])
     have c1 := hF.c
     have f1 := (e1 NS (by omega) n2).trans hb
     have f2 := hF.b 254006 (by simp [L255])
     have f3 := e1 NP (by omega) n3
     simp at f2 c1
     cases hany : fs.any fun x => decide (x.watch = bs[i]) with
     | true =>
       rw [hany] at htk
       simp at htk
       simp [hF.t, g0, g45, g46, g47, ws, ints, htk]
       refine ⟨by omega, fun n h1 h2 => ?_, fun n h1 h2 => ?_, nm, hnm, vf, vp, by simpa [SrC, hen] using f1, hf1.at (e2 nm m1), hp1.at f3⟩
       . rw [e1 n (by unfold Out4 at h1; omega) (by unfold Out4 at h1; omega)]
         exact gb n h1 h2
       . rw [e2 n (by unfold Out4 at h1; omega)]
         exact gt n h1 h2
     | false =>
       rw [hany] at htk
       simp at htk
       simp [hF.t, g0, g45, g46, g47, ws, ints, f1, f2, SrC, hen]
       have hst : ∀ T : St, (∀ n ∈ rdV vp, T.blk n = S1.blk n) -> StkE T NP vp sr.path := by
         intro T hT
         rcases hp1 with h | ⟨st, es, rfl, h⟩
         . exact .inl h
         . exact .inr ⟨st, es, rfl, (hT NP (by simp)).trans (f3.trans h.1), h.2⟩
       refine callL (LCallP.of [] [252005, 252007] (evts sr.path) rfl (fun T hT => cloneE_v NP hNP vp sr.path (by omega) (hst T (fun n hn => hT n (by simpa using hn))) (u := .mk) (fun r S2 q1 q2 q3 q4 => ⟨q4, q2, q3⟩))) ?_
       simp [evts]
       have hbd : (fs.length + 1) * 32 <= 140737488355328 := by omega
       have m3 : nm ≠ 252005 := by omega
       have m4 : nm ≠ 252007 := by omega
       rcases hf1 with ⟨rfl, q⟩ | ⟨st, rfl, hk2⟩
       . simp at q
         subst q
         simp [hF.t, g0, g45, g46, g47, ws, ints, f1, f2, SrC, hen, htk]
         refine ⟨by omega, fun n h1 h2 => ?_, fun n h1 h2 => ?_, 254073, .inr rfl, _, vp, by simp [SrC]; rfl, .inr ⟨_, by simp [Fnd.av, evts]; rfl, by simp⟩, hp1.at (by simp [n4, f3])⟩
         . rw [if_neg h2, e1 n (by unfold Out4 at h1; omega) (by unfold Out4 at h1; omega)]
           exact gb n h1 h2
         . unfold Out4 at h1
           rw [if_neg (by omega), if_neg (by omega), if_neg (by omega), if_neg (by omega), e2 n (by omega)]
           exact gt n h1 h2
       . have hk3 := (e2 nm m1).trans hk2
         simp [hF.t, g0, g45, g46, g47, ws, ints, f1, f2, SrC, hen, htk, m2, m3, m4, hk3, hbd]
         refine ⟨by omega, fun n h1 h2 => ?_, fun n h1 h2 => ?_, 254073, .inr rfl, _, vp, by simp [SrC]; rfl, .inr ⟨_, by simp [Fnd.av, evts]; rfl, by simp⟩, hp1.at (by simp [n4, f3])⟩
         . rw [if_neg h2, e1 n (by unfold Out4 at h1; omega) (by unfold Out4 at h1; omega)]
           exact gb n h1 h2
         . unfold Out4 at h1
           rw [if_neg (by omega), if_neg (by omega), if_neg (by omega), if_neg (by omega), if_neg (by omega), e2 n (by omega)]
           exact gt n h1 h2
   . have e1 : i = bs.length := by omega
     subst e1
     rw [List.take_length] at hb hf1
     simp [enter_l0, g0, g45, g46, g47, ints]
     exact hk _ nm hnm (by simp only []; omega) gb gt ⟨vf, vp, hb, hf1, hp1⟩
theorem enter0_v (c : Cfg) (w : Wld) (hw : WOk w) (hl : c.l.length <= 1000) (hx : ∀ x ∈ c.l, ExOk w x) (NS NF NP s : Nat) (hNS : 10000000000 <= NS) (hNF : 10000000000 <= NF) (hNP : 10000000000 <= NP) (hne : NS ≠ NP) (sr : Sr) (hp : sr.path.length <= 1000) (hf : sr.found.length <= 1000) {S : St} {k : AV -> St -> Prop} {u : Dep k}
   (h : SrIs c NS NF NP s sr S)
   (hk : ∀ S', S'.t = S.t -> S.clk <= S'.clk -> (∀ n, Out4 n -> n ≠ NS -> S'.blk n = S.blk n) -> (∀ n, Out4 n -> n ≠ NF -> S'.tok n = S.tok n) -> EnF c NS NF NP s (enterV c sr w) S' -> k (.bool (!(enterV c sr w).ended)) S') :
   CallG Tryz.prog (.fn 59 []) [.ptr NS s 17 0 0, w.av] S k u := by
 obtain ⟨vf, vp, hb, hf1, hp1⟩ := h
 have n1 : NS ≠ 254003 := by omega
 have n2 : NS ≠ 254006 := by omega
 have n1' := n1.symm
 have n2' := n2.symm
 have n3 : NP ≠ 254003 := by omega
 have n4 : NP ≠ NS := hne.symm
 refine callV enter_get (by simp) (by simp) ?_
 unfold enter_c
 obtain ⟨runs, worlds, found, path, ended, cut, slept⟩ := sr
 cases ended with
 | true =>
   simp [Wld.av, hb, n1, n2, n1', n2', SrC]
   have he : enterV c ⟨runs, worlds, found, path, true, cut, slept⟩ w = ⟨runs, worlds, found, path, true, cut, slept⟩ := by simp [enterV]
   rw [he] at hk
   refine hk _ rfl (by simp only []; omega) (fun n hn h1 => ?_) (fun _ _ _ => rfl) ⟨NF, .inl rfl, vf, vp, by simp [SrC], hf1, hp1.at (by simp [n3, n4])⟩
   have : n ≠ 254003 := by unfold Out4 at hn; omega
   simp [h1, this]
 | false =>
   by_cases hm : c.most <= runs
   . simp [Wld.av, hb, n1, n2, n1', n2', SrC, hm]
     have he : enterV c ⟨runs, worlds, found, path, false, cut, slept⟩ w = ⟨runs, worlds, found, path, true, cut, slept⟩ := by simp [enterV, hm]
     rw [he] at hk
     refine hk _ rfl (by simp only []; omega) (fun n hn h1 => ?_) (fun _ _ _ => rfl) ⟨NF, .inl rfl, vf, vp, by simp [SrC], hf1, hp1.at (by simp [n3, n4])⟩
     have : n ≠ 254003 := by unfold Out4 at hn; omega
     simp [h1, this]
   . simp [Wld.av, hb, n1, n2, n1', n2', SrC, hm, watchesAv]
     refine calld (wof_pc w hw c.l hl hx) (by simp [Wld.av]) ?_
     simp [Wld.av, hb, n1, n2, n1', n2', SrC, hm]
     have he : enterV c ⟨runs, worlds, found, path, false, cut, slept⟩ w = { (⟨runs, w64 (worlds + 1), found, path, false, cut, slept⟩ : Sr) with found := addF ⟨runs, w64 (worlds + 1), found, path, false, cut, slept⟩ (badV w c.l) found } := by
       unfold enterV
       rw [if_neg (by simp [hm])]
       simp
       exact addF_path (by rfl) _ _
     rw [he] at hk
     have hbl : (badV w c.l).length <= 1000 := Nat.le_trans (badL_len w c.l 0) hl
     refine enter_loop c NS NF NP s hNS hNF hNP hne ⟨runs, w64 (worlds + 1), found, path, false, cut, slept⟩ rfl hp hf (badV w c.l) hbl (by simp) (by simp) (by simp) (by simp) ⟨vf, vp, by simp [SrC, watchesAv, w64], hf1, hp1.at (by simp [n3, n4])⟩ (fun S' nm q1 q2 q3 q4 q5 => ?_)
     simp
     refine hk _ rfl (by simp at q2 ⊢; omega) (fun n h1 h2 => ?_) (fun n h1 h2 => q4 n h1 h2) ⟨nm, q1, q5⟩
     have : n ≠ 254003 := by unfold Out4 at h1; omega
     rw [q3 n h1 h2]
     simp [h2, this]
def mvF (NS a b : Nat) (n m : Nat) : Nat := if n = NS then (if m = a then b else m) else m
theorem mvF_ne {NS a b n : Nat} (h : n ≠ NS) (x : Option Blk) : x.map (rnB (mvF NS a b n)) = x := by
 have e : mvF NS a b n = fun m => m := by funext m; simp [mvF, h]
 rw [e]
 have e2 : (rnB fun n => n) = id := funext rnB_id
 rw [e2]; simp
theorem enter_v (c : Cfg) (w : Wld) (hw : WOk w) (hl : c.l.length <= 1000) (hx : ∀ x ∈ c.l, ExOk w x) (NS NF NP s : Nat) (hNS : 10000000000 <= NS) (hNF : 10000000000 <= NF) (hNP : 10000000000 <= NP) (hne : NS ≠ NP) (sr : Sr) (hp : sr.path.length <= 1000) (hf : sr.found.length <= 1000) {S : St} {k : AV -> St -> Prop} {u : Dep k}
   (h : SrIs c NS NF NP s sr S)
   (hk : ∀ S', S'.t = S.t -> S.clk <= S'.clk -> (∀ n, Out4 n -> n ≠ NS -> S'.blk n = S.blk n) -> (∀ n, Out4 n -> n ≠ NF -> S'.tok n = S.tok n) -> SrIs c NS NF NP s (enterV c sr w) S' -> k (.bool (!(enterV c sr w).ended)) S') :
   CallG Tryz.prog (.fn 59 []) [.ptr NS s 17 0 0, w.av] S k u := by
 refine CallP.rnE (enter0_v c w hw hl hx NS NF NP s hNS hNF hNP hne sr hp hf h (u := .mk) (k := fun r S' => r = .bool (!(enterV c sr w).ended) /\ S'.t = S.t /\ S.clk <= S'.clk /\ (∀ n, Out4 n -> n ≠ NS -> S'.blk n = S.blk n) /\ (∀ n, Out4 n -> n ≠ NF -> S'.tok n = S.tok n) /\ EnF c NS NF NP s (enterV c sr w) S') (fun S' q1 q2 q3 q4 q5 => ⟨rfl, q1, q2, q3, q4, q5⟩)) ?_
 rintro r S' ⟨rfl, q1, q2, q3, q4, nm, hnm, hsr⟩
 rcases hnm with rfl | rfl
 . refine ⟨fun n => some n, fun n => some n, fun _ n => n, fun n => n, someI_inj, someI_inj, ?_⟩
   rw [Hp.rn_id]
   exact hk _ q1 q2 q3 q4 hsr
 . refine ⟨fun n => some n, mvI 254073 NF, mvF NS 254073 NF, fun n => n, someI_inj, mvI_inj _ _, ?_⟩
   obtain ⟨vf, vp, b1, a1, p1⟩ := hsr
   have hb : ∀ n, n ≠ NS -> (S'.h.rn (fun n => some n) (mvI 254073 NF) (mvF NS 254073 NF)).blk n = S'.blk n := by
     intro n hn
     simp only [Hp.rn, Option.bind_some]
     exact mvF_ne hn _
   have hne2 : NP ≠ 254073 := by omega
   refine hk _ q1 q2 (fun n h1 h2 => (hb n h2).trans (q3 n h1 h2)) (fun n h1 h2 => ?_) ⟨rn1 (mvF NS 254073 NF NS) vf, vp, ?_, ?_, p1.at (hb NP hne.symm)⟩
   . have : n ≠ 254073 := by unfold Out4 at h1; omega
     simp [Hp.rn, mvI, h2, this]
     exact q4 n h1 h2
   . have hvp : rn1 (mvF NS 254073 NF NS) vp = vp := by
       rcases p1 with ⟨rfl, _⟩ | ⟨st, es, rfl, _⟩
       . rfl
       . simp [rn1, mvF, hne2]
     simp [Hp.rn, St.h, b1, rnB, rnE, SrC, hvp, watchesAv]
   . rcases a1 with ⟨rfl, q⟩ | ⟨st, rfl, q⟩
     . exact .inl ⟨rfl, q⟩
     . refine .inr ⟨st, by simp [rn1, mvF], ?_⟩
       simp [Hp.rn, mvI, St.h, q]
end Go.Gv

namespace Go.Gv
open Go.Proofs
def down_c : AC := (.seq (.reg [oA 4 (.box 258004 6 (.t 1)), oA 5 (.box 258005 5 (.t 2)), oA 6 (.new 258006 6 (.agg [.nils, .nils, (.int .i64 0), (.int .i64 0), (.int .i64 0), (.int .i64 0)]))]) (.seq (.regd [oM 7 0, oM 8 0, oH 9 8, oF 10 14 9, oL 11 10, oA 12 (.load (some 5) (.t 5)), oA 13 (.bslm 1000258013 5 77 1 (.agg [(.int .i64 0), (.int .i64 0), (.int .i64 0), (.int .i64 0), (.int .i64 0)]) [(0, (.t 12))]), oA 14 (.appw 1000258014 5 77 40 (.t 11) (.t 13)), oH 15 7, oF 16 14 15, oN (.store 1 (.t 16) (.t 14))] [[], [], [1], [2, 1], [3, 2, 1], [], [5], [4, 6, 3, 2, 1, 5], [0, 1, 2, 3, 4, 5, 6, 7], [8, 0, 1, 2, 3, 4, 5, 6, 7], [9, 7, 0, 1, 2, 3, 4, 5, 6, 8]]) (.seq (.regd [oM 17 0, oH 18 17, oF 19 4 18, oA 20 (.load (some 4) (.t 19)), oA 21 (.load (some 6) (.t 4)), oA 22 (.load (some 5) (.t 5)), oC 23 (.c (.fn 101 [])) [(.t 20), (.t 21), (.t 22)], oN (.store 6 (.t 6) (.t 23))] [[], [0], [1, 0], [2, 1, 0], [], [], [3, 4, 5, 2, 1, 0], [6, 0, 1, 2, 3, 4, 5]]) .ret)))
set_option maxRecDepth 100000 in
theorem down_get : getF Tryz.prog 62 258000 [(13, 1000000013), (14, 1000000014)] = some ("(*gavotte/naive.Search).Down", 24, down_c, [(.cell (some 6) 6)]) := by kernel_rfl
def sup_c : AC := (.seq (.reg [oA 2 (.mv (.c (.bool false)))]) (.seq (.regd [oM 3 0, oM 4 0, oH 5 4, oF 6 14 5, oL 7 6, oM 8 0, oH 9 8, oF 10 14 9, oL 11 10, oK 12 11, oZ 13 .sub 12 1, oA 14 (.slice (some 5) (.t 7) none (some (.t 13))), oH 15 3, oF 16 14 15, oN (.store 1 (.t 16) (.t 14))] [[], [], [1], [2, 1], [3, 2, 1], [], [5], [6, 5], [7, 6, 5], [8, 7, 6, 5], [9, 8, 7, 6, 5], [4, 10, 3, 2, 1, 9, 8, 7, 6, 5], [0, 1, 2, 3, 4, 5, 6, 7, 8, 9, 10, 11], [12, 0, 1, 2, 3, 4, 5, 6, 7, 8, 9, 10, 11], [13, 11, 0, 1, 2, 3, 4, 5, 6, 7, 8, 9, 10, 12]]) (.seq (.reg [oM 17 0, oH 18 17, oF 19 16 18, oL 20 19, oA 21 (.not (.t 20)), oM 2 21]) .ret)))
set_option maxRecDepth 100000 in
theorem sup_get : getF Tryz.prog 63 259000 [] = some ("(*gavotte/naive.Search).Up", 22, sup_c, [(.tmp 2)]) := by kernel_rfl
def deep_c : AC := (.seq (.reg [oA 2 (.mv (.c (.bool false)))]) (.seq (.regd [oM 3 0, oH 4 3, oF 5 14 4, oL 6 5, oK 7 6, oM 8 0, oH 9 8, oF 10 12 9, oF 11 0 10, oL 12 11, oB 13 .geq 7 12, oM 2 13] [[], [0], [1, 0], [2, 1, 0], [3, 2, 1, 0], [], [5], [6, 5], [7, 6, 5], [8, 7, 6, 5], [4, 9, 3, 2, 1, 0, 8, 7, 6, 5], [10, 0, 1, 2, 3, 4, 5, 6, 7, 8, 9]]) .ret))
set_option maxRecDepth 100000 in
theorem deep_get : getF Tryz.prog 61 260000 [] = some ("(*gavotte/naive.Search).Deep", 14, deep_c, [(.tmp 2)]) := by kernel_rfl
def fend_c : AC := (.seq (.reg [oA 2 (.new 261002 4 (.agg [(.bool false), (.int .i64 0), (.int .i64 0), .nils]))]) (.seq (.reg [oM 3 0, oM 4 0, oH 5 4, oF 6 16 5, oL 7 6, oA 8 (.not (.t 7)), oH 9 3, oF 10 0 9, oF 11 0 10, oN (.store 1 (.t 11) (.t 8))]) (.seq (.reg [oM 12 0, oH 13 12, oF 14 0 13, oA 15 (.load (some 4) (.t 14)), oN (.store 4 (.t 2) (.t 15))]) .ret)))
set_option maxRecDepth 100000 in
theorem fend_get : getF Tryz.prog 31 261000 [] = some ("(*gavotte/naive.Search).End", 16, fend_c, [(.cell (some 4) 2)]) := by kernel_rfl
def Out5 (n : Nat) : Prop := n < 252000 \/ (262000 <= n /\ n < 1000000000) \/ 10000000000 <= n
theorem deep_v (c : Cfg) (NS NF NP s : Nat) (sr : Sr) {S : St} {k : AV -> St -> Prop} {u : Dep k} (h : SrIs c NS NF NP s sr S)
   (hk : ∀ S', S'.t = S.t -> S'.blk = S.blk -> S'.tok = S.tok -> S.clk <= S'.clk -> k (.bool (decide (c.depth <= sr.path.length))) S') :
   CallG Tryz.prog (.fn 61 []) [.ptr NS s 17 0 0] S k u := by
 obtain ⟨vf, vp, hb, hf1, hp1⟩ := h
 obtain ⟨o1, o2, o3⟩ := hp1.one
 refine callV deep_get (by simp) (by simp) ?_
 unfold deep_c
 simp [hb, SrC, o1, o2, o3]
 exact hk _ rfl rfl rfl (by simp only []; omega)
theorem up_v (c : Cfg) (NS NF NP s : Nat) (hNS : 10000000000 <= NS) (hNP : 10000000000 <= NP) (hne : NS ≠ NP) (sr : Sr) (p0 : List Evt) (e0 : Evt) (hp : sr.path = p0 ++ [e0]) (hl : sr.path.length <= 100000) {S : St} {k : AV -> St -> Prop} {u : Dep k} (h : SrIs c NS NF NP s sr S)
   (hk : ∀ S', S'.t = S.t -> (∀ n, n ≠ NS -> S'.blk n = S.blk n) -> S'.tok = S.tok -> S.clk <= S'.clk -> SrIs c NS NF NP s { sr with path := p0 } S' -> k (.bool (!sr.ended)) S') :
   CallG Tryz.prog (.fn 63 []) [.ptr NS s 17 0 0] S k u := by
 obtain ⟨vf, vp, hb, hf1, hp1⟩ := h
 rw [hp] at hp1 hl
 rcases hp1 with ⟨_, h0⟩ | ⟨st, es, rfl, b1, b2, b3⟩
 . simp at h0
 simp at b2 b3 hl
 have ws : IntKind.i64.wrap ((p0.length : Int) + 1 - 1) = p0.length := by rw [wrap_in _ (by omega) (by omega)]; omega
 refine callV sup_get (by simp) (by simp) ?_
 unfold sup_c
 have ws2 : IntKind.i64.wrap (p0.length : Int) = p0.length := wrap_in _ (by omega) (by omega)
 simp [hb, SrC, ws, ws2]
 refine hk _ rfl (fun n hn => by simp [hn]) rfl (by simp only []; omega) ⟨vf, .sl NP st 5 0 p0.length, by simp [SrC], hf1, .inr ⟨st, es, rfl, by simp [hne.symm, b1], by simp only []; omega, ?_⟩⟩
 have h2 : List.take p0.length (List.take (p0.length + 1) es) = List.take p0.length es := by rw [List.take_take, Nat.min_eq_left (by omega)]
 rw [<- h2, b3]
 simp
theorem down0_v (c : Cfg) (w : Wld) (e : Evt) (hap : PC Tryz.prog 101 [c.p.av, w.av, e.av] (applyV c.p w e).av) (NS NF NP s : Nat) (hNS : 10000000000 <= NS) (hNF : 10000000000 <= NF) (hNP : 10000000000 <= NP) (hne : NS ≠ NP) (sr : Sr) (hl : sr.path.length <= 100000) {S : St} {k : AV -> St -> Prop} {u : Dep k} (h : SrIs c NS NF NP s sr S)
   (hk : ∀ S', S'.t = S.t -> S.clk <= S'.clk -> (∀ n, Out5 n -> n ≠ NS -> n ≠ NP -> S'.blk n = S.blk n) -> (∀ n, n ≠ 1000258014 -> S'.tok n = S.tok n) -> SrIs c NS NF 1000258014 s { sr with path := sr.path ++ [e] } S' -> k (applyV c.p w e).av S') :
   CallG Tryz.prog (.fn 62 []) [.ptr NS s 17 0 0, w.av, e.av] S k u := by
 obtain ⟨vf, vp, hb, hf1, hp1⟩ := h
 have n1 : NS ≠ 258004 := by omega
 have n2 : NS ≠ 258005 := by omega
 have n3 : NS ≠ 258006 := by omega
 have n4 : NP ≠ 258004 := by omega
 have n5 : NP ≠ 258005 := by omega
 have n6 : NP ≠ 258006 := by omega
 have n7 : NS ≠ 1000258013 := by omega
 have n8 : NS ≠ 1000258014 := by omega
 have m7 : NP ≠ 1000258013 := by omega
 have m8 : NP ≠ 1000258014 := by omega
 have hbd : (sr.path.length + 1) * 40 <= 140737488355328 := by omega
 refine callV down_get (by simp) (by simp) ?_
 unfold down_c
 rcases hp1 with ⟨rfl, h0⟩ | ⟨st, es, rfl, b1, b2, b3⟩
 . simp [hb, SrC, Wld.av, Evt.av, n1, n2, n3, n1.symm, n2.symm, n3.symm, n7, n8, n7.symm, n8.symm]
   refine calld hap (by simp [Prg.av, Wld.av, Evt.av]) ?_
   simp [hb, SrC, Wld.av, Evt.av, n1, n2, n3, n1.symm, n2.symm, n3.symm, n7, n8, n7.symm, n8.symm]
   refine hk _ rfl (by simp only []; omega) (fun n h1 h2 h3 => ?_) (fun n h1 => by simp [h1]) ⟨vf, _, by simp [SrC, n3]; rfl, hf1, .inr ⟨_, _, by simp [h0]; rfl, by simp [n8.symm]; rfl, by simp [h0], by simp [h0, Evt.av]⟩⟩
   unfold Out5 at h1
   have q1 : n ≠ 258004 := by omega
   have q2 : n ≠ 258005 := by omega
   have q3 : n ≠ 258006 := by omega
   have q4 : n ≠ 1000258013 := by omega
   have q5 : n ≠ 1000258014 := by omega
   simp [h2, q1, q2, q3, q4, q5]
 . simp [hb, SrC, Wld.av, Evt.av, n1, n2, n3, n1.symm, n2.symm, n3.symm, b1, b2, b3, n4, n5, n6, hbd, n7, n8, n7.symm, n8.symm, m7, m8, m7.symm, m8.symm, hne, hne.symm, n4.symm, n5.symm, n6.symm]
   refine calld hap (by simp [Prg.av, Wld.av, Evt.av]) ?_
   simp [hb, SrC, Wld.av, Evt.av, n1, n2, n3, n1.symm, n2.symm, n3.symm, n7, n8, n7.symm, n8.symm, n4, n5, n6, m7, m8, hne, hne.symm, n4.symm, n5.symm, n6.symm]
   refine hk _ rfl (by simp only []; omega) (fun n h1 h2 h3 => ?_) (fun n h1 => by simp [h1]) ⟨vf, _, by simp [SrC, n3]; rfl, hf1, .inr ⟨_, _, by simp; rfl, by simp [n8.symm]; rfl, by simp, by rw [List.take_of_length_le (by simp)]; simp [Evt.av]⟩⟩
   unfold Out5 at h1
   have q1 : n ≠ 258004 := by omega
   have q2 : n ≠ 258005 := by omega
   have q3 : n ≠ 258006 := by omega
   have q4 : n ≠ 1000258013 := by omega
   have q5 : n ≠ 1000258014 := by omega
   simp [h2, h3, q1, q2, q3, q4, q5]
theorem down_v (c : Cfg) (w : Wld) (e : Evt) (hap : PC Tryz.prog 101 [c.p.av, w.av, e.av] (applyV c.p w e).av) (NS NF NP s : Nat) (hNS : 10000000000 <= NS) (hNF : 10000000000 <= NF) (hNP : 10000000000 <= NP) (hne : NS ≠ NP) (sr : Sr) (hl : sr.path.length <= 100000) {S : St} {k : AV -> St -> Prop} {u : Dep k} (h : SrIs c NS NF NP s sr S)
   (hk : ∀ S', S'.t = S.t -> S.clk <= S'.clk -> (∀ n, Out5 n -> n ≠ NS -> n ≠ NP -> S'.blk n = S.blk n) -> (∀ n, Out5 n -> S'.tok n = S.tok n) -> SrIs c NS NF NP s { sr with path := sr.path ++ [e] } S' -> k (applyV c.p w e).av S') :
   CallG Tryz.prog (.fn 62 []) [.ptr NS s 17 0 0, w.av, e.av] S k u := by
 refine CallP.rnE (down0_v c w e hap NS NF NP s hNS hNF hNP hne sr hl h (u := .mk) (k := fun r S' => r = (applyV c.p w e).av /\ S'.t = S.t /\ S.clk <= S'.clk /\ (∀ n, Out5 n -> n ≠ NS -> n ≠ NP -> S'.blk n = S.blk n) /\ (∀ n, n ≠ 1000258014 -> S'.tok n = S.tok n) /\ SrIs c NS NF 1000258014 s { sr with path := sr.path ++ [e] } S') (fun S' q1 q2 q3 q4 q5 => ⟨rfl, q1, q2, q3, q4, q5⟩)) ?_
 rintro r S' ⟨rfl, q1, q2, q3, q4, vf, vp, b1, a1, p1⟩
 refine ⟨mvI 1000258014 NP, fun n => some n, mvF NS 1000258014 NP, fun n => n, mvI_inj _ _, someI_inj, ?_⟩
 have hne2 : NF ≠ 1000258014 := by omega
 have hNN : NS ≠ 1000258014 := by omega
 refine hk _ q1 q2 (fun n h1 h2 h3 => ?_) (fun n h1 => ?_) ⟨vf, rn1 (mvF NS 1000258014 NP NS) vp, ?_, a1.at (by simp [Hp.rn, St.h]), ?_⟩
 . have : n ≠ 1000258014 := by unfold Out5 at h1; omega
   simp only [Hp.rn, mvI, if_neg h3, if_neg this, Option.bind_some]
   exact (mvF_ne h2 _).trans (q3 n h1 h2 h3)
 . have : n ≠ 1000258014 := by unfold Out5 at h1; omega
   simp only [Hp.rn, Option.bind_some]
   exact q4 n this
 . have hvf : rn1 (mvF NS 1000258014 NP NS) vf = vf := by
     rcases a1 with ⟨rfl, _⟩ | ⟨st, rfl, _⟩
     . rfl
     . simp [mvF, hne2]
   simp [Hp.rn, St.h, mvI, hne, hNN, b1, rnB, rnE, SrC, hvf, watchesAv]
 . rcases p1 with ⟨rfl, q⟩ | ⟨st, es, rfl, b, h3, h4⟩
   . exact .inl ⟨rfl, q⟩
   . refine .inr ⟨st, es, by simp [mvF], ?_, h3, h4⟩
     simp only [Hp.rn, mvI, if_true, Option.bind_some]
     exact (mvF_ne hne.symm _).trans b
def Sr.res (sr : Sr) : AV := .agg [.bool (!sr.ended), iv sr.runs, iv sr.worlds, .lst 2 (sr.found.map Fnd.av)]
theorem AccIs.fnd {S : St} {v : AV} {NF : Nat} {fs : List Fnd} (h : AccIs S v NF 2 43 (fs.map Fnd.av)) : FndIs v fs := by
 rcases h with ⟨rfl, q⟩ | ⟨st, rfl, _⟩
 . exact .inl ⟨rfl, by simpa using q⟩
 . exact .inr ⟨_, _, rfl⟩
theorem FndIs.out {v : AV} {fs : List Fnd} (h : FndIs v fs) : v.one = true /\ v.cells = [v] /\ ∀ B, co1 B v (.lst 2 (fs.map Fnd.av)) := by
 rcases h with ⟨rfl, rfl⟩ | ⟨a, b, rfl⟩
 . refine ⟨rfl, rfl, fun B => ?_⟩
   simp [co1]
 . refine ⟨rfl, rfl, fun B => ?_⟩
   simp [co1]
theorem fend_v (c : Cfg) (NS s : Nat) (hNS : NS ≠ 261002) (sr : Sr) (vf vp : AV) (hv : FndIs vf sr.found) {S : St} {k : AV -> St -> Prop} {u : Dep k} (hb : S.blk NS = some ⟨s, 17, [.agg (SrC c vf vp sr)]⟩)
   (hk : ∀ S', S'.t = S.t -> (∀ n, n ∉ [NS, 261002] -> S'.blk n = S.blk n) -> S'.tok = S.tok -> S.clk <= S'.clk -> k (.agg [.bool (!sr.ended), iv sr.runs, iv sr.worlds, vf]) S') :
   CallG Tryz.prog (.fn 31 []) [.ptr NS s 17 0 0] S k u := by
 obtain ⟨o1, o2, o3⟩ := hv.out
 refine callV fend_get (by simp) (by simp) ?_
 unfold fend_c
 simp [hb, SrC, hNS, hNS.symm, o1, o2]
 refine hk _ rfl (fun n hn => ?_) rfl (by simp only []; omega)
 simp at hn
 simp [hn]
theorem res_rel (sr : Sr) (vf : AV) (hv : FndIs vf sr.found) (E : Env) (v : Value) (h : Rel E (.agg [.bool (!sr.ended), iv sr.runs, iv sr.worlds, vf]) v) : Rel E sr.res v := by
 cases h with
 | agg _ vs hs h1 hr =>
   refine .agg _ vs (by simpa using hs) (fun j y hy => ?_) (fun j y v hy hv => ?_)
   . match j, hy with
     | 0, hy => simp at hy; subst hy; rfl
     | 1, hy => simp at hy; subst hy; rfl
     | 2, hy => simp at hy; subst hy; rfl
     | 3, hy => simp at hy; subst hy; rfl
     | j + 4, hy => simp at hy
   . rename_i hv'
     match j, hy, hv with
     | 0, hy, hv => exact hr 0 _ _ hy hv
     | 1, hy, hv => exact hr 1 _ _ hy hv
     | 2, hy, hv => exact hr 2 _ _ hy hv
     | 3, hy, hv =>
       simp at hy; subst hy
       have q := hr 3 vf v rfl hv
       rcases hv' with ⟨rfl, q2⟩ | ⟨a, b, rfl⟩
       . cases q
         rw [q2]
         exact .lst0 2 none 0
       . cases q with | acc _ _ _ _ _ _ _ h => exact h
     | j + 4, hy, _ => simp at hy
end Go.Gv

namespace Go.Gv
open Go.Proofs
theorem ints_bound : ∀ (n : Nat) (l : List Int), l.Pairwise (· ≠ ·) -> (∀ x ∈ l, 0 <= x /\ x < n) -> l.length <= n
 | 0, l, _, h2 => by
   cases l with
   | nil => simp
   | cons x l => have := h2 x (by simp); omega
 | n + 1, l, h1, h2 => by
   have h3 : (l.filter fun x => !decide (x = (n : Int))).length <= n := by
     refine ints_bound n _ (h1.filter _) (fun x hx => ?_)
     obtain ⟨a, b⟩ := List.mem_filter.1 hx
     have := h2 x a
     simp at b
     omega
   have h4 : ∀ l : List Int, l.Pairwise (· ≠ ·) -> l.length <= (l.filter fun x => !decide (x = (n : Int))).length + 1 := by
     intro l
     induction l with
     | nil => simp
     | cons x l ih =>
       intro h
       rw [List.pairwise_cons] at h
       by_cases hx : x = n
       . have : l.filter (fun x => !decide (x = (n : Int))) = l := by
           rw [List.filter_eq_self]
           intro y hy
           have := h.1 y hy
           simp; omega
         simp [hx, this]
       . simp [hx]
         exact ih h.2
   have := h4 l h1
   omega
def FOk (c : Cfg) (f : List Fnd) : Prop := (f.map Fnd.watch).Pairwise (· ≠ ·) /\ ∀ x ∈ f, 0 <= x.watch /\ x.watch < c.l.length
theorem FOk.len {c : Cfg} {f : List Fnd} (h : FOk c f) : f.length <= c.l.length := by
 have := ints_bound c.l.length (f.map Fnd.watch) h.1 (fun x hx => by obtain ⟨y, hy, rfl⟩ := List.mem_map.1 hx; exact h.2 y hy)
 simpa using this
theorem badL_rng (w : Wld) : ∀ (l : List (List Ins)) (j : Nat), ∀ x ∈ badL w j l, (j : Int) <= x /\ x < (j + l.length : Nat)
 | [], j, x, h => by simp [badL] at h
 | y :: l, j, x, h => by
   unfold badL at h
   split at h
   . rcases List.mem_cons.1 h with q | q
     . simp [q]; omega
     . have := badL_rng w l (j + 1) x q
       simp at *; omega
   . have := badL_rng w l (j + 1) x h
     simp at *; omega
theorem FOk.add {c : Cfg} (s : Sr) : ∀ (l : List Int) (f : List Fnd), (∀ x ∈ l, 0 <= x /\ x < c.l.length) -> FOk c f -> FOk c (addF s l f)
 | [], f, _, h => h
 | i :: l, f, h1, h => by
   unfold addF
   refine FOk.add s l _ (fun x hx => h1 x (by simp [hx])) ?_
   split
   . exact h
   . rename_i hn
     refine ⟨?_, fun x hx => ?_⟩
     . rw [List.map_append, List.pairwise_append]
       refine ⟨h.1, by simp, fun a ha b hb => ?_⟩
       obtain ⟨y, hy, rfl⟩ := List.mem_map.1 ha
       simp at hb
       subst hb
       intro q
       exact hn (List.any_eq_true.2 ⟨y, hy, by simp [q]⟩)
     . rcases List.mem_append.1 hx with q | q
       . exact h.2 x q
       . simp at q; subst q; exact h1 i (by simp)
theorem FOk.enter {c : Cfg} {s : Sr} (w : Wld) (h : FOk c s.found) : FOk c (enterV c s w).found := by
 unfold enterV
 split
 . exact h
 . exact FOk.add s _ _ (fun x hx => by have := badL_rng w c.l 0 x hx; simp at this; exact this) h
theorem enterV_path (c : Cfg) (s : Sr) (w : Wld) : (enterV c s w).path = s.path := by unfold enterV; split <;> rfl
@[irreducible] def LIM : Nat := 10000000000
theorem SrIs.up {c : Cfg} {NS NF NP s : Nat} {sr : Sr} {T : St} (h : SrIs c NS NF NP s sr T) : SrIs c (NS + LIM) (NF + LIM) (NP + LIM) s sr ⟨T.t, (upH LIM T.h).blk, (upH LIM T.h).tok, T.clk⟩ := by
 obtain ⟨vf, vp, hb, hf, hp⟩ := h
 have hb' : T.h.blk NS = some ⟨s, 17, [.agg (SrC c vf vp sr)]⟩ := hb
 refine ⟨rn1 (fun n => n + LIM) vf, rn1 (fun n => n + LIM) vp, ?_, ?_, ?_⟩
 . simp only [upH_blk, hb']
   simp [rnB, rnE, SrC, watchesAv]
 . rcases hf with ⟨rfl, q⟩ | ⟨st, rfl, q⟩
   . exact .inl ⟨rfl, q⟩
   . exact .inr ⟨st, rfl, by simp only [upH_tok]; exact q⟩
 . rcases hp with ⟨rfl, q⟩ | ⟨st, es, rfl, q1, q2, q3⟩
   . exact .inl ⟨rfl, q⟩
   . have q1' : T.h.blk NP = some ⟨st, 5, es⟩ := q1
     refine .inr ⟨st, es.map (rnE fun n => n + LIM), rfl, ?_, by simpa using q2, ?_⟩
     . simp only [upH_blk, q1']
       simp [rnB]
     . rw [<- List.map_take, q3, List.map_map]
       rfl
theorem SrIs.dn {c : Cfg} {NS NF NP s : Nat} {sr : Sr} {S0 : St} {t : Nat -> AV} {clk : Nat} (h : SrIs c (NS + LIM) (NF + LIM) (NP + LIM) s sr S0) : SrIs c NS NF NP s sr ⟨t, (dnH LIM S0.h).blk, (dnH LIM S0.h).tok, clk⟩ := by
 obtain ⟨vf, vp, hb, hf, hp⟩ := h
 have hb' : S0.h.blk (NS + LIM) = some ⟨s, 17, [.agg (SrC c vf vp sr)]⟩ := hb
 refine ⟨rn1 (fun n => n - LIM) vf, rn1 (fun n => n - LIM) vp, ?_, ?_, ?_⟩
 . simp only [dnH_blk, hb']
   simp [rnB, rnE, SrC, watchesAv]
 . rcases hf with ⟨rfl, q⟩ | ⟨st, rfl, q⟩
   . exact .inl ⟨rfl, q⟩
   . exact .inr ⟨st, by simp, by simp only [dnH_tok]; exact q⟩
 . rcases hp with ⟨rfl, q⟩ | ⟨st, es, rfl, q1, q2, q3⟩
   . exact .inl ⟨rfl, q⟩
   . have q1' : S0.h.blk (NP + LIM) = some ⟨st, 5, es⟩ := q1
     refine .inr ⟨st, es.map (rnE fun n => n - LIM), by simp, ?_, by simpa using q2, ?_⟩
     . simp only [dnH_blk, q1']
       simp [rnB]
     . rw [<- List.map_take, q3, List.map_map]
       rfl
theorem dn_frame {T S0 : St} (n : Nat) (h : S0.blk (n + LIM) = (upH LIM T.h).blk (n + LIM)) : (dnH LIM S0.h).blk n = T.blk n := by
 have h' : S0.h.blk (n + LIM) = (upH LIM T.h).blk (n + LIM) := h
 rw [dnH_blk, h', upH_blk, Option.map_map]
 have e : (rnB fun n => n - LIM) ∘ (rnB fun n => n + LIM) = id := funext (rnB_dn_up LIM)
 rw [e]
 simp [St.h]
theorem dn_tok {T S0 : St} (n : Nat) (h : S0.tok (n + LIM) = (upH LIM T.h).tok (n + LIM)) : (dnH LIM S0.h).tok n = T.tok n := by
 have h' : S0.h.tok (n + LIM) = (upH LIM T.h).tok (n + LIM) := h
 rw [dnH_tok, h', upH_tok]
 rfl
structure VOk (c : Cfg) (I : Nat -> Wld -> Prop) : Prop where
 hl : c.l.length <= 1000
 hd : c.depth <= 64
 ok : ∀ f w, I f w -> WOk w /\ (∀ x ∈ c.l, ExOk w x) /\ (allV c.b w).length <= 5000
 ap : ∀ f w, I (f + 1) w -> ∀ e ∈ allV c.b w, PC Tryz.prog 101 [c.p.av, w.av, e.av] (applyV c.p w e).av /\ I f (applyV c.p w e)
end Go.Gv

namespace Go.Gv
open Go.Proofs
def visitS_r1 : List AI := [oM 13 0, oH 14 13, oF 15 0 14, oL 16 15, oA 17 (.load (some 6) (.t 4)), oC 18 (.c (.fn 59 [])) [(.t 16), (.t 17)], oA 19 (.not (.t 18))]
def visitS_l0 : AC := (.seq (.reg [oB 39 .lss 38 37]) (.seq (.cond (.t 39) .skip (.exit 0)) (.seq (.block 1 (.seq (.reg [oA 40 (.idx 5 (.t 36) (.t 38)), oA 41 (.load (some 5) (.t 40)), oA 9 (.new 262009 5 (.agg [(.int .i64 0), (.int .i64 0), (.int .i64 0), (.int .i64 0), (.int .i64 0)])), oN (.store 5 (.t 9) (.t 41))]) (.seq (.reg [oM 42 2, oA 43 (.load (some 5) (.t 9)), oC 44 (.c (.fn 86 [])) [(.t 42), (.t 43)], oA 45 (.not (.t 44))]) (.cond (.t 45) (.reg [oM 46 7, oA 47 (.load (some 5) (.t 9)), oA 48 (.bsl 262048 5 77 1 (.agg [(.int .i64 0), (.int .i64 0), (.int .i64 0), (.int .i64 0), (.int .i64 0)]) [(0, (.t 47))]), oA 49 (.app 262049 5 77 40 (.t 46) (.t 48)), oM 7 49]) .skip)))) (.reg [oZ 50 .add 38 1, oM 38 50]))))
def visitS_r22 : List AI := [oM 157 0, oM 158 0, oH 159 158, oF 160 0 159, oL 161 160, oA 162 (.load (some 6) (.t 4)), oA 163 (.load (some 5) (.t 11)), oC 164 (.c (.fn 62 [])) [(.t 161), (.t 162), (.t 163)], oM 165 12, oC 166 (.c (.fn 54 [])) [(.t 157), (.t 164), (.t 165)]]
def visitS_p22 : List (List Nat) := [[], [], [1], [2, 1], [3, 2, 1], [], [], [4, 5, 6, 3, 2, 1], [], [0, 7, 8, 4, 5, 6, 3, 2, 1]]
def visitS_l1 : AC := (.seq (.reg [oB 121 .lss 120 119]) (.seq (.cond (.t 121) .skip (.exit 2)) (.seq (.block 3 (.seq (.reg [oM 122 120, oA 123 (.idx 5 (.t 118) (.t 120)), oA 124 (.load (some 5) (.t 123)), oA 11 (.new 262011 5 (.agg [(.int .i64 0), (.int .i64 0), (.int .i64 0), (.int .i64 0), (.int .i64 0)])), oM 10 122, oN (.store 5 (.t 11) (.t 124))]) (.seq (.regd [oM 125 0, oH 126 125, oF 127 0 126, oL 128 127, oH 129 128, oF 130 4 129, oA 131 (.load (some 4) (.t 130)), oA 132 (.load (some 6) (.t 4)), oM 133 2, oM 134 7, oM 135 10, oA 136 (.slice (some 5) (.t 134) none (some (.t 135))), oA 137 (.bsl 262137 1 41 2 .nils [(0, (.t 133)), (1, (.t 136))]), oC 138 (.c (.fn 88 [])) [(.t 137)], oA 139 (.load (some 5) (.t 11)), oC 140 (.c (.fn 87 [])) [(.t 131), (.t 132), (.t 138), (.t 139)], oM 12 140] [[], [0], [1, 0], [2, 1, 0], [3, 2, 1, 0], [4, 3, 2, 1, 0], [5, 4, 3, 2, 1, 0], [], [], [], [], [9, 10], [8, 11, 9, 10], [12, 8, 11, 9, 10], [], [6, 7, 13, 14, 5, 4, 3, 2, 1, 0, 12, 8, 11, 9, 10], [15, 0, 1, 2, 3, 4, 5, 6, 7, 8, 9, 10, 11, 12, 13, 14]]) (.seq (.regd [oM 141 0, oH 142 141, oF 143 3 142, oF 144 1 143, oL 145 144, oA 146 (.load (some 5) (.t 11)), oM 147 0, oH 148 147, oF 149 0 148, oL 150 149, oH 151 150, oF 152 14 151, oL 153 152, oK 154 153, oZ 155 .add 154 1, oC 156 (.t 145) [(.t 146), (.t 155)]] [[], [0], [1, 0], [2, 1, 0], [3, 2, 1, 0], [], [], [6], [7, 6], [8, 7, 6], [9, 8, 7, 6], [10, 9, 8, 7, 6], [11, 10, 9, 8, 7, 6], [12, 11, 10, 9, 8, 7, 6], [13, 12, 11, 10, 9, 8, 7, 6], [4, 5, 14, 3, 2, 1, 0, 13, 12, 11, 10, 9, 8, 7, 6]]) (.seq (.regi visitS_r22 visitS_p22) (.seq (.reg [oM 167 0, oH 168 167, oF 169 0 168, oL 170 169, oC 171 (.c (.fn 63 [])) [(.t 170)], oA 172 (.not (.t 171))]) (.cond (.t 172) .ret .skip))))))) (.reg [oZ 173 .add 120 1, oM 120 173]))))
def visitS_c : AC := (.seq (.reg [oA 4 (.box 262004 6 (.t 1))]) (.seq (.seq (.regi visitS_r1 [[], [0], [1, 0], [2, 1, 0], [], [3, 4, 2, 1, 0], [5, 3, 4, 2, 1, 0]]) (.cond (.t 19) .ret .skip)) (.seq (.regd [oM 20 0, oH 21 20, oF 22 3 21, oF 23 0 22, oL 24 23, oA 25 (.load (some 6) (.t 4)), oC 26 (.t 24) [(.t 25)]] [[], [0], [1, 0], [2, 1, 0], [3, 2, 1, 0], [], [4, 5, 3, 2, 1, 0]]) (.seq (.regd [oM 27 0, oH 28 27, oF 29 0 28, oL 30 29, oH 31 30, oF 32 8 31, oA 33 (.load (some 4) (.t 32)), oA 34 (.load (some 6) (.t 4)), oC 35 (.c (.fn 60 [])) [(.t 33), (.t 34)], oM 6 35] [[], [0], [1, 0], [2, 1, 0], [3, 2, 1, 0], [4, 3, 2, 1, 0], [5, 4, 3, 2, 1, 0], [], [6, 7, 5, 4, 3, 2, 1, 0], [8, 0, 1, 2, 3, 4, 5, 6, 7]]) (.seq (.reg [oA 7 (.mv (.c .nils))]) (.seq (.seq (.reg [oM 36 6, oK 37 36, oI 38 0]) (.block 0 (.loop visitS_l0))) (.seq (.seq (.reg [oM 51 0, oH 52 51, oF 53 0 52, oL 54 53, oC 55 (.c (.fn 61 [])) [(.t 54)], oM 56 55, gM 57 56 false 7, oG 58 56 false (.len (.t 57)), oG 59 56 false (.ibin .eql (.t 58) (.c (.int .i64 0))), oA 60 (.pick (.t 56) (.c (.bool true)) (.t 59))]) (.cond (.t 60) (.seq (.reg [oM 61 0, oH 62 61, oF 63 0 62, oL 64 63, oH 65 64, oF 66 0 65, oF 67 1 66, oL 68 67, oZ 69 .add 68 1, oH 70 64, oF 71 0 70, oF 72 1 71, oN (.store 1 (.t 72) (.t 69))]) (.seq (.seq (.reg [oM 73 0, oH 74 73, oF 75 0 74, oL 76 75, oC 77 (.c (.fn 61 [])) [(.t 76)], oA 78 (.not (.t 77)), oM 79 78, gM 80 79 true 6, oG 81 79 true (.len (.t 80)), oG 82 79 true (.ibin .gtr (.t 81) (.c (.int .i64 0))), oA 83 (.pick (.t 79) (.t 82) (.c (.bool false)))]) (.cond (.t 83) (.seq (.reg [oM 84 0, oH 85 84, oF 86 1 85, oF 87 1 86, oL 88 87, oZ 89 .add 88 1, oH 90 84, oF 91 1 90, oF 92 1 91, oN (.store 1 (.t 92) (.t 89))]) (.reg [oM 93 0, oH 94 93, oF 95 1 94, oF 96 0 95, oL 97 96, oM 98 6, oK 99 98, oB 100 .add 97 99, oH 101 93, oF 102 1 101, oF 103 0 102, oN (.store 1 (.t 103) (.t 100))])) .skip)) .ret)) .skip)) (.seq (.reg [oM 104 0, oH 105 104, oF 106 1 105, oF 107 0 106, oL 108 107, oM 109 6, oK 110 109, oM 111 7, oK 112 111, oB 113 .sub 110 112, oB 114 .add 108 113, oH 115 104, oF 116 1 115, oF 117 0 116, oN (.store 1 (.t 117) (.t 114))]) (.seq (.reg [oM 118 7, oK 119 118, oI 120 0]) (.block 2 (.loop visitS_l1)))))))))))
set_option maxRecDepth 100000 in
theorem visitS_get : getF Tryz.prog 54 262000 [(2000001, 1), (2000022, 1)] = some ("(*gavotte/sleep.search).visit", 174, visitS_c, []) := by kernel_rfl
def eye1_c : AC := (.reg [oA 1 (.box 264001 6 (.t 0))])
set_option maxRecDepth 100000 in
theorem eye1_get : getF Tryz.prog 27 264000 [] = some ("gavotte/sleep.Explore$1", 2, eye1_c, []) := by kernel_rfl
def eye2_c : AC := (.reg [oA 2 (.box 265002 5 (.t 0))])
set_option maxRecDepth 100000 in
theorem eye2_get : getF Tryz.prog 28 265000 [] = some ("gavotte/sleep.Explore$2", 4, eye2_c, []) := by kernel_rfl
attribute [simp] visitS_r1 visitS_r22 visitS_p22
theorem eye1_pc (w : Wld) : PC Tryz.prog 27 [w.av] (.tup []) := by
 refine pc_of_get eye1_get (by simp) _ (by simp) _ ?_
 unfold eye1_c
 simp [Wld.av]
theorem eye2_pc (e : Evt) (n : Int) : PC Tryz.prog 28 [e.av, iv n] (.tup []) := by
 refine pc_of_get eye2_get (by simp) _ (by simp) _ ?_
 unfold eye2_c
 simp [Evt.av]
def awakeV (all sl : List Evt) : List Evt := all.filter fun e => !sl.contains e
theorem awakeV_take (all sl : List Evt) (i : Nat) (h : i < all.length) : awakeV (all.take (i + 1)) sl = if sl.contains all[i] = true then awakeV (all.take i) sl else awakeV (all.take i) sl ++ [all[i]] := by
 unfold awakeV
 rw [List.take_succ_eq_append_getElem h, List.filter_append]
 cases hc : sl.contains all[i] <;> simp at hc <;> simp [hc]
theorem visitS_aw (all sl : List Evt) (ha : all.length <= 10000) (hs : sl.length <= 500000) {S : St} {κ : Ex -> St -> Prop} {u : Dep κ} (g2 : S.t 2 = evts sl) (g36 : S.t 36 = evts all) (g37 : S.t 37 = iv all.length) (g38 : S.t 38 = iv 0) (g7 : S.t 7 = .nils)
   (hk : ∀ S' v, S'.t 7 = v -> AccIs S' v 262049 5 77 ((awakeV all sl).map Evt.av) -> S'.t 0 = S.t 0 -> S'.t 2 = S.t 2 -> S'.t 4 = S.t 4 -> S'.t 6 = S.t 6 -> S.clk <= S'.clk -> (∀ n, n ≠ 262009 -> S'.blk n = S.blk n) -> (∀ n, n ≠ 262048 -> n ≠ 262049 -> S'.tok n = S.tok n) -> κ (.exit 0) S') : LoopG Tryz.prog visitS_l0 κ S u := by
 have G2 := g2
 refine loopN (fun i S' => S'.t 2 = evts sl /\ S'.t 36 = evts all /\ S'.t 37 = iv all.length /\ S'.t 38 = iv i /\ (∃ v, S'.t 7 = v /\ AccIs S' v 262049 5 77 ((awakeV (all.take i) sl).map Evt.av)) /\ S'.t 0 = S.t 0 /\ S'.t 4 = S.t 4 /\ S'.t 6 = S.t 6 /\ S.clk <= S'.clk /\ (∀ n, n ≠ 262009 -> S'.blk n = S.blk n) /\ (∀ n, n ≠ 262048 -> n ≠ 262049 -> S'.tok n = S.tok n)) all.length ?_ ?_
 . exact ⟨g2, g36, g37, g38, ⟨_, g7, .inl ⟨rfl, by simp [awakeV]⟩⟩, rfl, rfl, rfl, Nat.le_refl _, fun _ _ => rfl, fun _ _ _ => rfl⟩
 . rintro i S' hi ⟨g2, g36, g37, g38, ⟨v, g7, hv⟩, gt0, gt4, gt6, gc, gb, gk⟩
   by_cases hlt : i < all.length
   . have hw := wrap_succ i _ hlt (by omega)
     have htk := awakeV_take all sl i hlt
     have hln : (awakeV (all.take i) sl).length <= 10000 := by
       unfold awakeV
       refine Nat.le_trans (List.length_filter_le _ _) ?_
       simp
       omega
     have hbd : ((awakeV (all.take i) sl).length + 1) * 40 <= 140737488355328 := by omega
     simp [visitS_l0, g2, g36, g37, g38, g7, hlt, evts]
     refine call (contE_pc sl all[i] hs) (by simp [evts, Evt.av]) ?_
     cases hc : sl.contains all[i] with
     | true =>
       rw [hc] at htk
       simp at htk
       simp [g2, g36, g37, g38, g7, hw, htk, evts, gt0, gt4, gt6]
       exact ⟨hv.at rfl, by omega, fun n hn => by simp [hn]; exact gb n hn, gk⟩
     | false =>
       rw [hc] at htk
       simp at htk
       rcases hv with ⟨rfl, q⟩ | ⟨st, rfl, hk2⟩
       . simp at q
         simp [g2, g36, g37, g38, g7, hw, htk, q, evts, gt0, gt4, gt6]
         refine ⟨.inr ⟨_, by simp [Evt.av]; rfl, by simp⟩, by omega, fun n hn => by simp [hn]; exact gb n hn, fun n h1 h2 => by simp [h1, h2]; exact gk n h1 h2⟩
       . simp [g2, g36, g37, g38, g7, hw, htk, hk2, hbd, evts, gt0, gt4, gt6]
         refine ⟨.inr ⟨_, by simp [Evt.av]; rfl, by simp⟩, by omega, fun n hn => by simp [hn]; exact gb n hn, fun n h1 h2 => by simp [h1, h2]; exact gk n h1 h2⟩
   . have e1 : i = all.length := by omega
     subst e1
     rw [List.take_length] at hv
     simp [visitS_l0, g36, g37, g38]
     exact hk _ v (by simp [g7]) hv gt0 (g2.trans G2.symm) gt4 gt6 (by simp only []; omega) gb gk
end Go.Gv
