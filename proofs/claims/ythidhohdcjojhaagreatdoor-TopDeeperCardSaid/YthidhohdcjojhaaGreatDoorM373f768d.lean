/- Texts of this proof, one behind the other. What is proved, and on which conditions, stands ahead of each. -/
import Derived.Test.YthidhohdcjojhaaGreatDoorProg
import Derived.Test.YthidhohdcjojhaaGreatDoorM365d8651
import Derived.Test.YthidhohdcjojhaaGreatDoorM35100a58
import Derived.Test.YthidhohdcjojhaaGreatDoorM300f3f60
import Derived.Test.YthidhohdcjojhaaGreatDoorM340e2edc
import Derived.Test.YthidhohdcjojhaaGreatDoorM32462f5c
import Derived.Test.YthidhohdcjojhaaGreatDoorM1721ebca
import Derived.Test.YthidhohdcjojhaaGreatDoorM33045841
import Derived.Test.YthidhohdcjojhaaGreatDoorM19c0ce97

set_option linter.unusedVariables false
set_option linter.unusedSimpArgs false
namespace Go.Gv
open Go.Proofs
def svalues_r0 : List AI := [oA 1 (.box 287001 1 (.t 0)), oA 2 (.mv (.c .nilf))]
def svalues_r1 : List AI := [oA 3 (.mkf 76 [(.t 1)]), oA 2 (.mv (.t 3))]
def svalues_c : AC := (.seq (.reg svalues_r0) (.seq (.reg svalues_r1) .ret))
def svalues_res : List ARes := [(.tmp 2)]
set_option maxRecDepth 100000 in
theorem svalues_get : getF Tryz.prog 44 287000 [] = some ("slices.Values[[]int,int]", 4, svalues_c, svalues_res) := by kernel_rfl
def scollect_r0 : List AI := [oA 2 (.mv (.c .nils))]
def scollect_r1 : List AI := [oA 3 (.mv (.t 0)), oC 4 (.c (.fn 105 [])) [(.c .nils), (.t 3)], oA 2 (.mv (.t 4))]
def scollect_c : AC := (.seq (.reg scollect_r0) (.seq (.reg scollect_r1) .ret))
def scollect_res : List ARes := [(.tmp 2)]
set_option maxRecDepth 100000 in
theorem scollect_get : getF Tryz.prog 74 288000 [] = some ("slices.Collect[int]", 5, scollect_c, scollect_res) := by kernel_rfl
def ssorted_r0 : List AI := [oA 2 (.mv (.c .nils))]
def ssorted_r1 : List AI := [oA 4 (.mv (.t 0)), oC 5 (.c (.fn 74 [])) [(.t 4)], oA 3 (.mv (.t 5))]
def ssorted_r2 : List AI := [oA 6 (.mv (.t 3)), oC 7 (.c (.fn 75 [])) [(.t 6)]]
def ssorted_r3 : List AI := [oA 8 (.mv (.t 3)), oA 2 (.mv (.t 8))]
def ssorted_c : AC := (.seq (.reg ssorted_r0) (.seq (.reg ssorted_r1) (.seq (.reg ssorted_r2) (.seq (.reg ssorted_r3) .ret))))
def ssorted_res : List ARes := [(.tmp 2)]
set_option maxRecDepth 100000 in
theorem ssorted_get : getF Tryz.prog 43 289000 [] = some ("slices.Sorted[int]", 9, ssorted_c, ssorted_res) := by kernel_rfl
attribute [simp] svalues_r0 svalues_r1 svalues_res scollect_r0 scollect_r1 scollect_res ssorted_r0 ssorted_r1 ssorted_r2 ssorted_r3 ssorted_res
open Go.RowKit
theorem HConc.takeRow {E : Env} {B : Nat} {h : Hp} {w w' : World} (H : HConc E B h w) (hB : B <= w.heap.size) (hbel : Below w.heap.size w w') (nm st sz g : Nat) (hg : w.heap.size <= g) (hs0 : sz ≠ 0) (hst : ¬ E.u st) (es : List AV) (cur : Array Value) (e : TypeId) (hgh : w'.heap[g]? = some (.cells cur e (0, 0)))
   (hel : ∀ x ∈ es, ElemOk sz x) (c : Nat) (hcl : es.length <= c) (hsz : c * sz <= cur.size)
   (hr : ∀ (i : Nat) (x : AV), es[i]? = some x -> ∀ (j : Nat) (y : AV), x.cells[j]? = some y -> ∃ u, cur[i * sz + j]? = some u /\ Rel E y u) :
   HConc (E.withM st (g, 0) c) B (h.setB nm (some ⟨st, sz, es⟩)) w' := by
 have hE := Env.le_withM hst (g, 0) c
 have h1 := H.grow (w' := w') (fun k hk => hbel.block k hk)
 have h2 := h1.env hE h1.K (fun n b x j => (h1.bk n b x).noK j) (fun _ _ _ _ _ _ => rfl)
 have em : (E.withM st (g, 0) c).m st = (g, 0) := upd_same _ _ _
 have ec : (E.withM st (g, 0) c).cp st = c := upd_same _ _ _
 refine (h2.dropB nm).putB ⟨st, sz, es⟩ (.inl rfl) (.row hs0 ⟨?_, hel, by rw [ec]; exact hcl, ?_, ?_⟩) ?_ ?_
 . rw [em]; exact Nat.le_trans hB hg
 . rw [em, ec]
   refine ⟨cur, e, hgh, by simpa using hsz, fun i x hx j y hy => ?_⟩
   obtain ⟨u, hu, hrel⟩ := hr i x hx j y hy
   exact ⟨u, by simpa using hu, hrel.mono hE⟩
 . rw [em]; exact fun j => K_none H hg j
 . intro n b' hn hb'
   rw [hE.m _ (H.bu n b' hb'), em]
   exact fun q => by have := (H.bk n b' hb').lt; rw [q] at this; exact Nat.lt_irrefl _ (Nat.lt_of_lt_of_le this hg)
 . intro n t ht q
   rw [hE.hd _ (H.tu n t ht), em] at q
   exact Nat.lt_irrefl _ (Nat.lt_of_lt_of_le ((H.tk n t ht).lt q).2 hg)
theorem ints_cells {E : Env} {xs : List Int} {v : Value} (h : Rel E (ints xs) v) (hx : xs ≠ []) : ∃ b o cap, v = .slice (some ⟨b, o, none⟩) xs.length cap /\ xs.length <= cap /\ ∀ (j : Nat), j < xs.length -> E.K b (o + j) = some (.int .i64 (xs[j]?.getD 0)) := by
 unfold ints at h
 generalize hy : xs.map iv = ys at h
 cases h with
 | lst0 _ a cap => simp at hy; exact absurd hy hx
 | lst _ b o _ cap f hcap hsz hk h1 hr =>
   subst hy
   refine ⟨b, o, cap, by simp, by simpa using hcap, fun j hj => ?_⟩
   have e1 := hk j 0 (by simpa using hj) (by decide)
   have e2 := hr j (iv xs[j]) (by simp [hj]) 0 _ rfl
   have e3 := rel_int e2
   rw [e3] at e1
   have : o + j * 1 + 0 = o + j := by omega
   rw [this] at e1
   simpa [hj] using e1
theorem appseq_v (nmB stB : Nat) (x : AV) (zs : List Int) (hz : zs ≠ []) (hl : zs.length <= 1000) (hx1 : x.one = true) (hx : ∀ (E : Env) (v : Value), Rel E x v -> Rel E (ints zs) v) {S : St} {k : AV -> St -> Prop} {u : Dep k} (hb : S.blk nmB = some ⟨stB, 1, [x]⟩) (hxc : x.cells = [x])
   (hk : ∀ S' v, S'.t = S.t -> S'.tok = S.tok -> S.clk <= S'.clk -> (∀ n, n ≠ 290001 -> S'.blk n = S.blk n) -> MutIs S' 290001 1 v (zs.map iv) -> k v S') :
   CallG Tryz.prog (.fn 105 []) [.nils, .fn 76 [.ptr nmB stB 1 0 0]] S k u := by
 refine ⟨105, [], rfl, entersF 105 _ Tryz.func105 (by kernel_rfl) (by kernel_rfl), fun E B W w args H hW hG hu hsz hrel => ?_⟩
 have hB' : B <= w.heap.size := Nat.le_trans hG.le hW.size
 obtain ⟨v0, v1, rfl⟩ := args2 (by simpa using hsz)
 obtain rfl := (hrel 0 _ v0 rfl rfl).nils_inv
 have r1 := hrel 1 _ v1 rfl rfl
 have hb' : S.h.blk nmB = some ⟨stB, 1, [x]⟩ := hb
 have hbk := H.bk nmB _ hb'
 have hlt := hbk.lt
 obtain ⟨cur, ty, hh, hszr, hr⟩ := (hbk.r (by simp)).row
 obtain ⟨u0, hu1, hu2⟩ := hr 0 x rfl 0 x (by rw [hxc]; rfl)
 simp only [Nat.zero_mul, Nat.add_zero] at hu1 hh hlt
 obtain ⟨b, o, cap, rfl, hcap, hcs⟩ := ints_cells (hx E u0 hu2) hz
 obtain rfl : v1 = .func (.func 76) #[] #[.pointer (some ⟨(E.m stB).1, (E.m stB).2, none⟩)] := by
   cases r1 with
   | fn _ _ vs hs hr =>
     obtain ⟨q, rfl⟩ := args1 (args := vs) (by simpa using hs.symm)
     have := rel_ptr (hr 0 _ q rfl rfl)
     rw [this.1]
     simp
 have hbx : w.cell? ⟨(E.m stB).1, (E.m stB).2, none⟩ = some (.slice (some ⟨b, o, none⟩) zs.length cap) := by
   rw [cell_row hh]; exact hu1
 have hcw : ∀ j, j < zs.length -> w.cell? ⟨b, o + j, none⟩ = some (.int .i64 (zs[j]?.getD 0)) := fun j hj => H.K _ _ _ (hcs j hj)
 have hbl : b < w.heap.size := by
   have h0 : 0 < zs.length := Nat.pos_of_ne_zero fun q => hz (List.length_eq_zero_iff.1 q)
   exact World.block_lt_of_cell? w _ (hcw 0 h0)
 have hcon := (appSeq_in (E.m stB).1 (E.m stB).2 b o cap zs hl w hlt hbl hbx hcw).calls (fun k => room_wide k)
 refine hcon.mono ?_
 rintro e w' ⟨v, rfl, hrow, hnil, hbel⟩
 rcases hrow.2 with ⟨rfl, hq⟩ | ⟨g, cap2, cur2, rfl, hg1, hg2, hg3, hg4, hg5, hg6⟩
 . exact absurd (List.length_eq_zero_iff.1 hq) hz
 have hst : ¬ E.u S.clk := fun q => by have := hu _ q; omega
 have H2 := H.takeRow hB' hbel 290001 S.clk 1 g hg1 (by simp) hst (zs.map iv) cur2 _ hg2 (by
     intro y hy
     obtain ⟨z, _, rfl⟩ := List.mem_map.1 hy
     exact ⟨rfl, by simp [AV.cells, AV.one]⟩) cap2 (by simpa using hg3) (by rw [hg5]; exact Nat.le_refl _) (by
     intro i y hy j z hz'
     rw [List.getElem?_map, Option.map_eq_some_iff] at hy
     obtain ⟨q, hq, rfl⟩ := hy
     match j, hz' with
     | 0, hz' =>
       cases hz'
       refine ⟨.int .i64 q, ?_, .int _ _⟩
       have hil := (List.getElem?_eq_some_iff.1 hq).1
       have : (cur2.toList.take (zs.length * 1))[i]? = some (.int .i64 q) := by rw [hg6, List.getElem?_map, hq]; rfl
       rw [List.getElem?_take, if_pos (by omega)] at this
       simpa using this
     | j + 1, hz' => simp [AV.cells] at hz')
 refine ⟨_, _, .sl 290001 S.clk 1 0 zs.length, ⟨S.t, upd S.blk 290001 (some ⟨S.clk, 1, zs.map iv⟩), S.tok, S.clk + 1⟩, rfl, Env.le_withM hst (g, 0) cap2, H2, hW.trans (hbel.mono hB'), fun _ _ _ => rfl, fun s hs => ?_, Nat.le_succ _, rfl, ?_, ?_⟩
 . rcases hs with q | q
   . subst q; exact ⟨.inr (Nat.le_refl _), Nat.lt_succ_self _⟩
   . exact ⟨.inl q, Nat.lt_succ_of_lt (hu s q)⟩
 . have em : (E.withM S.clk (g, 0) cap2).m S.clk = (g, 0) := upd_same _ _ _
   have ec : (E.withM S.clk (g, 0) cap2).cp S.clk = cap2 := upd_same _ _ _
   exact .sl 290001 S.clk 1 0 zs.length cap2 _ (.inl rfl) hg3 (by rw [ec]; omega) (fun _ => by rw [em])
 . exact hk _ _ rfl rfl (Nat.le_succ _) (fun n hn => by simp [hn]) (.inr ⟨S.clk, by simp, by simp⟩)
theorem values_v (x : AV) (hx1 : x.one = true) (hxc : x.cells = [x]) {S : St} {k : AV -> St -> Prop} {u : Dep k}
   (hk : ∀ S' st, S'.t = S.t -> S'.tok = S.tok -> S.clk <= S'.clk -> (∀ n, n ≠ 287001 -> S'.blk n = S.blk n) -> S'.blk 287001 = some ⟨st, 1, [x]⟩ -> k (.fn 76 [.ptr 287001 st 1 0 0]) S') :
   CallG Tryz.prog (.fn 44 []) [x] S k u := by
 refine callV svalues_get (by simp) (by simp) ?_
 unfold svalues_c
 simp [hx1, hxc]
 exact hk _ _ rfl rfl (by simp only []; omega) (fun n hn => by simp [hn]) (by simp)
theorem sorted_v (nmB stB : Nat) (hnm : nmB ≠ 290001) (x : AV) (zs : List Int) (hz : zs ≠ []) (hl : zs.length <= 1000) (hx1 : x.one = true) (hx : ∀ (E : Env) (v : Value), Rel E x v -> Rel E (ints zs) v) {S : St} {k : AV -> St -> Prop} {u : Dep k} (hb : S.blk nmB = some ⟨stB, 1, [x]⟩) (hxc : x.cells = [x])
   (hk : ∀ S' v, S'.t = S.t -> S'.tok = S.tok -> S.clk <= S'.clk -> (∀ n, n ≠ 290001 -> S'.blk n = S.blk n) -> MutIs S' 290001 1 v ((zs.mergeSort fun x y => decide (x <= y)).map iv) -> k v S') :
   CallG Tryz.prog (.fn 43 []) [.fn 76 [.ptr nmB stB 1 0 0]] S k u := by
 refine callV ssorted_get (by simp) (by simp) ?_
 unfold ssorted_c
 simp
 refine callV scollect_get (by simp) (by simp) ?_
 unfold scollect_c
 simp
 refine appseq_v nmB stB x zs hz hl hx1 hx (by simpa using hb) hxc (fun S1 v q1 q2 q3 q4 q5 => ?_)
 have hzl : 0 < zs.length := Nat.pos_of_ne_zero fun q => hz (List.length_eq_zero_iff.1 q)
 rcases q5 with ⟨_, q⟩ | ⟨st, rfl, b5⟩
 . simp at q; exact absurd q hz
 simp [q1]
 refine sort_v 290001 st (zs.map iv) zs hzl (by omega) (fun j h => by simp [h]) b5 ?_
 simp
 refine hk _ _ rfl q2 (by simp at q3; simp only []; omega) (fun n hn => ?_) (.inr ⟨st, by simp, by simp⟩)
 simp [hn]
 exact q4 n hn
end Go.Gv

namespace Go.Gv
open Go.Proofs
def zreg_r0 : List AI := [oA 2 (.new 291002 2 (.agg [(.int .i64 0), (.int .i64 0)]))]
def zreg_r1 : List AI := [oA 3 (.mv (.t 0)), oA 4 (.build [(.int .i64 0), (.int .i64 0)] [(0, (1, (.c (.int .i64 31)))), (1, (1, (.t 3)))]), oN (.store 2 (.t 2) (.t 4))]
def zreg_c : AC := (.seq (.reg zreg_r0) (.seq (.reg zreg_r1) .ret))
def zreg_res : List ARes := [(.cell (some 2) 2)]
set_option maxRecDepth 100000 in
theorem zreg_get : getF Tryz.prog 49 291000 [] = some ("gavotte/models.reg", 5, zreg_c, zreg_res) := by kernel_rfl
def zop_r0 : List AI := [oA 2 (.new 292002 2 (.agg [(.int .i64 0), (.int .i64 0)]))]
def zop_r1 : List AI := [oA 3 (.mv (.t 0)), oA 4 (.build [(.int .i64 0), (.int .i64 0)] [(0, (1, (.t 3)))]), oN (.store 2 (.t 2) (.t 4))]
def zop_c : AC := (.seq (.reg zop_r0) (.seq (.reg zop_r1) .ret))
def zop_res : List ARes := [(.cell (some 2) 2)]
set_option maxRecDepth 100000 in
theorem zop_get : getF Tryz.prog 50 292000 [] = some ("gavotte/models.op", 5, zop_c, zop_res) := by kernel_rfl
def znum_r0 : List AI := [oA 2 (.new 293002 2 (.agg [(.int .i64 0), (.int .i64 0)]))]
def znum_r1 : List AI := [oA 3 (.mv (.t 0)), oA 4 (.build [(.int .i64 0), (.int .i64 0)] [(0, (1, (.c (.int .i64 1)))), (1, (1, (.t 3)))]), oN (.store 2 (.t 2) (.t 4))]
def znum_c : AC := (.seq (.reg znum_r0) (.seq (.reg znum_r1) .ret))
def znum_res : List ARes := [(.cell (some 2) 2)]
set_option maxRecDepth 100000 in
theorem znum_get : getF Tryz.prog 52 293000 [] = some ("gavotte/models.number", 5, znum_c, znum_res) := by kernel_rfl
def zprog_r0 : List AI := [oA 6 (.new 294006 4 (.agg [.nils, .nils, .nils, (.int .i64 0)]))]
def zprog_r1 : List AI := [oA 9 (.mv (.t 0)), oA 10 (.mv (.t 1)), oA 11 (.build [.nils, .nils, .nils, (.int .i64 0)] [(0, (1, (.t 9))), (1, (1, (.t 10))), (3, (1, (.c (.int .i64 64))))]), oA 7 (.new 294007 4 (.agg [.nils, .nils, .nils, (.int .i64 0)])), oN (.store 4 (.t 7) (.t 11))]
def zprog_r2 : List AI := [oA 12 (.mv (.t 2)), oA 13 (.mv (.c (.int .i64 0)))]
def zprog_r3 : List AI := [oA 14 (.ibin .lss (.t 13) (.t 12))]
def zprog_r4 : List AI := [oA 15 (.mv (.t 13)), oA 8 (.mv (.t 15))]
def zprog_r5 : List AI := [oA 16 (.fld 2 (.t 7)), oA 17 (.load none (.t 16)), oA 18 (.mv (.t 8)), oA 19 (.build [(.int .i64 0), (.int .i64 0), .nils] [(0, (1, (.t 18)))]), oA 20 (.bsl 294020 3 58 1 (.agg [(.int .i64 0), (.int .i64 0), .nils]) [(0, (.t 19))]), oA 21 (.app 294021 3 58 40 (.t 17) (.t 20)), oA 22 (.fld 2 (.t 7)), oN (.store 1 (.t 22) (.t 21))]
def zprog_r6 : List AI := [oA 23 (.ibin .add (.t 13) (.c (.int .i64 1))), oA 13 (.mv (.t 23))]
def zprog_l0 : AC := (.seq (.reg zprog_r3) (.seq (.cond (.t 14) .skip (.exit 0)) (.seq (.block 1 (.seq (.reg zprog_r4) (.reg zprog_r5))) (.reg zprog_r6))))
def zprog_r7 : List AI := [oA 24 (.load (some 4) (.t 7)), oN (.store 4 (.t 6) (.t 24))]
def zprog_c : AC := (.seq (.reg zprog_r0) (.seq (.reg zprog_r1) (.seq (.seq (.reg zprog_r2) (.block 0 (.loop zprog_l0))) (.seq (.reg zprog_r7) .ret))))
def zprog_res : List ARes := [(.cell (some 4) 6)]
set_option maxRecDepth 100000 in
theorem zprog_get : getF Tryz.prog 51 294000 [] = some ("gavotte/models.program", 25, zprog_c, zprog_res) := by kernel_rfl
def zring_r0 : List AI := [oA 2 (.new 295002 4 (.agg [.nils, .nils, .nils, (.int .i64 0)])), oA 3 (.mv (.c .nils)), oA 4 (.mv (.c (.int .i64 0)))]
def zring_r1 : List AI := [oA 13 (.mv (.t 0)), oA 14 (.len (.t 13)), oA 5 (.mv (.t 14))]
def zring_r2 : List AI := [oA 15 (.mv (.t 0)), oC 16 (.c (.fn 44 [])) [(.t 15)], oC 17 (.c (.fn 43 [])) [(.t 16)], oA 6 (.mv (.t 17))]
def zring_r3 : List AI := [oA 18 (.mv (.t 5)), oA 19 (.ibin .lss (.t 18) (.c (.int .i64 2))), oA 20 (.mv (.t 19)), oG 21 20 false (.mv (.t 5)), oG 22 20 false (.ibin .gtr (.t 21) (.c (.int .i64 8))), oA 23 (.pick (.t 20) (.c (.bool true)) (.t 22)), oA 24 (.mv (.t 23)), oG 25 24 false (.mv (.t 6)), ⟨(some 26), (some (24, false)), (.call (.c (.fn 45 [])) [(.t 25)])⟩, oG 27 24 false (.len (.t 26)), oG 28 24 false (.mv (.t 5)), oG 29 24 false (.ibin .neq (.t 27) (.t 28)), oA 30 (.pick (.t 24) (.c (.bool true)) (.t 29))]
def zring_r4 : List AI := [oC 31 (.c (.fn 46 [])) [], oA 32 (.ext (.t 31) 0), oA 33 (.ext (.t 31) 1), oA 34 (.ext (.t 31) 2), oN (.store 4 (.t 2) (.t 32)), oA 3 (.mv (.t 33)), oA 4 (.mv (.t 34))]
def zring_r5 : List AI := [oA 35 (.mv (.t 5)), oA 36 (.bsl 295036 1 3 1 (.int .i64 0) [(0, (.t 35))]), oC 37 (.c (.fn 47 [])) [(.c (.str ⟨#[115, 101, 108, 102, 59, 32, 112, 117, 115, 104, 32, 49, 59, 32, 97, 100, 100, 59, 32, 112, 117, 115, 104, 32, 42, 59, 32, 109, 111, 100, 59, 32, 115, 101, 110, 100, 32, 49]⟩)), (.t 36)], oA 7 (.mv (.t 37))]
def zring_r6 : List AI := [oA 38 (.mv (.t 7)), oA 39 (.bsl 295039 1 9 2 (.str ⟨#[]⟩) [(0, (.c (.str ⟨#[108, 111, 97, 100, 32, 48]⟩))), (1, (.t 38))]), oC 40 (.c (.fn 48 [])) [(.c (.int .i64 0)), (.t 39)], oA 41 (.mv (.t 7)), oA 42 (.bsl 295042 1 9 2 (.str ⟨#[]⟩) [(0, (.c (.str ⟨#[97, 114, 103, 32, 48, 59, 32, 108, 111, 97, 100, 32, 48, 59, 32, 101, 113, 59, 32, 122, 101, 114, 111, 32, 55, 59, 32, 112, 117, 115, 104, 32, 49, 59, 32, 115, 116, 111, 114, 101, 32, 49, 59, 32, 101, 110, 100, 59, 32, 108, 111, 97, 100, 32, 48, 59, 32, 97, 114, 103, 32, 48, 59, 32, 108, 101, 115, 115, 59, 32, 122, 101, 114, 111, 32, 49, 56, 59, 32, 97, 114, 103, 32, 48]⟩))), (1, (.t 41))]), oC 43 (.c (.fn 48 [])) [(.c (.int .i64 1)), (.t 42)], oA 44 (.bslm 1000295044 2 52 2 (.agg [(.int .i64 0), .nils]) [(0, (.t 40)), (1, (.t 43))]), oA 8 (.mv (.t 44))]
def zring_r7 : List AI := [oA 9 (.mv (.c .nils))]
def zring_r8 : List AI := [oC 45 (.c (.fn 49 [])) [(.c (.int .i64 1))], oA 46 (.bsl 295079 2 49 1 (.agg [(.int .i64 0), (.int .i64 0)]) [(0, (.t 45))]), oA 10 (.mv (.t 46))]
def zring_r9 : List AI := [oA 47 (.mv (.t 0)), oA 48 (.len (.t 47)), oA 49 (.mv (.c (.int .i64 0)))]
def zring_r10 : List AI := [oA 50 (.ibin .lss (.t 49) (.t 48))]
def zring_r11 : List AI := [oA 51 (.mv (.t 49)), oA 52 (.idx 1 (.t 47) (.t 49)), oA 53 (.load none (.t 52)), oA 11 (.mv (.t 51)), oA 12 (.mv (.t 53))]
def zring_r12 : List AI := [oA 54 (.mv (.t 9)), oA 55 (.mv (.t 12)), oA 56 (.bsl 295056 1 3 2 (.int .i64 0) [(0, (.t 55)), (1, (.c (.int .i64 0)))]), oA 57 (.build [.nils, (.int .i64 0), (.int .i64 0), (.bool false)] [(0, (1, (.t 56))), (1, (1, (.c (.int .i64 8)))), (2, (1, (.c (.int .i64 (-1)))))]), oA 58 (.bsl 295058 4 56 1 (.agg [.nils, (.int .i64 0), (.int .i64 0), (.bool false)]) [(0, (.t 57))]), oA 59 (.app 295059 4 56 48 (.t 54) (.t 58)), oA 9 (.mv (.t 59))]
def zring_r13 : List AI := [oA 60 (.mv (.t 11)), oA 61 (.ibin .gtr (.t 60) (.c (.int .i64 0)))]
def zring_r14 : List AI := [oA 62 (.mv (.t 10)), oA 63 (.mv (.t 11)), oA 64 (.ibin .mul (.c (.int .i64 16)) (.t 63)), oA 65 (.ibin .add (.t 64) (.c (.int .i64 1))), oC 66 (.c (.fn 49 [])) [(.t 65)], oC 67 (.c (.fn 50 [])) [(.c (.int .i64 9))], oA 68 (.bsl 295068 2 49 2 (.agg [(.int .i64 0), (.int .i64 0)]) [(0, (.t 66)), (1, (.t 67))]), oA 69 (.app 295079 2 49 16 (.t 62) (.t 68)), oA 10 (.mv (.t 69))]
def zring_r15 : List AI := [oA 70 (.ibin .add (.t 49) (.c (.int .i64 1))), oA 49 (.mv (.t 70))]
def zring_l0 : AC := (.seq (.reg zring_r10) (.seq (.cond (.t 50) .skip (.exit 0)) (.seq (.block 1 (.seq (.reg zring_r11) (.seq (.reg zring_r12) (.seq (.reg zring_r13) (.cond (.t 61) (.reg zring_r14) .skip))))) (.reg zring_r15))))
def zring_r16 : List AI := [oA 71 (.mv (.t 8)), oA 72 (.mv (.t 9)), oA 73 (.mv (.t 5)), oC 74 (.c (.fn 51 [])) [(.t 71), (.t 72), (.t 73)], oA 75 (.mv (.t 10)), oC 76 (.c (.fn 52 [])) [(.c (.int .i64 2))], oC 77 (.c (.fn 50 [])) [(.c (.int .i64 16))], oA 78 (.bsl 295078 2 49 2 (.agg [(.int .i64 0), (.int .i64 0)]) [(0, (.t 76)), (1, (.t 77))]), oA 79 (.app 295079 2 49 16 (.t 75) (.t 78)), oA 80 (.bsl 295080 1 53 1 .nils [(0, (.t 79))]), oN (.store 4 (.t 2) (.t 74)), oA 3 (.mv (.t 80)), oA 4 (.mv (.c (.int .i64 0)))]
def zring_c : AC := (.seq (.reg zring_r0) (.seq (.reg zring_r1) (.seq (.reg zring_r2) (.seq (.seq (.reg zring_r3) (.cond (.t 30) (.seq (.reg zring_r4) .ret) .skip)) (.seq (.reg zring_r5) (.seq (.reg zring_r6) (.seq (.reg zring_r7) (.seq (.reg zring_r8) (.seq (.seq (.reg zring_r9) (.block 0 (.loop zring_l0))) (.seq (.reg zring_r16) .ret))))))))))
def zring_res : List ARes := [(.cell (some 4) 2), (.tmp 3), (.tmp 4)]
set_option maxRecDepth 100000 in
theorem zring_get : getF Tryz.prog 24 295000 [(44, 1000000044), (46, 79), (69, 79)] = some ("gavotte/models.Ring", 81, zring_c, zring_res) := by kernel_rfl
def zodd_r0 : List AI := [oA 4 (.box 296004 4 (.t 0)), oA 8 (.new 296008 4 (.agg [.nils, .nils, .nils, (.int .i64 0)]))]
def zodd_r1 : List AI := [oA 10 (.mv (.t 3)), oA 11 (.bsl 296011 1 9 1 (.str ⟨#[]⟩) [(0, (.t 10))]), oC 12 (.c (.fn 48 [])) [(.c (.int .i64 0)), (.t 11)], oA 13 (.getf none 1 (.t 12)), oA 9 (.mv (.t 13))]
def zodd_r2 : List AI := [oA 14 (.fld 0 (.t 4)), oA 15 (.load none (.t 14)), oA 16 (.mv (.t 1)), oA 17 (.fld 0 (.t 4)), oA 18 (.load none (.t 17)), oA 19 (.mv (.t 1)), oA 20 (.idx 2 (.t 18) (.t 19)), oA 21 (.fld 1 (.t 20)), oA 22 (.load none (.t 21)), oA 23 (.mv (.t 2)), oA 24 (.mv (.t 2)), oA 25 (.mv (.t 9)), oA 26 (.len (.t 25)), oA 27 (.ibin .add (.t 24) (.t 26)), oA 28 (.mv (.t 9)), oC 29 (.c (.fn 53 [])) [(.t 22), (.t 23), (.t 27), (.t 28)], oA 30 (.idx 2 (.t 15) (.t 16)), oA 31 (.fld 1 (.t 30)), oN (.store 1 (.t 31) (.t 29))]
def zodd_p2 : List (List Nat) := [[], [0], [], [], [3], [], [4, 5, 3], [6, 4, 5, 3], [7, 6, 4, 5, 3], [], [], [], [11], [10, 12, 11], [], [8, 9, 13, 14, 7, 6, 4, 5, 3, 10, 12, 11], [1, 2, 0, 3, 4, 5, 6, 7, 8, 9, 10, 11, 12, 13, 14, 15], [16, 0, 1, 2, 3, 4, 5, 6, 7, 8, 9, 10, 11, 12, 13, 14, 15], [17, 15, 0, 1, 2, 3, 4, 5, 6, 7, 8, 9, 10, 11, 12, 13, 14, 16]]
def zodd_r3 : List AI := [oA 32 (.load (some 4) (.t 4)), oN (.store 4 (.t 8) (.t 32))]
def zodd_c : AC := (.seq (.reg zodd_r0) (.seq (.reg zodd_r1) (.seq (.regi zodd_r2 zodd_p2) (.seq (.reg zodd_r3) .ret))))
def zodd_res : List ARes := [(.cell (some 4) 8)]
set_option maxRecDepth 100000 in
theorem zodd_get : getF Tryz.prog 25 296000 [(2000002, 1)] = some ("gavotte/models.odd", 33, zodd_c, zodd_res) := by kernel_rfl
attribute [simp] zreg_r0 zreg_r1 zreg_res zop_r0 zop_r1 zop_res znum_r0 znum_r1 znum_res zprog_r0 zprog_r1 zprog_r2 zprog_r3 zprog_r4 zprog_r5 zprog_r6 zprog_r7 zprog_res zring_r0 zring_r1 zring_r2 zring_r3 zring_r4 zring_r5 zring_r6 zring_r7 zring_r8 zring_r9 zring_r10 zring_r11 zring_r12 zring_r13 zring_r14 zring_r15 zring_r16 zring_res zodd_r0 zodd_r1 zodd_r2 zodd_p2 zodd_r3 zodd_res
open Go.RowKit Go.Shelf
theorem zreg_pc (n : Int) : PC Tryz.prog 49 [iv n] (.agg [iv 31, iv n]) := by
 refine pc_of_get zreg_get (by simp) _ (by simp) _ ?_
 unfold zreg_c
 simp
theorem zop_pc (n : Int) : PC Tryz.prog 50 [iv n] (.agg [iv n, iv 0]) := by
 refine pc_of_get zop_get (by simp) _ (by simp) _ ?_
 unfold zop_c
 simp
theorem znum_pc (n : Int) : PC Tryz.prog 52 [iv n] (.agg [iv 1, iv n]) := by
 refine pc_of_get znum_get (by simp) _ (by simp) _ ?_
 unfold znum_c
 simp
def boot2 : List AV := [.agg [iv 0, iv 0, .nils], .agg [iv 1, iv 0, .nils]]
theorem zprog_v (h a : AV) (h1 : h.one = true) (h2 : h.cells = [h]) (a1 : a.one = true) (a2 : a.cells = [a]) {S : St} {k : AV -> St -> Prop} {u : Dep k}
   (hk : ∀ S' st, S'.t = S.t -> S.clk <= S'.clk -> (∀ n, n ≠ 294006 -> n ≠ 294007 -> S'.blk n = S.blk n) -> (∀ n, n ≠ 294020 -> n ≠ 294021 -> S'.tok n = S.tok n) -> k (.agg [h, a, .acc 294021 st 3 boot2, iv 64]) S') :
   CallG Tryz.prog (.fn 51 []) [h, a, iv 2] S k u := by
 refine callV zprog_get (by simp) (by simp) ?_
 unfold zprog_c
 simp [h1, h2, a1, a2]
 refine loopN (fun i S' => S'.t 12 = iv 2 /\ S'.t 13 = iv i /\ (∃ s6, S'.t 6 = .ptr 294006 s6 4 0 0 /\ S'.blk 294006 = some ⟨s6, 4, [.agg [.nils, .nils, .nils, iv 0]]⟩) /\ (∃ s7 b, S'.t 7 = .ptr 294007 s7 4 0 0 /\ S'.blk 294007 = some ⟨s7, 4, [.agg [h, a, b, iv 64]]⟩ /\ ((i = 0 /\ b = .nils) \/ 0 < i /\ ∃ st, b = .acc 294021 st 3 (boot2.take i) /\ S'.tok 294021 = some ⟨st, 3, 58⟩)) /\
   S.clk <= S'.clk /\ (∀ n, n ≠ 294006 -> n ≠ 294007 -> S'.blk n = S.blk n) /\ (∀ n, n ≠ 294020 -> n ≠ 294021 -> S'.tok n = S.tok n)) 2 ?_ ?_
 . exact ⟨by simp, by simp, ⟨_, by simp; rfl, by simp⟩, ⟨_, .nils, by simp; rfl, by simp, .inl ⟨rfl, rfl⟩⟩, by simp only []; omega, fun n q1 q2 => by simp [q1, q2], fun n _ _ => rfl⟩
 . rintro i S' hi ⟨g12, g13, ⟨s6, g6, b6⟩, ⟨s7, b, g7, b7, hb⟩, gc, gb, gk⟩
   have hi2 : i = 0 \/ i = 1 \/ i = 2 := by omega
   rcases hi2 with rfl | rfl | rfl
   . rcases hb with ⟨_, rfl⟩ | ⟨h0, _⟩
     . simp [zprog_l0, g12, g13, g6, b6, g7, b7, h1, h2, a1, a2, wrap1]
       refine ⟨rfl, by omega, fun n q1 q2 => by simp [q1, q2]; exact gb n q1 q2, fun n q1 q2 => by simp [q1, q2]; exact gk n q1 q2⟩
     . omega
   . rcases hb with ⟨h0, _⟩ | ⟨_, st, rfl, ht⟩
     . omega
     . have hw : IntKind.i64.wrap 2 = 2 := by decide
       have hbl : (min 1 boot2.length + 1) * 40 <= 140737488355328 := by decide
       simp [zprog_l0, g12, g13, g6, b6, g7, b7, h1, h2, a1, a2, ht, hw, hbl]
       refine ⟨rfl, by omega, fun n q1 q2 => by simp [q1, q2]; exact gb n q1 q2, fun n q1 q2 => by simp [q1, q2]; exact gk n q1 q2⟩
   . rcases hb with ⟨h0, _⟩ | ⟨_, st, rfl, ht⟩
     . omega
     . simp [zprog_l0, g12, g13, g6, b6, g7, b7, h1, h2, a1, a2]
       have := hk ⟨S.t, upd S'.blk 294006 (some ⟨s6, 4, [.agg [h, a, .acc 294021 st 3 (List.take 2 boot2), iv 64]]⟩), S'.tok, S'.clk + 1 + 2⟩ st rfl (by simp only []; omega) (fun n q1 q2 => by simp [q1]; exact gb n q1 q2) gk
       exact this
def cs2 : List AV := xs2.map Ins.av
def tbo (s4 sh sc : Nat) (h : AV) : List (Nat × AV) := [(14, .ptr 296004 s4 4 0 0), (15, h), (16, iv 1), (17, .ptr 296004 s4 4 0 0), (18, h), (19, iv 1), (20, .ptr 1000295044 sh 2 1 0), (21, .ptr 1000295044 sh 2 1 1), (22, .sl 1000284031 sc 2 0 18), (23, iv 7), (24, iv 7), (25, .lst 2 cs2), (26, iv 3), (27, iv 10), (28, .lst 2 cs2), (29, .sl 1000284031 sc 2 0 18)]
theorem odd_draw (s4 sh sc st : Nat) (h0 a b : AV) (hcl0 : h0.one = true) (c0 : AV) {S : St} {k : St -> Prop} {u : Dep k}
   (g4 : S.t 4 = .ptr 296004 s4 4 0 0) (b4 : S.blk 296004 = some ⟨s4, 4, [.agg [.sl 1000295044 sh 2 0 2, a, b, iv 64]]⟩) (bh : S.blk 1000295044 = some ⟨sh, 2, [c0, .agg [iv 1, .sl 1000284031 sc 2 0 18]]⟩) (bc : S.blk 1000284031 = some ⟨sc, 2, xs1.map Ins.av⟩)
   (g1 : S.t 1 = iv 1) (g2 : S.t 2 = iv 7) (g9 : S.t 9 = .lst 2 cs2)
   (hk : ∀ S', (∀ x, x < 14 \/ 31 < x -> S'.t x = S.t x) -> S'.tok = S.tok -> (∀ n, n ≠ 1000295044 -> n ≠ 1000284031 -> S'.blk n = S.blk n) -> S'.blk 1000295044 = some ⟨sh, 2, [c0, .agg [iv 1, .sl 1000284031 sc 2 0 18]]⟩ -> S'.blk 1000284031 = some ⟨sc, 2, (xs1.map Ins.av).take 7 ++ cs2 ++ (xs1.map Ins.av).drop 10⟩ -> k S') :
   regIG Tryz.prog zodd_p2 st zodd_r2 S k u := by
 refine regi_cut (zodd_r2.take 16) (zodd_r2.drop 16) rfl (by rfl) ?_
 obtain ⟨tbl, htb⟩ : ∃ tbl : List (Nat × AV), tbl = tbo s4 sh sc (.sl 1000295044 sh 2 0 2) := ⟨_, rfl⟩
 have hnd : (tbl.map (·.1)).Nodup := by simp [htb, tbo]
 obtain ⟨new, hnew⟩ : ∃ new, new = (xs1.map Ins.av).take 7 ++ cs2 ++ (xs1.map Ins.av).drop 10 := ⟨_, rfl⟩
 obtain ⟨I, hI⟩ : ∃ I : (Nat -> Bool) -> St -> Prop, ∀ D S', I D S' ↔ (SF tbl D S' /\ (∀ x, x < 14 \/ 29 < x -> S'.t x = S.t x) /\ S'.tok = S.tok /\ (D 15 = false -> S'.blk = S.blk) /\ (D 15 = true -> (∀ n, n ≠ 1000284031 -> S'.blk n = S.blk n) /\ S'.blk 1000284031 = some ⟨sc, 2, new⟩)) := ⟨_, fun _ _ => Iff.rfl⟩
 show regI _ _ _ _ _ _
 refine ⟨I, (hI _ _).2 ⟨SF.start _ _, fun _ _ => rfl, rfl, fun _ => rfl, by simp⟩, ?_, ?_⟩
 . rintro D S' j ai hj hDj hpre hcl hi
   obtain ⟨hsf, ht, hk1, h15f, h15t⟩ := (hI _ _).1 hi
   have stp : ∀ (j d : Nat) (val : AV) (op : AOp) (st' : Nat), tbl[j]? = some (d, val) -> j ≠ 15 -> 14 <= d -> d <= 29 -> ex S'.t S'.blk S'.tok st' op = some { v := val } -> stepV Tryz.prog st' ⟨some d, none, .op op⟩ S' (I (fun i => (i == j) || D i)) := by
     intro j d val op st' hj m15 d0 d1 he
     have e15 : (15 == j) = false := by simp; omega
     refine stepV_op _ he ((hI _ _).2 ⟨hsf.ins hnd hj (upd_same _ _ _) (fun y hy => upd_ne _ _ _ _ hy), fun x hx => (upd_ne _ _ _ _ (by omega)).trans (ht x hx), hk1, fun q => h15f ?_, fun q => h15t ?_⟩)
     . simpa [e15] using q
     . simpa [e15] using q
   have t4 := (ht 4 (.inl (by omega))).trans g4
   have t1 := (ht 1 (.inl (by omega))).trans g1
   have t2 := (ht 2 (.inl (by omega))).trans g2
   have t9 := (ht 9 (.inl (by omega))).trans g9
   have hb4 : S'.blk 296004 = some ⟨s4, 4, [.agg [.sl 1000295044 sh 2 0 2, a, b, iv 64]]⟩ := by
     cases hx : D 15 with
     | false => rw [h15f hx]; exact b4
     | true => rw [(h15t hx).1 _ (by simp)]; exact b4
   have hbh : S'.blk 1000295044 = some ⟨sh, 2, [c0, .agg [iv 1, .sl 1000284031 sc 2 0 18]]⟩ := by
     cases hx : D 15 with
     | false => rw [h15f hx]; exact bh
     | true => rw [(h15t hx).1 _ (by simp)]; exact bh
   match j, hj, hDj, hpre with
   | 0, hj, hDj, hpre =>
     simp at hj; subst hj
     exact stp 0 14 _ _ _ (by simp [htb, tbo]; rfl) (by simp) (by simp) (by simp) (by simp [t4])
   | 1, hj, hDj, hpre =>
     simp at hj hpre; subst hj
     exact stp 1 15 _ _ _ (by simp [htb, tbo]; rfl) (by simp) (by simp) (by simp) (by simp [hsf 0 14 _ (by simp [htb, tbo]; rfl) hpre, hb4])
   | 2, hj, hDj, hpre =>
     simp at hj; subst hj
     exact stp 2 16 _ _ _ (by simp [htb, tbo]; rfl) (by simp) (by simp) (by simp) (by simp [t1])
   | 3, hj, hDj, hpre =>
     simp at hj; subst hj
     exact stp 3 17 _ _ _ (by simp [htb, tbo]; rfl) (by simp) (by simp) (by simp) (by simp [t4])
   | 4, hj, hDj, hpre =>
     simp at hj hpre; subst hj
     exact stp 4 18 _ _ _ (by simp [htb, tbo]; rfl) (by simp) (by simp) (by simp) (by simp [hsf 3 17 _ (by simp [htb, tbo]; rfl) hpre, hb4])
   | 5, hj, hDj, hpre =>
     simp at hj; subst hj
     exact stp 5 19 _ _ _ (by simp [htb, tbo]; rfl) (by simp) (by simp) (by simp) (by simp [t1])
   | 6, hj, hDj, hpre =>
     simp at hj hpre; subst hj
     exact stp 6 20 _ _ _ (by simp [htb, tbo]; rfl) (by simp) (by simp) (by simp) (by simp [hsf 4 18 _ (by simp [htb, tbo]; rfl) hpre.1, hsf 5 19 _ (by simp [htb, tbo]; rfl) hpre.2.1])
   | 7, hj, hDj, hpre =>
     simp at hj hpre; subst hj
     exact stp 7 21 _ _ _ (by simp [htb, tbo]; rfl) (by simp) (by simp) (by simp) (by simp [hsf 6 20 _ (by simp [htb, tbo]; rfl) hpre.1])
   | 8, hj, hDj, hpre =>
     simp at hj hpre; subst hj
     exact stp 8 22 _ _ _ (by simp [htb, tbo]; rfl) (by simp) (by simp) (by simp) (by simp [hsf 7 21 _ (by simp [htb, tbo]; rfl) hpre.1, hbh])
   | 9, hj, hDj, hpre =>
     simp at hj; subst hj
     exact stp 9 23 _ _ _ (by simp [htb, tbo]; rfl) (by simp) (by simp) (by simp) (by simp [t2])
   | 10, hj, hDj, hpre =>
     simp at hj; subst hj
     exact stp 10 24 _ _ _ (by simp [htb, tbo]; rfl) (by simp) (by simp) (by simp) (by simp [t2])
   | 11, hj, hDj, hpre =>
     simp at hj; subst hj
     exact stp 11 25 _ _ _ (by simp [htb, tbo]; rfl) (by simp) (by simp) (by simp) (by simp [t9])
   | 12, hj, hDj, hpre =>
     simp at hj hpre; subst hj
     exact stp 12 26 _ _ _ (by simp [htb, tbo]; rfl) (by simp) (by simp) (by simp) (by simp [hsf 11 25 _ (by simp [htb, tbo]; rfl) hpre, cs2, xs2])
   | 13, hj, hDj, hpre =>
     simp at hj hpre; subst hj
     have hw : IntKind.i64.wrap 10 = 10 := by decide
     exact stp 13 27 _ _ _ (by simp [htb, tbo]; rfl) (by simp) (by simp) (by simp) (by simp [hsf 10 24 _ (by simp [htb, tbo]; rfl) hpre.1, hsf 12 26 _ (by simp [htb, tbo]; rfl) hpre.2.1, hw])
   | 14, hj, hDj, hpre =>
     simp at hj; subst hj
     exact stp 14 28 _ _ _ (by simp [htb, tbo]; rfl) (by simp) (by simp) (by simp) (by simp [t9])
   | 15, hj, hDj, hpre =>
     simp at hj hpre; subst hj
     refine stepV_call ?_
     have hbc : S'.blk 1000284031 = some ⟨sc, 2, xs1.map Ins.av⟩ := by rw [h15f hDj]; exact bc
     simp only [List.map_cons, List.map_nil, X.ev, hsf 8 22 _ (by simp [htb, tbo]; rfl) hpre.1, hsf 9 23 _ (by simp [htb, tbo]; rfl) hpre.2.1, hsf 13 27 _ (by simp [htb, tbo]; rfl) hpre.2.2.1, hsf 14 28 _ (by simp [htb, tbo]; rfl) hpre.2.2.2.1]
     refine repl_v 1000284031 sc (xs1.map Ins.av) cs2 7 (by decide) (by decide) (by decide) (.lst 2 cs2) (fun E u q => q) hbc (fun S1 q1 q2 q3 q4 q5 => ?_)
     refine (hI _ _).2 ⟨hsf.ins hnd (j := 15) (d := 29) (v := .sl 1000284031 sc 2 0 18) (by simp [htb, tbo]) (by simp; rfl) (fun y hy => by simp [hy, q1]), fun x hx => ?_, q2.trans hk1, fun q => by simp at q, fun _ => ⟨fun n hn => ?_, ?_⟩⟩
     . have : x ≠ 29 := by omega
       simp [this, q1, ht x hx]
     . simp
       rw [q4 n hn, h15f hDj]
     . rw [hnew]; exact q5
   | j + 16, hj, hDj, hpre => simp at hj
 . rintro D S' hD hi
   obtain ⟨hsf, ht, hk1, h15f, h15t⟩ := (hI _ _).1 hi
   have e15 := hsf 1 15 _ (by simp [htb, tbo]; rfl) (hD 1 (by simp))
   have e16 := hsf 2 16 _ (by simp [htb, tbo]; rfl) (hD 2 (by simp))
   have e29 := hsf 15 29 _ (by simp [htb, tbo]; rfl) (hD 15 (by simp))
   obtain ⟨p1, p2⟩ := h15t (hD 15 (by simp))
   have hbh := (p1 1000295044 (by simp)).trans bh
   simp [e15, e16, e29, hbh]
   refine hk _ (fun x hx => ?_) hk1 (fun n h1 h2 => by simp [h1]; exact p1 n h2) (by simp) (by simp; rw [p2, hnew]; simp)
   have m1 : x ≠ 30 := by omega
   have m2 : x ≠ 31 := by omega
   simp [m1, m2]
   exact ht x (by omega)
def xs1o : List Ins := xs1.take 7 ++ xs2 ++ xs1.drop 10
theorem xs1o_av : (xs1.map Ins.av).take 7 ++ cs2 ++ (xs1.map Ins.av).drop 10 = xs1o.map Ins.av := by
 unfold xs1o cs2
 simp only [List.map_append, List.map_take, List.map_drop]
theorem zodd_v (sh sc : Nat) (a b c0 : AV) (a1 : a.one = true) (a2 : a.cells = [a]) (b1 : b.one = true) (b2 : b.cells = [b]) {S : St} {k : AV -> St -> Prop} {u : Dep k}
   (bh : S.blk 1000295044 = some ⟨sh, 2, [c0, .agg [iv 1, .sl 1000284031 sc 2 0 18]]⟩) (bc : S.blk 1000284031 = some ⟨sc, 2, xs1.map Ins.av⟩)
   (hk : ∀ S', S'.t = S.t -> (∀ n, n ≠ 296011 -> S'.tok n = S.tok n) -> (∀ n, n ≠ 296004 -> n ≠ 296008 -> n ≠ 1000295044 -> n ≠ 1000284031 -> S'.blk n = S.blk n) -> S'.blk 1000295044 = some ⟨sh, 2, [c0, .agg [iv 1, .sl 1000284031 sc 2 0 18]]⟩ -> S'.blk 1000284031 = some ⟨sc, 2, xs1o.map Ins.av⟩ -> k (.agg [.sl 1000295044 sh 2 0 2, a, b, iv 64]) S') :
   CallG Tryz.prog (.fn 25 []) [.agg [.sl 1000295044 sh 2 0 2, a, b, iv 64], iv 1, iv 7, sv [112, 117, 115, 104, 32, 49, 59, 32, 112, 111, 112, 59, 32, 112, 117, 115, 104, 32, 49]] S k u := by
 refine callV zodd_get (by simp) (by simp) ?_
 unfold zodd_c
 simp [a1, a2, b1, b2, sv]
 refine call (mhandler_pc 0 hl2 xs2 hok2) (by simp [sv, hl2]) ?_
 simp
 refine odd_draw S.clk sh sc (S.clk + 2 + 5) (.sl 1000295044 sh 2 0 2) a b rfl c0 (by simp) (by simp) (by simp [bh]) (by simp [bc]) (by simp) (by simp) (by simp [cs2]) (fun S1 q1 q2 q3 q4 q5 => ?_)
 have q4a := q1 4 (.inl (by omega))
 have q8a := q1 8 (.inl (by omega))
 have b4 := q3 296004 (by simp) (by simp)
 have b8 := q3 296008 (by simp) (by simp)
 simp at q4a q8a b4 b8
 simp [q4a, q8a, b4, b8, a1, a2, b1, b2]
 refine hk _ rfl (fun n hn => ?_) (fun n h1 h2 h3 h4 => ?_) (by simpa using q4) (by simp; rw [q5, xs1o_av])
 . simp
   rw [q2]
   simp [hn]
 . simp [h2]
   rw [q3 n h3 h4]
   simp [h1, h2]
def acts2 : List AV := [.agg [.lst 1 [iv 3, iv 0], iv 8, iv (-1), .bool false], .agg [.lst 1 [iv 4, iv 0], iv 8, iv (-1), .bool false]]
def watch2 : List Ins := [⟨31, 1⟩, ⟨31, 17⟩, ⟨9, 0⟩, ⟨1, 2⟩, ⟨16, 0⟩]
def wat (i : Nat) : List AV := if i < 2 then [.agg [iv 31, iv 1]] else [.agg [iv 31, iv 1], .agg [iv 31, iv 17], .agg [iv 9, iv 0]]
theorem ring_loop (nmI stI : Nat) {S : St} {κ : Ex -> St -> Prop} {u : Dep κ} (g47 : S.t 47 = .acc nmI stI 1 [iv 3, iv 4]) (g48 : S.t 48 = iv 2) (g49 : S.t 49 = iv 0) (g9 : S.t 9 = .nils) (g10 : ∃ sw, S.t 10 = .acc 295079 sw 2 (wat 0) /\ S.tok 295079 = some ⟨sw, 2, 49⟩)
   (hk : ∀ S' sa sw, S'.t 2 = S.t 2 -> S'.t 5 = S.t 5 -> S'.t 8 = S.t 8 -> S'.blk = S.blk -> S'.t 9 = .acc 295059 sa 4 acts2 -> S'.t 10 = .acc 295079 sw 2 (wat 2) -> S'.tok 295079 = some ⟨sw, 2, 49⟩ -> κ (.exit 0) S') : LoopG Tryz.prog zring_l0 κ S u := by
 refine loopN (fun i S' => S'.t 2 = S.t 2 /\ S'.t 5 = S.t 5 /\ S'.t 8 = S.t 8 /\ S'.blk = S.blk /\ S'.t 47 = .acc nmI stI 1 [iv 3, iv 4] /\ S'.t 48 = iv 2 /\ S'.t 49 = iv i /\ ((i = 0 /\ S'.t 9 = .nils) \/ 0 < i /\ ∃ sa, S'.t 9 = .acc 295059 sa 4 (acts2.take i) /\ S'.tok 295059 = some ⟨sa, 4, 56⟩) /\
   ∃ sw, S'.t 10 = .acc 295079 sw 2 (wat i) /\ S'.tok 295079 = some ⟨sw, 2, 49⟩) 2 ?_ ?_
 . exact ⟨rfl, rfl, rfl, rfl, g47, g48, g49, .inl ⟨rfl, g9⟩, g10⟩
 . rintro i S' hi ⟨e2, e5, e8, eb, g47, g48, g49, h9, sw, g10, h10⟩
   have hi2 : i = 0 \/ i = 1 \/ i = 2 := by omega
   rcases hi2 with rfl | rfl | rfl
   . rcases h9 with ⟨_, g9⟩ | ⟨h0, _⟩
     . simp [zring_l0, g47, g48, g49, g9, g10, wrap1]
       exact ⟨e2, e5, e8, eb, rfl, sw, ⟨rfl, rfl⟩, h10⟩
     . omega
   . rcases h9 with ⟨h0, _⟩ | ⟨_, sa, g9, h9⟩
     . omega
     . have hw : IntKind.i64.wrap 2 = 2 := by decide
       have hw16 : IntKind.i64.wrap 16 = 16 := by decide
       have hw17 : IntKind.i64.wrap 17 = 17 := by decide
       have hbl : (min 1 acts2.length + 1) * 48 <= 140737488355328 := by decide
       have hbw : ((wat 1).length + 2) * 16 <= 140737488355328 := by decide
       simp [zring_l0, g47, g48, g49, g9, g10, h9, h10, hw, hw16, hw17, hbl]
       refine call (zreg_pc 17) (by simp) ?_
       simp
       refine call (zop_pc 9) (by simp) ?_
       simp [h10, hbw, g47, g48, g49, hw]
       exact ⟨e2, e5, e8, eb, rfl, rfl⟩
   . rcases h9 with ⟨h0, _⟩ | ⟨_, sa, g9, h9⟩
     . omega
     . simp [zring_l0, g47, g48, g49]
       exact hk _ sa sw e2 e5 e8 eb g9 g10 h10
theorem zring_v (nmI stI : Nat) {S : St} {k : AV -> St -> Prop} {u : Dep k}
   (hk : ∀ S' sh sc sa sb sw, S'.t = S.t -> (∀ n, n < 284000 \/ (297000 <= n /\ n < 1000000000) -> S'.blk n = S.blk n) ->
     S'.blk 1000295044 = some ⟨sh, 2, [.agg [iv 0, .lst 2 (xs0.map Ins.av)], .agg [iv 1, .sl 1000284031 sc 2 0 18]]⟩ -> S'.blk 1000284031 = some ⟨sc, 2, xs1.map Ins.av⟩ ->
     k (.tup [.agg [.sl 1000295044 sh 2 0 2, .acc 295059 sa 4 acts2, .acc 294021 sb 3 boot2, iv 64], .acc 295080 sw 1 [.lst 2 (watch2.map Ins.av)], iv 0]) S') :
   CallG Tryz.prog (.fn 24 []) [.acc nmI stI 1 [iv 3, iv 4]] S k u := by
 refine callV zring_get (by simp) (by simp) ?_
 unfold zring_c
 simp
 refine values_v (.acc nmI stI 1 [iv 3, iv 4]) rfl rfl (fun S1 s1 p1 p2 p3 p4 p5 => ?_)
 simp [p1]
 refine sorted_v 287001 s1 (by decide) (.acc nmI stI 1 [iv 3, iv 4]) [3, 4] (by simp) (by simp) rfl (fun E v h => by cases h with | acc _ _ _ _ _ _ _ h => exact h) p5 rfl (fun S2 v2 q1 q2 q3 q4 q5 => ?_)
 have hms : ([3, 4] : List Int).mergeSort (fun x y => decide (x <= y)) = [3, 4] := by first | exact List.mergeSort_of_sorted (by simp) | exact List.mergeSort_of_pairwise (by simp) | simp [List.mergeSort, List.MergeSort.Internal.splitInTwo, List.merge]
 rw [hms] at q5
 rcases q5 with ⟨_, q⟩ | ⟨s2, rfl, b5⟩
 . simp at q
 simp [q1, p1]
 have hcm : Lib.compact ([3, 4] : List Int) = [3, 4] := by decide
 refine compact_v 290001 s2 [3, 4] (by decide) b5 ?_ (by rw [hcm]; decide)
 rw [hcm]
 simp
 have hw := words_pc tOn 2 (by decide) (by decide) (by rw [dd2]; decide +kernel)
 have e2 : Lib.replace tOn [42] (Lib.decDigits 2) 1 = tOn2 := rfl
 rw [e2] at hw
 refine call hw (by simp [sv, tOn]) ?_
 simp [sv]
 refine call (mhandler_pc 0 hl0 xs0 hok0) (by simp [sv, hl0]) ?_
 simp
 refine call_coarse 0 (vals' := [iv 1, .lst 1 (hl1.map sv)]) rfl (fun j x y hx hy => ?_) ?_
 . match j, hx, hy with
   | 0, hx, hy => simp at hx hy; subst hx hy; exact .inl rfl
   | 1, hx, hy => simp at hx hy; subst hx hy; exact .inr (by simp [elemR, dco, hl1, sv])
   | j + 2, hx, _ => simp at hx
 refine mhandler_v 1 hl1 xs1 hok1 (fun S3 vc r1 r2 r3 r4 r5 => ?_)
 rcases r5 with ⟨_, q⟩ | ⟨sc, rfl, bc⟩
 . simp [xs1] at q
 have hl : (xs1.map Ins.av).length = 18 := rfl
 rw [hl]
 simp at r1 r2
 simp [r1]
 refine call (zreg_pc 1) (by simp) ?_
 simp
 refine ring_loop nmI stI (by simp) (by simp) (by simp) (by simp) ⟨_, by simp [wat]; rfl, by simp⟩ (fun S4 sa sw t1 t2 t3 t4 t5 t6 t7 => ?_)
 simp [r1, q1, p1] at t1 t2 t3 t4
 simp [t1, t2, t3, t5, t6]
 refine zprog_v (.sl 1000295044 _ 2 0 2) (.acc 295059 sa 4 acts2) rfl rfl rfl rfl (fun S5 sb u1 u2 u3 u4 => ?_)
 have k5 := u4 295079 (by simp) (by simp)
 simp at k5
 rw [t7] at k5
 have hbw : ((wat 2).length + 2) * 16 <= 140737488355328 := by decide
 have c1 := p4 295002 (by simp)
 have c2 := (q4 295002 (by simp)).trans c1
 have c3 := r4 295002 (by simp) (by simp) (by simp) (by simp)
 have c5 := u3 295002 (by simp) (by simp)
 simp [t4] at c5
 simp at c3 c2
 rw [c3, c2] at c5
 simp [u1, t1, t2, t3, t5, t6]
 refine call (znum_pc 2) (by simp) ?_
 simp
 refine call (zop_pc 16) (by simp) ?_
 simp [k5, hbw, c5, u1, t1, t2, t3, t5, t6]
 refine hk _ _ sc sa sb _ rfl (fun n hn => ?_) ?_ ?_
 . have m1 : n ≠ 295002 := by omega
   have m2 : n ≠ 1000295044 := by omega
   have m3 : n ≠ 290001 := by omega
   have e5 := u3 n (by omega) (by omega)
   have e3 := r4 n (by omega) (by omega) (by omega) (by omega)
   have e2 := q4 n m3
   have e1 := p4 n (by omega)
   simp [t4, m2] at e5
   simp [m3] at e3
   simp [m1] at e1 e2
   simp [m1]
   rw [e5, e3, e2, e1]
 . have e5 := u3 1000295044 (by simp) (by simp)
   simp [t4] at e5
   simpa using e5
 . have e5 := u3 1000284031 (by simp) (by simp)
   simp [t4] at e5
   simp
   rw [e5, bc]
end Go.Gv

namespace Go.Gv
open Go.Proofs
def mrodd_r0 : List AI := [oA 2 (.new 298002 4 (.agg [.nils, .nils, .nils, (.int .i64 0)])), oA 3 (.mv (.c .nils)), oA 4 (.mv (.c (.int .i64 0)))]
def mrodd_r1 : List AI := [oA 9 (.mv (.t 0)), oC 10 (.c (.fn 24 [])) [(.t 9)], oA 8 (.mv (.t 10)), oA 11 (.ext (.t 8) 0), oA 12 (.ext (.t 8) 1), oA 13 (.ext (.t 8) 2), oA 5 (.new 298005 4 (.agg [.nils, .nils, .nils, (.int .i64 0)])), oN (.store 4 (.t 5) (.t 11)), oA 6 (.mv (.t 12)), oA 7 (.mv (.t 13))]
def mrodd_r2 : List AI := [oA 14 (.mv (.t 7)), oA 15 (.ibin .eql (.t 14) (.c (.int .i64 0)))]
def mrodd_r3 : List AI := [oA 16 (.load (some 4) (.t 5)), oC 17 (.c (.fn 25 [])) [(.t 16), (.c (.int .i64 1)), (.c (.int .i64 7)), (.c (.str ⟨#[112, 117, 115, 104, 32, 49, 59, 32, 112, 111, 112, 59, 32, 112, 117, 115, 104, 32, 49]⟩))], oN (.store 4 (.t 5) (.t 17))]
def mrodd_r4 : List AI := [oA 18 (.load (some 4) (.t 5)), oA 19 (.mv (.t 6)), oA 20 (.mv (.t 7)), oN (.store 4 (.t 2) (.t 18)), oA 3 (.mv (.t 19)), oA 4 (.mv (.t 20))]
def mrodd_c : AC := (.seq (.reg mrodd_r0) (.seq (.reg mrodd_r1) (.seq (.seq (.reg mrodd_r2) (.cond (.t 15) (.reg mrodd_r3) .skip)) (.seq (.reg mrodd_r4) .ret))))
def mrodd_res : List ARes := [(.cell (some 4) 2), (.tmp 3), (.tmp 4)]
set_option maxRecDepth 100000 in
theorem mrodd_get : getF Tryz.prog 17 298000 [] = some ("gavotte/models.RingOdd", 21, mrodd_c, mrodd_res) := by kernel_rfl
attribute [simp] mrodd_r0 mrodd_r1 mrodd_r2 mrodd_r3 mrodd_r4 mrodd_res
open Go.RowKit
theorem callFz {P : Program} {f : FuncId} {cargs : List AV} {r : AV} (h : PC P f cargs r) (d : Nat) {vals : List AV} {S : St} {k : AV -> St -> Prop} {u : Dep k} (hco : coL (elemR (dco S.blk d)) vals cargs) (hk : k r ⟨S.t, fun _ => none, fun _ => none, S.clk⟩) :
   CallG P (.fn f []) vals S k u := by
 obtain ⟨hent, hc⟩ := h
 refine ⟨f, [], rfl, hent, fun E B W w args H hW hB hu hsz hrel => ?_⟩
 have hle : B <= w.heap.size := Nat.le_trans hB.le hW.size
 let K : Nat -> Nat -> Option Value := fun b o => if b < B then E.K b o else w.cell? ⟨b, o, none⟩
 have hK : ∀ b o u, E.K b o = some u -> K b o = some u := by
   intro b o u q
   show (if b < B then E.K b o else w.cell? ⟨b, o, none⟩) = some u
   split
   . exact q
   . exact H.K b o u q
 have hrest : ∀ b o u, B <= b -> w.cell? ⟨b, o, none⟩ = some u -> K b o = some u := by
   intro b o u hb q
   show (if b < B then E.K b o else w.cell? ⟨b, o, none⟩) = some u
   rw [if_neg (by omega)]; exact q
 have hin : ∀ b o u, K b o = some u -> w.cell? ⟨b, o, none⟩ = some u := by
   intro b o u q
   have q' : (if b < B then E.K b o else w.cell? ⟨b, o, none⟩) = some u := q
   split at q'
   . exact H.K b o u q'
   . exact q'
 have kn : Knows E B w K true := ⟨hK, fun _ => hrest⟩
 obtain ⟨e1, e2⟩ := coL_get hco
 refine (hc K w args hin (hB.at hW) (by rw [<- e1]; simpa using hsz) ?_).mono ?_
 . intro j y u' hy hu'
   obtain ⟨x, hx⟩ : ∃ x, vals[j]? = some x := ⟨_, List.getElem?_eq_getElem (by rw [e1]; exact (List.getElem?_eq_some_iff.1 hy).1)⟩
   exact dcoKE_rel H kn d x y u' (e2 j x y hx hy) (hrel j x u' (by simpa using hx) hu')
 . rintro e w' ⟨v, rfl, hbel, hr⟩
   refine ⟨v, { E with K := over K w w' }, r, ⟨S.t, fun _ => none, fun _ => none, S.clk⟩, rfl, ⟨fun b o u q => ?_, fun _ _ => rfl, fun _ _ => rfl, fun _ _ => rfl, fun _ q => q⟩,
     ⟨fun b o u q => ?_, fun nm b q => (by cases q), fun nm b q => (by cases q), fun nm b q => (by cases q), fun nm b q => (by cases q), fun nm nm' b b' _ q => (by cases q), fun nm nm' b t q => (by cases q), fun nm nm' t t' g _ q => (by cases q)⟩,
     hW.trans (hbel.mono hle), fun b o hb => ?_, fun s hs => ⟨.inl hs, hu s hs⟩, Nat.le_refl _, rfl, hr.of_envK (fun b o u q => q), hk⟩
   . have := World.block_lt_of_cell? w _ (H.K b o u q)
     show over K w w' b o = some u
     unfold over
     rw [if_pos this]
     exact hK b o u q
   . have q' : over K w w' b o = some u := q
     unfold over at q'
     split at q'
     . rename_i hlt
       have := hin b o u q'
       rw [<- this]
       simp only [World.cell?, hbel.block b hlt]
     . exact q'
   . show over K w w' b o = E.K b o
     unfold over
     rw [if_pos (by omega)]
     show (if b < B then E.K b o else w.cell? ⟨b, o, none⟩) = E.K b o
     rw [if_pos hb]
theorem mrodd_v (nmI stI : Nat) {S : St} {k : AV -> St -> Prop} {u : Dep k}
   (hk : ∀ S' sh sc sa sb sw, S'.t = S.t -> (∀ n, 299000 <= n /\ n < 1000000000 -> S'.blk n = S.blk n) ->
     S'.blk 1000295044 = some ⟨sh, 2, [.agg [iv 0, .lst 2 (xs0.map Ins.av)], .agg [iv 1, .sl 1000284031 sc 2 0 18]]⟩ -> S'.blk 1000284031 = some ⟨sc, 2, xs1o.map Ins.av⟩ ->
     k (.tup [.agg [.sl 1000295044 sh 2 0 2, .acc 295059 sa 4 acts2, .acc 294021 sb 3 boot2, iv 64], .acc 295080 sw 1 [.lst 2 (watch2.map Ins.av)], iv 0]) S') :
   CallG Tryz.prog (.fn 17 []) [.acc nmI stI 1 [iv 3, iv 4]] S k u := by
 refine callV mrodd_get (by simp) (by simp) ?_
 unfold mrodd_c
 simp
 refine zring_v nmI stI (fun S1 sh sc sa sb sw p1 p2 p3 p4 => ?_)
 have c2 := p2 298002 (by simp)
 have c5 := p2 298005 (by simp)
 simp at c2 c5
 simp [p1]
 refine zodd_v sh sc (.acc 295059 sa 4 acts2) (.acc 294021 sb 3 boot2) _ rfl rfl rfl rfl (by simp [p3]; rfl) (by simp [p4]) (fun S2 q1 q2 q3 q4 q5 => ?_)
 have d2 := q3 298002 (by simp) (by simp) (by simp) (by simp)
 have d5 := q3 298005 (by simp) (by simp) (by simp) (by simp)
 simp at d2 d5
 rw [c2] at d2
 simp [q1, d2, d5]
 refine hk _ sh sc sa sb sw rfl (fun n hn => ?_) (by simp; exact q4) (by simp; exact q5)
 have m1 : n ≠ 298002 := by omega
 have m2 : n ≠ 298005 := by omega
 have e1 := q3 n (by omega) (by omega) (by omega) (by omega)
 have e2 := p2 n (by omega)
 simp [m2] at e1
 simp [m1] at e2
 simp [m1, m2]
 rw [e1, e2]
end Go.Gv

namespace Go.Gv
open Go.Proofs
def gawake_r0 : List AI := [oA 0 (.mv (.c (.bool false)))]
def gawake_r1 : List AI := [oA 6 (.bsl 299006 1 3 2 (.int .i64 0) [(0, (.c (.int .i64 3))), (1, (.c (.int .i64 4)))]), oC 7 (.c (.fn 17 [])) [(.t 6)], oA 5 (.mv (.t 7)), oA 8 (.ext (.t 5) 0), oA 9 (.ext (.t 5) 1), oA 10 (.ext (.t 5) 2), oA 1 (.new 299001 4 (.agg [.nils, .nils, .nils, (.int .i64 0)])), oN (.store 4 (.t 1) (.t 8)), oA 2 (.mv (.t 9)), oA 3 (.mv (.t 10))]
def gawake_r2 : List AI := [oA 11 (.mv (.t 3)), oA 12 (.ibin .neq (.t 11) (.c (.int .i64 0)))]
def gawake_r3 : List AI := [oA 0 (.mv (.c (.bool false)))]
def gawake_r4 : List AI := [oA 13 (.load (some 4) (.t 1)), oA 14 (.mv (.t 2)), oA 15 (.build [(.int .i64 0), (.int .i64 0)] [(0, (1, (.c (.int .i64 6)))), (1, (1, (.c (.int .i64 1000))))]), oA 16 (.build [.nils, .nils, .nils, (.int .i64 0), .nils, (.int .i64 0), (.int .i64 0), (.int .i64 0), (.int .i64 0), (.int .i64 0), (.int .i64 0)] [(0, (4, (.t 13))), (4, (1, (.t 14))), (9, (2, (.t 15)))]), oC 17 (.c (.fn 9 [])) [(.t 16)], oA 4 (.new 299004 7 (.agg [(.int .i64 0), (.int .i64 0), (.int .i64 0), (.int .i64 0), (.int .i64 0), (.int .i64 0), .nils])), oN (.store 7 (.t 4) (.t 17))]
def gawake_r5 : List AI := [oA 18 (.fld 0 (.t 4)), oA 19 (.load none (.t 18)), oA 20 (.ibin .eql (.t 19) (.c (.int .i64 3))), oA 21 (.mv (.t 20)), oG 22 21 true (.fld 6 (.t 4)), oG 23 21 true (.load none (.t 22)), oG 24 21 true (.len (.t 23)), oG 25 21 true (.ibin .eql (.t 24) (.c (.int .i64 1))), oA 26 (.pick (.t 21) (.t 25) (.c (.bool false))), oA 27 (.mv (.t 26)), oG 28 27 true (.fld 6 (.t 4)), oG 29 27 true (.load none (.t 28)), oG 30 27 true (.idx 2 (.t 29) (.c (.int .i64 0))), oG 31 27 true (.fld 0 (.t 30)), oG 32 27 true (.load none (.t 31)), oG 33 27 true (.ibin .eql (.t 32) (.c (.int .i64 0))), oA 34 (.pick (.t 27) (.t 33) (.c (.bool false))), oA 35 (.mv (.t 34)), oG 36 35 true (.fld 6 (.t 4)), oG 37 35 true (.load none (.t 36)), oG 38 35 true (.idx 2 (.t 37) (.c (.int .i64 0))), oG 39 35 true (.fld 1 (.t 38)), oG 40 35 true (.load none (.t 39)), oG 41 35 true (.len (.t 40)), oG 42 35 true (.ibin .eql (.t 41) (.c (.int .i64 6))), oA 43 (.pick (.t 35) (.t 42) (.c (.bool false))), oA 0 (.mv (.t 43))]
def gawake_c : AC := (.seq (.reg gawake_r0) (.seq (.reg gawake_r1) (.seq (.seq (.reg gawake_r2) (.cond (.t 12) (.seq (.reg gawake_r3) .ret) .skip)) (.seq (.reg gawake_r4) (.seq (.reg gawake_r5) .ret)))))
def gawake_res : List ARes := [(.tmp 0)]
set_option maxRecDepth 100000 in
theorem gawake_get : getF Tryz.prog 8 299000 [] = some ("gavotte/gavottetop.awake", 44, gawake_c, gawake_res) := by kernel_rfl
attribute [simp] gawake_r0 gawake_r1 gawake_r2 gawake_r3 gawake_r4 gawake_r5 gawake_res
open Go.RowKit
theorem awake_pc : PC Tryz.prog 8 [] (.bool true) := by
 have ht := task_pc put_all awC aw_cok (fun f w => treeB awC f w = true) (fun e => e.kind = 1) (sok put_all awC (by decide) (by decide)) aw_tree
 have hr := aw_res
 generalize exploreS awC = R at ht hr
 obtain ⟨runs, worlds, found, path, ended, cut, slept⟩ := R
 simp only [awRes, Bool.and_eq_true] at hr
 obtain ⟨h1, h2⟩ := hr
 have he : ended = false := by simpa using h1
 subst he
 match found, h2 with
 | [⟨fw, fp⟩], h2 =>
 simp at h2
 obtain ⟨rfl, hfp⟩ := h2
 refine pc_of_get gawake_get (by simp) _ (by simp) _ ?_
 unfold gawake_c
 simp
 refine mrodd_v 299006 _ (fun S1 sh sc sa sb sw p1 p2 p3 p4 => ?_)
 simp [p1]
 refine callFz ht 4 ?_ ?_
 . simp [awC, ringP, Cfg.av, watchesAv, elemR, coL, dco, p3, p4, Hnd.av, acts2, boot2, watch2, Actr.av, Nt.av, ints]
   refine ⟨by decide, ?_⟩
   simp [xs1o, xs1, xs2, Ins.av, coL, elemR]
 . simp [Sr.rep, Fnd.av, evts, hfp]
end Go.Gv

namespace Go.Gv
open Go.Proofs
open Go.RowKit
end Go.Gv

namespace Go.Gv
open Go.Proofs
def Cfg.R (c : Cfg) : Prop := c.p.R /\ (c.l.length <= maxLen /\ ∀ x ∈ c.l, x.length <= maxLen /\ ∀ i ∈ x, i.R)
section
variable {H : Type} {enc : TypeId × Value -> H} {w : World}
theorem c_watch : Tryz.prog.cellsOf 53 = 1 := by kernel_rfl
theorem c_watches : Tryz.prog.cellsOf 27 = 1 := by kernel_rfl
theorem c_bud : Tryz.prog.cellsOf 29 = 4 := by kernel_rfl
theorem c_lim : Tryz.prog.cellsOf 31 = 2 := by kernel_rfl
theorem c_task : Tryz.prog.cellsOf 33 = 11 := by kernel_rfl
theorem o_watch : Opens enc Tryz.prog w 53 (List Ins) (fun l => .lst 2 (l.map Ins.av)) (fun l => l.length <= maxLen /\ ∀ x ∈ l, x.R) := opens_slice Tryz.underlying53 2 c_instr (by decide) o_instr (fun _ => rfl)
theorem o_watches : Opens enc Tryz.prog w 27 (List (List Ins)) (fun l => .lst 1 (l.map fun x => .lst 2 (x.map Ins.av))) (fun l => l.length <= maxLen /\ ∀ x ∈ l, x.length <= maxLen /\ ∀ i ∈ x, i.R) := opens_slice Tryz.underlying27 1 c_watch (by decide) o_watch (fun _ => rfl)
theorem o_bud : Opens enc Tryz.prog w 29 Bud Bud.av (fun _ => True) := by
 intro fuel cs x h
 obtain ⟨xs, n, rfl, rfl, hl, hx, hf⟩ := DataW.trod_struct Tryz.underlying29 h
 rw [c_bud] at hl
 obtain ⟨v0, v1, v2, v3, rfl⟩ := len4 hl
 have h0 := hf 0 _ rfl
 have h1 := hf 1 _ rfl
 have h2 := hf 2 _ rfl
 have h3 := hf 3 _ rfl
 simp [c_int] at h0 h1 h2 h3
 simp at hx
 obtain ⟨a0, p0, r0⟩ := open1 o_int (fun _ => rfl) h0 (by omega)
 obtain ⟨a1, p1, r1⟩ := open1 o_int (fun _ => rfl) h1 (by omega)
 obtain ⟨a2, p2, r2⟩ := open1 o_int (fun _ => rfl) h2 (by omega)
 obtain ⟨a3, p3, r3⟩ := open1 o_int (fun _ => rfl) h3 (by omega)
 obtain ⟨q1, q2⟩ := cells_rel (.cons r0 (.cons r1 (.cons r2 (.cons r3 .nil))))
 exact ⟨⟨a0, a1, a2, a3⟩, trivial, q1, by simp [Bud.av], q2⟩
theorem o_lim : Opens enc Tryz.prog w 31 (Int × Int) (fun x => .agg [iv x.1, iv x.2]) (fun _ => True) := by
 intro fuel cs x h
 obtain ⟨xs, n, rfl, rfl, hl, hx, hf⟩ := DataW.trod_struct Tryz.underlying31 h
 rw [c_lim] at hl
 obtain ⟨v0, v1, rfl⟩ := len2 hl
 have h0 := hf 0 _ rfl
 have h1 := hf 1 _ rfl
 simp [c_int] at h0 h1
 simp at hx
 obtain ⟨a0, p0, r0⟩ := open1 o_int (fun _ => rfl) h0 (by omega)
 obtain ⟨a1, p1, r1⟩ := open1 o_int (fun _ => rfl) h1 (by omega)
 obtain ⟨q1, q2⟩ := cells_rel (.cons r0 (.cons r1 .nil))
 exact ⟨(a0, a1), trivial, q1, by simp, q2⟩
theorem len11 {α : Type} {l : List α} (h : l.length = 11) : ∃ a b c d e f g i j k m, l = [a, b, c, d, e, f, g, i, j, k, m] := by
 match l, h with
 | [a, b, c, d, e, f, g, i, j, k, m], _ => exact ⟨a, b, c, d, e, f, g, i, j, k, m, rfl⟩
theorem o_task : Opens enc Tryz.prog w 33 Cfg Cfg.av Cfg.R := by
 intro fuel cs x h
 obtain ⟨xs, n, rfl, rfl, hl, hx, hf⟩ := DataW.trod_struct Tryz.underlying33 h
 rw [c_task] at hl
 obtain ⟨v0, v1, v2, v3, v4, v5, v6, v7, v8, v9, v10, rfl⟩ := len11 hl
 have h0 := hf 0 _ rfl
 have h1 := hf 1 _ rfl
 have h2 := hf 2 _ rfl
 have h3 := hf 3 _ rfl
 simp [c_program, c_watches, c_bud, c_lim] at h0 h1 h2 h3
 simp at hx
 have e0 : xs[0]? = some (xs[0]'(by omega)) := List.getElem?_eq_getElem (by omega)
 have e2 : xs[2]? = some (xs[2]'(by omega)) := List.getElem?_eq_getElem (by omega)
 have e3 : xs[3]? = some (xs[3]'(by omega)) := List.getElem?_eq_getElem (by omega)
 rw [e0] at h0
 rw [e2] at h2
 rw [e3] at h3
 obtain ⟨a0, p0, _, _, r0⟩ := o_program _ _ _ h0
 obtain ⟨a1, p1, r1⟩ := open1 o_watches (fun _ => rfl) h1 (by omega)
 obtain ⟨a2, p2, _, _, r2⟩ := o_bud _ _ _ h2
 obtain ⟨a3, p3, _, _, r3⟩ := o_lim _ _ _ h3
 obtain ⟨q1, q2⟩ := cells_rel (.cons (r0 0 _ _ rfl rfl) (.cons (r0 1 _ _ rfl rfl) (.cons (r0 2 _ _ rfl rfl) (.cons (r0 3 _ _ rfl rfl) (.cons r1 (.cons (r2 0 _ _ rfl rfl) (.cons (r2 1 _ _ rfl rfl) (.cons (r2 2 _ _ rfl rfl) (.cons (r2 3 _ _ rfl rfl) (.cons (r3 0 _ _ rfl rfl) (.cons (r3 1 _ _ rfl rfl) .nil)))))))))))
 exact ⟨⟨a0, a2, a1, a3.1, a3.2⟩, ⟨p0, p1⟩, q1, by simp [Cfg.av, watchesAv], q2⟩
end
theorem open_task {H : Type} {enc : TypeId × Value -> H} {w : World} {v : Value} {d : DataW H} {ps : List MemPlace} (h : DataW.Trod enc Tryz.prog w 0 (fun _ => true) true 33 v d ps) : ∃ p : Cfg, p.R /\ Rel (envK (Kw w)) p.av v := by
 obtain ⟨fuel, h⟩ := h
 obtain ⟨p, p1, p2, p3, p4⟩ := o_task _ _ _ h
 exact ⟨p, p1, agg_of_cells (by simp [Cfg.av]) p2 p3 p4⟩
end Go.Gv

namespace Go.Gv
open Go.Proofs
def gdeep_r0 : List AI := [oA 4 (.box 308004 11 (.t 0)), oA 7 (.box 308007 4 (.t 3)), oA 8 (.mv (.c (.bool false)))]
def gdeep_r1 : List AI := [oA 13 (.load (some 11) (.t 4)), oC 14 (.c (.fn 7 [])) [(.t 13)], oA 15 (.not (.t 14)), oA 16 (.mv (.t 15)), oG 17 16 false (.mv (.t 1)), oG 18 16 false (.ibin .lss (.t 17) (.c (.int .i64 0))), oA 19 (.pick (.t 16) (.c (.bool true)) (.t 18)), oA 20 (.mv (.t 19)), oG 21 20 false (.mv (.t 1)), oG 22 20 false (.ibin .gtr (.t 21) (.c (.int .i64 4))), oA 23 (.pick (.t 20) (.c (.bool true)) (.t 22)), oA 24 (.mv (.t 23)), oG 25 24 false (.mv (.t 2)), oG 26 24 false (.ibin .lss (.t 25) (.c (.int .i64 0))), oA 27 (.pick (.t 24) (.c (.bool true)) (.t 26)), oA 28 (.mv (.t 27)), oG 29 28 false (.mv (.t 2)), oG 30 28 false (.ibin .gtr (.t 29) (.c (.int .i64 1))), oA 31 (.pick (.t 28) (.c (.bool true)) (.t 30))]
def gdeep_r2 : List AI := [oC 32 (.c (.fn 8 [])) [], oA 8 (.mv (.t 32))]
def gdeep_r3 : List AI := [oA 33 (.mv (.t 1)), oA 34 (.build [(.int .i64 0), (.int .i64 0)] [(0, (1, (.t 33))), (1, (1, (.c (.int .i64 1500))))]), oA 35 (.fld 9 (.t 4)), oN (.store 2 (.t 35) (.t 34))]
def gdeep_r4 : List AI := [oA 36 (.load (some 11) (.t 4)), oA 9 (.new 308009 11 (.agg [.nils, .nils, .nils, (.int .i64 0), .nils, (.int .i64 0), (.int .i64 0), (.int .i64 0), (.int .i64 0), (.int .i64 0), (.int .i64 0)])), oN (.store 11 (.t 9) (.t 36))]
def gdeep_r5 : List AI := [oA 37 (.mv (.t 1)), oA 38 (.mv (.t 2)), oA 39 (.ibin .add (.t 37) (.t 38)), oA 40 (.fld 9 (.t 9)), oA 41 (.fld 0 (.t 40)), oN (.store 1 (.t 41) (.t 39))]
def gdeep_r6 : List AI := [oA 42 (.fld 5 (.t 4)), oA 43 (.fld 0 (.t 42)), oA 44 (.load none (.t 43)), oA 45 (.fld 0 (.t 7)), oA 46 (.load none (.t 45)), oA 47 (.mm true (.t 44) [(.t 46)]), oA 48 (.fld 5 (.t 4)), oA 49 (.fld 1 (.t 48)), oA 50 (.load none (.t 49)), oA 51 (.fld 1 (.t 7)), oA 52 (.load none (.t 51)), oA 53 (.mm true (.t 50) [(.t 52)]), oA 54 (.fld 5 (.t 4)), oA 55 (.fld 2 (.t 54)), oA 56 (.load none (.t 55)), oA 57 (.fld 2 (.t 7)), oA 58 (.load none (.t 57)), oA 59 (.mm true (.t 56) [(.t 58)]), oA 60 (.fld 5 (.t 4)), oA 61 (.fld 3 (.t 60)), oA 62 (.load none (.t 61)), oA 63 (.fld 3 (.t 7)), oA 64 (.load none (.t 63)), oA 65 (.mm true (.t 62) [(.t 64)]), oA 66 (.build [(.int .i64 0), (.int .i64 0), (.int .i64 0), (.int .i64 0)] [(0, (1, (.t 47))), (1, (1, (.t 53))), (2, (1, (.t 59))), (3, (1, (.t 65)))]), oA 67 (.fld 5 (.t 9)), oN (.store 4 (.t 67) (.t 66))]
def gdeep_r7 : List AI := [oA 68 (.load (some 11) (.t 4)), oC 69 (.c (.fn 9 [])) [(.t 68)], oA 70 (.load (some 11) (.t 9)), oC 71 (.c (.fn 9 [])) [(.t 70)], oA 10 (.new 308010 7 (.agg [(.int .i64 0), (.int .i64 0), (.int .i64 0), (.int .i64 0), (.int .i64 0), (.int .i64 0), .nils])), oA 11 (.new 308011 7 (.agg [(.int .i64 0), (.int .i64 0), (.int .i64 0), (.int .i64 0), (.int .i64 0), (.int .i64 0), .nils])), oN (.store 7 (.t 10) (.t 69)), oN (.store 7 (.t 11) (.t 71))]
def gdeep_p7 : List (List Nat) := [[], [0], [], [2, 1, 0], [], [], [4, 1, 3, 0, 5, 2], [5, 3, 6, 0, 1, 2, 4]]
def gdeep_r8 : List AI := [oA 72 (.fld 0 (.t 10)), oA 73 (.load none (.t 72)), oA 74 (.ibin .neq (.t 73) (.c (.int .i64 3))), oA 75 (.mv (.t 74)), oG 76 75 false (.fld 0 (.t 11)), oG 77 75 false (.load none (.t 76)), oG 78 75 false (.ibin .neq (.t 77) (.c (.int .i64 3))), oA 79 (.pick (.t 75) (.c (.bool true)) (.t 78))]
def gdeep_r9 : List AI := [oC 80 (.c (.fn 8 [])) [], oA 8 (.mv (.t 80))]
def gdeep_r10 : List AI := [oA 12 (.mv (.c (.int .i64 0)))]
def gdeep_r11 : List AI := [oA 81 (.mv (.t 12)), oA 82 (.fld 6 (.t 10)), oA 83 (.load none (.t 82)), oA 84 (.len (.t 83)), oA 85 (.ibin .lss (.t 81) (.t 84))]
def gdeep_r12 : List AI := [oA 88 (.load (some 7) (.t 11)), oA 89 (.fld 6 (.t 10)), oA 90 (.load none (.t 89)), oA 91 (.mv (.t 12)), oA 92 (.idx 2 (.t 90) (.t 91)), oA 93 (.fld 0 (.t 92)), oA 94 (.load none (.t 93)), oC 95 (.c (.fn 10 [])) [(.t 88), (.t 94)], oA 96 (.not (.t 95))]
def gdeep_p12 : List (List Nat) := [[], [], [1], [], [2, 3, 1], [4, 2, 3, 1], [5, 4, 2, 3, 1], [0, 6, 5, 4, 2, 3, 1], [7, 0, 6, 5, 4, 2, 3, 1]]
def gdeep_r13 : List AI := [oA 8 (.mv (.c (.bool false)))]
def gdeep_r14 : List AI := [oA 86 (.mv (.t 12)), oA 87 (.ibin .add (.t 86) (.c (.int .i64 1))), oA 12 (.mv (.t 87))]
def gdeep_l0 : AC := (.seq (.seq (.reg gdeep_r11) (.cond (.t 85) .skip (.exit 0))) (.seq (.block 1 (.seq (.regd gdeep_r12 gdeep_p12) (.cond (.t 96) (.seq (.reg gdeep_r13) .ret) .skip))) (.reg gdeep_r14)))
def gdeep_r15 : List AI := [oA 97 (.fld 3 (.t 10)), oA 98 (.load none (.t 97)), oA 99 (.fld 3 (.t 11)), oA 100 (.load none (.t 99)), oA 101 (.ibin .leq (.t 98) (.t 100)), oA 102 (.mv (.t 101)), ⟨(some 103), (some (102, true)), (.call (.c (.fn 8 [])) [])⟩, oA 104 (.pick (.t 102) (.t 103) (.c (.bool false))), oA 8 (.mv (.t 104))]
def gdeep_c : AC := (.seq (.reg gdeep_r0) (.seq (.seq (.reg gdeep_r1) (.cond (.t 31) (.seq (.reg gdeep_r2) .ret) .skip)) (.seq (.reg gdeep_r3) (.seq (.reg gdeep_r4) (.seq (.reg gdeep_r5) (.seq (.reg gdeep_r6) (.seq (.regd gdeep_r7 gdeep_p7) (.seq (.seq (.reg gdeep_r8) (.cond (.t 79) (.seq (.reg gdeep_r9) .ret) .skip)) (.seq (.seq (.reg gdeep_r10) (.block 0 (.loop gdeep_l0))) (.seq (.reg gdeep_r15) .ret))))))))))
def gdeep_res : List ARes := [(.tmp 8)]
set_option maxRecDepth 100000 in
theorem gdeep_get : getF Tryz.prog 3 308000 [] = some ("gavotte/gavottetop.TopDeeper", 105, gdeep_c, gdeep_res) := by kernel_rfl
attribute [simp] gdeep_r0 gdeep_r1 gdeep_r2 gdeep_r3 gdeep_r4 gdeep_r5 gdeep_r6 gdeep_r7 gdeep_p7 gdeep_r8 gdeep_r9 gdeep_r10 gdeep_r11 gdeep_r12 gdeep_p12 gdeep_r13 gdeep_r14 gdeep_r15 gdeep_res
open Go.RowKit
theorem task_any (c : Cfg) (hm : ∀ x ∈ c.l, ∀ i ∈ x, i.a <= 9223372036854775807) : ∃ (vd code runs worlds slept cut : Int) (fv : AV), PC Tryz.prog 9 [c.av] (.agg [iv vd, iv code, iv runs, iv worlds, iv slept, iv cut, fv]) /\ (fv = .nils \/ ∃ xs : List Fnd, fv = .lst 2 (xs.map Fnd.av)) /\
   (vd = 3 -> COk c /\ (exploreS c).ended = false /\ worlds = (exploreS c).worlds /\ fv = .lst 2 ((exploreS c).found.map Fnd.av)) := by
 by_cases hy : whyV c = 0
 . have hc := cok_of hy hm
   have ht := taskG_pc put_all c hc
   refine ⟨if (exploreS c).ended = true then 4 else 3, 0, _, _, _, _, _, ht, .inr ⟨_, rfl⟩, fun h => ⟨hc, ?_, rfl, rfl⟩⟩
   cases e : (exploreS c).ended
   . rfl
   . rw [e] at h; cases h
 . exact ⟨2, whyV c, 0, 0, 0, 0, .nils, task_e c hm hy, .inl rfl, fun h => by cases h⟩
theorem br_of {b : Bud} (h : budOk b = true) : BR b := by
 simp [budOk] at h
 exact ⟨by omega, by omega, by omega, by omega⟩
theorem gdeep_loop (vx cx rx wx sx ux vy cy ry wy sy uy : Int) (fx fy : List Fnd) (hlx : fx.length <= 1000) (hly : fy.length <= 1000) (hin : ∀ y ∈ fx, (fy.any fun x => decide (x.watch = y.watch)) = true) (s10 s11 : Nat) {S : St} {κ : Ex -> St -> Prop} {u : Dep κ}
   (g10 : S.t 10 = .ptr 308010 s10 7 0 0) (b10 : S.blk 308010 = some ⟨s10, 7, [.agg [iv vx, iv cx, iv rx, iv wx, iv sx, iv ux, .lst 2 (fx.map Fnd.av)]]⟩)
   (g11 : S.t 11 = .ptr 308011 s11 7 0 0) (b11 : S.blk 308011 = some ⟨s11, 7, [.agg [iv vy, iv cy, iv ry, iv wy, iv sy, iv uy, .lst 2 (fy.map Fnd.av)]]⟩) (g12 : S.t 12 = iv 0)
   (hk : ∀ S', S'.t 10 = .ptr 308010 s10 7 0 0 -> S'.blk 308010 = S.blk 308010 -> S'.t 11 = .ptr 308011 s11 7 0 0 -> S'.blk 308011 = S.blk 308011 -> κ (.exit 0) S') :
   LoopG Tryz.prog gdeep_l0 κ S u := by
 rw [b10, b11] at hk
 refine loopN (fun i S' => S'.t 12 = iv i /\ S'.t 10 = .ptr 308010 s10 7 0 0 /\ S'.blk 308010 = some ⟨s10, 7, [.agg [iv vx, iv cx, iv rx, iv wx, iv sx, iv ux, .lst 2 (fx.map Fnd.av)]]⟩ /\ S'.t 11 = .ptr 308011 s11 7 0 0 /\ S'.blk 308011 = some ⟨s11, 7, [.agg [iv vy, iv cy, iv ry, iv wy, iv sy, iv uy, .lst 2 (fy.map Fnd.av)]]⟩) fx.length ⟨g12, g10, b10, g11, b11⟩ ?_
 rintro i S' hi ⟨g12, g10, b10, g11, b11⟩
 clear hi
 by_cases hlt : i < fx.length
 . have hw := wrap_succ i _ hlt (by omega)
   have hc : ∀ x : Fnd, x.av.cells = [iv x.watch, evts x.path] := fun _ => rfl
   have hf := wfound_pc vy cy ry wy sy uy fy hly fx[i].watch
   rw [hin _ (List.getElem_mem hlt)] at hf
   simp [gdeep_l0, g12, g10, b10, g11, b11, hlt, hc]
   refine calld hf (by simp) ?_
   simp [g12, g10, b10, g11, b11, hlt, hw]
 . simp [gdeep_l0, g12, g10, b10, hlt]
   exact hk _ (by simp [g10]) (by simp [b10]) (by simp [g11]) (by simp [b11])
def maxB (a b : Bud) : Bud := ⟨max a.drop b.drop, max a.dup b.dup, max a.time b.time, max a.crash b.crash⟩
theorem deep_pc (c : Cfg) (hm : ∀ x ∈ c.l, ∀ i ∈ x, i.a <= 9223372036854775807) (d m : Int) (b : Bud) : PC Tryz.prog 3 [c.av, iv d, iv m, b.av] (.bool true) := by
 refine pc_of_get gdeep_get (by simp) _ (by simp) _ ?_
 unfold gdeep_c
 simp [Cfg.av, watchesAv, Bud.av]
 refine call (gsmall_pc c) (by simp [Cfg.av, watchesAv]) ?_
 by_cases hs : c.small = true
 rotate_left
 . simp [hs]
   refine call awake_pc (by simp) ?_
   simp
 by_cases h1 : d < 0
 . simp [hs, h1]
   refine call awake_pc (by simp) ?_
   simp
 by_cases h2 : 4 < d
 . simp [hs, h1, h2]
   refine call awake_pc (by simp) ?_
   simp
 by_cases h3 : m < 0
 . simp [hs, h1, h2, h3]
   refine call awake_pc (by simp) ?_
   simp
 by_cases h4 : 1 < m
 . simp [hs, h1, h2, h3, h4]
   refine call awake_pc (by simp) ?_
   simp
 have hw : IntKind.i64.wrap (d + m) = d + m := wrap_in _ (by omega) (by omega)
 obtain ⟨vx, ox, rx, wx, sx, ux, fx, tx, ex, hx⟩ := task_any { c with depth := d, most := 1500 } hm
 obtain ⟨vy, oy, ry, wy, sy, uy, fy, ty, ey, hy⟩ := task_any { c with depth := d + m, most := 1500, b := maxB c.b b } hm
 simp [hs, h1, h2, h3, h4, hw]
 have cx : (AV.agg [iv vx, iv ox, iv rx, iv wx, iv sx, iv ux, fx]).cells = [iv vx, iv ox, iv rx, iv wx, iv sx, iv ux, fx] := rfl
 by_cases h33 : vx = 3 /\ vy = 3
 . obtain ⟨rfl, rfl⟩ := h33
   obtain ⟨hcx, x1, x2, x3⟩ := hx rfl
   obtain ⟨hcy, y1, y2, y3⟩ := hy rfl
   subst x2 x3 y2 y3
   obtain ⟨q1, q2⟩ := deeper (c := { c with depth := d, most := 1500 }) (c' := { c with depth := d + m, most := 1500, b := maxB c.b b }) (pv_of hcx.fl) rfl rfl (br_of hcx.bu) (br_of hcy.bu) ⟨Int.le_max_left _ _, Int.le_max_left _ _, Int.le_max_left _ _, Int.le_max_left _ _⟩ (by show 0 <= d; omega) (by show d <= d + m; omega) (by show d + m <= 5; omega) x1 y1
   have lx := (visitS_fok (c := { c with depth := d, most := 1500 }) (d.toNat + 1) sr0 (startV c.p) [] ⟨by simp [sr0], by simp [sr0]⟩).len
   have ly := (visitS_fok (c := { c with depth := d + m, most := 1500, b := maxB c.b b }) ((d + m).toNat + 1) sr0 (startV c.p) [] ⟨by simp [sr0], by simp [sr0]⟩).len
   have l8 : c.l.length <= 8 := by
     have := hcx.wc
     unfold wcheckV at this
     split at this
     . omega
     . rename_i q; show c.l.length <= 8; have q' : ¬ 8 < c.l.length := q; omega
   have lx : (exploreS { c with depth := d, most := 1500 }).found.length <= c.l.length := lx
   have ly : (exploreS { c with depth := d + m, most := 1500, b := maxB c.b b }).found.length <= c.l.length := ly
   generalize exploreS { c with depth := d, most := 1500 } = X at *
   generalize exploreS { c with depth := d + m, most := 1500, b := maxB c.b b } = Y at *
   refine calld tx (by simp [Cfg.av, watchesAv]) ?_
   simp
   refine calld ty (by simp [Cfg.av, watchesAv, maxB]) ?_
   simp
   refine gdeep_loop 3 ox rx X.worlds sx ux 3 oy ry Y.worlds sy uy X.found Y.found (by omega) (by omega) (fun y hy' => q1 y.watch (List.any_eq_true.2 ⟨y, hy', by simp⟩)) _ _ (by simp <;> rfl) (by simp <;> rfl) (by simp <;> rfl) (by simp <;> rfl) (by simp) (fun S' e1 e2 e3 e4 => ?_)
   simp at e2 e4
   simp [e1, e2, e3, e4, q2]
   refine call awake_pc (by simp) ?_
   simp
 . rcases ex with rfl | ⟨xs, rfl⟩
   all_goals
     rcases ey with rfl | ⟨ys, rfl⟩
     all_goals
       refine calld tx (by simp [Cfg.av, watchesAv]) ?_
       simp
       refine calld ty (by simp [Cfg.av, watchesAv, maxB]) ?_
       by_cases hvx : vx = 3
       . have hvy : ¬ vy = 3 := fun q => h33 ⟨hvx, q⟩
         simp [hvx, hvy]
         refine call awake_pc (by simp) ?_
         simp
       . simp [hvx]
         refine call awake_pc (by simp) ?_
         simp
end Go.Gv

namespace Go.Gv
open Go.Proofs
theorem open_bud {H : Type} {enc : TypeId × Value -> H} {w : World} {v : Value} {d : DataW H} {ps : List MemPlace} (h : DataW.Trod enc Tryz.prog w 0 (fun _ => true) true 29 v d ps) : ∃ p : Bud, True /\ Rel (envK (Kw w)) p.av v := by
 obtain ⟨fuel, h⟩ := h
 obtain ⟨p, p1, p2, p3, p4⟩ := o_bud _ _ _ h
 exact ⟨p, p1, agg_of_cells (by simp [Bud.av]) p2 p3 p4⟩
theorem deep_rc (c : Cfg) (h : c.R) (d m : Int) (b : Bud) : PC Tryz.prog 3 [c.av, iv d, iv m, b.av] (.bool true) := by
 refine deep_pc c (fun x hx i hi => ?_) d m b
 have := ((h.2.2 x hx).2 i hi).2
 have h2 : -9223372036854775808 <= i.a /\ i.a <= 9223372036854775807 := by
   simpa [InR, Lit.wf, IntKind.min, IntKind.max, IntKind.signed, IntKind.bits] using this
 exact h2.2
end Go.Gv
