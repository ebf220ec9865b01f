/- Texts of this proof, one behind the other. What is proved, and on which conditions, stands ahead of each. -/
import Derived.Test.YthidhohdcjojhaaGreatDoorProg
import Derived.Test.YthidhohdcjojhaaGreatDoorM346afcd5
import Derived.Test.YthidhohdcjojhaaGreatDoorM33e9d7aa
import Derived.Test.YthidhohdcjojhaaGreatDoorM28d84810
import Derived.Test.YthidhohdcjojhaaGreatDoorM326af3fd
import Derived.Test.YthidhohdcjojhaaGreatDoorM31bcd0aa
import Derived.Test.YthidhohdcjojhaaGreatDoorM169a7c6f

set_option linter.unusedVariables false
set_option linter.unusedSimpArgs false
namespace Go.Gv
open Go.Proofs
def svalues_r0 : List AI := [⟨(some 1), none, (.op (.box 287001 1 (.t 0)))⟩, ⟨(some 2), none, (.op (.mv (.c .nilf)))⟩]
def svalues_r1 : List AI := [⟨(some 3), none, (.op (.mkf 76 [(.t 1)]))⟩, ⟨(some 2), none, (.op (.mv (.t 3)))⟩]
def svalues_c : AC := (.seq (.reg svalues_r0) (.seq (.reg svalues_r1) .ret))
def svalues_res : List ARes := [(.tmp 2)]
set_option maxRecDepth 100000 in
theorem svalues_get : getF Tryz.prog 44 287000 [] = some ("slices.Values[[]int,int]", 4, svalues_c, svalues_res) := by kernel_rfl
def scollect_r0 : List AI := [⟨(some 2), none, (.op (.mv (.c .nils)))⟩]
def scollect_r1 : List AI := [⟨(some 3), none, (.op (.mv (.t 0)))⟩, ⟨(some 4), none, (.call (.c (.fn 105 [])) [(.c .nils), (.t 3)])⟩, ⟨(some 2), none, (.op (.mv (.t 4)))⟩]
def scollect_c : AC := (.seq (.reg scollect_r0) (.seq (.reg scollect_r1) .ret))
def scollect_res : List ARes := [(.tmp 2)]
set_option maxRecDepth 100000 in
theorem scollect_get : getF Tryz.prog 74 288000 [] = some ("slices.Collect[int]", 5, scollect_c, scollect_res) := by kernel_rfl
def ssorted_r0 : List AI := [⟨(some 2), none, (.op (.mv (.c .nils)))⟩]
def ssorted_r1 : List AI := [⟨(some 4), none, (.op (.mv (.t 0)))⟩, ⟨(some 5), none, (.call (.c (.fn 74 [])) [(.t 4)])⟩, ⟨(some 3), none, (.op (.mv (.t 5)))⟩]
def ssorted_r2 : List AI := [⟨(some 6), none, (.op (.mv (.t 3)))⟩, ⟨(some 7), none, (.call (.c (.fn 75 [])) [(.t 6)])⟩]
def ssorted_r3 : List AI := [⟨(some 8), none, (.op (.mv (.t 3)))⟩, ⟨(some 2), none, (.op (.mv (.t 8)))⟩]
def ssorted_c : AC := (.seq (.reg ssorted_r0) (.seq (.reg ssorted_r1) (.seq (.reg ssorted_r2) (.seq (.reg ssorted_r3) .ret))))
def ssorted_res : List ARes := [(.tmp 2)]
set_option maxRecDepth 100000 in
theorem ssorted_get : getF Tryz.prog 43 289000 [] = some ("slices.Sorted[int]", 9, ssorted_c, ssorted_res) := by kernel_rfl
attribute [simp] svalues_r0 svalues_r1 svalues_res scollect_r0 scollect_r1 scollect_res ssorted_r0 ssorted_r1 ssorted_r2 ssorted_r3 ssorted_res
open Go.RowKit
theorem HConc.takeRow {E : Env} {B : Nat} {h : Hp} {w w' : World} (H : HConc E B h w) (hB : B <= w.heap.size) (hbel : Below w.heap.size w w') (nm st sz g : Nat) (hg : w.heap.size <= g) (hs0 : sz ≠ 0) (hst : ¬ E.u st) (es : List AV) (cur : Array Value) (e : TypeId) (hgh : w'.heap[g]? = some (.cells cur e (0, 0)))
   (hel : ∀ x ∈ es, ElemOk sz x) (c : Nat) (hcl : es.length <= c) (hsz : c * sz <= cur.size)
   (hr : ∀ (i : Nat) (x : AV), es[i]? = some x -> ∀ (j : Nat) (y : AV), x.cells[j]? = some y -> ∃ u, cur[i * sz + j]? = some u /\ Rel E y u) :
   HConc (E.withM st (g, 0) c) B (h.setB nm (some ⟨st, sz, es⟩)) w' := by
 have hE := Env.le_withM hst (g, 0) c
 have h1 := H.grow (w' := w') (fun k hk => hbel.block k hk)
 have h2 := h1.env hE h1.K (fun n b x j => (h1.bk n b x).noK j) (fun _ _ _ _ _ _ => rfl)
 have em : (E.withM st (g, 0) c).m st = (g, 0) := upd_same _ _ _
 have ec : (E.withM st (g, 0) c).cp st = c := upd_same _ _ _
 refine (h2.dropB nm).putB ⟨st, sz, es⟩ (.inl rfl) (.row hs0 ⟨?_, hel, by rw [ec]; exact hcl, ?_, ?_⟩) ?_ ?_
 . rw [em]; exact Nat.le_trans hB hg
 . rw [em, ec]
   refine ⟨cur, e, hgh, by simpa using hsz, fun i x hx j y hy => ?_⟩
   obtain ⟨u, hu, hrel⟩ := hr i x hx j y hy
   exact ⟨u, by simpa using hu, hrel.mono hE⟩
 . rw [em]; exact fun j => K_none H hg j
 . intro n b' hn hb'
   rw [hE.m _ (H.bu n b' hb'), em]
   exact fun q => by have := (H.bk n b' hb').lt; rw [q] at this; exact Nat.lt_irrefl _ (Nat.lt_of_lt_of_le this hg)
 . intro n t ht q
   rw [hE.hd _ (H.tu n t ht), em] at q
   exact Nat.lt_irrefl _ (Nat.lt_of_lt_of_le ((H.tk n t ht).lt q).2 hg)
theorem ints_cells {E : Env} {xs : List Int} {v : Value} (h : Rel E (ints xs) v) (hx : xs ≠ []) : ∃ b o cap, v = .slice (some ⟨b, o, none⟩) xs.length cap /\ xs.length <= cap /\ ∀ (j : Nat), j < xs.length -> E.K b (o + j) = some (.int .i64 (xs[j]?.getD 0)) := by
 unfold ints at h
 generalize hy : xs.map iv = ys at h
 cases h with
 | lst0 _ a cap => simp at hy; exact absurd hy hx
 | lst _ b o _ cap f hcap hsz hk h1 hr =>
   subst hy
   refine ⟨b, o, cap, by simp, by simpa using hcap, fun j hj => ?_⟩
   have e1 := hk j 0 (by simpa using hj) (by decide)
   have e2 := hr j (iv xs[j]) (by simp [hj]) 0 _ rfl
   have e3 := rel_int e2
   rw [e3] at e1
   have : o + j * 1 + 0 = o + j := by omega
   rw [this] at e1
   simpa [hj] using e1
theorem appseq_v (nmB stB : Nat) (x : AV) (zs : List Int) (hz : zs ≠ []) (hl : zs.length <= 1000) (hx1 : x.one = true) (hx : ∀ (E : Env) (v : Value), Rel E x v -> Rel E (ints zs) v) {S : St} {k : AV -> St -> Prop} {u : Dep k} (hb : S.blk nmB = some ⟨stB, 1, [x]⟩) (hxc : x.cells = [x])
   (hk : ∀ S' v, S'.t = S.t -> S'.tok = S.tok -> S.clk <= S'.clk -> (∀ n, n ≠ 290001 -> S'.blk n = S.blk n) -> MutIs S' 290001 1 v (zs.map iv) -> k v S') :
   CallG Tryz.prog (.fn 105 []) [.nils, .fn 76 [.ptr nmB stB 1 0 0]] S k u := by
 refine ⟨105, [], rfl, entersF 105 _ Tryz.func105 (by kernel_rfl) (by kernel_rfl), fun E B W w args H hW hG hu hsz hrel => ?_⟩
 have hB' : B <= w.heap.size := Nat.le_trans hG.le hW.size
 obtain ⟨v0, v1, rfl⟩ := args2 (by simpa using hsz)
 obtain rfl := (hrel 0 _ v0 rfl rfl).nils_inv
 have r1 := hrel 1 _ v1 rfl rfl
 have hb' : S.h.blk nmB = some ⟨stB, 1, [x]⟩ := hb
 have hbk := H.bk nmB _ hb'
 have hlt := hbk.lt
 obtain ⟨cur, ty, hh, hszr, hr⟩ := (hbk.r (by simp)).row
 obtain ⟨u0, hu1, hu2⟩ := hr 0 x rfl 0 x (by rw [hxc]; rfl)
 simp only [Nat.zero_mul, Nat.add_zero] at hu1 hh hlt
 obtain ⟨b, o, cap, rfl, hcap, hcs⟩ := ints_cells (hx E u0 hu2) hz
 obtain rfl : v1 = .func (.func 76) #[] #[.pointer (some ⟨(E.m stB).1, (E.m stB).2, none⟩)] := by
   cases r1 with
   | fn _ _ vs hs hr =>
     obtain ⟨q, rfl⟩ := args1 (args := vs) (by simpa using hs.symm)
     have := rel_ptr (hr 0 _ q rfl rfl)
     rw [this.1]
     simp
 have hbx : w.cell? ⟨(E.m stB).1, (E.m stB).2, none⟩ = some (.slice (some ⟨b, o, none⟩) zs.length cap) := by
   rw [cell_row hh]; exact hu1
 have hcw : ∀ j, j < zs.length -> w.cell? ⟨b, o + j, none⟩ = some (.int .i64 (zs[j]?.getD 0)) := fun j hj => H.K _ _ _ (hcs j hj)
 have hbl : b < w.heap.size := by
   have h0 : 0 < zs.length := Nat.pos_of_ne_zero fun q => hz (List.length_eq_zero_iff.1 q)
   exact World.block_lt_of_cell? w _ (hcw 0 h0)
 have hcon := (appSeq_in (E.m stB).1 (E.m stB).2 b o cap zs hl w hlt hbl hbx hcw).calls (fun k => room_wide k)
 refine hcon.mono ?_
 rintro e w' ⟨v, rfl, hrow, hnil, hbel⟩
 rcases hrow.2 with ⟨rfl, hq⟩ | ⟨g, cap2, cur2, rfl, hg1, hg2, hg3, hg4, hg5, hg6⟩
 . exact absurd (List.length_eq_zero_iff.1 hq) hz
 have hst : ¬ E.u S.clk := fun q => by have := hu _ q; omega
 have H2 := H.takeRow hB' hbel 290001 S.clk 1 g hg1 (by simp) hst (zs.map iv) cur2 _ hg2 (by
     intro y hy
     obtain ⟨z, _, rfl⟩ := List.mem_map.1 hy
     exact ⟨rfl, by simp [AV.cells, AV.one]⟩) cap2 (by simpa using hg3) (by rw [hg5]; exact Nat.le_refl _) (by
     intro i y hy j z hz'
     rw [List.getElem?_map, Option.map_eq_some_iff] at hy
     obtain ⟨q, hq, rfl⟩ := hy
     match j, hz' with
     | 0, hz' =>
       cases hz'
       refine ⟨.int .i64 q, ?_, .int _ _⟩
       have hil := (List.getElem?_eq_some_iff.1 hq).1
       have : (cur2.toList.take (zs.length * 1))[i]? = some (.int .i64 q) := by rw [hg6, List.getElem?_map, hq]; rfl
       rw [List.getElem?_take, if_pos (by omega)] at this
       simpa using this
     | j + 1, hz' => simp [AV.cells] at hz')
 refine ⟨_, _, .sl 290001 S.clk 1 0 zs.length, ⟨S.t, upd S.blk 290001 (some ⟨S.clk, 1, zs.map iv⟩), S.tok, S.clk + 1⟩, rfl, Env.le_withM hst (g, 0) cap2, H2, hW.trans (hbel.mono hB'), fun _ _ _ => rfl, fun s hs => ?_, Nat.le_succ _, rfl, ?_, ?_⟩
 . rcases hs with q | q
   . subst q; exact ⟨.inr (Nat.le_refl _), Nat.lt_succ_self _⟩
   . exact ⟨.inl q, Nat.lt_succ_of_lt (hu s q)⟩
 . have em : (E.withM S.clk (g, 0) cap2).m S.clk = (g, 0) := upd_same _ _ _
   have ec : (E.withM S.clk (g, 0) cap2).cp S.clk = cap2 := upd_same _ _ _
   exact .sl 290001 S.clk 1 0 zs.length cap2 _ (.inl rfl) hg3 (by rw [ec]; omega) (fun _ => by rw [em])
 . exact hk _ _ rfl rfl (Nat.le_succ _) (fun n hn => by simp [hn]) (.inr ⟨S.clk, by simp, by simp⟩)
theorem values_v (x : AV) (hx1 : x.one = true) (hxc : x.cells = [x]) {S : St} {k : AV -> St -> Prop} {u : Dep k}
   (hk : ∀ S' st, S'.t = S.t -> S'.tok = S.tok -> S.clk <= S'.clk -> (∀ n, n ≠ 287001 -> S'.blk n = S.blk n) -> S'.blk 287001 = some ⟨st, 1, [x]⟩ -> k (.fn 76 [.ptr 287001 st 1 0 0]) S') :
   CallG Tryz.prog (.fn 44 []) [x] S k u := by
 refine callV svalues_get (by simp) (by simp) ?_
 unfold svalues_c
 simp [hx1, hxc]
 exact hk _ _ rfl rfl (by simp only []; omega) (fun n hn => by simp [hn]) (by simp)
theorem sorted_v (nmB stB : Nat) (hnm : nmB ≠ 290001) (x : AV) (zs : List Int) (hz : zs ≠ []) (hl : zs.length <= 1000) (hx1 : x.one = true) (hx : ∀ (E : Env) (v : Value), Rel E x v -> Rel E (ints zs) v) {S : St} {k : AV -> St -> Prop} {u : Dep k} (hb : S.blk nmB = some ⟨stB, 1, [x]⟩) (hxc : x.cells = [x])
   (hk : ∀ S' v, S'.t = S.t -> S'.tok = S.tok -> S.clk <= S'.clk -> (∀ n, n ≠ 290001 -> S'.blk n = S.blk n) -> MutIs S' 290001 1 v ((zs.mergeSort fun x y => decide (x <= y)).map iv) -> k v S') :
   CallG Tryz.prog (.fn 43 []) [.fn 76 [.ptr nmB stB 1 0 0]] S k u := by
 refine callV ssorted_get (by simp) (by simp) ?_
 unfold ssorted_c
 simp
 refine callV scollect_get (by simp) (by simp) ?_
 unfold scollect_c
 simp
 refine appseq_v nmB stB x zs hz hl hx1 hx (by simpa using hb) hxc (fun S1 v q1 q2 q3 q4 q5 => ?_)
 have hzl : 0 < zs.length := Nat.pos_of_ne_zero fun q => hz (List.length_eq_zero_iff.1 q)
 rcases q5 with ⟨_, q⟩ | ⟨st, rfl, b5⟩
 . simp at q; exact absurd q hz
 simp [q1]
 refine sort_v 290001 st (zs.map iv) zs hzl (by omega) (fun j h => by simp [h]) b5 ?_
 simp
 refine hk _ _ rfl q2 (by simp at q3; simp only []; omega) (fun n hn => ?_) (.inr ⟨st, by simp, by simp⟩)
 simp [hn]
 exact q4 n hn
end Go.Gv

namespace Go.Gv
open Go.Proofs
def zreg_r0 : List AI := [⟨(some 2), none, (.op (.new 291002 2 (.agg [(.int .i64 0), (.int .i64 0)])))⟩]
def zreg_r1 : List AI := [⟨(some 3), none, (.op (.mv (.t 0)))⟩, ⟨(some 4), none, (.op (.build [(.int .i64 0), (.int .i64 0)] [(0, (1, (.c (.int .i64 31)))), (1, (1, (.t 3)))]))⟩, ⟨none, none, (.op (.store 2 (.t 2) (.t 4)))⟩]
def zreg_c : AC := (.seq (.reg zreg_r0) (.seq (.reg zreg_r1) .ret))
def zreg_res : List ARes := [(.cell (some 2) 2)]
set_option maxRecDepth 100000 in
theorem zreg_get : getF Tryz.prog 49 291000 [] = some ("gavotte/models.reg", 5, zreg_c, zreg_res) := by kernel_rfl
def zop_r0 : List AI := [⟨(some 2), none, (.op (.new 292002 2 (.agg [(.int .i64 0), (.int .i64 0)])))⟩]
def zop_r1 : List AI := [⟨(some 3), none, (.op (.mv (.t 0)))⟩, ⟨(some 4), none, (.op (.build [(.int .i64 0), (.int .i64 0)] [(0, (1, (.t 3)))]))⟩, ⟨none, none, (.op (.store 2 (.t 2) (.t 4)))⟩]
def zop_c : AC := (.seq (.reg zop_r0) (.seq (.reg zop_r1) .ret))
def zop_res : List ARes := [(.cell (some 2) 2)]
set_option maxRecDepth 100000 in
theorem zop_get : getF Tryz.prog 50 292000 [] = some ("gavotte/models.op", 5, zop_c, zop_res) := by kernel_rfl
def znum_r0 : List AI := [⟨(some 2), none, (.op (.new 293002 2 (.agg [(.int .i64 0), (.int .i64 0)])))⟩]
def znum_r1 : List AI := [⟨(some 3), none, (.op (.mv (.t 0)))⟩, ⟨(some 4), none, (.op (.build [(.int .i64 0), (.int .i64 0)] [(0, (1, (.c (.int .i64 1)))), (1, (1, (.t 3)))]))⟩, ⟨none, none, (.op (.store 2 (.t 2) (.t 4)))⟩]
def znum_c : AC := (.seq (.reg znum_r0) (.seq (.reg znum_r1) .ret))
def znum_res : List ARes := [(.cell (some 2) 2)]
set_option maxRecDepth 100000 in
theorem znum_get : getF Tryz.prog 52 293000 [] = some ("gavotte/models.number", 5, znum_c, znum_res) := by kernel_rfl
def zprog_r0 : List AI := [⟨(some 6), none, (.op (.new 294006 4 (.agg [.nils, .nils, .nils, (.int .i64 0)])))⟩]
def zprog_r1 : List AI := [⟨(some 9), none, (.op (.mv (.t 0)))⟩, ⟨(some 10), none, (.op (.mv (.t 1)))⟩, ⟨(some 11), none, (.op (.build [.nils, .nils, .nils, (.int .i64 0)] [(0, (1, (.t 9))), (1, (1, (.t 10))), (3, (1, (.c (.int .i64 64))))]))⟩, ⟨(some 7), none, (.op (.new 294007 4 (.agg [.nils, .nils, .nils, (.int .i64 0)])))⟩, ⟨none, none, (.op (.store 4 (.t 7) (.t 11)))⟩]
def zprog_r2 : List AI := [⟨(some 12), none, (.op (.mv (.t 2)))⟩, ⟨(some 13), none, (.op (.mv (.c (.int .i64 0))))⟩]
def zprog_r3 : List AI := [⟨(some 14), none, (.op (.ibin .lss (.t 13) (.t 12)))⟩]
def zprog_r4 : List AI := [⟨(some 15), none, (.op (.mv (.t 13)))⟩, ⟨(some 8), none, (.op (.mv (.t 15)))⟩]
def zprog_r5 : List AI := [⟨(some 16), none, (.op (.fld 2 (.t 7)))⟩, ⟨(some 17), none, (.op (.load none (.t 16)))⟩, ⟨(some 18), none, (.op (.mv (.t 8)))⟩, ⟨(some 19), none, (.op (.build [(.int .i64 0), (.int .i64 0), .nils] [(0, (1, (.t 18)))]))⟩, ⟨(some 20), none, (.op (.bsl 294020 3 58 1 (.agg [(.int .i64 0), (.int .i64 0), .nils]) [(0, (.t 19))]))⟩, ⟨(some 21), none, (.op (.app 294021 3 58 40 (.t 17) (.t 20)))⟩, ⟨(some 22), none, (.op (.fld 2 (.t 7)))⟩, ⟨none, none, (.op (.store 1 (.t 22) (.t 21)))⟩]
def zprog_r6 : List AI := [⟨(some 23), none, (.op (.ibin .add (.t 13) (.c (.int .i64 1))))⟩, ⟨(some 13), none, (.op (.mv (.t 23)))⟩]
def zprog_l0 : AC := (.seq (.reg zprog_r3) (.seq (.cond (.t 14) .skip (.exit 0)) (.seq (.block 1 (.seq (.reg zprog_r4) (.reg zprog_r5))) (.reg zprog_r6))))
def zprog_r7 : List AI := [⟨(some 24), none, (.op (.load (some 4) (.t 7)))⟩, ⟨none, none, (.op (.store 4 (.t 6) (.t 24)))⟩]
def zprog_c : AC := (.seq (.reg zprog_r0) (.seq (.reg zprog_r1) (.seq (.seq (.reg zprog_r2) (.block 0 (.loop zprog_l0))) (.seq (.reg zprog_r7) .ret))))
def zprog_res : List ARes := [(.cell (some 4) 6)]
set_option maxRecDepth 100000 in
theorem zprog_get : getF Tryz.prog 51 294000 [] = some ("gavotte/models.program", 25, zprog_c, zprog_res) := by kernel_rfl
def zring_r0 : List AI := [⟨(some 2), none, (.op (.new 295002 4 (.agg [.nils, .nils, .nils, (.int .i64 0)])))⟩, ⟨(some 3), none, (.op (.mv (.c .nils)))⟩, ⟨(some 4), none, (.op (.mv (.c (.int .i64 0))))⟩]
def zring_r1 : List AI := [⟨(some 13), none, (.op (.mv (.t 0)))⟩, ⟨(some 14), none, (.op (.len (.t 13)))⟩, ⟨(some 5), none, (.op (.mv (.t 14)))⟩]
def zring_r2 : List AI := [⟨(some 15), none, (.op (.mv (.t 0)))⟩, ⟨(some 16), none, (.call (.c (.fn 44 [])) [(.t 15)])⟩, ⟨(some 17), none, (.call (.c (.fn 43 [])) [(.t 16)])⟩, ⟨(some 6), none, (.op (.mv (.t 17)))⟩]
def zring_r3 : List AI := [⟨(some 18), none, (.op (.mv (.t 5)))⟩, ⟨(some 19), none, (.op (.ibin .lss (.t 18) (.c (.int .i64 2))))⟩, ⟨(some 20), none, (.op (.mv (.t 19)))⟩, ⟨(some 21), (some (20, false)), (.op (.mv (.t 5)))⟩, ⟨(some 22), (some (20, false)), (.op (.ibin .gtr (.t 21) (.c (.int .i64 8))))⟩, ⟨(some 23), none, (.op (.pick (.t 20) (.c (.bool true)) (.t 22)))⟩, ⟨(some 24), none, (.op (.mv (.t 23)))⟩, ⟨(some 25), (some (24, false)), (.op (.mv (.t 6)))⟩, ⟨(some 26), (some (24, false)), (.call (.c (.fn 45 [])) [(.t 25)])⟩, ⟨(some 27), (some (24, false)), (.op (.len (.t 26)))⟩, ⟨(some 28), (some (24, false)), (.op (.mv (.t 5)))⟩, ⟨(some 29), (some (24, false)), (.op (.ibin .neq (.t 27) (.t 28)))⟩, ⟨(some 30), none, (.op (.pick (.t 24) (.c (.bool true)) (.t 29)))⟩]
def zring_r4 : List AI := [⟨(some 31), none, (.call (.c (.fn 46 [])) [])⟩, ⟨(some 32), none, (.op (.ext (.t 31) 0))⟩, ⟨(some 33), none, (.op (.ext (.t 31) 1))⟩, ⟨(some 34), none, (.op (.ext (.t 31) 2))⟩, ⟨none, none, (.op (.store 4 (.t 2) (.t 32)))⟩, ⟨(some 3), none, (.op (.mv (.t 33)))⟩, ⟨(some 4), none, (.op (.mv (.t 34)))⟩]
def zring_r5 : List AI := [⟨(some 35), none, (.op (.mv (.t 5)))⟩, ⟨(some 36), none, (.op (.bsl 295036 1 3 1 (.int .i64 0) [(0, (.t 35))]))⟩, ⟨(some 37), none, (.call (.c (.fn 47 [])) [(.c (.str ⟨#[115, 101, 108, 102, 59, 32, 112, 117, 115, 104, 32, 49, 59, 32, 97, 100, 100, 59, 32, 112, 117, 115, 104, 32, 42, 59, 32, 109, 111, 100, 59, 32, 115, 101, 110, 100, 32, 49]⟩)), (.t 36)])⟩, ⟨(some 7), none, (.op (.mv (.t 37)))⟩]
def zring_r6 : List AI := [⟨(some 38), none, (.op (.mv (.t 7)))⟩, ⟨(some 39), none, (.op (.bsl 295039 1 9 2 (.str ⟨#[]⟩) [(0, (.c (.str ⟨#[108, 111, 97, 100, 32, 48]⟩))), (1, (.t 38))]))⟩, ⟨(some 40), none, (.call (.c (.fn 48 [])) [(.c (.int .i64 0)), (.t 39)])⟩, ⟨(some 41), none, (.op (.mv (.t 7)))⟩, ⟨(some 42), none, (.op (.bsl 295042 1 9 2 (.str ⟨#[]⟩) [(0, (.c (.str ⟨#[97, 114, 103, 32, 48, 59, 32, 108, 111, 97, 100, 32, 48, 59, 32, 101, 113, 59, 32, 122, 101, 114, 111, 32, 55, 59, 32, 112, 117, 115, 104, 32, 49, 59, 32, 115, 116, 111, 114, 101, 32, 49, 59, 32, 101, 110, 100, 59, 32, 108, 111, 97, 100, 32, 48, 59, 32, 97, 114, 103, 32, 48, 59, 32, 108, 101, 115, 115, 59, 32, 122, 101, 114, 111, 32, 49, 56, 59, 32, 97, 114, 103, 32, 48]⟩))), (1, (.t 41))]))⟩, ⟨(some 43), none, (.call (.c (.fn 48 [])) [(.c (.int .i64 1)), (.t 42)])⟩, ⟨(some 44), none, (.op (.bslm 1000295044 2 52 2 (.agg [(.int .i64 0), .nils]) [(0, (.t 40)), (1, (.t 43))]))⟩, ⟨(some 8), none, (.op (.mv (.t 44)))⟩]
def zring_r7 : List AI := [⟨(some 9), none, (.op (.mv (.c .nils)))⟩]
def zring_r8 : List AI := [⟨(some 45), none, (.call (.c (.fn 49 [])) [(.c (.int .i64 1))])⟩, ⟨(some 46), none, (.op (.bsl 295079 2 49 1 (.agg [(.int .i64 0), (.int .i64 0)]) [(0, (.t 45))]))⟩, ⟨(some 10), none, (.op (.mv (.t 46)))⟩]
def zring_r9 : List AI := [⟨(some 47), none, (.op (.mv (.t 0)))⟩, ⟨(some 48), none, (.op (.len (.t 47)))⟩, ⟨(some 49), none, (.op (.mv (.c (.int .i64 0))))⟩]
def zring_r10 : List AI := [⟨(some 50), none, (.op (.ibin .lss (.t 49) (.t 48)))⟩]
def zring_r11 : List AI := [⟨(some 51), none, (.op (.mv (.t 49)))⟩, ⟨(some 52), none, (.op (.idx 1 (.t 47) (.t 49)))⟩, ⟨(some 53), none, (.op (.load none (.t 52)))⟩, ⟨(some 11), none, (.op (.mv (.t 51)))⟩, ⟨(some 12), none, (.op (.mv (.t 53)))⟩]
def zring_r12 : List AI := [⟨(some 54), none, (.op (.mv (.t 9)))⟩, ⟨(some 55), none, (.op (.mv (.t 12)))⟩, ⟨(some 56), none, (.op (.bsl 295056 1 3 2 (.int .i64 0) [(0, (.t 55)), (1, (.c (.int .i64 0)))]))⟩, ⟨(some 57), none, (.op (.build [.nils, (.int .i64 0), (.int .i64 0), (.bool false)] [(0, (1, (.t 56))), (1, (1, (.c (.int .i64 8)))), (2, (1, (.c (.int .i64 (-1)))))]))⟩, ⟨(some 58), none, (.op (.bsl 295058 4 56 1 (.agg [.nils, (.int .i64 0), (.int .i64 0), (.bool false)]) [(0, (.t 57))]))⟩, ⟨(some 59), none, (.op (.app 295059 4 56 48 (.t 54) (.t 58)))⟩, ⟨(some 9), none, (.op (.mv (.t 59)))⟩]
def zring_r13 : List AI := [⟨(some 60), none, (.op (.mv (.t 11)))⟩, ⟨(some 61), none, (.op (.ibin .gtr (.t 60) (.c (.int .i64 0))))⟩]
def zring_r14 : List AI := [⟨(some 62), none, (.op (.mv (.t 10)))⟩, ⟨(some 63), none, (.op (.mv (.t 11)))⟩, ⟨(some 64), none, (.op (.ibin .mul (.c (.int .i64 16)) (.t 63)))⟩, ⟨(some 65), none, (.op (.ibin .add (.t 64) (.c (.int .i64 1))))⟩, ⟨(some 66), none, (.call (.c (.fn 49 [])) [(.t 65)])⟩, ⟨(some 67), none, (.call (.c (.fn 50 [])) [(.c (.int .i64 9))])⟩, ⟨(some 68), none, (.op (.bsl 295068 2 49 2 (.agg [(.int .i64 0), (.int .i64 0)]) [(0, (.t 66)), (1, (.t 67))]))⟩, ⟨(some 69), none, (.op (.app 295079 2 49 16 (.t 62) (.t 68)))⟩, ⟨(some 10), none, (.op (.mv (.t 69)))⟩]
def zring_r15 : List AI := [⟨(some 70), none, (.op (.ibin .add (.t 49) (.c (.int .i64 1))))⟩, ⟨(some 49), none, (.op (.mv (.t 70)))⟩]
def zring_l0 : AC := (.seq (.reg zring_r10) (.seq (.cond (.t 50) .skip (.exit 0)) (.seq (.block 1 (.seq (.reg zring_r11) (.seq (.reg zring_r12) (.seq (.reg zring_r13) (.cond (.t 61) (.reg zring_r14) .skip))))) (.reg zring_r15))))
def zring_r16 : List AI := [⟨(some 71), none, (.op (.mv (.t 8)))⟩, ⟨(some 72), none, (.op (.mv (.t 9)))⟩, ⟨(some 73), none, (.op (.mv (.t 5)))⟩, ⟨(some 74), none, (.call (.c (.fn 51 [])) [(.t 71), (.t 72), (.t 73)])⟩, ⟨(some 75), none, (.op (.mv (.t 10)))⟩, ⟨(some 76), none, (.call (.c (.fn 52 [])) [(.c (.int .i64 2))])⟩, ⟨(some 77), none, (.call (.c (.fn 50 [])) [(.c (.int .i64 16))])⟩, ⟨(some 78), none, (.op (.bsl 295078 2 49 2 (.agg [(.int .i64 0), (.int .i64 0)]) [(0, (.t 76)), (1, (.t 77))]))⟩, ⟨(some 79), none, (.op (.app 295079 2 49 16 (.t 75) (.t 78)))⟩, ⟨(some 80), none, (.op (.bsl 295080 1 53 1 .nils [(0, (.t 79))]))⟩, ⟨none, none, (.op (.store 4 (.t 2) (.t 74)))⟩, ⟨(some 3), none, (.op (.mv (.t 80)))⟩, ⟨(some 4), none, (.op (.mv (.c (.int .i64 0))))⟩]
def zring_c : AC := (.seq (.reg zring_r0) (.seq (.reg zring_r1) (.seq (.reg zring_r2) (.seq (.seq (.reg zring_r3) (.cond (.t 30) (.seq (.reg zring_r4) .ret) .skip)) (.seq (.reg zring_r5) (.seq (.reg zring_r6) (.seq (.reg zring_r7) (.seq (.reg zring_r8) (.seq (.seq (.reg zring_r9) (.block 0 (.loop zring_l0))) (.seq (.reg zring_r16) .ret))))))))))
def zring_res : List ARes := [(.cell (some 4) 2), (.tmp 3), (.tmp 4)]
set_option maxRecDepth 100000 in
theorem zring_get : getF Tryz.prog 24 295000 [(44, 1000000044), (46, 79), (69, 79)] = some ("gavotte/models.Ring", 81, zring_c, zring_res) := by kernel_rfl
def zodd_r0 : List AI := [⟨(some 4), none, (.op (.box 296004 4 (.t 0)))⟩, ⟨(some 8), none, (.op (.new 296008 4 (.agg [.nils, .nils, .nils, (.int .i64 0)])))⟩]
def zodd_r1 : List AI := [⟨(some 10), none, (.op (.mv (.t 3)))⟩, ⟨(some 11), none, (.op (.bsl 296011 1 9 1 (.str ⟨#[]⟩) [(0, (.t 10))]))⟩, ⟨(some 12), none, (.call (.c (.fn 48 [])) [(.c (.int .i64 0)), (.t 11)])⟩, ⟨(some 13), none, (.op (.getf none 1 (.t 12)))⟩, ⟨(some 9), none, (.op (.mv (.t 13)))⟩]
def zodd_r2 : List AI := [⟨(some 14), none, (.op (.fld 0 (.t 4)))⟩, ⟨(some 15), none, (.op (.load none (.t 14)))⟩, ⟨(some 16), none, (.op (.mv (.t 1)))⟩, ⟨(some 17), none, (.op (.fld 0 (.t 4)))⟩, ⟨(some 18), none, (.op (.load none (.t 17)))⟩, ⟨(some 19), none, (.op (.mv (.t 1)))⟩, ⟨(some 20), none, (.op (.idx 2 (.t 18) (.t 19)))⟩, ⟨(some 21), none, (.op (.fld 1 (.t 20)))⟩, ⟨(some 22), none, (.op (.load none (.t 21)))⟩, ⟨(some 23), none, (.op (.mv (.t 2)))⟩, ⟨(some 24), none, (.op (.mv (.t 2)))⟩, ⟨(some 25), none, (.op (.mv (.t 9)))⟩, ⟨(some 26), none, (.op (.len (.t 25)))⟩, ⟨(some 27), none, (.op (.ibin .add (.t 24) (.t 26)))⟩, ⟨(some 28), none, (.op (.mv (.t 9)))⟩, ⟨(some 29), none, (.call (.c (.fn 53 [])) [(.t 22), (.t 23), (.t 27), (.t 28)])⟩, ⟨(some 30), none, (.op (.idx 2 (.t 15) (.t 16)))⟩, ⟨(some 31), none, (.op (.fld 1 (.t 30)))⟩, ⟨none, none, (.op (.store 1 (.t 31) (.t 29)))⟩]
def zodd_p2 : List (List Nat) := [[], [0], [], [], [3], [], [4, 5, 3], [6, 4, 5, 3], [7, 6, 4, 5, 3], [], [], [], [11], [10, 12, 11], [], [8, 9, 13, 14, 7, 6, 4, 5, 3, 10, 12, 11], [1, 2, 0, 3, 4, 5, 6, 7, 8, 9, 10, 11, 12, 13, 14, 15], [16, 0, 1, 2, 3, 4, 5, 6, 7, 8, 9, 10, 11, 12, 13, 14, 15], [17, 15, 0, 1, 2, 3, 4, 5, 6, 7, 8, 9, 10, 11, 12, 13, 14, 16]]
def zodd_r3 : List AI := [⟨(some 32), none, (.op (.load (some 4) (.t 4)))⟩, ⟨none, none, (.op (.store 4 (.t 8) (.t 32)))⟩]
def zodd_c : AC := (.seq (.reg zodd_r0) (.seq (.reg zodd_r1) (.seq (.regi zodd_r2 zodd_p2) (.seq (.reg zodd_r3) .ret))))
def zodd_res : List ARes := [(.cell (some 4) 8)]
set_option maxRecDepth 100000 in
theorem zodd_get : getF Tryz.prog 25 296000 [(2000002, 1)] = some ("gavotte/models.odd", 33, zodd_c, zodd_res) := by kernel_rfl
attribute [simp] zreg_r0 zreg_r1 zreg_res zop_r0 zop_r1 zop_res znum_r0 znum_r1 znum_res zprog_r0 zprog_r1 zprog_r2 zprog_r3 zprog_r4 zprog_r5 zprog_r6 zprog_r7 zprog_res zring_r0 zring_r1 zring_r2 zring_r3 zring_r4 zring_r5 zring_r6 zring_r7 zring_r8 zring_r9 zring_r10 zring_r11 zring_r12 zring_r13 zring_r14 zring_r15 zring_r16 zring_res zodd_r0 zodd_r1 zodd_r2 zodd_p2 zodd_r3 zodd_res
open Go.RowKit Go.Shelf
theorem zreg_pc (n : Int) : PC Tryz.prog 49 [iv n] (.agg [iv 31, iv n]) := by
 refine pc_of_get zreg_get (by simp) _ (by simp) _ ?_
 unfold zreg_c
 simp
theorem zop_pc (n : Int) : PC Tryz.prog 50 [iv n] (.agg [iv n, iv 0]) := by
 refine pc_of_get zop_get (by simp) _ (by simp) _ ?_
 unfold zop_c
 simp
theorem znum_pc (n : Int) : PC Tryz.prog 52 [iv n] (.agg [iv 1, iv n]) := by
 refine pc_of_get znum_get (by simp) _ (by simp) _ ?_
 unfold znum_c
 simp
def boot2 : List AV := [.agg [iv 0, iv 0, .nils], .agg [iv 1, iv 0, .nils]]
theorem zprog_v (h a : AV) (h1 : h.one = true) (h2 : h.cells = [h]) (a1 : a.one = true) (a2 : a.cells = [a]) {S : St} {k : AV -> St -> Prop} {u : Dep k}
   (hk : ∀ S' st, S'.t = S.t -> S.clk <= S'.clk -> (∀ n, n ≠ 294006 -> n ≠ 294007 -> S'.blk n = S.blk n) -> (∀ n, n ≠ 294020 -> n ≠ 294021 -> S'.tok n = S.tok n) -> k (.agg [h, a, .acc 294021 st 3 boot2, iv 64]) S') :
   CallG Tryz.prog (.fn 51 []) [h, a, iv 2] S k u := by
 refine callV zprog_get (by simp) (by simp) ?_
 unfold zprog_c
 simp [h1, h2, a1, a2]
 refine loopN (fun i S' => S'.t 12 = iv 2 /\ S'.t 13 = iv i /\ (∃ s6, S'.t 6 = .ptr 294006 s6 4 0 0 /\ S'.blk 294006 = some ⟨s6, 4, [.agg [.nils, .nils, .nils, iv 0]]⟩) /\ (∃ s7 b, S'.t 7 = .ptr 294007 s7 4 0 0 /\ S'.blk 294007 = some ⟨s7, 4, [.agg [h, a, b, iv 64]]⟩ /\ ((i = 0 /\ b = .nils) \/ 0 < i /\ ∃ st, b = .acc 294021 st 3 (boot2.take i) /\ S'.tok 294021 = some ⟨st, 3, 58⟩)) /\
   S.clk <= S'.clk /\ (∀ n, n ≠ 294006 -> n ≠ 294007 -> S'.blk n = S.blk n) /\ (∀ n, n ≠ 294020 -> n ≠ 294021 -> S'.tok n = S.tok n)) 2 ?_ ?_
 . exact ⟨by simp, by simp, ⟨_, by simp; rfl, by simp⟩, ⟨_, .nils, by simp; rfl, by simp, .inl ⟨rfl, rfl⟩⟩, by simp only []; omega, fun n q1 q2 => by simp [q1, q2], fun n _ _ => rfl⟩
 . rintro i S' hi ⟨g12, g13, ⟨s6, g6, b6⟩, ⟨s7, b, g7, b7, hb⟩, gc, gb, gk⟩
   have hi2 : i = 0 \/ i = 1 \/ i = 2 := by omega
   rcases hi2 with rfl | rfl | rfl
   . rcases hb with ⟨_, rfl⟩ | ⟨h0, _⟩
     . simp [zprog_l0, g12, g13, g6, b6, g7, b7, h1, h2, a1, a2, wrap1]
       refine ⟨rfl, by omega, fun n q1 q2 => by simp [q1, q2]; exact gb n q1 q2, fun n q1 q2 => by simp [q1, q2]; exact gk n q1 q2⟩
     . omega
   . rcases hb with ⟨h0, _⟩ | ⟨_, st, rfl, ht⟩
     . omega
     . have hw : IntKind.i64.wrap 2 = 2 := by decide
       have hbl : (min 1 boot2.length + 1) * 40 <= 140737488355328 := by decide
       simp [zprog_l0, g12, g13, g6, b6, g7, b7, h1, h2, a1, a2, ht, hw, hbl]
       refine ⟨rfl, by omega, fun n q1 q2 => by simp [q1, q2]; exact gb n q1 q2, fun n q1 q2 => by simp [q1, q2]; exact gk n q1 q2⟩
   . rcases hb with ⟨h0, _⟩ | ⟨_, st, rfl, ht⟩
     . omega
     . simp [zprog_l0, g12, g13, g6, b6, g7, b7, h1, h2, a1, a2]
       have := hk ⟨S.t, upd S'.blk 294006 (some ⟨s6, 4, [.agg [h, a, .acc 294021 st 3 (List.take 2 boot2), iv 64]]⟩), S'.tok, S'.clk + 1 + 2⟩ st rfl (by simp only []; omega) (fun n q1 q2 => by simp [q1]; exact gb n q1 q2) gk
       exact this
def cs2 : List AV := xs2.map Ins.av
def tbo (s4 sh sc : Nat) (h : AV) : List (Nat × AV) := [(14, .ptr 296004 s4 4 0 0), (15, h), (16, iv 1), (17, .ptr 296004 s4 4 0 0), (18, h), (19, iv 1), (20, .ptr 1000295044 sh 2 1 0), (21, .ptr 1000295044 sh 2 1 1), (22, .sl 1000284031 sc 2 0 18), (23, iv 7), (24, iv 7), (25, .lst 2 cs2), (26, iv 3), (27, iv 10), (28, .lst 2 cs2), (29, .sl 1000284031 sc 2 0 18)]
theorem odd_draw (s4 sh sc st : Nat) (h0 a b : AV) (hcl0 : h0.one = true) (c0 : AV) {S : St} {k : St -> Prop} {u : Dep k}
   (g4 : S.t 4 = .ptr 296004 s4 4 0 0) (b4 : S.blk 296004 = some ⟨s4, 4, [.agg [.sl 1000295044 sh 2 0 2, a, b, iv 64]]⟩) (bh : S.blk 1000295044 = some ⟨sh, 2, [c0, .agg [iv 1, .sl 1000284031 sc 2 0 18]]⟩) (bc : S.blk 1000284031 = some ⟨sc, 2, xs1.map Ins.av⟩)
   (g1 : S.t 1 = iv 1) (g2 : S.t 2 = iv 7) (g9 : S.t 9 = .lst 2 cs2)
   (hk : ∀ S', (∀ x, x < 14 \/ 31 < x -> S'.t x = S.t x) -> S'.tok = S.tok -> (∀ n, n ≠ 1000295044 -> n ≠ 1000284031 -> S'.blk n = S.blk n) -> S'.blk 1000295044 = some ⟨sh, 2, [c0, .agg [iv 1, .sl 1000284031 sc 2 0 18]]⟩ -> S'.blk 1000284031 = some ⟨sc, 2, (xs1.map Ins.av).take 7 ++ cs2 ++ (xs1.map Ins.av).drop 10⟩ -> k S') :
   regIG Tryz.prog zodd_p2 st zodd_r2 S k u := by
 refine regi_cut (zodd_r2.take 16) (zodd_r2.drop 16) rfl (by rfl) ?_
 obtain ⟨tbl, htb⟩ : ∃ tbl : List (Nat × AV), tbl = tbo s4 sh sc (.sl 1000295044 sh 2 0 2) := ⟨_, rfl⟩
 have hnd : (tbl.map (·.1)).Nodup := by simp [htb, tbo]
 obtain ⟨new, hnew⟩ : ∃ new, new = (xs1.map Ins.av).take 7 ++ cs2 ++ (xs1.map Ins.av).drop 10 := ⟨_, rfl⟩
 obtain ⟨I, hI⟩ : ∃ I : (Nat -> Bool) -> St -> Prop, ∀ D S', I D S' ↔ (SF tbl D S' /\ (∀ x, x < 14 \/ 29 < x -> S'.t x = S.t x) /\ S'.tok = S.tok /\ (D 15 = false -> S'.blk = S.blk) /\ (D 15 = true -> (∀ n, n ≠ 1000284031 -> S'.blk n = S.blk n) /\ S'.blk 1000284031 = some ⟨sc, 2, new⟩)) := ⟨_, fun _ _ => Iff.rfl⟩
 show regI _ _ _ _ _ _
 refine ⟨I, (hI _ _).2 ⟨SF.start _ _, fun _ _ => rfl, rfl, fun _ => rfl, by simp⟩, ?_, ?_⟩
 . rintro D S' j ai hj hDj hpre hcl hi
   obtain ⟨hsf, ht, hk1, h15f, h15t⟩ := (hI _ _).1 hi
   have stp : ∀ (j d : Nat) (val : AV) (op : AOp) (st' : Nat), tbl[j]? = some (d, val) -> j ≠ 15 -> 14 <= d -> d <= 29 -> ex S'.t S'.blk S'.tok st' op = some { v := val } -> stepV Tryz.prog st' ⟨some d, none, .op op⟩ S' (I (fun i => (i == j) || D i)) := by
     intro j d val op st' hj m15 d0 d1 he
     have e15 : (15 == j) = false := by simp; omega
     refine stepV_op _ he ((hI _ _).2 ⟨hsf.ins hnd hj (upd_same _ _ _) (fun y hy => upd_ne _ _ _ _ hy), fun x hx => (upd_ne _ _ _ _ (by omega)).trans (ht x hx), hk1, fun q => h15f ?_, fun q => h15t ?_⟩)
     . simpa [e15] using q
     . simpa [e15] using q
   have t4 := (ht 4 (.inl (by omega))).trans g4
   have t1 := (ht 1 (.inl (by omega))).trans g1
   have t2 := (ht 2 (.inl (by omega))).trans g2
   have t9 := (ht 9 (.inl (by omega))).trans g9
   have hb4 : S'.blk 296004 = some ⟨s4, 4, [.agg [.sl 1000295044 sh 2 0 2, a, b, iv 64]]⟩ := by
     cases hx : D 15 with
     | false => rw [h15f hx]; exact b4
     | true => rw [(h15t hx).1 _ (by simp)]; exact b4
   have hbh : S'.blk 1000295044 = some ⟨sh, 2, [c0, .agg [iv 1, .sl 1000284031 sc 2 0 18]]⟩ := by
     cases hx : D 15 with
     | false => rw [h15f hx]; exact bh
     | true => rw [(h15t hx).1 _ (by simp)]; exact bh
   match j, hj, hDj, hpre with
   | 0, hj, hDj, hpre =>
     simp at hj; subst hj
     exact stp 0 14 _ _ _ (by simp [htb, tbo]; rfl) (by simp) (by simp) (by simp) (by simp [t4])
   | 1, hj, hDj, hpre =>
     simp at hj hpre; subst hj
     exact stp 1 15 _ _ _ (by simp [htb, tbo]; rfl) (by simp) (by simp) (by simp) (by simp [hsf 0 14 _ (by simp [htb, tbo]; rfl) hpre, hb4])
   | 2, hj, hDj, hpre =>
     simp at hj; subst hj
     exact stp 2 16 _ _ _ (by simp [htb, tbo]; rfl) (by simp) (by simp) (by simp) (by simp [t1])
   | 3, hj, hDj, hpre =>
     simp at hj; subst hj
     exact stp 3 17 _ _ _ (by simp [htb, tbo]; rfl) (by simp) (by simp) (by simp) (by simp [t4])
   | 4, hj, hDj, hpre =>
     simp at hj hpre; subst hj
     exact stp 4 18 _ _ _ (by simp [htb, tbo]; rfl) (by simp) (by simp) (by simp) (by simp [hsf 3 17 _ (by simp [htb, tbo]; rfl) hpre, hb4])
   | 5, hj, hDj, hpre =>
     simp at hj; subst hj
     exact stp 5 19 _ _ _ (by simp [htb, tbo]; rfl) (by simp) (by simp) (by simp) (by simp [t1])
   | 6, hj, hDj, hpre =>
     simp at hj hpre; subst hj
     exact stp 6 20 _ _ _ (by simp [htb, tbo]; rfl) (by simp) (by simp) (by simp) (by simp [hsf 4 18 _ (by simp [htb, tbo]; rfl) hpre.1, hsf 5 19 _ (by simp [htb, tbo]; rfl) hpre.2.1])
   | 7, hj, hDj, hpre =>
     simp at hj hpre; subst hj
     exact stp 7 21 _ _ _ (by simp [htb, tbo]; rfl) (by simp) (by simp) (by simp) (by simp [hsf 6 20 _ (by simp [htb, tbo]; rfl) hpre.1])
   | 8, hj, hDj, hpre =>
     simp at hj hpre; subst hj
     exact stp 8 22 _ _ _ (by simp [htb, tbo]; rfl) (by simp) (by simp) (by simp) (by simp [hsf 7 21 _ (by simp [htb, tbo]; rfl) hpre.1, hbh])
   | 9, hj, hDj, hpre =>
     simp at hj; subst hj
     exact stp 9 23 _ _ _ (by simp [htb, tbo]; rfl) (by simp) (by simp) (by simp) (by simp [t2])
   | 10, hj, hDj, hpre =>
     simp at hj; subst hj
     exact stp 10 24 _ _ _ (by simp [htb, tbo]; rfl) (by simp) (by simp) (by simp) (by simp [t2])
   | 11, hj, hDj, hpre =>
     simp at hj; subst hj
     exact stp 11 25 _ _ _ (by simp [htb, tbo]; rfl) (by simp) (by simp) (by simp) (by simp [t9])
   | 12, hj, hDj, hpre =>
     simp at hj hpre; subst hj
     exact stp 12 26 _ _ _ (by simp [htb, tbo]; rfl) (by simp) (by simp) (by simp) (by simp [hsf 11 25 _ (by simp [htb, tbo]; rfl) hpre, cs2, xs2])
   | 13, hj, hDj, hpre =>
     simp at hj hpre; subst hj
     have hw : IntKind.i64.wrap 10 = 10 := by decide
     exact stp 13 27 _ _ _ (by simp [htb, tbo]; rfl) (by simp) (by simp) (by simp) (by simp [hsf 10 24 _ (by simp [htb, tbo]; rfl) hpre.1, hsf 12 26 _ (by simp [htb, tbo]; rfl) hpre.2.1, hw])
   | 14, hj, hDj, hpre =>
     simp at hj; subst hj
     exact stp 14 28 _ _ _ (by simp [htb, tbo]; rfl) (by simp) (by simp) (by simp) (by simp [t9])
   | 15, hj, hDj, hpre =>
     simp at hj hpre; subst hj
     refine stepV_call ?_
     have hbc : S'.blk 1000284031 = some ⟨sc, 2, xs1.map Ins.av⟩ := by rw [h15f hDj]; exact bc
     simp only [List.map_cons, List.map_nil, X.ev, hsf 8 22 _ (by simp [htb, tbo]; rfl) hpre.1, hsf 9 23 _ (by simp [htb, tbo]; rfl) hpre.2.1, hsf 13 27 _ (by simp [htb, tbo]; rfl) hpre.2.2.1, hsf 14 28 _ (by simp [htb, tbo]; rfl) hpre.2.2.2.1]
     refine repl_v 1000284031 sc (xs1.map Ins.av) cs2 7 (by decide) (by decide) (by decide) (.lst 2 cs2) (fun E u q => q) hbc (fun S1 q1 q2 q3 q4 q5 => ?_)
     refine (hI _ _).2 ⟨hsf.ins hnd (j := 15) (d := 29) (v := .sl 1000284031 sc 2 0 18) (by simp [htb, tbo]) (by simp; rfl) (fun y hy => by simp [hy, q1]), fun x hx => ?_, q2.trans hk1, fun q => by simp at q, fun _ => ⟨fun n hn => ?_, ?_⟩⟩
     . have : x ≠ 29 := by omega
       simp [this, q1, ht x hx]
     . simp
       rw [q4 n hn, h15f hDj]
     . rw [hnew]; exact q5
   | j + 16, hj, hDj, hpre => simp at hj
 . rintro D S' hD hi
   obtain ⟨hsf, ht, hk1, h15f, h15t⟩ := (hI _ _).1 hi
   have e15 := hsf 1 15 _ (by simp [htb, tbo]; rfl) (hD 1 (by simp))
   have e16 := hsf 2 16 _ (by simp [htb, tbo]; rfl) (hD 2 (by simp))
   have e29 := hsf 15 29 _ (by simp [htb, tbo]; rfl) (hD 15 (by simp))
   obtain ⟨p1, p2⟩ := h15t (hD 15 (by simp))
   have hbh := (p1 1000295044 (by simp)).trans bh
   simp [e15, e16, e29, hbh]
   refine hk _ (fun x hx => ?_) hk1 (fun n h1 h2 => by simp [h1]; exact p1 n h2) (by simp) (by simp; rw [p2, hnew]; simp)
   have m1 : x ≠ 30 := by omega
   have m2 : x ≠ 31 := by omega
   simp [m1, m2]
   exact ht x (by omega)
def xs1o : List Ins := xs1.take 7 ++ xs2 ++ xs1.drop 10
theorem xs1o_av : (xs1.map Ins.av).take 7 ++ cs2 ++ (xs1.map Ins.av).drop 10 = xs1o.map Ins.av := by
 unfold xs1o cs2
 simp only [List.map_append, List.map_take, List.map_drop]
theorem zodd_v (sh sc : Nat) (a b c0 : AV) (a1 : a.one = true) (a2 : a.cells = [a]) (b1 : b.one = true) (b2 : b.cells = [b]) {S : St} {k : AV -> St -> Prop} {u : Dep k}
   (bh : S.blk 1000295044 = some ⟨sh, 2, [c0, .agg [iv 1, .sl 1000284031 sc 2 0 18]]⟩) (bc : S.blk 1000284031 = some ⟨sc, 2, xs1.map Ins.av⟩)
   (hk : ∀ S', S'.t = S.t -> (∀ n, n ≠ 296011 -> S'.tok n = S.tok n) -> (∀ n, n ≠ 296004 -> n ≠ 296008 -> n ≠ 1000295044 -> n ≠ 1000284031 -> S'.blk n = S.blk n) -> S'.blk 1000295044 = some ⟨sh, 2, [c0, .agg [iv 1, .sl 1000284031 sc 2 0 18]]⟩ -> S'.blk 1000284031 = some ⟨sc, 2, xs1o.map Ins.av⟩ -> k (.agg [.sl 1000295044 sh 2 0 2, a, b, iv 64]) S') :
   CallG Tryz.prog (.fn 25 []) [.agg [.sl 1000295044 sh 2 0 2, a, b, iv 64], iv 1, iv 7, sv [112, 117, 115, 104, 32, 49, 59, 32, 112, 111, 112, 59, 32, 112, 117, 115, 104, 32, 49]] S k u := by
 refine callV zodd_get (by simp) (by simp) ?_
 unfold zodd_c
 simp [a1, a2, b1, b2, sv]
 refine call (mhandler_pc 0 hl2 xs2 hok2) (by simp [sv, hl2]) ?_
 simp
 refine odd_draw S.clk sh sc (S.clk + 2 + 5) (.sl 1000295044 sh 2 0 2) a b rfl c0 (by simp) (by simp) (by simp [bh]) (by simp [bc]) (by simp) (by simp) (by simp [cs2]) (fun S1 q1 q2 q3 q4 q5 => ?_)
 have q4a := q1 4 (.inl (by omega))
 have q8a := q1 8 (.inl (by omega))
 have b4 := q3 296004 (by simp) (by simp)
 have b8 := q3 296008 (by simp) (by simp)
 simp at q4a q8a b4 b8
 simp [q4a, q8a, b4, b8, a1, a2, b1, b2]
 refine hk _ rfl (fun n hn => ?_) (fun n h1 h2 h3 h4 => ?_) (by simpa using q4) (by simp; rw [q5, xs1o_av])
 . simp
   rw [q2]
   simp [hn]
 . simp [h2]
   rw [q3 n h3 h4]
   simp [h1, h2]
def acts2 : List AV := [.agg [.lst 1 [iv 3, iv 0], iv 8, iv (-1), .bool false], .agg [.lst 1 [iv 4, iv 0], iv 8, iv (-1), .bool false]]
def watch2 : List Ins := [⟨31, 1⟩, ⟨31, 17⟩, ⟨9, 0⟩, ⟨1, 2⟩, ⟨16, 0⟩]
def wat (i : Nat) : List AV := if i < 2 then [.agg [iv 31, iv 1]] else [.agg [iv 31, iv 1], .agg [iv 31, iv 17], .agg [iv 9, iv 0]]
theorem ring_loop (nmI stI : Nat) {S : St} {κ : Ex -> St -> Prop} {u : Dep κ} (g47 : S.t 47 = .acc nmI stI 1 [iv 3, iv 4]) (g48 : S.t 48 = iv 2) (g49 : S.t 49 = iv 0) (g9 : S.t 9 = .nils) (g10 : ∃ sw, S.t 10 = .acc 295079 sw 2 (wat 0) /\ S.tok 295079 = some ⟨sw, 2, 49⟩)
   (hk : ∀ S' sa sw, S'.t 2 = S.t 2 -> S'.t 5 = S.t 5 -> S'.t 8 = S.t 8 -> S'.blk = S.blk -> S'.t 9 = .acc 295059 sa 4 acts2 -> S'.t 10 = .acc 295079 sw 2 (wat 2) -> S'.tok 295079 = some ⟨sw, 2, 49⟩ -> κ (.exit 0) S') : LoopG Tryz.prog zring_l0 κ S u := by
 refine loopN (fun i S' => S'.t 2 = S.t 2 /\ S'.t 5 = S.t 5 /\ S'.t 8 = S.t 8 /\ S'.blk = S.blk /\ S'.t 47 = .acc nmI stI 1 [iv 3, iv 4] /\ S'.t 48 = iv 2 /\ S'.t 49 = iv i /\ ((i = 0 /\ S'.t 9 = .nils) \/ 0 < i /\ ∃ sa, S'.t 9 = .acc 295059 sa 4 (acts2.take i) /\ S'.tok 295059 = some ⟨sa, 4, 56⟩) /\
   ∃ sw, S'.t 10 = .acc 295079 sw 2 (wat i) /\ S'.tok 295079 = some ⟨sw, 2, 49⟩) 2 ?_ ?_
 . exact ⟨rfl, rfl, rfl, rfl, g47, g48, g49, .inl ⟨rfl, g9⟩, g10⟩
 . rintro i S' hi ⟨e2, e5, e8, eb, g47, g48, g49, h9, sw, g10, h10⟩
   have hi2 : i = 0 \/ i = 1 \/ i = 2 := by omega
   rcases hi2 with rfl | rfl | rfl
   . rcases h9 with ⟨_, g9⟩ | ⟨h0, _⟩
     . simp [zring_l0, g47, g48, g49, g9, g10, wrap1]
       exact ⟨e2, e5, e8, eb, rfl, sw, ⟨rfl, rfl⟩, h10⟩
     . omega
   . rcases h9 with ⟨h0, _⟩ | ⟨_, sa, g9, h9⟩
     . omega
     . have hw : IntKind.i64.wrap 2 = 2 := by decide
       have hw16 : IntKind.i64.wrap 16 = 16 := by decide
       have hw17 : IntKind.i64.wrap 17 = 17 := by decide
       have hbl : (min 1 acts2.length + 1) * 48 <= 140737488355328 := by decide
       have hbw : ((wat 1).length + 2) * 16 <= 140737488355328 := by decide
       simp [zring_l0, g47, g48, g49, g9, g10, h9, h10, hw, hw16, hw17, hbl]
       refine call (zreg_pc 17) (by simp) ?_
       simp
       refine call (zop_pc 9) (by simp) ?_
       simp [h10, hbw, g47, g48, g49, hw]
       exact ⟨e2, e5, e8, eb, rfl, rfl⟩
   . rcases h9 with ⟨h0, _⟩ | ⟨_, sa, g9, h9⟩
     . omega
     . simp [zring_l0, g47, g48, g49]
       exact hk _ sa sw e2 e5 e8 eb g9 g10 h10
theorem zring_v (nmI stI : Nat) {S : St} {k : AV -> St -> Prop} {u : Dep k}
   (hk : ∀ S' sh sc sa sb sw, S'.t = S.t -> (∀ n, n < 284000 \/ (297000 <= n /\ n < 1000000000) -> S'.blk n = S.blk n) ->
     S'.blk 1000295044 = some ⟨sh, 2, [.agg [iv 0, .lst 2 (xs0.map Ins.av)], .agg [iv 1, .sl 1000284031 sc 2 0 18]]⟩ -> S'.blk 1000284031 = some ⟨sc, 2, xs1.map Ins.av⟩ ->
     k (.tup [.agg [.sl 1000295044 sh 2 0 2, .acc 295059 sa 4 acts2, .acc 294021 sb 3 boot2, iv 64], .acc 295080 sw 1 [.lst 2 (watch2.map Ins.av)], iv 0]) S') :
   CallG Tryz.prog (.fn 24 []) [.acc nmI stI 1 [iv 3, iv 4]] S k u := by
 refine callV zring_get (by simp) (by simp) ?_
 unfold zring_c
 simp
 refine values_v (.acc nmI stI 1 [iv 3, iv 4]) rfl rfl (fun S1 s1 p1 p2 p3 p4 p5 => ?_)
 simp [p1]
 refine sorted_v 287001 s1 (by decide) (.acc nmI stI 1 [iv 3, iv 4]) [3, 4] (by simp) (by simp) rfl (fun E v h => by cases h with | acc _ _ _ _ _ _ _ h => exact h) p5 rfl (fun S2 v2 q1 q2 q3 q4 q5 => ?_)
 have hms : ([3, 4] : List Int).mergeSort (fun x y => decide (x <= y)) = [3, 4] := by first | exact List.mergeSort_of_sorted (by simp) | exact List.mergeSort_of_pairwise (by simp) | simp [List.mergeSort, List.MergeSort.Internal.splitInTwo, List.merge]
 rw [hms] at q5
 rcases q5 with ⟨_, q⟩ | ⟨s2, rfl, b5⟩
 . simp at q
 simp [q1, p1]
 have hcm : Lib.compact ([3, 4] : List Int) = [3, 4] := by decide
 refine compact_v 290001 s2 [3, 4] (by decide) b5 ?_ (by rw [hcm]; decide)
 rw [hcm]
 simp
 have hw := words_pc tOn 2 (by decide) (by decide) (by rw [dd2]; decide +kernel)
 have e2 : Lib.replace tOn [42] (Lib.decDigits 2) 1 = tOn2 := rfl
 rw [e2] at hw
 refine call hw (by simp [sv, tOn]) ?_
 simp [sv]
 refine call (mhandler_pc 0 hl0 xs0 hok0) (by simp [sv, hl0]) ?_
 simp
 refine call_coarse 0 (vals' := [iv 1, .lst 1 (hl1.map sv)]) rfl (fun j x y hx hy => ?_) ?_
 . match j, hx, hy with
   | 0, hx, hy => simp at hx hy; subst hx hy; exact .inl rfl
   | 1, hx, hy => simp at hx hy; subst hx hy; exact .inr (by simp [elemR, dco, hl1, sv])
   | j + 2, hx, _ => simp at hx
 refine mhandler_v 1 hl1 xs1 hok1 (fun S3 vc r1 r2 r3 r4 r5 => ?_)
 rcases r5 with ⟨_, q⟩ | ⟨sc, rfl, bc⟩
 . simp [xs1] at q
 have hl : (xs1.map Ins.av).length = 18 := rfl
 rw [hl]
 simp at r1 r2
 simp [r1]
 refine call (zreg_pc 1) (by simp) ?_
 simp
 refine ring_loop nmI stI (by simp) (by simp) (by simp) (by simp) ⟨_, by simp [wat]; rfl, by simp⟩ (fun S4 sa sw t1 t2 t3 t4 t5 t6 t7 => ?_)
 simp [r1, q1, p1] at t1 t2 t3 t4
 simp [t1, t2, t3, t5, t6]
 refine zprog_v (.sl 1000295044 _ 2 0 2) (.acc 295059 sa 4 acts2) rfl rfl rfl rfl (fun S5 sb u1 u2 u3 u4 => ?_)
 have k5 := u4 295079 (by simp) (by simp)
 simp at k5
 rw [t7] at k5
 have hbw : ((wat 2).length + 2) * 16 <= 140737488355328 := by decide
 have c1 := p4 295002 (by simp)
 have c2 := (q4 295002 (by simp)).trans c1
 have c3 := r4 295002 (by simp) (by simp) (by simp) (by simp)
 have c5 := u3 295002 (by simp) (by simp)
 simp [t4] at c5
 simp at c3 c2
 rw [c3, c2] at c5
 simp [u1, t1, t2, t3, t5, t6]
 refine call (znum_pc 2) (by simp) ?_
 simp
 refine call (zop_pc 16) (by simp) ?_
 simp [k5, hbw, c5, u1, t1, t2, t3, t5, t6]
 refine hk _ _ sc sa sb _ rfl (fun n hn => ?_) ?_ ?_
 . have m1 : n ≠ 295002 := by omega
   have m2 : n ≠ 1000295044 := by omega
   have m3 : n ≠ 290001 := by omega
   have e5 := u3 n (by omega) (by omega)
   have e3 := r4 n (by omega) (by omega) (by omega) (by omega)
   have e2 := q4 n m3
   have e1 := p4 n (by omega)
   simp [t4, m2] at e5
   simp [m3] at e3
   simp [m1] at e1 e2
   simp [m1]
   rw [e5, e3, e2, e1]
 . have e5 := u3 1000295044 (by simp) (by simp)
   simp [t4] at e5
   simpa using e5
 . have e5 := u3 1000284031 (by simp) (by simp)
   simp [t4] at e5
   simp
   rw [e5, bc]
end Go.Gv

namespace Go.Gv
open Go.Proofs
def mrodd_r0 : List AI := [⟨(some 2), none, (.op (.new 298002 4 (.agg [.nils, .nils, .nils, (.int .i64 0)])))⟩, ⟨(some 3), none, (.op (.mv (.c .nils)))⟩, ⟨(some 4), none, (.op (.mv (.c (.int .i64 0))))⟩]
def mrodd_r1 : List AI := [⟨(some 9), none, (.op (.mv (.t 0)))⟩, ⟨(some 10), none, (.call (.c (.fn 24 [])) [(.t 9)])⟩, ⟨(some 8), none, (.op (.mv (.t 10)))⟩, ⟨(some 11), none, (.op (.ext (.t 8) 0))⟩, ⟨(some 12), none, (.op (.ext (.t 8) 1))⟩, ⟨(some 13), none, (.op (.ext (.t 8) 2))⟩, ⟨(some 5), none, (.op (.new 298005 4 (.agg [.nils, .nils, .nils, (.int .i64 0)])))⟩, ⟨none, none, (.op (.store 4 (.t 5) (.t 11)))⟩, ⟨(some 6), none, (.op (.mv (.t 12)))⟩, ⟨(some 7), none, (.op (.mv (.t 13)))⟩]
def mrodd_r2 : List AI := [⟨(some 14), none, (.op (.mv (.t 7)))⟩, ⟨(some 15), none, (.op (.ibin .eql (.t 14) (.c (.int .i64 0))))⟩]
def mrodd_r3 : List AI := [⟨(some 16), none, (.op (.load (some 4) (.t 5)))⟩, ⟨(some 17), none, (.call (.c (.fn 25 [])) [(.t 16), (.c (.int .i64 1)), (.c (.int .i64 7)), (.c (.str ⟨#[112, 117, 115, 104, 32, 49, 59, 32, 112, 111, 112, 59, 32, 112, 117, 115, 104, 32, 49]⟩))])⟩, ⟨none, none, (.op (.store 4 (.t 5) (.t 17)))⟩]
def mrodd_r4 : List AI := [⟨(some 18), none, (.op (.load (some 4) (.t 5)))⟩, ⟨(some 19), none, (.op (.mv (.t 6)))⟩, ⟨(some 20), none, (.op (.mv (.t 7)))⟩, ⟨none, none, (.op (.store 4 (.t 2) (.t 18)))⟩, ⟨(some 3), none, (.op (.mv (.t 19)))⟩, ⟨(some 4), none, (.op (.mv (.t 20)))⟩]
def mrodd_c : AC := (.seq (.reg mrodd_r0) (.seq (.reg mrodd_r1) (.seq (.seq (.reg mrodd_r2) (.cond (.t 15) (.reg mrodd_r3) .skip)) (.seq (.reg mrodd_r4) .ret))))
def mrodd_res : List ARes := [(.cell (some 4) 2), (.tmp 3), (.tmp 4)]
set_option maxRecDepth 100000 in
theorem mrodd_get : getF Tryz.prog 17 298000 [] = some ("gavotte/models.RingOdd", 21, mrodd_c, mrodd_res) := by kernel_rfl
attribute [simp] mrodd_r0 mrodd_r1 mrodd_r2 mrodd_r3 mrodd_r4 mrodd_res
open Go.RowKit
theorem callFz {P : Program} {f : FuncId} {cargs : List AV} {r : AV} (h : PC P f cargs r) (d : Nat) {vals : List AV} {S : St} {k : AV -> St -> Prop} {u : Dep k} (hco : coL (elemR (dco S.blk d)) vals cargs) (hk : k r ⟨S.t, fun _ => none, fun _ => none, S.clk⟩) :
   CallG P (.fn f []) vals S k u := by
 obtain ⟨hent, hc⟩ := h
 refine ⟨f, [], rfl, hent, fun E B W w args H hW hB hu hsz hrel => ?_⟩
 have hle : B <= w.heap.size := Nat.le_trans hB.le hW.size
 let K : Nat -> Nat -> Option Value := fun b o => if b < B then E.K b o else w.cell? ⟨b, o, none⟩
 have hK : ∀ b o u, E.K b o = some u -> K b o = some u := by
   intro b o u q
   show (if b < B then E.K b o else w.cell? ⟨b, o, none⟩) = some u
   split
   . exact q
   . exact H.K b o u q
 have hrest : ∀ b o u, B <= b -> w.cell? ⟨b, o, none⟩ = some u -> K b o = some u := by
   intro b o u hb q
   show (if b < B then E.K b o else w.cell? ⟨b, o, none⟩) = some u
   rw [if_neg (by omega)]; exact q
 have hin : ∀ b o u, K b o = some u -> w.cell? ⟨b, o, none⟩ = some u := by
   intro b o u q
   have q' : (if b < B then E.K b o else w.cell? ⟨b, o, none⟩) = some u := q
   split at q'
   . exact H.K b o u q'
   . exact q'
 have kn : Knows E B w K true := ⟨hK, fun _ => hrest⟩
 obtain ⟨e1, e2⟩ := coL_get hco
 refine (hc K w args hin (hB.at hW) (by rw [<- e1]; simpa using hsz) ?_).mono ?_
 . intro j y u' hy hu'
   obtain ⟨x, hx⟩ : ∃ x, vals[j]? = some x := ⟨_, List.getElem?_eq_getElem (by rw [e1]; exact (List.getElem?_eq_some_iff.1 hy).1)⟩
   exact dcoKE_rel H kn d x y u' (e2 j x y hx hy) (hrel j x u' (by simpa using hx) hu')
 . rintro e w' ⟨v, rfl, hbel, hr⟩
   refine ⟨v, { E with K := over K w w' }, r, ⟨S.t, fun _ => none, fun _ => none, S.clk⟩, rfl, ⟨fun b o u q => ?_, fun _ _ => rfl, fun _ _ => rfl, fun _ _ => rfl, fun _ q => q⟩,
     ⟨fun b o u q => ?_, fun nm b q => (by cases q), fun nm b q => (by cases q), fun nm b q => (by cases q), fun nm b q => (by cases q), fun nm nm' b b' _ q => (by cases q), fun nm nm' b t q => (by cases q), fun nm nm' t t' g _ q => (by cases q)⟩,
     hW.trans (hbel.mono hle), fun b o hb => ?_, fun s hs => ⟨.inl hs, hu s hs⟩, Nat.le_refl _, rfl, hr.of_envK (fun b o u q => q), hk⟩
   . have := World.block_lt_of_cell? w _ (H.K b o u q)
     show over K w w' b o = some u
     unfold over
     rw [if_pos this]
     exact hK b o u q
   . have q' : over K w w' b o = some u := q
     unfold over at q'
     split at q'
     . rename_i hlt
       have := hin b o u q'
       rw [<- this]
       simp only [World.cell?, hbel.block b hlt]
     . exact q'
   . show over K w w' b o = E.K b o
     unfold over
     rw [if_pos (by omega)]
     show (if b < B then E.K b o else w.cell? ⟨b, o, none⟩) = E.K b o
     rw [if_pos hb]
theorem mrodd_v (nmI stI : Nat) {S : St} {k : AV -> St -> Prop} {u : Dep k}
   (hk : ∀ S' sh sc sa sb sw, S'.t = S.t -> (∀ n, 299000 <= n /\ n < 1000000000 -> S'.blk n = S.blk n) ->
     S'.blk 1000295044 = some ⟨sh, 2, [.agg [iv 0, .lst 2 (xs0.map Ins.av)], .agg [iv 1, .sl 1000284031 sc 2 0 18]]⟩ -> S'.blk 1000284031 = some ⟨sc, 2, xs1o.map Ins.av⟩ ->
     k (.tup [.agg [.sl 1000295044 sh 2 0 2, .acc 295059 sa 4 acts2, .acc 294021 sb 3 boot2, iv 64], .acc 295080 sw 1 [.lst 2 (watch2.map Ins.av)], iv 0]) S') :
   CallG Tryz.prog (.fn 17 []) [.acc nmI stI 1 [iv 3, iv 4]] S k u := by
 refine callV mrodd_get (by simp) (by simp) ?_
 unfold mrodd_c
 simp
 refine zring_v nmI stI (fun S1 sh sc sa sb sw p1 p2 p3 p4 => ?_)
 have c2 := p2 298002 (by simp)
 have c5 := p2 298005 (by simp)
 simp at c2 c5
 simp [p1]
 refine zodd_v sh sc (.acc 295059 sa 4 acts2) (.acc 294021 sb 3 boot2) _ rfl rfl rfl rfl (by simp [p3]; rfl) (by simp [p4]) (fun S2 q1 q2 q3 q4 q5 => ?_)
 have d2 := q3 298002 (by simp) (by simp) (by simp) (by simp)
 have d5 := q3 298005 (by simp) (by simp) (by simp) (by simp)
 simp at d2 d5
 rw [c2] at d2
 simp [q1, d2, d5]
 refine hk _ sh sc sa sb sw rfl (fun n hn => ?_) (by simp; exact q4) (by simp; exact q5)
 have m1 : n ≠ 298002 := by omega
 have m2 : n ≠ 298005 := by omega
 have e1 := q3 n (by omega) (by omega) (by omega) (by omega)
 have e2 := p2 n (by omega)
 simp [m2] at e1
 simp [m1] at e2
 simp [m1, m2]
 rw [e1, e2]
end Go.Gv

namespace Go.Gv
open Go.Proofs
def gawake_r0 : List AI := [⟨(some 0), none, (.op (.mv (.c (.bool false))))⟩]
def gawake_r1 : List AI := [⟨(some 6), none, (.op (.bsl 299006 1 3 2 (.int .i64 0) [(0, (.c (.int .i64 3))), (1, (.c (.int .i64 4)))]))⟩, ⟨(some 7), none, (.call (.c (.fn 17 [])) [(.t 6)])⟩, ⟨(some 5), none, (.op (.mv (.t 7)))⟩, ⟨(some 8), none, (.op (.ext (.t 5) 0))⟩, ⟨(some 9), none, (.op (.ext (.t 5) 1))⟩, ⟨(some 10), none, (.op (.ext (.t 5) 2))⟩, ⟨(some 1), none, (.op (.new 299001 4 (.agg [.nils, .nils, .nils, (.int .i64 0)])))⟩, ⟨none, none, (.op (.store 4 (.t 1) (.t 8)))⟩, ⟨(some 2), none, (.op (.mv (.t 9)))⟩, ⟨(some 3), none, (.op (.mv (.t 10)))⟩]
def gawake_r2 : List AI := [⟨(some 11), none, (.op (.mv (.t 3)))⟩, ⟨(some 12), none, (.op (.ibin .neq (.t 11) (.c (.int .i64 0))))⟩]
def gawake_r3 : List AI := [⟨(some 0), none, (.op (.mv (.c (.bool false))))⟩]
def gawake_r4 : List AI := [⟨(some 13), none, (.op (.load (some 4) (.t 1)))⟩, ⟨(some 14), none, (.op (.mv (.t 2)))⟩, ⟨(some 15), none, (.op (.build [(.int .i64 0), (.int .i64 0)] [(0, (1, (.c (.int .i64 6)))), (1, (1, (.c (.int .i64 1000))))]))⟩, ⟨(some 16), none, (.op (.build [.nils, .nils, .nils, (.int .i64 0), .nils, (.int .i64 0), (.int .i64 0), (.int .i64 0), (.int .i64 0), (.int .i64 0), (.int .i64 0)] [(0, (4, (.t 13))), (4, (1, (.t 14))), (9, (2, (.t 15)))]))⟩, ⟨(some 17), none, (.call (.c (.fn 9 [])) [(.t 16)])⟩, ⟨(some 4), none, (.op (.new 299004 7 (.agg [(.int .i64 0), (.int .i64 0), (.int .i64 0), (.int .i64 0), (.int .i64 0), (.int .i64 0), .nils])))⟩, ⟨none, none, (.op (.store 7 (.t 4) (.t 17)))⟩]
def gawake_r5 : List AI := [⟨(some 18), none, (.op (.fld 0 (.t 4)))⟩, ⟨(some 19), none, (.op (.load none (.t 18)))⟩, ⟨(some 20), none, (.op (.ibin .eql (.t 19) (.c (.int .i64 3))))⟩, ⟨(some 21), none, (.op (.mv (.t 20)))⟩, ⟨(some 22), (some (21, true)), (.op (.fld 6 (.t 4)))⟩, ⟨(some 23), (some (21, true)), (.op (.load none (.t 22)))⟩, ⟨(some 24), (some (21, true)), (.op (.len (.t 23)))⟩, ⟨(some 25), (some (21, true)), (.op (.ibin .eql (.t 24) (.c (.int .i64 1))))⟩, ⟨(some 26), none, (.op (.pick (.t 21) (.t 25) (.c (.bool false))))⟩, ⟨(some 27), none, (.op (.mv (.t 26)))⟩, ⟨(some 28), (some (27, true)), (.op (.fld 6 (.t 4)))⟩, ⟨(some 29), (some (27, true)), (.op (.load none (.t 28)))⟩, ⟨(some 30), (some (27, true)), (.op (.idx 2 (.t 29) (.c (.int .i64 0))))⟩, ⟨(some 31), (some (27, true)), (.op (.fld 0 (.t 30)))⟩, ⟨(some 32), (some (27, true)), (.op (.load none (.t 31)))⟩, ⟨(some 33), (some (27, true)), (.op (.ibin .eql (.t 32) (.c (.int .i64 0))))⟩, ⟨(some 34), none, (.op (.pick (.t 27) (.t 33) (.c (.bool false))))⟩, ⟨(some 35), none, (.op (.mv (.t 34)))⟩, ⟨(some 36), (some (35, true)), (.op (.fld 6 (.t 4)))⟩, ⟨(some 37), (some (35, true)), (.op (.load none (.t 36)))⟩, ⟨(some 38), (some (35, true)), (.op (.idx 2 (.t 37) (.c (.int .i64 0))))⟩, ⟨(some 39), (some (35, true)), (.op (.fld 1 (.t 38)))⟩, ⟨(some 40), (some (35, true)), (.op (.load none (.t 39)))⟩, ⟨(some 41), (some (35, true)), (.op (.len (.t 40)))⟩, ⟨(some 42), (some (35, true)), (.op (.ibin .eql (.t 41) (.c (.int .i64 6))))⟩, ⟨(some 43), none, (.op (.pick (.t 35) (.t 42) (.c (.bool false))))⟩, ⟨(some 0), none, (.op (.mv (.t 43)))⟩]
def gawake_c : AC := (.seq (.reg gawake_r0) (.seq (.reg gawake_r1) (.seq (.seq (.reg gawake_r2) (.cond (.t 12) (.seq (.reg gawake_r3) .ret) .skip)) (.seq (.reg gawake_r4) (.seq (.reg gawake_r5) .ret)))))
def gawake_res : List ARes := [(.tmp 0)]
set_option maxRecDepth 100000 in
theorem gawake_get : getF Tryz.prog 8 299000 [] = some ("gavotte/gavottetop.awake", 44, gawake_c, gawake_res) := by kernel_rfl
attribute [simp] gawake_r0 gawake_r1 gawake_r2 gawake_r3 gawake_r4 gawake_r5 gawake_res
open Go.RowKit
theorem awake_pc : PC Tryz.prog 8 [] (.bool true) := by
 have ht := task_pc put_all awC aw_cok (fun f w => treeB awC f w = true) (fun e => e.kind = 1) (sok put_all awC (by decide) (by decide)) aw_tree
 have hr := aw_res
 generalize exploreS awC = R at ht hr
 obtain ⟨runs, worlds, found, path, ended, cut, slept⟩ := R
 simp only [awRes, Bool.and_eq_true] at hr
 obtain ⟨h1, h2⟩ := hr
 have he : ended = false := by simpa using h1
 subst he
 match found, h2 with
 | [⟨fw, fp⟩], h2 =>
 simp at h2
 obtain ⟨rfl, hfp⟩ := h2
 refine pc_of_get gawake_get (by simp) _ (by simp) _ ?_
 unfold gawake_c
 simp
 refine mrodd_v 299006 _ (fun S1 sh sc sa sb sw p1 p2 p3 p4 => ?_)
 simp [p1]
 refine callFz ht 4 ?_ ?_
 . simp [awC, ringP, Cfg.av, watchesAv, elemR, coL, dco, p3, p4, Hnd.av, acts2, boot2, watch2, Actr.av, Nt.av, ints]
   refine ⟨by decide, ?_⟩
   simp [xs1o, xs1, xs2, Ins.av, coL, elemR]
 . simp [Sr.rep, Fnd.av, evts, hfp]
end Go.Gv

namespace Go.Gv
open Go.Proofs
def gfound_r0 : List AI := [⟨(some 2), none, (.op (.box 301002 7 (.t 0)))⟩, ⟨(some 4), none, (.op (.mv (.c (.bool false))))⟩]
def gfound_r1 : List AI := [⟨(some 5), none, (.op (.mv (.c (.int .i64 0))))⟩]
def gfound_r2 : List AI := [⟨(some 6), none, (.op (.mv (.t 5)))⟩, ⟨(some 7), none, (.op (.fld 6 (.t 2)))⟩, ⟨(some 8), none, (.op (.load none (.t 7)))⟩, ⟨(some 9), none, (.op (.len (.t 8)))⟩, ⟨(some 10), none, (.op (.ibin .lss (.t 6) (.t 9)))⟩]
def gfound_r3 : List AI := [⟨(some 13), none, (.op (.fld 6 (.t 2)))⟩, ⟨(some 14), none, (.op (.load none (.t 13)))⟩, ⟨(some 15), none, (.op (.mv (.t 5)))⟩, ⟨(some 16), none, (.op (.idx 2 (.t 14) (.t 15)))⟩, ⟨(some 17), none, (.op (.fld 0 (.t 16)))⟩, ⟨(some 18), none, (.op (.load none (.t 17)))⟩, ⟨(some 19), none, (.op (.mv (.t 1)))⟩, ⟨(some 20), none, (.op (.ibin .eql (.t 18) (.t 19)))⟩]
def gfound_r4 : List AI := [⟨(some 4), none, (.op (.mv (.c (.bool true))))⟩]
def gfound_r5 : List AI := [⟨(some 11), none, (.op (.mv (.t 5)))⟩, ⟨(some 12), none, (.op (.ibin .add (.t 11) (.c (.int .i64 1))))⟩, ⟨(some 5), none, (.op (.mv (.t 12)))⟩]
def gfound_l0 : AC := (.seq (.seq (.reg gfound_r2) (.cond (.t 10) .skip (.exit 0))) (.seq (.block 1 (.seq (.reg gfound_r3) (.cond (.t 20) (.seq (.reg gfound_r4) .ret) .skip))) (.reg gfound_r5)))
def gfound_r6 : List AI := [⟨(some 4), none, (.op (.mv (.c (.bool false))))⟩]
def gfound_c : AC := (.seq (.reg gfound_r0) (.seq (.seq (.reg gfound_r1) (.block 0 (.loop gfound_l0))) (.seq (.reg gfound_r6) .ret)))
def gfound_res : List ARes := [(.tmp 4)]
set_option maxRecDepth 100000 in
theorem gfound_get : getF Tryz.prog 10 301000 [] = some ("gavotte/gavottetop.found", 21, gfound_c, gfound_res) := by kernel_rfl
def ground_r0 : List AI := [⟨(some 4), none, (.op (.mv (.c (.int .i64 0))))⟩]
def ground_r1 : List AI := [⟨(some 5), none, (.op (.mv (.t 0)))⟩, ⟨(some 6), none, (.op (.mv (.t 1)))⟩, ⟨(some 7), none, (.op (.ibin .rem (.t 5) (.t 6)))⟩, ⟨(some 8), none, (.op (.mv (.t 1)))⟩, ⟨(some 9), none, (.op (.ibin .add (.t 7) (.t 8)))⟩, ⟨(some 10), none, (.op (.mv (.t 1)))⟩, ⟨(some 11), none, (.op (.ibin .rem (.t 9) (.t 10)))⟩, ⟨(some 4), none, (.op (.mv (.t 11)))⟩]
def ground_c : AC := (.seq (.reg ground_r0) (.seq (.reg ground_r1) .ret))
def ground_res : List ARes := [(.tmp 4)]
set_option maxRecDepth 100000 in
theorem ground_get : getF Tryz.prog 11 302000 [] = some ("gavotte/gavottealike.Round", 12, ground_c, ground_res) := by kernel_rfl
def gfewer_r0 : List AI := [⟨(some 4), none, (.op (.mv (.c (.bool false))))⟩]
def gfewer_r1 : List AI := [⟨(some 11), none, (.op (.mv (.t 0)))⟩, ⟨(some 12), none, (.op (.ibin .lss (.t 11) (.c (.int .i64 1))))⟩, ⟨(some 13), none, (.op (.mv (.t 12)))⟩, ⟨(some 14), (some (13, false)), (.op (.mv (.t 0)))⟩, ⟨(some 15), (some (13, false)), (.op (.ibin .gtr (.t 14) (.c (.int .i64 5))))⟩, ⟨(some 16), none, (.op (.pick (.t 13) (.c (.bool true)) (.t 15)))⟩]
def gfewer_r2 : List AI := [⟨(some 17), none, (.call (.c (.fn 8 [])) [])⟩, ⟨(some 4), none, (.op (.mv (.t 17)))⟩]
def gfewer_r3 : List AI := [⟨(some 18), none, (.op (.build [(.int .i64 0), (.int .i64 0)] [(0, (1, (.c (.int .i64 1)))), (1, (1, (.c (.int .i64 1))))]))⟩, ⟨(some 19), none, (.op (.build [(.int .i64 0), (.int .i64 0)] [(0, (1, (.c (.int .i64 6))))]))⟩, ⟨(some 20), none, (.op (.bsl 300020 2 49 2 (.agg [(.int .i64 0), (.int .i64 0)]) [(0, (.t 18)), (1, (.t 19))]))⟩, ⟨(some 21), none, (.op (.build [(.int .i64 0), .nils] [(1, (1, (.t 20)))]))⟩, ⟨(some 22), none, (.op (.bsl 300022 2 52 1 (.agg [(.int .i64 0), .nils]) [(0, (.t 21))]))⟩, ⟨(some 23), none, (.op (.build [.nils, .nils, .nils, (.int .i64 0)] [(0, (1, (.t 22))), (3, (1, (.c (.int .i64 9))))]))⟩, ⟨(some 5), none, (.op (.new 300005 4 (.agg [.nils, .nils, .nils, (.int .i64 0)])))⟩, ⟨none, none, (.op (.store 4 (.t 5) (.t 23)))⟩]
def gfewer_r4 : List AI := [⟨(some 6), none, (.op (.mv (.c .nils)))⟩]
def gfewer_r5 : List AI := [⟨(some 7), none, (.op (.mv (.c (.int .i64 0))))⟩]
def gfewer_r6 : List AI := [⟨(some 24), none, (.op (.mv (.t 7)))⟩, ⟨(some 25), none, (.op (.mv (.t 0)))⟩, ⟨(some 26), none, (.op (.ibin .lss (.t 24) (.t 25)))⟩]
def gfewer_r7 : List AI := [⟨(some 29), none, (.op (.fld 1 (.t 5)))⟩, ⟨(some 30), none, (.op (.load none (.t 29)))⟩, ⟨(some 31), none, (.op (.bsl 300031 1 3 1 (.int .i64 0) [(0, (.c (.int .i64 0)))]))⟩, ⟨(some 32), none, (.op (.build [.nils, (.int .i64 0), (.int .i64 0), (.bool false)] [(0, (1, (.t 31))), (1, (1, (.c (.int .i64 1)))), (2, (1, (.c (.int .i64 (-1)))))]))⟩, ⟨(some 33), none, (.op (.bsl 300033 4 56 1 (.agg [.nils, (.int .i64 0), (.int .i64 0), (.bool false)]) [(0, (.t 32))]))⟩, ⟨(some 34), none, (.op (.app 300034 4 56 48 (.t 30) (.t 33)))⟩, ⟨(some 35), none, (.op (.fld 1 (.t 5)))⟩, ⟨none, none, (.op (.store 1 (.t 35) (.t 34)))⟩]
def gfewer_r8 : List AI := [⟨(some 36), none, (.op (.fld 2 (.t 5)))⟩, ⟨(some 37), none, (.op (.load none (.t 36)))⟩, ⟨(some 38), none, (.op (.mv (.t 7)))⟩, ⟨(some 39), none, (.op (.build [(.int .i64 0), (.int .i64 0), .nils] [(0, (1, (.t 38)))]))⟩, ⟨(some 40), none, (.op (.bsl 300040 3 58 1 (.agg [(.int .i64 0), (.int .i64 0), .nils]) [(0, (.t 39))]))⟩, ⟨(some 41), none, (.op (.app 300041 3 58 40 (.t 37) (.t 40)))⟩, ⟨(some 42), none, (.op (.fld 2 (.t 5)))⟩, ⟨none, none, (.op (.store 1 (.t 42) (.t 41)))⟩]
def gfewer_r9 : List AI := [⟨(some 43), none, (.op (.mv (.t 6)))⟩, ⟨(some 44), none, (.op (.mv (.t 7)))⟩, ⟨(some 45), none, (.op (.ibin .mul (.c (.int .i64 16)) (.t 44)))⟩, ⟨(some 46), none, (.op (.build [(.int .i64 0), (.int .i64 0)] [(0, (1, (.c (.int .i64 31)))), (1, (1, (.t 45)))]))⟩, ⟨(some 47), none, (.op (.mv (.t 1)))⟩, ⟨(some 48), none, (.op (.mv (.t 0)))⟩, ⟨(some 49), none, (.op (.shift true (.c (.int .i64 1)) (.t 48)))⟩, ⟨(some 50), none, (.call (.c (.fn 11 [])) [(.t 47), (.t 49)])⟩, ⟨(some 51), none, (.op (.mv (.t 7)))⟩, ⟨(some 52), none, (.op (.shift false (.t 50) (.t 51)))⟩, ⟨(some 53), none, (.op (.ibin .and (.t 52) (.c (.int .i64 1))))⟩, ⟨(some 54), none, (.op (.build [(.int .i64 0), (.int .i64 0)] [(0, (1, (.c (.int .i64 1)))), (1, (1, (.t 53)))]))⟩, ⟨(some 55), none, (.op (.build [(.int .i64 0), (.int .i64 0)] [(0, (1, (.c (.int .i64 15))))]))⟩, ⟨(some 56), none, (.op (.bsl 300056 2 49 3 (.agg [(.int .i64 0), (.int .i64 0)]) [(0, (.t 46)), (1, (.t 54)), (2, (.t 55))]))⟩, ⟨(some 57), none, (.op (.app 300067 2 49 16 (.t 43) (.t 56)))⟩, ⟨(some 6), none, (.op (.mv (.t 57)))⟩]
def gfewer_r10 : List AI := [⟨(some 58), none, (.op (.mv (.t 7)))⟩, ⟨(some 59), none, (.op (.ibin .gtr (.t 58) (.c (.int .i64 0))))⟩]
def gfewer_r11 : List AI := [⟨(some 60), none, (.op (.mv (.t 6)))⟩, ⟨(some 61), none, (.op (.build [(.int .i64 0), (.int .i64 0)] [(0, (1, (.c (.int .i64 17))))]))⟩, ⟨(some 62), none, (.op (.bsl 300062 2 49 1 (.agg [(.int .i64 0), (.int .i64 0)]) [(0, (.t 61))]))⟩, ⟨(some 63), none, (.op (.app 300067 2 49 16 (.t 60) (.t 62)))⟩, ⟨(some 6), none, (.op (.mv (.t 63)))⟩]
def gfewer_r12 : List AI := [⟨(some 27), none, (.op (.mv (.t 7)))⟩, ⟨(some 28), none, (.op (.ibin .add (.t 27) (.c (.int .i64 1))))⟩, ⟨(some 7), none, (.op (.mv (.t 28)))⟩]
def gfewer_l0 : AC := (.seq (.seq (.reg gfewer_r6) (.cond (.t 26) .skip (.exit 0))) (.seq (.block 1 (.seq (.reg gfewer_r7) (.seq (.reg gfewer_r8) (.seq (.reg gfewer_r9) (.seq (.reg gfewer_r10) (.cond (.t 59) (.reg gfewer_r11) .skip)))))) (.reg gfewer_r12)))
def gfewer_r13 : List AI := [⟨(some 64), none, (.op (.mv (.t 6)))⟩, ⟨(some 65), none, (.op (.build [(.int .i64 0), (.int .i64 0)] [(0, (1, (.c (.int .i64 19))))]))⟩, ⟨(some 66), none, (.op (.bsl 300066 2 49 1 (.agg [(.int .i64 0), (.int .i64 0)]) [(0, (.t 65))]))⟩, ⟨(some 67), none, (.op (.app 300067 2 49 16 (.t 64) (.t 66)))⟩, ⟨(some 6), none, (.op (.mv (.t 67)))⟩]
def gfewer_r14 : List AI := [⟨(some 68), none, (.op (.load (some 4) (.t 5)))⟩, ⟨(some 69), none, (.op (.mv (.t 6)))⟩, ⟨(some 70), none, (.op (.bsl 300070 1 53 1 .nils [(0, (.t 69))]))⟩, ⟨(some 71), none, (.op (.build [(.int .i64 0), (.int .i64 0)] [(0, (1, (.c (.int .i64 6)))), (1, (1, (.c (.int .i64 1000))))]))⟩, ⟨(some 72), none, (.op (.build [.nils, .nils, .nils, (.int .i64 0), .nils, (.int .i64 0), (.int .i64 0), (.int .i64 0), (.int .i64 0), (.int .i64 0), (.int .i64 0)] [(0, (4, (.t 68))), (4, (1, (.t 70))), (9, (2, (.t 71)))]))⟩, ⟨(some 8), none, (.op (.new 300008 11 (.agg [.nils, .nils, .nils, (.int .i64 0), .nils, (.int .i64 0), (.int .i64 0), (.int .i64 0), (.int .i64 0), (.int .i64 0), (.int .i64 0)])))⟩, ⟨none, none, (.op (.store 11 (.t 8) (.t 72)))⟩]
def gfewer_r15 : List AI := [⟨(some 73), none, (.op (.load (some 11) (.t 8)))⟩, ⟨(some 74), none, (.call (.c (.fn 9 [])) [(.t 73)])⟩, ⟨(some 75), none, (.op (.load (some 11) (.t 8)))⟩, ⟨(some 76), none, (.call (.c (.fn 13 [])) [(.t 75)])⟩, ⟨(some 9), none, (.op (.new 300009 7 (.agg [(.int .i64 0), (.int .i64 0), (.int .i64 0), (.int .i64 0), (.int .i64 0), (.int .i64 0), .nils])))⟩, ⟨(some 10), none, (.op (.new 300010 7 (.agg [(.int .i64 0), (.int .i64 0), (.int .i64 0), (.int .i64 0), (.int .i64 0), (.int .i64 0), .nils])))⟩, ⟨none, none, (.op (.store 7 (.t 9) (.t 74)))⟩, ⟨none, none, (.op (.store 7 (.t 10) (.t 76)))⟩]
def gfewer_p15 : List (List Nat) := [[], [0], [], [2, 1, 0], [], [], [4, 1, 3, 0, 5, 2], [5, 3, 6, 0, 1, 2, 4]]
def gfewer_r16 : List AI := [⟨(some 77), none, (.op (.fld 0 (.t 9)))⟩, ⟨(some 78), none, (.op (.load none (.t 77)))⟩, ⟨(some 79), none, (.op (.ibin .eql (.t 78) (.c (.int .i64 3))))⟩, ⟨(some 80), none, (.op (.mv (.t 79)))⟩, ⟨(some 81), (some (80, true)), (.op (.fld 0 (.t 10)))⟩, ⟨(some 82), (some (80, true)), (.op (.load none (.t 81)))⟩, ⟨(some 83), (some (80, true)), (.op (.ibin .eql (.t 82) (.c (.int .i64 3))))⟩, ⟨(some 84), none, (.op (.pick (.t 80) (.t 83) (.c (.bool false))))⟩, ⟨(some 85), none, (.op (.mv (.t 84)))⟩, ⟨(some 86), (some (85, true)), (.op (.fld 3 (.t 9)))⟩, ⟨(some 87), (some (85, true)), (.op (.load none (.t 86)))⟩, ⟨(some 88), (some (85, true)), (.op (.mv (.t 0)))⟩, ⟨(some 89), (some (85, true)), (.op (.shift true (.c (.int .i64 1)) (.t 88)))⟩, ⟨(some 90), (some (85, true)), (.op (.ibin .eql (.t 87) (.t 89)))⟩, ⟨(some 91), none, (.op (.pick (.t 85) (.t 90) (.c (.bool false))))⟩, ⟨(some 92), none, (.op (.mv (.t 91)))⟩, ⟨(some 93), (some (92, true)), (.op (.fld 2 (.t 9)))⟩, ⟨(some 94), (some (92, true)), (.op (.load none (.t 93)))⟩, ⟨(some 95), (some (92, true)), (.op (.mv (.t 0)))⟩, ⟨(some 96), (some (92, true)), (.op (.ibin .sub (.t 95) (.c (.int .i64 1))))⟩, ⟨(some 97), (some (92, true)), (.op (.shift true (.c (.int .i64 1)) (.t 96)))⟩, ⟨(some 98), (some (92, true)), (.op (.ibin .eql (.t 94) (.t 97)))⟩, ⟨(some 99), none, (.op (.pick (.t 92) (.t 98) (.c (.bool false))))⟩, ⟨(some 100), none, (.op (.mv (.t 99)))⟩, ⟨(some 101), (some (100, true)), (.op (.load (some 7) (.t 9)))⟩, ⟨(some 102), (some (100, true)), (.call (.c (.fn 10 [])) [(.t 101), (.c (.int .i64 0))])⟩, ⟨(some 103), none, (.op (.pick (.t 100) (.t 102) (.c (.bool false))))⟩, ⟨(some 104), none, (.op (.mv (.t 103)))⟩, ⟨(some 105), (some (104, true)), (.op (.load (some 7) (.t 10)))⟩, ⟨(some 106), (some (104, true)), (.call (.c (.fn 10 [])) [(.t 105), (.c (.int .i64 0))])⟩, ⟨(some 107), none, (.op (.pick (.t 104) (.t 106) (.c (.bool false))))⟩, ⟨(some 108), none, (.op (.mv (.t 107)))⟩, ⟨(some 109), (some (108, true)), (.op (.fld 6 (.t 9)))⟩, ⟨(some 110), (some (108, true)), (.op (.load none (.t 109)))⟩, ⟨(some 111), (some (108, true)), (.op (.idx 2 (.t 110) (.c (.int .i64 0))))⟩, ⟨(some 112), (some (108, true)), (.op (.fld 1 (.t 111)))⟩, ⟨(some 113), (some (108, true)), (.op (.load none (.t 112)))⟩, ⟨(some 114), (some (108, true)), (.op (.len (.t 113)))⟩, ⟨(some 115), (some (108, true)), (.op (.fld 6 (.t 10)))⟩, ⟨(some 116), (some (108, true)), (.op (.load none (.t 115)))⟩, ⟨(some 117), (some (108, true)), (.op (.idx 2 (.t 116) (.c (.int .i64 0))))⟩, ⟨(some 118), (some (108, true)), (.op (.fld 1 (.t 117)))⟩, ⟨(some 119), (some (108, true)), (.op (.load none (.t 118)))⟩, ⟨(some 120), (some (108, true)), (.op (.len (.t 119)))⟩, ⟨(some 121), (some (108, true)), (.op (.ibin .eql (.t 114) (.t 120)))⟩, ⟨(some 122), none, (.op (.pick (.t 108) (.t 121) (.c (.bool false))))⟩, ⟨(some 123), none, (.op (.mv (.t 122)))⟩, ⟨(some 124), (some (123, true)), (.call (.c (.fn 8 [])) [])⟩, ⟨(some 125), none, (.op (.pick (.t 123) (.t 124) (.c (.bool false))))⟩, ⟨(some 4), none, (.op (.mv (.t 125)))⟩]
def gfewer_p16 : List (List Nat) := [[], [0], [1, 0], [2, 1, 0], [3, 2, 1, 0], [4, 3, 2, 1, 0], [5, 3, 4, 2, 1, 0], [3, 6, 2, 1, 0, 5, 4], [7, 3, 6, 2, 1, 0, 5, 4], [8, 7, 3, 6, 2, 1, 0, 5, 4], [9, 8, 7, 3, 6, 2, 1, 0, 5, 4], [8, 7, 3, 6, 2, 1, 0, 5, 4], [11, 8, 7, 3, 6, 2, 1, 0, 5, 4], [10, 12, 8, 9, 7, 3, 6, 2, 1, 0, 5, 4, 11], [8, 13, 7, 3, 6, 2, 1, 0, 5, 4, 10, 12, 9, 11], [14, 8, 13, 7, 3, 6, 2, 1, 0, 5, 4, 10, 12, 9, 11], [15, 14, 8, 13, 7, 3, 6, 2, 1, 0, 5, 4, 10, 12, 9, 11], [16, 15, 14, 8, 13, 7, 3, 6, 2, 1, 0, 5, 4, 10, 12, 9, 11], [15, 14, 8, 13, 7, 3, 6, 2, 1, 0, 5, 4, 10, 12, 9, 11], [18, 15, 14, 8, 13, 7, 3, 6, 2, 1, 0, 5, 4, 10, 12, 9, 11], [19, 15, 18, 14, 8, 13, 7, 3, 6, 2, 1, 0, 5, 4, 10, 12, 9, 11], [17, 20, 15, 16, 14, 8, 13, 7, 3, 6, 2, 1, 0, 5, 4, 10, 12, 9, 11, 19, 18], [15, 21, 14, 8, 13, 7, 3, 6, 2, 1, 0, 5, 4, 10, 12, 9, 11, 17, 20, 16, 19, 18], [22, 15, 21, 14, 8, 13, 7, 3, 6, 2, 1, 0, 5, 4, 10, 12, 9, 11, 17, 20, 16, 19, 18], [23, 22, 15, 21, 14, 8, 13, 7, 3, 6, 2, 1, 0, 5, 4, 10, 12, 9, 11, 17, 20, 16, 19, 18], [24, 23, 22, 15, 21, 14, 8, 13, 7, 3, 6, 2, 1, 0, 5, 4, 10, 12, 9, 11, 17, 20, 16, 19, 18], [23, 25, 22, 15, 21, 14, 8, 13, 7, 3, 6, 2, 1, 0, 5, 4, 10, 12, 9, 11, 17, 20, 16, 19, 18, 24], [26, 25, 23, 22, 15, 21, 14, 8, 13, 7, 3, 6, 2, 1, 0, 5, 4, 10, 12, 9, 11, 17, 20, 16, 19, 18, 24], [27, 26, 25, 23, 22, 15, 21, 14, 8, 13, 7, 3, 6, 2, 1, 0, 5, 4, 10, 12, 9, 11, 17, 20, 16, 19, 18, 24], [28, 27, 26, 25, 23, 22, 15, 21, 14, 8, 13, 7, 3, 6, 2, 1, 0, 5, 4, 10, 12, 9, 11, 17, 20, 16, 19, 18, 24], [27, 29, 26, 25, 23, 22, 15, 21, 14, 8, 13, 7, 3, 6, 2, 1, 0, 5, 4, 10, 12, 9, 11, 17, 20, 16, 19, 18, 24, 28], [30, 29, 27, 26, 25, 23, 22, 15, 21, 14, 8, 13, 7, 3, 6, 2, 1, 0, 5, 4, 10, 12, 9, 11, 17, 20, 16, 19, 18, 24, 28], [31, 30, 29, 27, 26, 25, 23, 22, 15, 21, 14, 8, 13, 7, 3, 6, 2, 1, 0, 5, 4, 10, 12, 9, 11, 17, 20, 16, 19, 18, 24, 28], [32, 31, 30, 29, 27, 26, 25, 23, 22, 15, 21, 14, 8, 13, 7, 3, 6, 2, 1, 0, 5, 4, 10, 12, 9, 11, 17, 20, 16, 19, 18, 24, 28], [33, 31, 32, 30, 29, 27, 26, 25, 23, 22, 15, 21, 14, 8, 13, 7, 3, 6, 2, 1, 0, 5, 4, 10, 12, 9, 11, 17, 20, 16, 19, 18, 24, 28], [34, 31, 33, 32, 30, 29, 27, 26, 25, 23, 22, 15, 21, 14, 8, 13, 7, 3, 6, 2, 1, 0, 5, 4, 10, 12, 9, 11, 17, 20, 16, 19, 18, 24, 28], [35, 31, 34, 33, 32, 30, 29, 27, 26, 25, 23, 22, 15, 21, 14, 8, 13, 7, 3, 6, 2, 1, 0, 5, 4, 10, 12, 9, 11, 17, 20, 16, 19, 18, 24, 28], [36, 31, 35, 34, 33, 32, 30, 29, 27, 26, 25, 23, 22, 15, 21, 14, 8, 13, 7, 3, 6, 2, 1, 0, 5, 4, 10, 12, 9, 11, 17, 20, 16, 19, 18, 24, 28], [31, 30, 29, 27, 26, 25, 23, 22, 15, 21, 14, 8, 13, 7, 3, 6, 2, 1, 0, 5, 4, 10, 12, 9, 11, 17, 20, 16, 19, 18, 24, 28], [38, 31, 30, 29, 27, 26, 25, 23, 22, 15, 21, 14, 8, 13, 7, 3, 6, 2, 1, 0, 5, 4, 10, 12, 9, 11, 17, 20, 16, 19, 18, 24, 28], [39, 31, 38, 30, 29, 27, 26, 25, 23, 22, 15, 21, 14, 8, 13, 7, 3, 6, 2, 1, 0, 5, 4, 10, 12, 9, 11, 17, 20, 16, 19, 18, 24, 28], [40, 31, 39, 38, 30, 29, 27, 26, 25, 23, 22, 15, 21, 14, 8, 13, 7, 3, 6, 2, 1, 0, 5, 4, 10, 12, 9, 11, 17, 20, 16, 19, 18, 24, 28], [41, 31, 40, 39, 38, 30, 29, 27, 26, 25, 23, 22, 15, 21, 14, 8, 13, 7, 3, 6, 2, 1, 0, 5, 4, 10, 12, 9, 11, 17, 20, 16, 19, 18, 24, 28], [42, 31, 41, 40, 39, 38, 30, 29, 27, 26, 25, 23, 22, 15, 21, 14, 8, 13, 7, 3, 6, 2, 1, 0, 5, 4, 10, 12, 9, 11, 17, 20, 16, 19, 18, 24, 28], [37, 43, 31, 36, 35, 34, 33, 32, 30, 29, 27, 26, 25, 23, 22, 15, 21, 14, 8, 13, 7, 3, 6, 2, 1, 0, 5, 4, 10, 12, 9, 11, 17, 20, 16, 19, 18, 24, 28, 42, 41, 40, 39, 38], [31, 44, 30, 29, 27, 26, 25, 23, 22, 15, 21, 14, 8, 13, 7, 3, 6, 2, 1, 0, 5, 4, 10, 12, 9, 11, 17, 20, 16, 19, 18, 24, 28, 37, 43, 36, 35, 34, 33, 32, 42, 41, 40, 39, 38], [45, 31, 44, 30, 29, 27, 26, 25, 23, 22, 15, 21, 14, 8, 13, 7, 3, 6, 2, 1, 0, 5, 4, 10, 12, 9, 11, 17, 20, 16, 19, 18, 24, 28, 37, 43, 36, 35, 34, 33, 32, 42, 41, 40, 39, 38], [46, 45, 31, 44, 30, 29, 27, 26, 25, 23, 22, 15, 21, 14, 8, 13, 7, 3, 6, 2, 1, 0, 5, 4, 10, 12, 9, 11, 17, 20, 16, 19, 18, 24, 28, 37, 43, 36, 35, 34, 33, 32, 42, 41, 40, 39, 38], [46, 47, 45, 31, 44, 30, 29, 27, 26, 25, 23, 22, 15, 21, 14, 8, 13, 7, 3, 6, 2, 1, 0, 5, 4, 10, 12, 9, 11, 17, 20, 16, 19, 18, 24, 28, 37, 43, 36, 35, 34, 33, 32, 42, 41, 40, 39, 38], [48, 47, 0, 1, 2, 3, 4, 5, 6, 7, 8, 9, 10, 11, 12, 13, 14, 15, 16, 17, 18, 19, 20, 21, 22, 23, 24, 25, 26, 27, 28, 29, 30, 31, 32, 33, 34, 35, 36, 37, 38, 39, 40, 41, 42, 43, 44, 45, 46]]
def gfewer_c : AC := (.seq (.reg gfewer_r0) (.seq (.seq (.reg gfewer_r1) (.cond (.t 16) (.seq (.reg gfewer_r2) .ret) .skip)) (.seq (.reg gfewer_r3) (.seq (.reg gfewer_r4) (.seq (.seq (.reg gfewer_r5) (.block 0 (.loop gfewer_l0))) (.seq (.reg gfewer_r13) (.seq (.reg gfewer_r14) (.seq (.regd gfewer_r15 gfewer_p15) (.seq (.regd gfewer_r16 gfewer_p16) .ret)))))))))
def gfewer_res : List ARes := [(.tmp 4)]
set_option maxRecDepth 100000 in
theorem gfewer_get : getF Tryz.prog 5 300000 [(57, 67), (63, 67)] = some ("gavotte/gavottetop.TopFewer", 126, gfewer_c, gfewer_res) := by kernel_rfl
attribute [simp] gfound_r0 gfound_r1 gfound_r2 gfound_r3 gfound_r4 gfound_r5 gfound_r6 gfound_res ground_r0 ground_r1 ground_res gfewer_r0 gfewer_r1 gfewer_r2 gfewer_r3 gfewer_r4 gfewer_r5 gfewer_r6 gfewer_r7 gfewer_r8 gfewer_r9 gfewer_r10 gfewer_r11 gfewer_r12 gfewer_r13 gfewer_r14 gfewer_r15 gfewer_p15 gfewer_r16 gfewer_p16 gfewer_res
open Go.RowKit
theorem ground_pc (k n : Int) (hn : 0 < n /\ n <= 1000) : PC Tryz.prog 11 [iv k, iv n] (iv ((k.tmod n + n).tmod n)) := by
 refine pc_of_get ground_get (by simp) _ (by simp) _ ?_
 unfold ground_c
 have a1 := Int.tmod_lt_of_pos k hn.1
 have a2 := Int.lt_tmod_of_pos k hn.1
 have h1 : IntKind.i64.wrap (k.tmod n + n) = k.tmod n + n := wrap_in _ (by omega) (by omega)
 have h2 : n ≠ 0 := by omega
 simp [h1, h2]
theorem ground_cases (k n : Int) (hn : 0 < n) : ∃ j : Nat, (j : Int) < n /\ (k.tmod n + n).tmod n = (j : Int) := by
 have a1 := Int.tmod_lt_of_pos k hn
 have a2 := Int.lt_tmod_of_pos k hn
 rw [Int.tmod_eq_emod_of_nonneg (by omega)]
 have b1 := Int.emod_nonneg (k.tmod n + n) (show n ≠ 0 by omega)
 have b2 := Int.emod_lt_of_pos (k.tmod n + n) hn
 exact ⟨((k.tmod n + n) % n).toNat, by omega, by omega⟩
theorem gfound_pc (a b c d e f : Int) (fs : List Fnd) (hl : fs.length <= 1000) (i : Int) : PC Tryz.prog 10 [.agg [iv a, iv b, iv c, iv d, iv e, iv f, .lst 2 (fs.map Fnd.av)], iv i] (.bool (fs.any fun x => decide (x.watch = i))) := by
 refine pc_of_get gfound_get (by simp) _ (by simp) _ ?_
 unfold gfound_c
 simp
 refine loopN (fun j S' => S'.t 1 = iv i /\ S'.t 5 = iv j /\ (∃ s, S'.t 2 = .ptr 301002 s 7 0 0 /\ S'.blk 301002 = some ⟨s, 7, [.agg [iv a, iv b, iv c, iv d, iv e, iv f, .lst 2 (fs.map Fnd.av)]]⟩) /\ ∀ x ∈ fs.take j, decide (x.watch = i) = false) fs.length ?_ ?_
 . simp
 . rintro j S' hj ⟨g1, g5, ⟨s, g2, b2⟩, gp⟩
   by_cases hlt : j < fs.length
   . have hw := wrap_succ j _ hlt (by omega)
     have hc : ∀ x : Fnd, x.av.cells = [iv x.watch, evts x.path] := fun _ => rfl
     by_cases hp : fs[j].watch = i
     . simp [gfound_l0, g1, g5, g2, b2, hlt, hc, hp]
       exact ⟨fs[j], List.getElem_mem hlt, hp⟩
     . simp [gfound_l0, g1, g5, g2, b2, hlt, hc, hp, hw]
       intro x hx
       rw [List.take_succ_eq_append_getElem hlt] at hx
       rcases List.mem_append.1 hx with q | q
       . simpa using gp x q
       . rw [List.mem_singleton.1 q]; exact hp
   . have e1 : j = fs.length := by omega
     subst e1
     rw [List.take_length] at gp
     simp [gfound_l0, g1, g5, g2, b2]
     intro x hx
     simpa using gp x hx
theorem fewAll (n : Nat) (h1 : 1 <= n) (h5 : n <= 5) (k : Nat) (hk : k < 2 ^ n) : fewB n (k : Int) = true := by
 have h : n = 1 \/ n = 2 \/ n = 3 \/ n = 4 \/ n = 5 := by omega
 rcases h with rfl | rfl | rfl | rfl | rfl
 . exact few1 ⟨k, hk⟩
 . exact few2 ⟨k, hk⟩
 . exact few3 ⟨k, hk⟩
 . exact few4 ⟨k, hk⟩
 . have hk' : k < 32 := hk
   by_cases q1 : k < 8
   . exact few5a ⟨k, q1⟩
   by_cases q2 : k < 16
   . have := few5b ⟨k - 8, by omega⟩
     have e : (((k - 8 : Nat) : Int) + 8) = (k : Int) := by omega
     simp only [e] at this
     exact this
   by_cases q3 : k < 24
   . have := few5c ⟨k - 16, by omega⟩
     have e : (((k - 16 : Nat) : Int) + 16) = (k : Int) := by omega
     simp only [e] at this
     exact this
   . have := few5d ⟨k - 24, by omega⟩
     have e : (((k - 24 : Nat) : Int) + 24) = (k : Int) := by omega
     simp only [e] at this
     exact this
theorem bitV_le (k : Int) (i : Nat) : bitV k i <= 9223372036854775807 := by
 unfold bitV bitAnd
 rw [IntKind.wrap_i64]
 omega
theorem fWat_im (k : Int) : ∀ (n : Nat), n <= 5 -> ∀ x ∈ fWat k n, x.a <= 9223372036854775807
 | 0, _, x, h => by simp [fWat] at h
 | n + 1, hn, x, h => by
   unfold fWat at h
   simp only [List.mem_append] at h
   rcases h with (h | h) | h
   . exact fWat_im k n (by omega) x h
   . simp at h
     rcases h with rfl | rfl | rfl
     . simp; omega
     . exact bitV_le k n
     . simp
   . split at h
     . simp at h; subst h; simp
     . simp at h
theorem fcok (n : Nat) (h1 : 1 <= n) (h5 : n <= 5) (k : Int) (hw : wcheckV (fC n k).p (fC n k).l = 0) (hf : flowV (fC n k).p = 0) : COk (fC n k) where
 wc := hw
 fl := hf
 bu := by show budOk ⟨0, 0, 0, 0⟩ = true; decide
 li := by show limOk 6 1000 = true; decide
 im := by
   intro x hx i hi
   have hx' : x = fWat k n ++ [⟨19, 0⟩] := List.mem_singleton.1 hx
   subst hx'
   rcases List.mem_append.1 hi with q | q
   . exact fWat_im k n h5 i q
   . rw [List.mem_singleton.1 q]; decide
 aa := by
   show (List.replicate n _).length <= 1000
   rw [List.length_replicate]; omega
 rg := by
   intro a ha
   rw [List.eq_of_mem_replicate ha]
   decide
 bo := by
   show ((List.range n).map _).length <= 900
   rw [List.length_map, List.length_range]; omega
 ba := by
   intro x hx
   obtain ⟨i, _, rfl⟩ := List.mem_map.1 hx
   simp
def bootA (i : Nat) : List AV := (List.range i).map fun (j : Nat) => .agg [iv j, iv 0, .nils]
def actA (i : Nat) : List AV := (fActs i).map Actr.av
theorem bootA_succ (i : Nat) : bootA (i + 1) = bootA i ++ [.agg [iv i, iv 0, .nils]] := by simp [bootA, List.range_succ]
theorem actA_succ (i : Nat) : actA (i + 1) = actA i ++ [.agg [.lst 1 [iv 0], iv 1, iv (-1), .bool false]] := by
 unfold actA fActs
 rw [List.replicate_succ', List.map_append]
 rfl
theorem bootA_len (i : Nat) : (bootA i).length = i := by simp [bootA]
theorem actA_len (i : Nat) : (actA i).length = i := by simp [actA, fActs]
theorem fWat_len (k : Int) : ∀ i, (fWat k i).length <= 4 * i
 | 0 => by simp [fWat]
 | i + 1 => by
   have := fWat_len k i
   unfold fWat
   simp only [List.length_append]
   split <;> simp <;> omega
theorem fbound (L i : Nat) (h : L <= 4 * i) (hi : i <= 5) : (L + 3) * 16 <= 140737488355328 /\ (L + 3 + 1) * 16 <= 140737488355328 /\ (L + 1) * 16 <= 140737488355328 := by omega
theorem abound (L i : Nat) (h : L = i) (hi : i <= 5) : (L + 1) * 48 <= 140737488355328 /\ (L + 1) * 40 <= 140737488355328 := by omega
theorem few_loop (n : Nat) (h1 : 1 <= n) (h5 : n <= 5) (set : Int) (k : Nat) (hk : (set.tmod (2 ^ n : Nat) + (2 ^ n : Nat)).tmod (2 ^ n : Nat) = (k : Int)) (h0 : AV) (hh1 : h0.one = true) (hh2 : h0.cells = [h0]) {S : St} {κ : Ex -> St -> Prop} {u : Dep κ}
   (g0 : S.t 0 = iv n) (g1 : S.t 1 = iv set) (g7 : S.t 7 = iv 0) (g5 : ∃ s5, S.t 5 = .ptr 300005 s5 4 0 0 /\ S.blk 300005 = some ⟨s5, 4, [.agg [h0, .nils, .nils, iv 9]]⟩) (g6 : S.t 6 = .nils)
   (hκ : ∀ S' s5 a b v, S'.t 0 = iv n -> S'.t 1 = iv set -> S'.t 5 = .ptr 300005 s5 4 0 0 -> S'.blk 300005 = some ⟨s5, 4, [.agg [h0, a, b, iv 9]]⟩ -> AccIs S' a 300034 4 56 (actA n) -> AccIs S' b 300041 3 58 (bootA n) -> S'.t 6 = v -> AccIs S' v 300067 2 49 ((fWat k n).map Ins.av) -> κ (.exit 0) S') : LoopG Tryz.prog gfewer_l0 κ S u := by
 have hr := ground_pc set (2 ^ n : Nat) ⟨by have : 0 < 2 ^ n := Nat.pow_pos (by decide); omega, by have : 2 ^ n <= 2 ^ 5 := Nat.pow_le_pow_right (by decide) h5; omega⟩
 rw [hk] at hr
 have hsh : shiftI true IntKind.i64 1 (n : Int) = ((2 ^ n : Nat) : Int) := by
   have h : n = 1 \/ n = 2 \/ n = 3 \/ n = 4 \/ n = 5 := by omega
   rcases h with rfl | rfl | rfl | rfl | rfl <;> decide
 clear hk
 generalize 2 ^ n = m at hr hsh
 refine loopN (fun i S' => S'.t 0 = iv n /\ S'.t 1 = iv set /\ S'.t 7 = iv i /\ ∃ s5 a b v, S'.t 5 = .ptr 300005 s5 4 0 0 /\ S'.blk 300005 = some ⟨s5, 4, [.agg [h0, a, b, iv 9]]⟩ /\ S'.t 6 = v /\ ((i = 0 /\ a = .nils /\ b = .nils /\ v = .nils) \/ 0 < i /\ ∃ sa sb sw, a = .acc 300034 sa 4 (actA i) /\ S'.tok 300034 = some ⟨sa, 4, 56⟩ /\ b = .acc 300041 sb 3 (bootA i) /\ S'.tok 300041 = some ⟨sb, 3, 58⟩ /\ v = .acc 300067 sw 2 ((fWat k i).map Ins.av) /\ S'.tok 300067 = some ⟨sw, 2, 49⟩)) n ?_ ?_
 . obtain ⟨s5, e1, e2⟩ := g5
   exact ⟨g0, g1, g7, s5, .nils, .nils, .nils, e1, e2, g6, .inl ⟨rfl, rfl, rfl, rfl⟩⟩
 . rintro i S' hi ⟨g0, g1, g7, s5, a, b, v, g5, b5, g6, hc⟩
   by_cases hlt : i < n
   . have hw := wrap_succ i n hlt (by omega)
     have hw16 : IntKind.i64.wrap (16 * (i : Int)) = 16 * (i : Int) := wrap_in _ (by omega) (by omega)
     have hni : ¬ (i : Int) < 0 := by omega
     have hnn : ¬ (n : Int) < 0 := by omega
     have hi5 : i <= 5 := by omega
     have hba := (abound _ i (actA_len i) hi5).1
     have hbb := (abound _ i (bootA_len i) hi5).2
     obtain ⟨hbw, hbw2, _⟩ := fbound ((fWat k i).map Ins.av).length i (by rw [List.length_map]; exact fWat_len k i) hi5
     rcases hc with ⟨rfl, rfl, rfl, rfl⟩ | ⟨hpos, sa, sb, sw, rfl, ta, rfl, tb, rfl, tw⟩
     . simp [gfewer_l0, g0, g1, g7, g5, b5, g6, hlt, hh1, hh2, hsh, hnn]
       refine call hr (by simp) ?_
       simp [g0, g1, g7, g5, b5, g6, hw]
       exact ⟨by decide, _, _, ⟨rfl, rfl⟩, _, rfl, rfl, _, rfl, rfl, rfl⟩
     . have ew : (fWat k (i + 1)).map Ins.av = (fWat k i).map Ins.av ++ [.agg [iv 31, iv (16 * (i : Int))], .agg [iv 1, iv (bitV k i)], .agg [iv 15, iv 0]] ++ [.agg [iv 17, iv 0]] := by
         rw [fWat, if_pos hpos, List.map_append, List.map_append]
         rfl
       obtain ⟨ys, hys⟩ : ∃ ys, ys = (fWat k i).map Ins.av := ⟨_, rfl⟩
       obtain ⟨qa, hqa⟩ : ∃ qa, qa = actA i := ⟨_, rfl⟩
       obtain ⟨qb, hqb⟩ : ∃ qb, qb = bootA i := ⟨_, rfl⟩
       rw [<- hqa] at hba
       rw [<- hqb] at hbb
       rw [<- hys] at hbw hbw2 ew
       simp [gfewer_l0, g0, g1, g7, g5, b5, g6, hlt, hh1, hh2, <- hys, <- hqa, <- hqb, hba, hbb, ta, tb, hw16, hsh, hnn]
       refine call hr (by simp) ?_
       simp [g0, g1, g7, g5, b5, g6, hw, hni, hbw, hbw2, tw, hpos]
       exact ⟨_, _, ⟨rfl, rfl⟩, _, by rw [actA_succ, hqa], rfl, _, by rw [bootA_succ, hqb], rfl, by rw [ew]; simp [bitV]⟩
   . have e1 : i = n := by omega
     subst e1
     simp [gfewer_l0, g0, g7]
     rcases hc with ⟨rfl, _⟩ | ⟨hpos, sa, sb, sw, rfl, ta, rfl, tb, rfl, tw⟩
     . omega
     . exact hκ _ s5 _ _ _ (by simp [g0]) (by simp [g1]) (by simp [g5]) (by simp [b5]) (.inr ⟨sa, rfl, ta⟩) (.inr ⟨sb, rfl, tb⟩) (by simp [g6]) (.inr ⟨sw, rfl, tw⟩)
theorem coL_map {α : Type} {R : AV -> AV -> Prop} (f g : α -> AV) (h : ∀ x, R (f x) (g x)) : ∀ l : List α, coL R (l.map f) (l.map g)
 | [] => trivial
 | x :: l => ⟨h x, coL_map f g h l⟩
theorem few_co (N : Nat) (k : Int) (s0 sa sb z : Nat) : coL (elemR (dco (fun _ => none) 3))
   [.agg [.acc 300022 s0 2 [.agg [.int .i64 0, .lst 2 [.agg [.int .i64 1, .int .i64 1], .agg [.int .i64 6, .int .i64 0]]]], .acc 300034 sa 4 (actA N), .acc 300041 sb 3 (bootA N), iv 9,
     .acc 300070 z 1 [.lst 2 ((fWat k N).map Ins.av ++ [.agg [.int .i64 19, .int .i64 0]])], .int .i64 0, .int .i64 0, .int .i64 0, .int .i64 0, .int .i64 6, .int .i64 1000]] [(fC N k).av] := by
 have hb : coL (elemR (dco (fun _ => none) 2)) (bootA N) ((fBoot N).map Nt.av) := by
   unfold bootA fBoot
   rw [List.map_map]
   refine coL_map _ _ (fun j => ?_) _
   simp [elemR, coL, dco, Nt.av, ints]
 have hw : (fWat k N).map Ins.av ++ [.agg [.int .i64 19, .int .i64 0]] = (fWat k N ++ ([⟨19, 0⟩] : List Ins)).map Ins.av := by rw [List.map_append]; rfl
 rw [hw]
 refine ⟨⟨⟨rfl, .inl rfl⟩, ⟨rfl, .inl rfl⟩, ⟨rfl, .inr hb⟩, ?_⟩, trivial⟩
 refine ⟨?_, ⟨rfl, .inl rfl⟩, ?_⟩
 . simp [dco, iv, fC, fP]
 . simp [dco, fC, coL]
set_option maxHeartbeats 1000000 in
theorem few_pc (n set : Int) : PC Tryz.prog 5 [iv n, iv set] (.bool true) := by
 refine pc_of_get gfewer_get (by simp) _ (by simp) _ ?_
 unfold gfewer_c
 by_cases h1 : n < 1
 . simp [h1]
   refine call awake_pc (by simp) ?_
   simp
 by_cases h5 : n > 5
 . simp [h1, h5]
   refine call awake_pc (by simp) ?_
   simp
 obtain ⟨N, rfl⟩ : ∃ N : Nat, n = (N : Int) := ⟨n.toNat, by omega⟩
 have q1 : 1 <= N := by omega
 have q5 : N <= 5 := by omega
 obtain ⟨k, hk1, hk2⟩ := ground_cases set (2 ^ N : Nat) (by have : 0 < 2 ^ N := Nat.pow_pos (by decide); omega)
 have hall := fewAll N q1 q5 k (by omega)
 simp only [fewB, Bool.and_eq_true, decide_eq_true_eq] at hall
 obtain ⟨⟨⟨⟨⟨⟨⟨⟨c1, c2⟩, c3⟩, c4⟩, c5⟩, c6⟩, c7⟩, c8⟩, c9⟩ := hall
 have hcok := fcok N q1 q5 k c1 c2
 have htree : treeB (fC N k) (fC N k).depth.toNat (startV (fC N k).p) = true := treeB_lift (fun x hx => by rw [List.mem_singleton.1 hx]; exact fst N q1 q5 k) 6 _ (ftree N q1 q5)
 have hsok := sok put_all (fC N k) (by show (1 : Nat) <= 1000; decide) (by show (6 : Int) <= 64; decide)
 have ht := task_pc put_all (fC N k) hcok _ _ hsok htree
 have hn := cnaive_pc put_all (fC N k) hcok _ hsok.toVOk htree
 have hlS : (exploreS (fC N k)).found.length <= 1 := (visitS_fok (c := fC N k) _ sr0 _ [] ⟨by simp [sr0], by simp [sr0]⟩).len
 have hlN : (exploreN (fC N k)).found.length <= 1 := (visitN_fok (c := fC N k) _ sr0 _ ⟨by simp [sr0], by simp [sr0]⟩).len
 have hsh1 : shiftI true IntKind.i64 1 (N : Int) = (2 : Int) ^ N := by
   have h : N = 1 \/ N = 2 \/ N = 3 \/ N = 4 \/ N = 5 := by omega
   rcases h with rfl | rfl | rfl | rfl | rfl <;> decide
 have hsh2 : shiftI true IntKind.i64 1 ((N : Int) - 1) = (2 : Int) ^ (N - 1) := by
   have h : N = 1 \/ N = 2 \/ N = 3 \/ N = 4 \/ N = 5 := by omega
   rcases h with rfl | rfl | rfl | rfl | rfl <;> decide
 have hwn : IntKind.i64.wrap ((N : Int) - 1) = (N : Int) - 1 := wrap_in _ (by omega) (by omega)
 have hn0 : ¬ (N : Int) < 0 := by omega
 have hn1 : ¬ (N : Int) - 1 < 0 := by omega
 generalize exploreS (fC N k) = R at ht c3 c5 c6 c7 c9 hlS
 generalize exploreN (fC N k) = Q at hn c4 c8 c9 hlN
 obtain ⟨rruns, rworlds, rfound, rpath, rended, rcut, rslept⟩ := R
 obtain ⟨qruns, qworlds, qfound, qpath, qended, qcut, qslept⟩ := Q
 simp only at c3 c4 c5 c6 c7 c8 c9 hlS hlN
 have e3 : rended = false := by simpa using c3
 have e4 : qended = false := by simpa using c4
 subst e3 e4
 match rfound, qfound, c9 with
 | rf :: rfs, qf :: qfs, c9 =>
 simp at c9
 simp [h1, h5]
 refine few_loop N q1 q5 set k hk2 _ rfl rfl (by simp) (by simp) (by simp) ⟨_, by simp; rfl, by simp; rfl⟩ (by simp) (fun S1 s5 a b v e0 e1 e5 eb hA hB e6 hV => ?_)
 rcases hA with ⟨_, q⟩ | ⟨sa, rfl, ta⟩
 . have := actA_len N; rw [q] at this; simp at this; omega
 rcases hB with ⟨_, q⟩ | ⟨sb, rfl, tb⟩
 . have := bootA_len N; rw [q] at this; simp at this; omega
 rcases hV with ⟨_, q⟩ | ⟨sw, rfl, tw⟩
 . exfalso
   have : N ≠ 0 := by omega
   obtain ⟨M, rfl⟩ : ∃ M, N = M + 1 := ⟨N - 1, by omega⟩
   simp [fWat] at q
 obtain ⟨_, _, hbw⟩ := fbound ((fWat k N).map Ins.av).length N (by rw [List.length_map]; exact fWat_len k N) q5
 obtain ⟨ys, hys⟩ : ∃ ys, ys = (fWat k N).map Ins.av := ⟨_, rfl⟩
 rw [<- hys] at hbw e6
 simp [e0, e1, e5, eb, e6, tw, hbw]
 subst hys
 refine calldC ht 3 (few_co N k _ sa sb _) ?_
 simp
 refine calldC hn 3 (few_co N k _ sa sb _) ?_
 simp [Sr.rep, e0, e1, hsh1, hsh2, hwn, hn0, hn1, c5, c6]
 have hf1 := gfound_pc 3 0 (2 ^ (N - 1)) (2 ^ N) rslept rcut (rf :: rfs) (by omega) 0
 have hf2 := gfound_pc 3 0 qruns qworlds 0 0 (qf :: qfs) (by omega) 0
 rw [c7] at hf1
 rw [c8] at hf2
 refine calld hf1 (by simp) ?_
 simp
 refine calld hf2 (by simp) ?_
 simp [Fnd.av, evts, c9]
 refine calld awake_pc (by simp) ?_
 simp
end Go.Gv
