/- Texts of this proof, one behind the other. What is proved, and on which conditions, stands ahead of each. -/
import Derived.Test.YthidhohdcjojhaaGreatDoorProg
import Derived.Test.YthidhohdcjojhaaGreatDoorM363e2fac
import Derived.Test.YthidhohdcjojhaaGreatDoorM357da7d3
import Derived.Test.YthidhohdcjojhaaGreatDoorM29e5cb9b
import Derived.Test.YthidhohdcjojhaaGreatDoorM34f8c058
import Derived.Test.YthidhohdcjojhaaGreatDoorM31b5864d
import Derived.Test.YthidhohdcjojhaaGreatDoorM170220fe
import Derived.Test.YthidhohdcjojhaaGreatDoorM33f26075

set_option linter.unusedVariables false
set_option linter.unusedSimpArgs false
namespace Go.Gv
open Go.Proofs
def svalues_c : AC := (.seq (.reg [oA 1 (.box 287001 1 (.t 0)), oA 2 (.mv (.c .nilf))]) (.seq (.reg [oA 3 (.mkf 76 [(.t 1)]), oM 2 3]) .ret))
set_option maxRecDepth 100000 in
theorem svalues_get : getF Tryz.prog 44 287000 [] = some ("slices.Values[[]int,int]", 4, svalues_c, [(.tmp 2)]) := by kernel_rfl
def scollect_c : AC := (.seq (.reg [oA 2 (.mv (.c .nils))]) (.seq (.reg [oM 3 0, oC 4 (.c (.fn 105 [])) [(.c .nils), (.t 3)], oM 2 4]) .ret))
set_option maxRecDepth 100000 in
theorem scollect_get : getF Tryz.prog 74 288000 [] = some ("slices.Collect[int]", 5, scollect_c, [(.tmp 2)]) := by kernel_rfl
def ssorted_c : AC := (.seq (.reg [oA 2 (.mv (.c .nils))]) (.seq (.reg [oM 4 0, oC 5 (.c (.fn 74 [])) [(.t 4)], oM 3 5]) (.seq (.reg [oM 6 3, oC 7 (.c (.fn 75 [])) [(.t 6)]]) (.seq (.reg [oM 8 3, oM 2 8]) .ret))))
set_option maxRecDepth 100000 in
theorem ssorted_get : getF Tryz.prog 43 289000 [] = some ("slices.Sorted[int]", 9, ssorted_c, [(.tmp 2)]) := by kernel_rfl
open Go.RowKit
theorem HConc.takeRow {E : Env} {B : Nat} {h : Hp} {w w' : World} (H : HConc E B h w) (hB : B <= w.heap.size) (hbel : Below w.heap.size w w') (nm st sz g : Nat) (hg : w.heap.size <= g) (hs0 : sz ≠ 0) (hst : ¬ E.u st) (es : List AV) (cur : Array Value) (e : TypeId) (hgh : w'.heap[g]? = some (.cells cur e (0, 0)))
   (hel : ∀ x ∈ es, ElemOk sz x) (c : Nat) (hcl : es.length <= c) (hsz : c * sz <= cur.size)
   (hr : ∀ (i : Nat) (x : AV), es[i]? = some x -> ∀ (j : Nat) (y : AV), x.cells[j]? = some y -> ∃ u, cur[i * sz + j]? = some u /\ Rel E y u) :
   HConc (E.withM st (g, 0) c) B (h.setB nm (some ⟨st, sz, es⟩)) w' := by
 have hE := Env.le_withM hst (g, 0) c
 have h1 := H.grow (w' := w') (fun k hk => hbel.block k hk)
 have h2 := h1.env hE h1.K (fun n b x j => (h1.bk n b x).noK j) (fun _ _ _ _ _ _ => rfl)
 have em : (E.withM st (g, 0) c).m st = (g, 0) := upd_same _ _ _
 have ec : (E.withM st (g, 0) c).cp st = c := upd_same _ _ _
 refine (h2.dropB nm).putB ⟨st, sz, es⟩ (.inl rfl) (.row hs0 ⟨?_, hel, by rw [ec]; exact hcl, ?_, ?_⟩) ?_ ?_
 . rw [em]; exact Nat.le_trans hB hg
 . rw [em, ec]
   refine ⟨cur, e, hgh, by simpa using hsz, fun i x hx j y hy => ?_⟩
   obtain ⟨u, hu, hrel⟩ := hr i x hx j y hy
   exact ⟨u, by simpa using hu, hrel.mono hE⟩
 . rw [em]; exact fun j => K_none H hg j
 . intro n b' hn hb'
   rw [hE.m _ (H.bu n b' hb'), em]
   exact fun q => by have := (H.bk n b' hb').lt; rw [q] at this; exact Nat.lt_irrefl _ (Nat.lt_of_lt_of_le this hg)
 . intro n t ht q
   rw [hE.hd _ (H.tu n t ht), em] at q
   exact Nat.lt_irrefl _ (Nat.lt_of_lt_of_le ((H.tk n t ht).lt q).2 hg)
theorem ints_cells {E : Env} {xs : List Int} {v : Value} (h : Rel E (ints xs) v) (hx : xs ≠ []) : ∃ b o cap, v = .slice (some ⟨b, o, none⟩) xs.length cap /\ xs.length <= cap /\ ∀ (j : Nat), j < xs.length -> E.K b (o + j) = some (.int .i64 (xs[j]?.getD 0)) := by
 unfold ints at h
 generalize hy : xs.map iv = ys at h
 cases h with
 | lst0 _ a cap => simp at hy; exact absurd hy hx
 | lst _ b o _ cap f hcap hsz hk h1 hr =>
   subst hy
   refine ⟨b, o, cap, by simp, by simpa using hcap, fun j hj => ?_⟩
   have e1 := hk j 0 (by simpa using hj) (by decide)
   have e2 := hr j (iv xs[j]) (by simp [hj]) 0 _ rfl
   have e3 := rel_int e2
   rw [e3] at e1
   have : o + j * 1 + 0 = o + j := by omega
   rw [this] at e1
   simpa [hj] using e1
theorem appseq_v (nmB stB : Nat) (x : AV) (zs : List Int) (hz : zs ≠ []) (hl : zs.length <= 1000) (hx1 : x.one = true) (hx : ∀ (E : Env) (v : Value), Rel E x v -> Rel E (ints zs) v) {S : St} {k : AV -> St -> Prop} {u : Dep k} (hb : S.blk nmB = some ⟨stB, 1, [x]⟩) (hxc : x.cells = [x])
   (hk : ∀ S' v, S'.t = S.t -> S'.tok = S.tok -> S.clk <= S'.clk -> (∀ n, n ≠ 290001 -> S'.blk n = S.blk n) -> MutIs S' 290001 1 v (zs.map iv) -> k v S') :
   CallG Tryz.prog (.fn 105 []) [.nils, .fn 76 [.ptr nmB stB 1 0 0]] S k u := by
 refine ⟨105, [], rfl, entersF 105 _ Tryz.func105 (by kernel_rfl) (by kernel_rfl), fun E B W w args H hW hG hu hsz hrel => ?_⟩
 have hB' : B <= w.heap.size := Nat.le_trans hG.le hW.size
 obtain ⟨v0, v1, rfl⟩ := args2 (by simpa using hsz)
 obtain rfl := (hrel 0 _ v0 rfl rfl).nils_inv
 have r1 := hrel 1 _ v1 rfl rfl
 have hb' : S.h.blk nmB = some ⟨stB, 1, [x]⟩ := hb
 have hbk := H.bk nmB _ hb'
 have hlt := hbk.lt
 obtain ⟨cur, ty, hh, hszr, hr⟩ := (hbk.r (by simp)).row
 obtain ⟨u0, hu1, hu2⟩ := hr 0 x rfl 0 x (by rw [hxc]; rfl)
 simp only [Nat.zero_mul, Nat.add_zero] at hu1 hh hlt
 obtain ⟨b, o, cap, rfl, hcap, hcs⟩ := ints_cells (hx E u0 hu2) hz
 obtain rfl : v1 = .func (.func 76) #[] #[.pointer (some ⟨(E.m stB).1, (E.m stB).2, none⟩)] := by
   cases r1 with
   | fn _ _ vs hs hr =>
     obtain ⟨q, rfl⟩ := args1 (args := vs) (by simpa using hs.symm)
     have := rel_ptr (hr 0 _ q rfl rfl)
     rw [this.1]
     simp
 have hbx : w.cell? ⟨(E.m stB).1, (E.m stB).2, none⟩ = some (.slice (some ⟨b, o, none⟩) zs.length cap) := by
   rw [cell_row hh]; exact hu1
 have hcw : ∀ j, j < zs.length -> w.cell? ⟨b, o + j, none⟩ = some (.int .i64 (zs[j]?.getD 0)) := fun j hj => H.K _ _ _ (hcs j hj)
 have hbl : b < w.heap.size := by
   have h0 : 0 < zs.length := Nat.pos_of_ne_zero fun q => hz (List.length_eq_zero_iff.1 q)
   exact World.block_lt_of_cell? w _ (hcw 0 h0)
 have hcon := (appSeq_in (E.m stB).1 (E.m stB).2 b o cap zs hl w hlt hbl hbx hcw).calls (fun k => room_wide k)
 refine hcon.mono ?_
 rintro e w' ⟨v, rfl, hrow, hnil, hbel⟩
 rcases hrow.2 with ⟨rfl, hq⟩ | ⟨g, cap2, cur2, rfl, hg1, hg2, hg3, hg4, hg5, hg6⟩
 . exact absurd (List.length_eq_zero_iff.1 hq) hz
 have hst : ¬ E.u S.clk := fun q => by have := hu _ q; omega
 have H2 := H.takeRow hB' hbel 290001 S.clk 1 g hg1 (by simp) hst (zs.map iv) cur2 _ hg2 (by
     intro y hy
     obtain ⟨z, _, rfl⟩ := List.mem_map.1 hy
     exact ⟨rfl, by simp [AV.cells, AV.one]⟩) cap2 (by simpa using hg3) (by rw [hg5]; exact Nat.le_refl _) (by
     intro i y hy j z hz'
     rw [List.getElem?_map, Option.map_eq_some_iff] at hy
     obtain ⟨q, hq, rfl⟩ := hy
     match j, hz' with
     | 0, hz' =>
       cases hz'
       refine ⟨.int .i64 q, ?_, .int _ _⟩
       have hil := (List.getElem?_eq_some_iff.1 hq).1
       have : (cur2.toList.take (zs.length * 1))[i]? = some (.int .i64 q) := by rw [hg6, List.getElem?_map, hq]; rfl
       rw [List.getElem?_take, if_pos (by omega)] at this
       simpa using this
     | j + 1, hz' => simp [AV.cells] at hz')
 refine ⟨_, _, .sl 290001 S.clk 1 0 zs.length, ⟨S.t, upd S.blk 290001 (some ⟨S.clk, 1, zs.map iv⟩), S.tok, S.clk + 1⟩, rfl, Env.le_withM hst (g, 0) cap2, H2, hW.trans (hbel.mono hB'), fun _ _ _ => rfl, fun s hs => ?_, Nat.le_succ _, rfl, ?_, ?_⟩
 . rcases hs with q | q
   . subst q; exact ⟨.inr (Nat.le_refl _), Nat.lt_succ_self _⟩
   . exact ⟨.inl q, Nat.lt_succ_of_lt (hu s q)⟩
 . have em : (E.withM S.clk (g, 0) cap2).m S.clk = (g, 0) := upd_same _ _ _
   have ec : (E.withM S.clk (g, 0) cap2).cp S.clk = cap2 := upd_same _ _ _
   exact .sl 290001 S.clk 1 0 zs.length cap2 _ (.inl rfl) hg3 (by rw [ec]; omega) (fun _ => by rw [em])
 . exact hk _ _ rfl rfl (Nat.le_succ _) (fun n hn => by simp [hn]) (.inr ⟨S.clk, by simp, by simp⟩)
theorem values_v (x : AV) (hx1 : x.one = true) (hxc : x.cells = [x]) {S : St} {k : AV -> St -> Prop} {u : Dep k}
   (hk : ∀ S' st, S'.t = S.t -> S'.tok = S.tok -> S.clk <= S'.clk -> (∀ n, n ≠ 287001 -> S'.blk n = S.blk n) -> S'.blk 287001 = some ⟨st, 1, [x]⟩ -> k (.fn 76 [.ptr 287001 st 1 0 0]) S') :
   CallG Tryz.prog (.fn 44 []) [x] S k u := by
 refine callV svalues_get (by simp) (by simp) ?_
 unfold svalues_c
 simp [hx1, hxc]
 exact hk _ _ rfl rfl (by simp only []; omega) (fun n hn => by simp [hn]) (by simp)
theorem sorted_v (nmB stB : Nat) (hnm : nmB ≠ 290001) (x : AV) (zs : List Int) (hz : zs ≠ []) (hl : zs.length <= 1000) (hx1 : x.one = true) (hx : ∀ (E : Env) (v : Value), Rel E x v -> Rel E (ints zs) v) {S : St} {k : AV -> St -> Prop} {u : Dep k} (hb : S.blk nmB = some ⟨stB, 1, [x]⟩) (hxc : x.cells = [x])
   (hk : ∀ S' v, S'.t = S.t -> S'.tok = S.tok -> S.clk <= S'.clk -> (∀ n, n ≠ 290001 -> S'.blk n = S.blk n) -> MutIs S' 290001 1 v ((zs.mergeSort fun x y => decide (x <= y)).map iv) -> k v S') :
   CallG Tryz.prog (.fn 43 []) [.fn 76 [.ptr nmB stB 1 0 0]] S k u := by
 refine callV ssorted_get (by simp) (by simp) ?_
 unfold ssorted_c
 simp
 refine callV scollect_get (by simp) (by simp) ?_
 unfold scollect_c
 simp
 refine appseq_v nmB stB x zs hz hl hx1 hx (by simpa using hb) hxc (fun S1 v q1 q2 q3 q4 q5 => ?_)
 have hzl : 0 < zs.length := Nat.pos_of_ne_zero fun q => hz (List.length_eq_zero_iff.1 q)
 rcases q5 with ⟨_, q⟩ | ⟨st, rfl, b5⟩
 . simp at q; exact absurd q hz
 simp [q1]
 refine sort_v 290001 st (zs.map iv) zs hzl (by omega) (fun j h => by simp [h]) b5 ?_
 simp
 refine hk _ _ rfl q2 (by simp at q3; simp only []; omega) (fun n hn => ?_) (.inr ⟨st, by simp, by simp⟩)
 simp [hn]
 exact q4 n hn
end Go.Gv

namespace Go.Gv
open Go.Proofs
def zreg_c : AC := (.seq (.reg [oA 2 (.new 291002 2 (.agg [(.int .i64 0), (.int .i64 0)]))]) (.seq (.reg [oM 3 0, oA 4 (.build [(.int .i64 0), (.int .i64 0)] [(0, (1, (.c (.int .i64 31)))), (1, (1, (.t 3)))]), oN (.store 2 (.t 2) (.t 4))]) .ret))
set_option maxRecDepth 100000 in
theorem zreg_get : getF Tryz.prog 49 291000 [] = some ("gavotte/models.reg", 5, zreg_c, [(.cell (some 2) 2)]) := by kernel_rfl
def zop_c : AC := (.seq (.reg [oA 2 (.new 292002 2 (.agg [(.int .i64 0), (.int .i64 0)]))]) (.seq (.reg [oM 3 0, oA 4 (.build [(.int .i64 0), (.int .i64 0)] [(0, (1, (.t 3)))]), oN (.store 2 (.t 2) (.t 4))]) .ret))
set_option maxRecDepth 100000 in
theorem zop_get : getF Tryz.prog 50 292000 [] = some ("gavotte/models.op", 5, zop_c, [(.cell (some 2) 2)]) := by kernel_rfl
def znum_c : AC := (.seq (.reg [oA 2 (.new 293002 2 (.agg [(.int .i64 0), (.int .i64 0)]))]) (.seq (.reg [oM 3 0, oA 4 (.build [(.int .i64 0), (.int .i64 0)] [(0, (1, (.c (.int .i64 1)))), (1, (1, (.t 3)))]), oN (.store 2 (.t 2) (.t 4))]) .ret))
set_option maxRecDepth 100000 in
theorem znum_get : getF Tryz.prog 52 293000 [] = some ("gavotte/models.number", 5, znum_c, [(.cell (some 2) 2)]) := by kernel_rfl
def zprog_l0 : AC := (.seq (.reg [oB 14 .lss 13 12]) (.seq (.cond (.t 14) .skip (.exit 0)) (.seq (.block 1 (.seq (.reg [oM 15 13, oM 8 15]) (.reg [oF 16 2 7, oL 17 16, oM 18 8, oA 19 (.build [(.int .i64 0), (.int .i64 0), .nils] [(0, (1, (.t 18)))]), oA 20 (.bsl 294020 3 58 1 (.agg [(.int .i64 0), (.int .i64 0), .nils]) [(0, (.t 19))]), oA 21 (.app 294021 3 58 40 (.t 17) (.t 20)), oF 22 2 7, oN (.store 1 (.t 22) (.t 21))]))) (.reg [oZ 23 .add 13 1, oM 13 23]))))
def zprog_c : AC := (.seq (.reg [oA 6 (.new 294006 4 (.agg [.nils, .nils, .nils, (.int .i64 0)]))]) (.seq (.reg [oM 9 0, oM 10 1, oA 11 (.build [.nils, .nils, .nils, (.int .i64 0)] [(0, (1, (.t 9))), (1, (1, (.t 10))), (3, (1, (.c (.int .i64 64))))]), oA 7 (.new 294007 4 (.agg [.nils, .nils, .nils, (.int .i64 0)])), oN (.store 4 (.t 7) (.t 11))]) (.seq (.seq (.reg [oM 12 2, oI 13 0]) (.block 0 (.loop zprog_l0))) (.seq (.reg [oA 24 (.load (some 4) (.t 7)), oN (.store 4 (.t 6) (.t 24))]) .ret))))
set_option maxRecDepth 100000 in
theorem zprog_get : getF Tryz.prog 51 294000 [] = some ("gavotte/models.program", 25, zprog_c, [(.cell (some 4) 6)]) := by kernel_rfl
def zring_l0 : AC := (.seq (.reg [oB 50 .lss 49 48]) (.seq (.cond (.t 50) .skip (.exit 0)) (.seq (.block 1 (.seq (.reg [oM 51 49, oA 52 (.idx 1 (.t 47) (.t 49)), oL 53 52, oM 11 51, oM 12 53]) (.seq (.reg [oM 54 9, oM 55 12, oA 56 (.bsl 295056 1 3 2 (.int .i64 0) [(0, (.t 55)), (1, (.c (.int .i64 0)))]), oA 57 (.build [.nils, (.int .i64 0), (.int .i64 0), (.bool false)] [(0, (1, (.t 56))), (1, (1, (.c (.int .i64 8)))), (2, (1, (.c (.int .i64 (-1)))))]), oA 58 (.bsl 295058 4 56 1 (.agg [.nils, (.int .i64 0), (.int .i64 0), (.bool false)]) [(0, (.t 57))]), oA 59 (.app 295059 4 56 48 (.t 54) (.t 58)), oM 9 59]) (.seq (.reg [oM 60 11, oZ 61 .gtr 60 0]) (.cond (.t 61) (.reg [oM 62 10, oM 63 11, oA 64 (.ibin .mul (.c (.int .i64 16)) (.t 63)), oZ 65 .add 64 1, oC 66 (.c (.fn 49 [])) [(.t 65)], oC 67 (.c (.fn 50 [])) [(.c (.int .i64 9))], oA 68 (.bsl 295068 2 49 2 (.agg [(.int .i64 0), (.int .i64 0)]) [(0, (.t 66)), (1, (.t 67))]), oA 69 (.app 295079 2 49 16 (.t 62) (.t 68)), oM 10 69]) .skip))))) (.reg [oZ 70 .add 49 1, oM 49 70]))))
def zring_c : AC := (.seq (.reg [oA 2 (.new 295002 4 (.agg [.nils, .nils, .nils, (.int .i64 0)])), oA 3 (.mv (.c .nils)), oI 4 0]) (.seq (.reg [oM 13 0, oK 14 13, oM 5 14]) (.seq (.reg [oM 15 0, oC 16 (.c (.fn 44 [])) [(.t 15)], oC 17 (.c (.fn 43 [])) [(.t 16)], oM 6 17]) (.seq (.seq (.reg [oM 18 5, oZ 19 .lss 18 2, oM 20 19, gM 21 20 false 5, oG 22 20 false (.ibin .gtr (.t 21) (.c (.int .i64 8))), oA 23 (.pick (.t 20) (.c (.bool true)) (.t 22)), oM 24 23, gM 25 24 false 6, ⟨(some 26), (some (24, false)), (.call (.c (.fn 45 [])) [(.t 25)])⟩, oG 27 24 false (.len (.t 26)), gM 28 24 false 5, oG 29 24 false (.ibin .neq (.t 27) (.t 28)), oA 30 (.pick (.t 24) (.c (.bool true)) (.t 29))]) (.cond (.t 30) (.seq (.reg [oC 31 (.c (.fn 46 [])) [], oE 32 31 0, oE 33 31 1, oE 34 31 2, oN (.store 4 (.t 2) (.t 32)), oM 3 33, oM 4 34]) .ret) .skip)) (.seq (.reg [oM 35 5, oA 36 (.bsl 295036 1 3 1 (.int .i64 0) [(0, (.t 35))]), oC 37 (.c (.fn 47 [])) [(.c (.str ⟨#[115, 101, 108, 102, 59, 32, 112, 117, 115, 104, 32, 49, 59, 32, 97, 100, 100, 59, 32, 112, 117, 115, 104, 32, 42, 59, 32, 109, 111, 100, 59, 32, 115, 101, 110, 100, 32, 49]⟩)), (.t 36)], oM 7 37]) (.seq (.reg [oM 38 7, oA 39 (.bsl 295039 1 9 2 (.str ⟨#[]⟩) [(0, (.c (.str ⟨#[108, 111, 97, 100, 32, 48]⟩))), (1, (.t 38))]), oC 40 (.c (.fn 48 [])) [(.c (.int .i64 0)), (.t 39)], oM 41 7, oA 42 (.bsl 295042 1 9 2 (.str ⟨#[]⟩) [(0, (.c (.str ⟨#[97, 114, 103, 32, 48, 59, 32, 108, 111, 97, 100, 32, 48, 59, 32, 101, 113, 59, 32, 122, 101, 114, 111, 32, 55, 59, 32, 112, 117, 115, 104, 32, 49, 59, 32, 115, 116, 111, 114, 101, 32, 49, 59, 32, 101, 110, 100, 59, 32, 108, 111, 97, 100, 32, 48, 59, 32, 97, 114, 103, 32, 48, 59, 32, 108, 101, 115, 115, 59, 32, 122, 101, 114, 111, 32, 49, 56, 59, 32, 97, 114, 103, 32, 48]⟩))), (1, (.t 41))]), oC 43 (.c (.fn 48 [])) [(.c (.int .i64 1)), (.t 42)], oA 44 (.bslm 1000295044 2 52 2 (.agg [(.int .i64 0), .nils]) [(0, (.t 40)), (1, (.t 43))]), oM 8 44]) (.seq (.reg [oA 9 (.mv (.c .nils))]) (.seq (.reg [oC 45 (.c (.fn 49 [])) [(.c (.int .i64 1))], oA 46 (.bsl 295079 2 49 1 (.agg [(.int .i64 0), (.int .i64 0)]) [(0, (.t 45))]), oM 10 46]) (.seq (.seq (.reg [oM 47 0, oK 48 47, oI 49 0]) (.block 0 (.loop zring_l0))) (.seq (.reg [oM 71 8, oM 72 9, oM 73 5, oC 74 (.c (.fn 51 [])) [(.t 71), (.t 72), (.t 73)], oM 75 10, oC 76 (.c (.fn 52 [])) [(.c (.int .i64 2))], oC 77 (.c (.fn 50 [])) [(.c (.int .i64 16))], oA 78 (.bsl 295078 2 49 2 (.agg [(.int .i64 0), (.int .i64 0)]) [(0, (.t 76)), (1, (.t 77))]), oA 79 (.app 295079 2 49 16 (.t 75) (.t 78)), oA 80 (.bsl 295080 1 53 1 .nils [(0, (.t 79))]), oN (.store 4 (.t 2) (.t 74)), oM 3 80, oI 4 0]) .ret))))))))))
set_option maxRecDepth 100000 in
theorem zring_get : getF Tryz.prog 24 295000 [(44, 1000000044), (46, 79), (69, 79)] = some ("gavotte/models.Ring", 81, zring_c, [(.cell (some 4) 2), (.tmp 3), (.tmp 4)]) := by kernel_rfl
def zodd_r2 : List AI := [oF 14 0 4, oL 15 14, oM 16 1, oF 17 0 4, oL 18 17, oM 19 1, oA 20 (.idx 2 (.t 18) (.t 19)), oF 21 1 20, oL 22 21, oM 23 2, oM 24 2, oM 25 9, oK 26 25, oB 27 .add 24 26, oM 28 9, oC 29 (.c (.fn 53 [])) [(.t 22), (.t 23), (.t 27), (.t 28)], oA 30 (.idx 2 (.t 15) (.t 16)), oF 31 1 30, oN (.store 1 (.t 31) (.t 29))]
def zodd_p2 : List (List Nat) := [[], [0], [], [], [3], [], [4, 5, 3], [6, 4, 5, 3], [7, 6, 4, 5, 3], [], [], [], [11], [10, 12, 11], [], [8, 9, 13, 14, 7, 6, 4, 5, 3, 10, 12, 11], [1, 2, 0, 3, 4, 5, 6, 7, 8, 9, 10, 11, 12, 13, 14, 15], [16, 0, 1, 2, 3, 4, 5, 6, 7, 8, 9, 10, 11, 12, 13, 14, 15], [17, 15, 0, 1, 2, 3, 4, 5, 6, 7, 8, 9, 10, 11, 12, 13, 14, 16]]
def zodd_c : AC := (.seq (.reg [oA 4 (.box 296004 4 (.t 0)), oA 8 (.new 296008 4 (.agg [.nils, .nils, .nils, (.int .i64 0)]))]) (.seq (.reg [oM 10 3, oA 11 (.bsl 296011 1 9 1 (.str ⟨#[]⟩) [(0, (.t 10))]), oC 12 (.c (.fn 48 [])) [(.c (.int .i64 0)), (.t 11)], oA 13 (.getf none 1 (.t 12)), oM 9 13]) (.seq (.regi zodd_r2 zodd_p2) (.seq (.reg [oA 32 (.load (some 4) (.t 4)), oN (.store 4 (.t 8) (.t 32))]) .ret))))
set_option maxRecDepth 100000 in
theorem zodd_get : getF Tryz.prog 25 296000 [(2000002, 1)] = some ("gavotte/models.odd", 33, zodd_c, [(.cell (some 4) 8)]) := by kernel_rfl
attribute [simp] zodd_r2 zodd_p2
open Go.RowKit Go.Shelf
theorem zreg_pc (n : Int) : PC Tryz.prog 49 [iv n] (.agg [iv 31, iv n]) := by
 refine pc_of_get zreg_get (by simp) _ (by simp) _ ?_
 unfold zreg_c
 simp
theorem zop_pc (n : Int) : PC Tryz.prog 50 [iv n] (.agg [iv n, iv 0]) := by
 refine pc_of_get zop_get (by simp) _ (by simp) _ ?_
 unfold zop_c
 simp
theorem znum_pc (n : Int) : PC Tryz.prog 52 [iv n] (.agg [iv 1, iv n]) := by
 refine pc_of_get znum_get (by simp) _ (by simp) _ ?_
 unfold znum_c
 simp
def boot2 : List AV := [.agg [iv 0, iv 0, .nils], .agg [iv 1, iv 0, .nils]]
theorem zprog_v (h a : AV) (h1 : h.one = true) (h2 : h.cells = [h]) (a1 : a.one = true) (a2 : a.cells = [a]) {S : St} {k : AV -> St -> Prop} {u : Dep k}
   (hk : ∀ S' st, S'.t = S.t -> S.clk <= S'.clk -> (∀ n, n ≠ 294006 -> n ≠ 294007 -> S'.blk n = S.blk n) -> (∀ n, n ≠ 294020 -> n ≠ 294021 -> S'.tok n = S.tok n) -> k (.agg [h, a, .acc 294021 st 3 boot2, iv 64]) S') :
   CallG Tryz.prog (.fn 51 []) [h, a, iv 2] S k u := by
 refine callV zprog_get (by simp) (by simp) ?_
 unfold zprog_c
 simp [h1, h2, a1, a2]
 refine loopN (fun i S' => S'.t 12 = iv 2 /\ S'.t 13 = iv i /\ (∃ s6, S'.t 6 = .ptr 294006 s6 4 0 0 /\ S'.blk 294006 = some ⟨s6, 4, [.agg [.nils, .nils, .nils, iv 0]]⟩) /\ (∃ s7 b, S'.t 7 = .ptr 294007 s7 4 0 0 /\ S'.blk 294007 = some ⟨s7, 4, [.agg [h, a, b, iv 64]]⟩ /\ ((i = 0 /\ b = .nils) \/ 0 < i /\ ∃ st, b = .acc 294021 st 3 (boot2.take i) /\ S'.tok 294021 = some ⟨st, 3, 58⟩)) /\
   S.clk <= S'.clk /\ (∀ n, n ≠ 294006 -> n ≠ 294007 -> S'.blk n = S.blk n) /\ (∀ n, n ≠ 294020 -> n ≠ 294021 -> S'.tok n = S.tok n)) 2 ?_ ?_
 . exact ⟨by simp, by simp, ⟨_, by simp; rfl, by simp⟩, ⟨_, .nils, by simp; rfl, by simp, .inl ⟨rfl, rfl⟩⟩, by simp only []; omega, fun n q1 q2 => by simp [q1, q2], fun n _ _ => rfl⟩
 . rintro i S' hi ⟨g12, g13, ⟨s6, g6, b6⟩, ⟨s7, b, g7, b7, hb⟩, gc, gb, gk⟩
   have hi2 : i = 0 \/ i = 1 \/ i = 2 := by omega
   rcases hi2 with rfl | rfl | rfl
   . rcases hb with ⟨_, rfl⟩ | ⟨h0, _⟩
     . simp [zprog_l0, g12, g13, g6, b6, g7, b7, h1, h2, a1, a2, wrap1]
       refine ⟨rfl, by omega, fun n q1 q2 => by simp [q1, q2]; exact gb n q1 q2, fun n q1 q2 => by simp [q1, q2]; exact gk n q1 q2⟩
     . omega
   . rcases hb with ⟨h0, _⟩ | ⟨_, st, rfl, ht⟩
     . omega
     . have hw : IntKind.i64.wrap 2 = 2 := by decide
       have hbl : (min 1 boot2.length + 1) * 40 <= 140737488355328 := by decide
       simp [zprog_l0, g12, g13, g6, b6, g7, b7, h1, h2, a1, a2, ht, hw, hbl]
       refine ⟨rfl, by omega, fun n q1 q2 => by simp [q1, q2]; exact gb n q1 q2, fun n q1 q2 => by simp [q1, q2]; exact gk n q1 q2⟩
   . rcases hb with ⟨h0, _⟩ | ⟨_, st, rfl, ht⟩
     . omega
     . simp [zprog_l0, g12, g13, g6, b6, g7, b7, h1, h2, a1, a2]
       have := hk ⟨S.t, upd S'.blk 294006 (some ⟨s6, 4, [.agg [h, a, .acc 294021 st 3 (List.take 2 boot2), iv 64]]⟩), S'.tok, S'.clk + 1 + 2⟩ st rfl (by simp only []; omega) (fun n q1 q2 => by simp [q1]; exact gb n q1 q2) gk
       exact this
def cs2 : List AV := xs2.map Ins.av
def tbo (s4 sh sc : Nat) (h : AV) : List (Nat × AV) := [(14, .ptr 296004 s4 4 0 0), (15, h), (16, iv 1), (17, .ptr 296004 s4 4 0 0), (18, h), (19, iv 1), (20, .ptr 1000295044 sh 2 1 0), (21, .ptr 1000295044 sh 2 1 1), (22, .sl 1000284031 sc 2 0 18), (23, iv 7), (24, iv 7), (25, .lst 2 cs2), (26, iv 3), (27, iv 10), (28, .lst 2 cs2), (29, .sl 1000284031 sc 2 0 18)]
theorem odd_draw (s4 sh sc st : Nat) (h0 a b : AV) (hcl0 : h0.one = true) (c0 : AV) {S : St} {k : St -> Prop} {u : Dep k}
   (g4 : S.t 4 = .ptr 296004 s4 4 0 0) (b4 : S.blk 296004 = some ⟨s4, 4, [.agg [.sl 1000295044 sh 2 0 2, a, b, iv 64]]⟩) (bh : S.blk 1000295044 = some ⟨sh, 2, [c0, .agg [iv 1, .sl 1000284031 sc 2 0 18]]⟩) (bc : S.blk 1000284031 = some ⟨sc, 2, xs1.map Ins.av⟩)
   (g1 : S.t 1 = iv 1) (g2 : S.t 2 = iv 7) (g9 : S.t 9 = .lst 2 cs2)
   (hk : ∀ S', (∀ x, x < 14 \/ 31 < x -> S'.t x = S.t x) -> S'.tok = S.tok -> (∀ n, n ≠ 1000295044 -> n ≠ 1000284031 -> S'.blk n = S.blk n) -> S'.blk 1000295044 = some ⟨sh, 2, [c0, .agg [iv 1, .sl 1000284031 sc 2 0 18]]⟩ -> S'.blk 1000284031 = some ⟨sc, 2, (xs1.map Ins.av).take 7 ++ cs2 ++ (xs1.map Ins.av).drop 10⟩ -> k S') :
   regIG Tryz.prog zodd_p2 st zodd_r2 S k u := by
 refine regi_cut (zodd_r2.take 16) (zodd_r2.drop 16) rfl (by rfl) ?_
 obtain ⟨tbl, htb⟩ : ∃ tbl : List (Nat × AV), tbl = tbo s4 sh sc (.sl 1000295044 sh 2 0 2) := ⟨_, rfl⟩
 have hnd : (tbl.map (·.1)).Nodup := by simp [htb, tbo]
 obtain ⟨new, hnew⟩ : ∃ new, new = (xs1.map Ins.av).take 7 ++ cs2 ++ (xs1.map Ins.av).drop 10 := ⟨_, rfl⟩
 obtain ⟨I, hI⟩ : ∃ I : (Nat -> Bool) -> St -> Prop, ∀ D S', I D S' ↔ (SF tbl D S' /\ (∀ x, x < 14 \/ 29 < x -> S'.t x = S.t x) /\ S'.tok = S.tok /\ (D 15 = false -> S'.blk = S.blk) /\ (D 15 = true -> (∀ n, n ≠ 1000284031 -> S'.blk n = S.blk n) /\ S'.blk 1000284031 = some ⟨sc, 2, new⟩)) := ⟨_, fun _ _ => Iff.rfl⟩
 show regI _ _ _ _ _ _
 refine ⟨I, (hI _ _).2 ⟨SF.start _ _, fun _ _ => rfl, rfl, fun _ => rfl, by simp⟩, ?_, ?_⟩
 . rintro D S' j ai hj hDj hpre hcl hi
   obtain ⟨hsf, ht, hk1, h15f, h15t⟩ := (hI _ _).1 hi
   have stp : ∀ (j d : Nat) (val : AV) (op : AOp) (st' : Nat), tbl[j]? = some (d, val) -> j ≠ 15 -> 14 <= d -> d <= 29 -> ex S'.t S'.blk S'.tok st' op = some { v := val } -> stepV Tryz.prog st' ⟨some d, none, .op op⟩ S' (I (fun i => (i == j) || D i)) := by
     intro j d val op st' hj m15 d0 d1 he
     have e15 : (15 == j) = false := by simp; omega
     refine stepV_op _ he ((hI _ _).2 ⟨hsf.ins hnd hj (upd_same _ _ _) (fun y hy => upd_ne _ _ _ _ hy), fun x hx => (upd_ne _ _ _ _ (by omega)).trans (ht x hx), hk1, fun q => h15f ?_, fun q => h15t ?_⟩)
     . simpa [e15] using q
     . simpa [e15] using q
   have t4 := (ht 4 (.inl (by omega))).trans g4
   have t1 := (ht 1 (.inl (by omega))).trans g1
   have t2 := (ht 2 (.inl (by omega))).trans g2
   have t9 := (ht 9 (.inl (by omega))).trans g9
   have hb4 : S'.blk 296004 = some ⟨s4, 4, [.agg [.sl 1000295044 sh 2 0 2, a, b, iv 64]]⟩ := by
     cases hx : D 15 with
     | false => rw [h15f hx]; exact b4
     | true => rw [(h15t hx).1 _ (by simp)]; exact b4
   have hbh : S'.blk 1000295044 = some ⟨sh, 2, [c0, .agg [iv 1, .sl 1000284031 sc 2 0 18]]⟩ := by
     cases hx : D 15 with
     | false => rw [h15f hx]; exact bh
     | true => rw [(h15t hx).1 _ (by simp)]; exact bh
   match j, hj, hDj, hpre with
   | 0, hj, hDj, hpre =>
     simp at hj; subst hj
     exact stp 0 14 _ _ _ (by simp [htb, tbo]; rfl) (by simp) (by simp) (by simp) (by simp [t4])
   | 1, hj, hDj, hpre =>
     simp at hj hpre; subst hj
     exact stp 1 15 _ _ _ (by simp [htb, tbo]; rfl) (by simp) (by simp) (by simp) (by simp [hsf 0 14 _ (by simp [htb, tbo]; rfl) hpre, hb4])
   | 2, hj, hDj, hpre =>
     simp at hj; subst hj
     exact stp 2 16 _ _ _ (by simp [htb, tbo]; rfl) (by simp) (by simp) (by simp) (by simp [t1])
   | 3, hj, hDj, hpre =>
     simp at hj; subst hj
     exact stp 3 17 _ _ _ (by simp [htb, tbo]; rfl) (by simp) (by simp) (by simp) (by simp [t4])
   | 4, hj, hDj, hpre =>
     simp at hj hpre; subst hj
     exact stp 4 18 _ _ _ (by simp [htb, tbo]; rfl) (by simp) (by simp) (by simp) (by simp [hsf 3 17 _ (by simp [htb, tbo]; rfl) hpre, hb4])
   | 5, hj, hDj, hpre =>
     simp at hj; subst hj
     exact stp 5 19 _ _ _ (by simp [htb, tbo]; rfl) (by simp) (by simp) (by simp) (by simp [t1])
   | 6, hj, hDj, hpre =>
     simp at hj hpre; subst hj
     exact stp 6 20 _ _ _ (by simp [htb, tbo]; rfl) (by simp) (by simp) (by simp) (by simp [hsf 4 18 _ (by simp [htb, tbo]; rfl) hpre.1, hsf 5 19 _ (by simp [htb, tbo]; rfl) hpre.2.1])
   | 7, hj, hDj, hpre =>
     simp at hj hpre; subst hj
     exact stp 7 21 _ _ _ (by simp [htb, tbo]; rfl) (by simp) (by simp) (by simp) (by simp [hsf 6 20 _ (by simp [htb, tbo]; rfl) hpre.1])
   | 8, hj, hDj, hpre =>
     simp at hj hpre; subst hj
     exact stp 8 22 _ _ _ (by simp [htb, tbo]; rfl) (by simp) (by simp) (by simp) (by simp [hsf 7 21 _ (by simp [htb, tbo]; rfl) hpre.1, hbh])
   | 9, hj, hDj, hpre =>
     simp at hj; subst hj
     exact stp 9 23 _ _ _ (by simp [htb, tbo]; rfl) (by simp) (by simp) (by simp) (by simp [t2])
   | 10, hj, hDj, hpre =>
     simp at hj; subst hj
     exact stp 10 24 _ _ _ (by simp [htb, tbo]; rfl) (by simp) (by simp) (by simp) (by simp [t2])
   | 11, hj, hDj, hpre =>
     simp at hj; subst hj
     exact stp 11 25 _ _ _ (by simp [htb, tbo]; rfl) (by simp) (by simp) (by simp) (by simp [t9])
   | 12, hj, hDj, hpre =>
     simp at hj hpre; subst hj
     exact stp 12 26 _ _ _ (by simp [htb, tbo]; rfl) (by simp) (by simp) (by simp) (by simp [hsf 11 25 _ (by simp [htb, tbo]; rfl) hpre, cs2, xs2])
   | 13, hj, hDj, hpre =>
     simp at hj hpre; subst hj
     have hw : IntKind.i64.wrap 10 = 10 := by decide
     exact stp 13 27 _ _ _ (by simp [htb, tbo]; rfl) (by simp) (by simp) (by simp) (by simp [hsf 10 24 _ (by simp [htb, tbo]; rfl) hpre.1, hsf 12 26 _ (by simp [htb, tbo]; rfl) hpre.2.1, hw])
   | 14, hj, hDj, hpre =>
     simp at hj; subst hj
     exact stp 14 28 _ _ _ (by simp [htb, tbo]; rfl) (by simp) (by simp) (by simp) (by simp [t9])
   | 15, hj, hDj, hpre =>
     simp at hj hpre; subst hj
     refine stepV_call ?_
     have hbc : S'.blk 1000284031 = some ⟨sc, 2, xs1.map Ins.av⟩ := by rw [h15f hDj]; exact bc
     simp only [List.map_cons, List.map_nil, X.ev, hsf 8 22 _ (by simp [htb, tbo]; rfl) hpre.1, hsf 9 23 _ (by simp [htb, tbo]; rfl) hpre.2.1, hsf 13 27 _ (by simp [htb, tbo]; rfl) hpre.2.2.1, hsf 14 28 _ (by simp [htb, tbo]; rfl) hpre.2.2.2.1]
     refine repl_v 1000284031 sc (xs1.map Ins.av) cs2 7 (by decide) (by decide) (by decide) (.lst 2 cs2) (fun E u q => q) hbc (fun S1 q1 q2 q3 q4 q5 => ?_)
     refine (hI _ _).2 ⟨hsf.ins hnd (j := 15) (d := 29) (v := .sl 1000284031 sc 2 0 18) (by simp [htb, tbo]) (by simp; rfl) (fun y hy => by simp [hy, q1]), fun x hx => ?_, q2.trans hk1, fun q => by simp at q, fun _ => ⟨fun n hn => ?_, ?_⟩⟩
     . have : x ≠ 29 := by omega
       simp [this, q1, ht x hx]
     . simp
       rw [q4 n hn, h15f hDj]
     . rw [hnew]; exact q5
   | j + 16, hj, hDj, hpre => simp at hj
 . rintro D S' hD hi
   obtain ⟨hsf, ht, hk1, h15f, h15t⟩ := (hI _ _).1 hi
   have e15 := hsf 1 15 _ (by simp [htb, tbo]; rfl) (hD 1 (by simp))
   have e16 := hsf 2 16 _ (by simp [htb, tbo]; rfl) (hD 2 (by simp))
   have e29 := hsf 15 29 _ (by simp [htb, tbo]; rfl) (hD 15 (by simp))
   obtain ⟨p1, p2⟩ := h15t (hD 15 (by simp))
   have hbh := (p1 1000295044 (by simp)).trans bh
   simp [e15, e16, e29, hbh]
   refine hk _ (fun x hx => ?_) hk1 (fun n h1 h2 => by simp [h1]; exact p1 n h2) (by simp) (by simp; rw [p2, hnew]; simp)
   have m1 : x ≠ 30 := by omega
   have m2 : x ≠ 31 := by omega
   simp [m1, m2]
   exact ht x (by omega)
def xs1o : List Ins := xs1.take 7 ++ xs2 ++ xs1.drop 10
theorem xs1o_av : (xs1.map Ins.av).take 7 ++ cs2 ++ (xs1.map Ins.av).drop 10 = xs1o.map Ins.av := by
 unfold xs1o cs2
 simp only [List.map_append, List.map_take, List.map_drop]
theorem zodd_v (sh sc : Nat) (a b c0 : AV) (a1 : a.one = true) (a2 : a.cells = [a]) (b1 : b.one = true) (b2 : b.cells = [b]) {S : St} {k : AV -> St -> Prop} {u : Dep k}
   (bh : S.blk 1000295044 = some ⟨sh, 2, [c0, .agg [iv 1, .sl 1000284031 sc 2 0 18]]⟩) (bc : S.blk 1000284031 = some ⟨sc, 2, xs1.map Ins.av⟩)
   (hk : ∀ S', S'.t = S.t -> (∀ n, n ≠ 296011 -> S'.tok n = S.tok n) -> (∀ n, n ≠ 296004 -> n ≠ 296008 -> n ≠ 1000295044 -> n ≠ 1000284031 -> S'.blk n = S.blk n) -> S'.blk 1000295044 = some ⟨sh, 2, [c0, .agg [iv 1, .sl 1000284031 sc 2 0 18]]⟩ -> S'.blk 1000284031 = some ⟨sc, 2, xs1o.map Ins.av⟩ -> k (.agg [.sl 1000295044 sh 2 0 2, a, b, iv 64]) S') :
   CallG Tryz.prog (.fn 25 []) [.agg [.sl 1000295044 sh 2 0 2, a, b, iv 64], iv 1, iv 7, sv [112, 117, 115, 104, 32, 49, 59, 32, 112, 111, 112, 59, 32, 112, 117, 115, 104, 32, 49]] S k u := by
 refine callV zodd_get (by simp) (by simp) ?_
 unfold zodd_c
 simp [a1, a2, b1, b2, sv]
 refine call (mhandler_pc 0 hl2 xs2 hok2) (by simp [sv, hl2]) ?_
 simp
 refine odd_draw S.clk sh sc (S.clk + 2 + 5) (.sl 1000295044 sh 2 0 2) a b rfl c0 (by simp) (by simp) (by simp [bh]) (by simp [bc]) (by simp) (by simp) (by simp [cs2]) (fun S1 q1 q2 q3 q4 q5 => ?_)
 have q4a := q1 4 (.inl (by omega))
 have q8a := q1 8 (.inl (by omega))
 have b4 := q3 296004 (by simp) (by simp)
 have b8 := q3 296008 (by simp) (by simp)
 simp at q4a q8a b4 b8
 simp [q4a, q8a, b4, b8, a1, a2, b1, b2]
 refine hk _ rfl (fun n hn => ?_) (fun n h1 h2 h3 h4 => ?_) (by simpa using q4) (by simp; rw [q5, xs1o_av])
 . simp
   rw [q2]
   simp [hn]
 . simp [h2]
   rw [q3 n h3 h4]
   simp [h1, h2]
def acts2 : List AV := [.agg [.lst 1 [iv 3, iv 0], iv 8, iv (-1), .bool false], .agg [.lst 1 [iv 4, iv 0], iv 8, iv (-1), .bool false]]
def watch2 : List Ins := [⟨31, 1⟩, ⟨31, 17⟩, ⟨9, 0⟩, ⟨1, 2⟩, ⟨16, 0⟩]
def wat (i : Nat) : List AV := if i < 2 then [.agg [iv 31, iv 1]] else [.agg [iv 31, iv 1], .agg [iv 31, iv 17], .agg [iv 9, iv 0]]
theorem ring_loop (nmI stI : Nat) {S : St} {κ : Ex -> St -> Prop} {u : Dep κ} (g47 : S.t 47 = .acc nmI stI 1 [iv 3, iv 4]) (g48 : S.t 48 = iv 2) (g49 : S.t 49 = iv 0) (g9 : S.t 9 = .nils) (g10 : ∃ sw, S.t 10 = .acc 295079 sw 2 (wat 0) /\ S.tok 295079 = some ⟨sw, 2, 49⟩)
   (hk : ∀ S' sa sw, S'.t 2 = S.t 2 -> S'.t 5 = S.t 5 -> S'.t 8 = S.t 8 -> S'.blk = S.blk -> S'.t 9 = .acc 295059 sa 4 acts2 -> S'.t 10 = .acc 295079 sw 2 (wat 2) -> S'.tok 295079 = some ⟨sw, 2, 49⟩ -> κ (.exit 0) S') : LoopG Tryz.prog zring_l0 κ S u := by
 refine loopN (fun i S' => S'.t 2 = S.t 2 /\ S'.t 5 = S.t 5 /\ S'.t 8 = S.t 8 /\ S'.blk = S.blk /\ S'.t 47 = .acc nmI stI 1 [iv 3, iv 4] /\ S'.t 48 = iv 2 /\ S'.t 49 = iv i /\ ((i = 0 /\ S'.t 9 = .nils) \/ 0 < i /\ ∃ sa, S'.t 9 = .acc 295059 sa 4 (acts2.take i) /\ S'.tok 295059 = some ⟨sa, 4, 56⟩) /\
   ∃ sw, S'.t 10 = .acc 295079 sw 2 (wat i) /\ S'.tok 295079 = some ⟨sw, 2, 49⟩) 2 ?_ ?_
 . exact ⟨rfl, rfl, rfl, rfl, g47, g48, g49, .inl ⟨rfl, g9⟩, g10⟩
 . rintro i S' hi ⟨e2, e5, e8, eb, g47, g48, g49, h9, sw, g10, h10⟩
   have hi2 : i = 0 \/ i = 1 \/ i = 2 := by omega
   rcases hi2 with rfl | rfl | rfl
   . rcases h9 with ⟨_, g9⟩ | ⟨h0, _⟩
     . simp [zring_l0, g47, g48, g49, g9, g10, wrap1]
       exact ⟨e2, e5, e8, eb, rfl, sw, ⟨rfl, rfl⟩, h10⟩
     . omega
   . rcases h9 with ⟨h0, _⟩ | ⟨_, sa, g9, h9⟩
     . omega
     . have hw : IntKind.i64.wrap 2 = 2 := by decide
       have hw16 : IntKind.i64.wrap 16 = 16 := by decide
       have hw17 : IntKind.i64.wrap 17 = 17 := by decide
       have hbl : (min 1 acts2.length + 1) * 48 <= 140737488355328 := by decide
       have hbw : ((wat 1).length + 2) * 16 <= 140737488355328 := by decide
       simp [zring_l0, g47, g48, g49, g9, g10, h9, h10, hw, hw16, hw17, hbl]
       refine call (zreg_pc 17) (by simp) ?_
       simp
       refine call (zop_pc 9) (by simp) ?_
       simp [h10, hbw, g47, g48, g49, hw]
       exact ⟨e2, e5, e8, eb, rfl, rfl⟩
   . rcases h9 with ⟨h0, _⟩ | ⟨_, sa, g9, h9⟩
     . omega
     . simp [zring_l0, g47, g48, g49]
       exact hk _ sa sw e2 e5 e8 eb g9 g10 h10
theorem zring_v (nmI stI : Nat) {S : St} {k : AV -> St -> Prop} {u : Dep k}
   (hk : ∀ S' sh sc sa sb sw, S'.t = S.t -> (∀ n, n < 284000 \/ (297000 <= n /\ n < 1000000000) -> S'.blk n = S.blk n) ->
     S'.blk 1000295044 = some ⟨sh, 2, [.agg [iv 0, .lst 2 (xs0.map Ins.av)], .agg [iv 1, .sl 1000284031 sc 2 0 18]]⟩ -> S'.blk 1000284031 = some ⟨sc, 2, xs1.map Ins.av⟩ ->
     k (.tup [.agg [.sl 1000295044 sh 2 0 2, .acc 295059 sa 4 acts2, .acc 294021 sb 3 boot2, iv 64], .acc 295080 sw 1 [.lst 2 (watch2.map Ins.av)], iv 0]) S') :
   CallG Tryz.prog (.fn 24 []) [.acc nmI stI 1 [iv 3, iv 4]] S k u := by
 refine callV zring_get (by simp) (by simp) ?_
 unfold zring_c
 simp
 refine values_v (.acc nmI stI 1 [iv 3, iv 4]) rfl rfl (fun S1 s1 p1 p2 p3 p4 p5 => ?_)
 simp [p1]
 refine sorted_v 287001 s1 (by decide) (.acc nmI stI 1 [iv 3, iv 4]) [3, 4] (by simp) (by simp) rfl (fun E v h => by cases h with | acc _ _ _ _ _ _ _ h => exact h) p5 rfl (fun S2 v2 q1 q2 q3 q4 q5 => ?_)
 have hms : ([3, 4] : List Int).mergeSort (fun x y => decide (x <= y)) = [3, 4] := by first | exact List.mergeSort_of_sorted (by simp) | exact List.mergeSort_of_pairwise (by simp) | simp [List.mergeSort, List.MergeSort.Internal.splitInTwo, List.merge]
 rw [hms] at q5
 rcases q5 with ⟨_, q⟩ | ⟨s2, rfl, b5⟩
 . simp at q
 simp [q1, p1]
 have hcm : Lib.compact ([3, 4] : List Int) = [3, 4] := by decide
 refine compact_v 290001 s2 [3, 4] (by decide) b5 ?_ (by rw [hcm]; decide)
 rw [hcm]
 simp
 have hw := words_pc tOn 2 (by decide) (by decide) (by rw [dd2]; decide +kernel)
 have e2 : Lib.replace tOn [42] (Lib.decDigits 2) 1 = tOn2 := rfl
 rw [e2] at hw
 refine call hw (by simp [sv, tOn]) ?_
 simp [sv]
 refine call (mhandler_pc 0 hl0 xs0 hok0) (by simp [sv, hl0]) ?_
 simp
 refine call_coarse 0 (vals' := [iv 1, .lst 1 (hl1.map sv)]) rfl (fun j x y hx hy => ?_) ?_
 . match j, hx, hy with
   | 0, hx, hy => simp at hx hy; subst hx hy; exact .inl rfl
   | 1, hx, hy => simp at hx hy; subst hx hy; exact .inr (by simp [elemR, dco, hl1, sv])
   | j + 2, hx, _ => simp at hx
 refine mhandler_v 1 hl1 xs1 hok1 (fun S3 vc r1 r2 r3 r4 r5 => ?_)
 rcases r5 with ⟨_, q⟩ | ⟨sc, rfl, bc⟩
 . simp [xs1] at q
 have hl : (xs1.map Ins.av).length = 18 := rfl
 rw [hl]
 simp at r1 r2
 simp [r1]
 refine call (zreg_pc 1) (by simp) ?_
 simp
 refine ring_loop nmI stI (by simp) (by simp) (by simp) (by simp) ⟨_, by simp [wat]; rfl, by simp⟩ (fun S4 sa sw t1 t2 t3 t4 t5 t6 t7 => ?_)
 simp [r1, q1, p1] at t1 t2 t3 t4
 simp [t1, t2, t3, t5, t6]
 refine zprog_v (.sl 1000295044 _ 2 0 2) (.acc 295059 sa 4 acts2) rfl rfl rfl rfl (fun S5 sb u1 u2 u3 u4 => ?_)
 have k5 := u4 295079 (by simp) (by simp)
 simp at k5
 rw [t7] at k5
 have hbw : ((wat 2).length + 2) * 16 <= 140737488355328 := by decide
 have c1 := p4 295002 (by simp)
 have c2 := (q4 295002 (by simp)).trans c1
 have c3 := r4 295002 (by simp) (by simp) (by simp) (by simp)
 have c5 := u3 295002 (by simp) (by simp)
 simp [t4] at c5
 simp at c3 c2
 rw [c3, c2] at c5
 simp [u1, t1, t2, t3, t5, t6]
 refine call (znum_pc 2) (by simp) ?_
 simp
 refine call (zop_pc 16) (by simp) ?_
 simp [k5, hbw, c5, u1, t1, t2, t3, t5, t6]
 refine hk _ _ sc sa sb _ rfl (fun n hn => ?_) ?_ ?_
 . have m1 : n ≠ 295002 := by omega
   have m2 : n ≠ 1000295044 := by omega
   have m3 : n ≠ 290001 := by omega
   have e5 := u3 n (by omega) (by omega)
   have e3 := r4 n (by omega) (by omega) (by omega) (by omega)
   have e2 := q4 n m3
   have e1 := p4 n (by omega)
   simp [t4, m2] at e5
   simp [m3] at e3
   simp [m1] at e1 e2
   simp [m1]
   rw [e5, e3, e2, e1]
 . have e5 := u3 1000295044 (by simp) (by simp)
   simp [t4] at e5
   simpa using e5
 . have e5 := u3 1000284031 (by simp) (by simp)
   simp [t4] at e5
   simp
   rw [e5, bc]
end Go.Gv

namespace Go.Gv
open Go.Proofs
def mrodd_c : AC := (.seq (.reg [oA 2 (.new 298002 4 (.agg [.nils, .nils, .nils, (.int .i64 0)])), oA 3 (.mv (.c .nils)), oI 4 0]) (.seq (.reg [oM 9 0, oC 10 (.c (.fn 24 [])) [(.t 9)], oM 8 10, oE 11 8 0, oE 12 8 1, oE 13 8 2, oA 5 (.new 298005 4 (.agg [.nils, .nils, .nils, (.int .i64 0)])), oN (.store 4 (.t 5) (.t 11)), oM 6 12, oM 7 13]) (.seq (.seq (.reg [oM 14 7, oZ 15 .eql 14 0]) (.cond (.t 15) (.reg [oA 16 (.load (some 4) (.t 5)), oC 17 (.c (.fn 25 [])) [(.t 16), (.c (.int .i64 1)), (.c (.int .i64 7)), (.c (.str ⟨#[112, 117, 115, 104, 32, 49, 59, 32, 112, 111, 112, 59, 32, 112, 117, 115, 104, 32, 49]⟩))], oN (.store 4 (.t 5) (.t 17))]) .skip)) (.seq (.reg [oA 18 (.load (some 4) (.t 5)), oM 19 6, oM 20 7, oN (.store 4 (.t 2) (.t 18)), oM 3 19, oM 4 20]) .ret))))
set_option maxRecDepth 100000 in
theorem mrodd_get : getF Tryz.prog 17 298000 [] = some ("gavotte/models.RingOdd", 21, mrodd_c, [(.cell (some 4) 2), (.tmp 3), (.tmp 4)]) := by kernel_rfl
open Go.RowKit
theorem callFz {P : Program} {f : FuncId} {cargs : List AV} {r : AV} (h : PC P f cargs r) (d : Nat) {vals : List AV} {S : St} {k : AV -> St -> Prop} {u : Dep k} (hco : coL (elemR (dco S.blk d)) vals cargs) (hk : k r ⟨S.t, fun _ => none, fun _ => none, S.clk⟩) :
   CallG P (.fn f []) vals S k u := by
 obtain ⟨hent, hc⟩ := h
 refine ⟨f, [], rfl, hent, fun E B W w args H hW hB hu hsz hrel => ?_⟩
 have hle : B <= w.heap.size := Nat.le_trans hB.le hW.size
 let K : Nat -> Nat -> Option Value := fun b o => if b < B then E.K b o else w.cell? ⟨b, o, none⟩
 have hK : ∀ b o u, E.K b o = some u -> K b o = some u := by
   intro b o u q
   show (if b < B then E.K b o else w.cell? ⟨b, o, none⟩) = some u
   split
   . exact q
   . exact H.K b o u q
 have hrest : ∀ b o u, B <= b -> w.cell? ⟨b, o, none⟩ = some u -> K b o = some u := by
   intro b o u hb q
   show (if b < B then E.K b o else w.cell? ⟨b, o, none⟩) = some u
   rw [if_neg (by omega)]; exact q
 have hin : ∀ b o u, K b o = some u -> w.cell? ⟨b, o, none⟩ = some u := by
   intro b o u q
   have q' : (if b < B then E.K b o else w.cell? ⟨b, o, none⟩) = some u := q
   split at q'
   . exact H.K b o u q'
   . exact q'
 have kn : Knows E B w K true := ⟨hK, fun _ => hrest⟩
 obtain ⟨e1, e2⟩ := coL_get hco
 refine (hc K w args hin (hB.at hW) (by rw [<- e1]; simpa using hsz) ?_).mono ?_
 . intro j y u' hy hu'
   obtain ⟨x, hx⟩ : ∃ x, vals[j]? = some x := ⟨_, List.getElem?_eq_getElem (by rw [e1]; exact (List.getElem?_eq_some_iff.1 hy).1)⟩
   exact dcoKE_rel H kn d x y u' (e2 j x y hx hy) (hrel j x u' (by simpa using hx) hu')
 . rintro e w' ⟨v, rfl, hbel, hr⟩
   refine ⟨v, { E with K := over K w w' }, r, ⟨S.t, fun _ => none, fun _ => none, S.clk⟩, rfl, ⟨fun b o u q => ?_, fun _ _ => rfl, fun _ _ => rfl, fun _ _ => rfl, fun _ q => q⟩,
     ⟨fun b o u q => ?_, fun nm b q => (by cases q), fun nm b q => (by cases q), fun nm b q => (by cases q), fun nm b q => (by cases q), fun nm nm' b b' _ q => (by cases q), fun nm nm' b t q => (by cases q), fun nm nm' t t' g _ q => (by cases q)⟩,
     hW.trans (hbel.mono hle), fun b o hb => ?_, fun s hs => ⟨.inl hs, hu s hs⟩, Nat.le_refl _, rfl, hr.of_envK (fun b o u q => q), hk⟩
   . have := World.block_lt_of_cell? w _ (H.K b o u q)
     show over K w w' b o = some u
     unfold over
     rw [if_pos this]
     exact hK b o u q
   . have q' : over K w w' b o = some u := q
     unfold over at q'
     split at q'
     . rename_i hlt
       have := hin b o u q'
       rw [<- this]
       simp only [World.cell?, hbel.block b hlt]
     . exact q'
   . show over K w w' b o = E.K b o
     unfold over
     rw [if_pos (by omega)]
     show (if b < B then E.K b o else w.cell? ⟨b, o, none⟩) = E.K b o
     rw [if_pos hb]
theorem mrodd_v (nmI stI : Nat) {S : St} {k : AV -> St -> Prop} {u : Dep k}
   (hk : ∀ S' sh sc sa sb sw, S'.t = S.t -> (∀ n, 299000 <= n /\ n < 1000000000 -> S'.blk n = S.blk n) ->
     S'.blk 1000295044 = some ⟨sh, 2, [.agg [iv 0, .lst 2 (xs0.map Ins.av)], .agg [iv 1, .sl 1000284031 sc 2 0 18]]⟩ -> S'.blk 1000284031 = some ⟨sc, 2, xs1o.map Ins.av⟩ ->
     k (.tup [.agg [.sl 1000295044 sh 2 0 2, .acc 295059 sa 4 acts2, .acc 294021 sb 3 boot2, iv 64], .acc 295080 sw 1 [.lst 2 (watch2.map Ins.av)], iv 0]) S') :
   CallG Tryz.prog (.fn 17 []) [.acc nmI stI 1 [iv 3, iv 4]] S k u := by
 refine callV mrodd_get (by simp) (by simp) ?_
 unfold mrodd_c
 simp
 refine zring_v nmI stI (fun S1 sh sc sa sb sw p1 p2 p3 p4 => ?_)
 have c2 := p2 298002 (by simp)
 have c5 := p2 298005 (by simp)
 simp at c2 c5
 simp [p1]
 refine zodd_v sh sc (.acc 295059 sa 4 acts2) (.acc 294021 sb 3 boot2) _ rfl rfl rfl rfl (by simp [p3]; rfl) (by simp [p4]) (fun S2 q1 q2 q3 q4 q5 => ?_)
 have d2 := q3 298002 (by simp) (by simp) (by simp) (by simp)
 have d5 := q3 298005 (by simp) (by simp) (by simp) (by simp)
 simp at d2 d5
 rw [c2] at d2
 simp [q1, d2, d5]
 refine hk _ sh sc sa sb sw rfl (fun n hn => ?_) (by simp; exact q4) (by simp; exact q5)
 have m1 : n ≠ 298002 := by omega
 have m2 : n ≠ 298005 := by omega
 have e1 := q3 n (by omega) (by omega) (by omega) (by omega)
 have e2 := p2 n (by omega)
 simp [m2] at e1
 simp [m1] at e2
 simp [m1, m2]
 rw [e1, e2]
end Go.Gv

namespace Go.Gv
open Go.Proofs
def gawake_c : AC := (.seq (.reg [oA 0 (.mv (.c (.bool false)))]) (.seq (.reg [oA 6 (.bsl 299006 1 3 2 (.int .i64 0) [(0, (.c (.int .i64 3))), (1, (.c (.int .i64 4)))]), oC 7 (.c (.fn 17 [])) [(.t 6)], oM 5 7, oE 8 5 0, oE 9 5 1, oE 10 5 2, oA 1 (.new 299001 4 (.agg [.nils, .nils, .nils, (.int .i64 0)])), oN (.store 4 (.t 1) (.t 8)), oM 2 9, oM 3 10]) (.seq (.seq (.reg [oM 11 3, oZ 12 .neq 11 0]) (.cond (.t 12) (.seq (.reg [oA 0 (.mv (.c (.bool false)))]) .ret) .skip)) (.seq (.reg [oA 13 (.load (some 4) (.t 1)), oM 14 2, oA 15 (.build [(.int .i64 0), (.int .i64 0)] [(0, (1, (.c (.int .i64 6)))), (1, (1, (.c (.int .i64 1000))))]), oA 16 (.build [.nils, .nils, .nils, (.int .i64 0), .nils, (.int .i64 0), (.int .i64 0), (.int .i64 0), (.int .i64 0), (.int .i64 0), (.int .i64 0)] [(0, (4, (.t 13))), (4, (1, (.t 14))), (9, (2, (.t 15)))]), oC 17 (.c (.fn 9 [])) [(.t 16)], oA 4 (.new 299004 7 (.agg [(.int .i64 0), (.int .i64 0), (.int .i64 0), (.int .i64 0), (.int .i64 0), (.int .i64 0), .nils])), oN (.store 7 (.t 4) (.t 17))]) (.seq (.reg [oF 18 0 4, oL 19 18, oZ 20 .eql 19 3, oM 21 20, gF 22 21 true 6 4, gL 23 21 true 22, oG 24 21 true (.len (.t 23)), oG 25 21 true (.ibin .eql (.t 24) (.c (.int .i64 1))), oA 26 (.pick (.t 21) (.t 25) (.c (.bool false))), oM 27 26, gF 28 27 true 6 4, gL 29 27 true 28, oG 30 27 true (.idx 2 (.t 29) (.c (.int .i64 0))), gF 31 27 true 0 30, gL 32 27 true 31, oG 33 27 true (.ibin .eql (.t 32) (.c (.int .i64 0))), oA 34 (.pick (.t 27) (.t 33) (.c (.bool false))), oM 35 34, gF 36 35 true 6 4, gL 37 35 true 36, oG 38 35 true (.idx 2 (.t 37) (.c (.int .i64 0))), gF 39 35 true 1 38, gL 40 35 true 39, oG 41 35 true (.len (.t 40)), oG 42 35 true (.ibin .eql (.t 41) (.c (.int .i64 6))), oA 43 (.pick (.t 35) (.t 42) (.c (.bool false))), oM 0 43]) .ret)))))
set_option maxRecDepth 100000 in
theorem gawake_get : getF Tryz.prog 8 299000 [] = some ("gavotte/gavottetop.awake", 44, gawake_c, [(.tmp 0)]) := by kernel_rfl
open Go.RowKit
theorem awake_pc : PC Tryz.prog 8 [] (.bool true) := by
 have ht := task_pc put_all awC aw_cok (fun f w => treeB awC f w = true) (fun e => e.kind = 1) (sok put_all awC (by decide) (by decide)) aw_tree
 have hr := aw_res
 generalize exploreS awC = R at ht hr
 obtain ⟨runs, worlds, found, path, ended, cut, slept⟩ := R
 simp only [awRes, Bool.and_eq_true] at hr
 obtain ⟨h1, h2⟩ := hr
 have he : ended = false := by simpa using h1
 subst he
 match found, h2 with
 | [⟨fw, fp⟩], h2 =>
 simp at h2
 obtain ⟨rfl, hfp⟩ := h2
 refine pc_of_get gawake_get (by simp) _ (by simp) _ ?_
 unfold gawake_c
 simp
 refine mrodd_v 299006 _ (fun S1 sh sc sa sb sw p1 p2 p3 p4 => ?_)
 simp [p1]
 refine callFz ht 4 ?_ ?_
 . simp [awC, ringP, Cfg.av, watchesAv, elemR, coL, dco, p3, p4, Hnd.av, acts2, boot2, watch2, Actr.av, Nt.av, ints]
   refine ⟨by decide, ?_⟩
   simp [xs1o, xs1, xs2, Ins.av, coL, elemR]
 . simp [Sr.rep, Fnd.av, evts, hfp]
end Go.Gv

namespace Go.Gv
open Go.Proofs
def wbytes_c : AC := (.seq (.reg [oA 2 (.mv (.c .nils))]) (.seq (.reg [oM 9 0, oC 10 (.c (.fn 41 [])) [(.t 9)], oM 8 10, oE 11 8 0, oE 12 8 1, oA 3 (.new 357003 11 (.agg [.nils, .nils, .nils, (.int .i64 0), .nils, (.int .i64 0), (.int .i64 0), (.int .i64 0), (.int .i64 0), (.int .i64 0), (.int .i64 0)])), oN (.store 11 (.t 3) (.t 11)), oM 4 12]) (.seq (.reg [oM 13 4, oA 14 (.build [(.int .i64 0), (.int .i64 0), (.int .i64 0), (.int .i64 0), (.int .i64 0), (.int .i64 0), .nils] [(0, (1, (.c (.int .i64 1)))), (1, (1, (.t 13)))]), oA 5 (.new 357005 7 (.agg [(.int .i64 0), (.int .i64 0), (.int .i64 0), (.int .i64 0), (.int .i64 0), (.int .i64 0), .nils])), oN (.store 7 (.t 5) (.t 14))]) (.seq (.seq (.reg [oM 15 4, oZ 16 .eql 15 0]) (.cond (.t 16) (.reg [oA 17 (.load (some 11) (.t 3)), oC 18 (.c (.fn 9 [])) [(.t 17)], oN (.store 7 (.t 5) (.t 18))]) .skip)) (.seq (.reg [oA 20 (.load (some 7) (.t 5)), oC 21 (.c (.fn 42 [])) [(.t 20)], oM 19 21, oE 22 19 0, oE 23 19 1, oM 6 22, oM 7 23]) (.seq (.reg [oM 24 6, oM 2 24]) .ret))))))
set_option maxRecDepth 100000 in
theorem wbytes_get : getF Tryz.prog 23 357000 [] = some ("gavotte/check.Bytes", 25, wbytes_c, [(.tmp 2)]) := by kernel_rfl
def wasked_c : AC := (.seq (.reg [oA 1 (.box 358001 11 (.t 0)), oA 2 (.new 358002 7 (.agg [(.int .i64 0), (.int .i64 0), (.int .i64 0), (.int .i64 0), (.int .i64 0), (.int .i64 0), .nils])), oA 3 (.mv (.c (.bool false)))]) (.seq (.reg [oA 9 (.load (some 11) (.t 1)), oC 10 (.c (.fn 21 [])) [(.t 9)], oM 8 10, oE 11 8 0, oE 12 8 1, oM 4 11, oM 5 12]) (.seq (.seq (.reg [oM 13 5, oZ 14 .neq 13 0]) (.cond (.t 14) (.seq (.reg [oA 15 (.build [(.int .i64 0), (.int .i64 0), (.int .i64 0), (.int .i64 0), (.int .i64 0), (.int .i64 0), .nils] []), oN (.store 7 (.t 2) (.t 15)), oA 3 (.mv (.c (.bool false)))]) .ret) .skip)) (.seq (.reg [oM 17 4, oC 18 (.c (.fn 23 [])) [(.t 17)], oC 19 (.c (.fn 22 [])) [(.t 18)], oM 16 19, oE 20 16 0, oE 21 16 1, oA 6 (.new 358006 7 (.agg [(.int .i64 0), (.int .i64 0), (.int .i64 0), (.int .i64 0), (.int .i64 0), (.int .i64 0), .nils])), oN (.store 7 (.t 6) (.t 20)), oM 7 21]) (.seq (.reg [oA 22 (.load (some 7) (.t 6)), oM 23 7, oZ 24 .eql 23 0, oN (.store 7 (.t 2) (.t 22)), oM 3 24]) .ret)))))
set_option maxRecDepth 100000 in
theorem wasked_get : getF Tryz.prog 14 358000 [] = some ("gavotte/gavottetop.asked", 25, wasked_c, [(.cell (some 7) 2), (.tmp 3)]) := by kernel_rfl
def wsums_c : AC := (.seq (.reg [oA 4 (.mv (.c (.bool false)))]) (.seq (.reg [oM 9 0, oA 10 (.build [(.int .i64 0), (.int .i64 0)] [(0, (1, (.c (.int .i64 1)))), (1, (1, (.t 9)))]), oM 11 1, oA 12 (.build [(.int .i64 0), (.int .i64 0)] [(0, (1, (.c (.int .i64 1)))), (1, (1, (.t 11)))]), oA 13 (.build [(.int .i64 0), (.int .i64 0)] [(0, (1, (.c (.int .i64 9))))]), oA 14 (.build [(.int .i64 0), (.int .i64 0)] [(0, (1, (.c (.int .i64 6))))]), oA 15 (.bsl 359015 2 49 4 (.agg [(.int .i64 0), (.int .i64 0)]) [(0, (.t 10)), (1, (.t 12)), (2, (.t 13)), (3, (.t 14))]), oA 16 (.build [(.int .i64 0), .nils] [(1, (1, (.t 15)))]), oA 17 (.bsl 359017 2 52 1 (.agg [(.int .i64 0), .nils]) [(0, (.t 16))]), oA 18 (.bsl 359018 1 3 1 (.int .i64 0) [(0, (.c (.int .i64 0)))]), oA 19 (.build [.nils, (.int .i64 0), (.int .i64 0), (.bool false)] [(0, (1, (.t 18))), (1, (1, (.c (.int .i64 2)))), (2, (1, (.c (.int .i64 (-1)))))]), oA 20 (.bsl 359020 4 56 1 (.agg [.nils, (.int .i64 0), (.int .i64 0), (.bool false)]) [(0, (.t 19))]), oA 21 (.build [(.int .i64 0), (.int .i64 0), .nils] []), oA 22 (.bsl 359022 3 58 1 (.agg [(.int .i64 0), (.int .i64 0), .nils]) [(0, (.t 21))]), oA 23 (.build [.nils, .nils, .nils, (.int .i64 0)] [(0, (1, (.t 17))), (1, (1, (.t 20))), (2, (1, (.t 22))), (3, (1, (.c (.int .i64 9))))]), oA 5 (.new 359005 4 (.agg [.nils, .nils, .nils, (.int .i64 0)])), oN (.store 4 (.t 5) (.t 23))]) (.seq (.reg [oA 24 (.build [(.int .i64 0), (.int .i64 0)] [(0, (1, (.c (.int .i64 31))))]), oM 25 0, oA 26 (.build [(.int .i64 0), (.int .i64 0)] [(0, (1, (.c (.int .i64 1)))), (1, (1, (.t 25)))]), oA 27 (.build [(.int .i64 0), (.int .i64 0)] [(0, (1, (.c (.int .i64 10))))]), oM 28 1, oA 29 (.build [(.int .i64 0), (.int .i64 0)] [(0, (1, (.c (.int .i64 1)))), (1, (1, (.t 28)))]), oA 30 (.build [(.int .i64 0), (.int .i64 0)] [(0, (1, (.c (.int .i64 10))))]), oA 31 (.bsl 359031 2 49 5 (.agg [(.int .i64 0), (.int .i64 0)]) [(0, (.t 24)), (1, (.t 26)), (2, (.t 27)), (3, (.t 29)), (4, (.t 30))]), oM 32 0, oA 33 (.build [(.int .i64 0), (.int .i64 0)] [(0, (1, (.c (.int .i64 1)))), (1, (1, (.t 32)))]), oM 34 1, oA 35 (.build [(.int .i64 0), (.int .i64 0)] [(0, (1, (.c (.int .i64 1)))), (1, (1, (.t 34)))]), oA 36 (.build [(.int .i64 0), (.int .i64 0)] [(0, (1, (.c (.int .i64 11))))]), oM 37 1, oA 38 (.build [(.int .i64 0), (.int .i64 0)] [(0, (1, (.c (.int .i64 1)))), (1, (1, (.t 37)))]), oM 39 0, oA 40 (.build [(.int .i64 0), (.int .i64 0)] [(0, (1, (.c (.int .i64 1)))), (1, (1, (.t 39)))]), oA 41 (.build [(.int .i64 0), (.int .i64 0)] [(0, (1, (.c (.int .i64 11))))]), oA 42 (.build [(.int .i64 0), (.int .i64 0)] [(0, (1, (.c (.int .i64 15))))]), oA 43 (.bsl 359043 2 49 7 (.agg [(.int .i64 0), (.int .i64 0)]) [(0, (.t 33)), (1, (.t 35)), (2, (.t 36)), (3, (.t 38)), (4, (.t 40)), (5, (.t 41)), (6, (.t 42))]), oA 44 (.bsl 359044 1 53 2 .nils [(0, (.t 31)), (1, (.t 43))]), oM 6 44]) (.seq (.reg [oA 46 (.load (some 4) (.t 5)), oM 47 6, oA 48 (.build [(.int .i64 0), (.int .i64 0)] [(0, (1, (.c (.int .i64 1)))), (1, (1, (.c (.int .i64 1))))]), oA 49 (.build [.nils, .nils, .nils, (.int .i64 0), .nils, (.int .i64 0), (.int .i64 0), (.int .i64 0), (.int .i64 0), (.int .i64 0), (.int .i64 0)] [(0, (4, (.t 46))), (4, (1, (.t 47))), (9, (2, (.t 48)))]), oC 50 (.c (.fn 14 [])) [(.t 49)], oM 45 50, oE 51 45 0, oE 52 45 1, oA 7 (.new 359007 7 (.agg [(.int .i64 0), (.int .i64 0), (.int .i64 0), (.int .i64 0), (.int .i64 0), (.int .i64 0), .nils])), oN (.store 7 (.t 7) (.t 51)), oM 8 52]) (.seq (.reg [oM 53 8, oM 54 53, gF 55 54 true 0 7, gL 56 54 true 55, oG 57 54 true (.ibin .eql (.t 56) (.c (.int .i64 3))), oA 58 (.pick (.t 54) (.t 57) (.c (.bool false))), oM 59 58, oG 60 59 true (.load (some 7) (.t 7)), ⟨(some 61), (some (59, true)), (.call (.c (.fn 10 [])) [(.t 60), (.c (.int .i64 0))])⟩, oA 62 (.pick (.t 59) (.t 61) (.c (.bool false))), oM 63 62, oG 64 63 true (.load (some 7) (.t 7)), ⟨(some 65), (some (63, true)), (.call (.c (.fn 10 [])) [(.t 64), (.c (.int .i64 1))])⟩, oG 66 63 true (.not (.t 65)), oA 67 (.pick (.t 63) (.t 66) (.c (.bool false))), oM 68 67, ⟨(some 69), (some (68, true)), (.call (.c (.fn 8 [])) [])⟩, oA 70 (.pick (.t 68) (.t 69) (.c (.bool false))), oM 4 70]) .ret)))))
set_option maxRecDepth 100000 in
theorem wsums_get : getF Tryz.prog 6 359000 [] = some ("gavotte/gavottetop.TopSums", 71, wsums_c, [(.tmp 4)]) := by kernel_rfl
open Go.RowKit
theorem sum_ok (a b : Int) (ha : I64 a) (hb : I64 b) : Ok64 (tkN (sumC a b)) /\ (tkN (sumC a b)).length <= 6000 := by
 have e : tkN (sumC a b) = [1, 0, 4, 1, a, 1, b, 9, 0, 6, 0, 1, 1, 0, 2, -1, 0, 1, 0, 0, 0, 9, 2, 5, 31, 0, 1, a, 10, 0, 1, b, 10, 0, 7, 1, a, 1, b, 11, 0, 1, b, 1, a, 11, 0, 15, 0, 0, 0, 0, 0, 1, 1] := rfl
 rw [e]
 have hl : ∀ n : Int, -1 <= n -> n <= 100 -> I64 n := fun n h1 h2 => ⟨by omega, by omega⟩
 refine ⟨⟨fun n hn => ?_, by simp⟩, by simp⟩
 simp only [List.mem_cons, List.not_mem_nil, or_false] at hn
 by_cases h1 : n = a
 . rw [h1]; exact ha
 by_cases h2 : n = b
 . rw [h2]; exact hb
 exact hl n (by omega) (by omega)
theorem rp_ok (a b : Int) : Ok64 (rpN 1 2 0 0 (sumPa a b)) /\ (sumPa a b).length <= 64 := by
 have hl : ∀ n : Int, -1 <= n -> n <= 100 -> I64 n := fun n h1 h2 => ⟨by omega, by omega⟩
 unfold sumPa
 split
 . refine ⟨⟨fun n hn => hl n ?_ ?_, by decide⟩, by decide⟩ <;> (simp [rpN, paN] at hn; omega)
 . refine ⟨⟨fun n hn => hl n ?_ ?_, by decide⟩, by decide⟩ <;> (simp [rpN, paN, evN, sumE] at hn; omega)
theorem sum_task (a b : Int) (ha : I64 a) (hb : I64 b) : PC Tryz.prog 9 [(sumC a b).av] (rep1 1 2 0 0 (sumPa a b)) := by
 have hc : COk (sumC a b) := ⟨sum_wc a b, sum_fl a b, by kernel_rfl, by kernel_rfl, fun x hx i hi => by
   have e : x = sumX a b \/ x = sumY a b := by simpa [sumC] using hx
   have h1 := ha.2
   have h2 := hb.2
   rcases e with rfl | rfl
   . simp [sumX] at hi; rcases hi with rfl | rfl | rfl | rfl | rfl <;> simp <;> omega
   . simp [sumY] at hi; rcases hi with rfl | rfl | rfl | rfl | rfl | rfl | rfl <;> simp <;> omega, by simp [sumC, sumP], by simp [sumC, sumP], by simp [sumC, sumP], by simp [sumC, sumP]⟩
 have h := task_pc put_all (sumC a b) hc (fun f w => treeB (sumC a b) f w = true) (fun e => e.kind = 1) (sok put_all (sumC a b) (by simp [sumC]) (by simp [sumC])) (sum_tree a b)
 rw [sum_run] at h
 exact h
theorem wbytes_pc (a b : Int) (ha : I64 a) (hb : I64 b) : PC Tryz.prog 23 [.lst 1 (lit4 71 65 86 49 ++ encA (tkN (sumC a b)))] (.lst 1 (lit4 71 65 86 82 ++ encA (rpN 1 2 0 0 (sumPa a b)))) := by
 obtain ⟨h1, h2⟩ := sum_ok a b ha hb
 obtain ⟨h3, h4⟩ := rp_ok a b
 have hd := wdec_pc (sumC a b) h1 h2
 have ht := sum_task a b ha hb
 have he := wrenc_pc 1 2 0 0 (by decide) (by decide) (by decide) (by decide) (sumPa a b) h4 h3
 refine pc_of_get wbytes_get (by simp) _ (by simp) _ ?_
 unfold wbytes_c
 generalize encA (tkN (sumC a b)) = X at *
 generalize encA (rpN 1 2 0 0 (sumPa a b)) = Y at *
 generalize sumPa a b = pa at *
 generalize sumC a b = c at *
 simp
 refine call hd (by simp) ?_
 simp [Cfg.av, watchesAv]
 refine call ht (by simp [Cfg.av, watchesAv]) ?_
 simp [rep1]
 refine call he (by simp [rep1]) ?_
 simp
theorem wasked_pc (a b : Int) (ha : I64 a) (hb : I64 b) : PC Tryz.prog 14 [(sumC a b).av] (.tup [rep1 1 2 0 0 (sumPa a b), .bool true]) := by
 obtain ⟨h1, h2⟩ := sum_ok a b ha hb
 obtain ⟨h3, h4⟩ := rp_ok a b
 have hb' := wbytes_pc a b ha hb
 have he := wenc_pc (sumC a b) h1 h2
 have hr := wrdec_pc 1 2 0 0 (by decide) (by decide) (by decide) (by decide) (sumPa a b) h4 h3
 refine pc_of_get wasked_get (by simp) _ (by simp) _ ?_
 unfold wasked_c
 generalize encA (tkN (sumC a b)) = X at *
 generalize encA (rpN 1 2 0 0 (sumPa a b)) = Y at *
 generalize sumPa a b = pa at *
 generalize sumC a b = c at *
 simp [Cfg.av, watchesAv]
 refine call he (by simp [Cfg.av, watchesAv]) ?_
 simp
 refine call hb' (by simp) ?_
 simp
 refine call hr (by simp) ?_
 simp [rep1]
theorem sums_pc (a b : Int) (ha : I64 a) (hb : I64 b) : PC Tryz.prog 6 [iv a, iv b] (.bool true) := by
 have hq := wasked_pc a b ha hb
 have hf0 := wfound_pc 3 0 1 2 0 0 [⟨0, sumPa a b⟩] (by simp) 0
 have hf1 := wfound_pc 3 0 1 2 0 0 [⟨0, sumPa a b⟩] (by simp) 1
 generalize sumPa a b = pa at *
 refine pc_of_get wsums_get (by simp) _ (by simp) _ ?_
 unfold wsums_c
 simp
 refine callC hq 3 ?_ ?_
 . simp [sumC, sumP, sumX, sumY, Cfg.av, watchesAv, elemR, coL, dco, Hnd.av, Actr.av, Nt.av, ints]
 simp [rep1]
 refine call hf0 (by simp [Fnd.av]) ?_
 simp
 refine call hf1 (by simp [Fnd.av]) ?_
 simp
 refine call awake_pc (by simp) ?_
 simp
theorem i64_of {n : Int} (h : (Go.Lit.int .i64 n).wf = true) : I64 n := by
 simpa [I64, Lit.wf, IntKind.min, IntKind.max, IntKind.signed, IntKind.bits] using h
theorem sums_rc (a : Int) (ya : (Go.Lit.int .i64 a).wf = true) (b : Int) (yb : (Go.Lit.int .i64 b).wf = true) : PC Tryz.prog 6 [iv a, iv b] (.bool true) :=
 sums_pc a b (i64_of ya) (i64_of yb)
end Go.Gv
