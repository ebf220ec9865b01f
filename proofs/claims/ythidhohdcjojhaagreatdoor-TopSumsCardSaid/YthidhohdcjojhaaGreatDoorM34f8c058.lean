/- Texts of this proof, one behind the other. What is proved, and on which conditions, stands ahead of each. -/
import Derived.Test.YthidhohdcjojhaaGreatDoorProg
import Derived.Test.YthidhohdcjojhaaGreatDoorM372229d
import Derived.Test.YthidhohdcjojhaaGreatDoorM286094c6
import Derived.Test.YthidhohdcjojhaaGreatDoorM170220fe
import Derived.Test.YthidhohdcjojhaaGreatDoorM192658a4
import Derived.Test.YthidhohdcjojhaaGreatDoorM224751cf

set_option linter.unusedVariables false
set_option linter.unusedSimpArgs false
namespace Go.Gv
open Go.Proofs
open Go.RowKit
theorem args3 {args : Array Value} (h : args.size = 3) : ∃ a b c, args = #[a, b, c] := by
 refine ⟨args[0], args[1], args[2], ?_⟩
 apply Array.ext
 . simp [h]
 . intro i h1 h2
   match i, h1 with
   | 0, _ => rfl
   | 1, _ => rfl
   | 2, _ => rfl
   | i + 3, h1 => omega
theorem HConc.inBlk' {E : Env} {B : Nat} {h : Hp} {w : World} (H : HConc E B h w) {nm : Nat} {b : Blk} (hb : h.blk nm = some b) (es : List AV) (cur cur' : Array Value) (e : TypeId)
   (hg : w.heap[(E.m b.st).1]? = some (.cells cur e (0, 0))) (hel : ∀ x ∈ es, ElemOk b.sz x) (hlen : es.length <= E.cp b.st) (hsz : cur'.size = cur.size) (hr : RowAt E b.sz (E.m b.st).2 es cur') :
   HConc E B (h.setB nm (some ⟨b.st, b.sz, es⟩)) (w.setRow (E.m b.st).1 cur') := by
 obtain ⟨hs0, hbk⟩ := (H.bk nm b hb).rc hg
 have hbu := H.bu nm b hb
 have H1 : HConc E B (h.setB nm none) (w.setRow (E.m b.st).1 cur') := by
   refine (H.dropB nm).change ?_ ?_ ?_
   . intro b' o v hk
     have hne : b' ≠ (E.m b.st).1 := fun q => by rw [q, hbk.noK o] at hk; cases hk
     rw [cell_setRow_other w _ _ _ hne]
     exact H.K b' o v hk
   . intro n b' hb'
     have : n ≠ nm /\ h.blk n = some b' := by
       simp only [Hp.setB, upd] at hb'
       split at hb'
       . cases hb'
       . rename_i q; exact ⟨q, hb'⟩
     exact setRow_other w _ _ _ (H.bb n nm b' b this.1 this.2 hb)
   . intro n t g ht hg'
     exact setRow_other w _ _ _ (fun q => H.bt nm n b t hb ht (by rw [hg', q]))
 refine H1.putB ⟨b.st, b.sz, es⟩ hbu (.row hs0 ⟨hbk.base, hel, hlen, ?_, hbk.noK⟩) (fun n b' hn hb' => by have := H.bb n nm b' _ hn hb' hb; exact this) (fun n t' ht' => by have := H.bt nm n _ t' hb ht'; exact this)
 obtain ⟨cur0, e0, hg0, hs0, _⟩ := hbk.row
 rw [hg] at hg0
 cases hg0
 exact ⟨cur', e, setRow_heap w _ cur _ e _ hg, by rw [hsz]; exact hs0, hr⟩
set_option maxHeartbeats 1000000 in
theorem ins_mid (nm st : Nat) (xs : List AV) (x : AV) (nm2 st2 i : Nat) (hi : i < xs.length) (hl : xs.length <= 1000000) (hx : ElemOk 6 x) (hxc : x.cells.all AV.cl1 = true) {S : St} {k : AV -> St -> Prop} {u : Dep k} (hb : S.blk nm = some ⟨st, 6, xs⟩) (ht : S.tok nm2 = some ⟨st2, 6, 179⟩)
   (hk : ∀ S' v, S'.t = S.t -> S.clk <= S'.clk -> (∀ n, n ≠ nm -> S'.blk n = S.blk n) -> S'.tok = S.tok -> MutIs S' nm 6 v (xs.take i ++ [x] ++ xs.drop i) -> k v S') :
   CallG Tryz.prog (.fn 212 []) [.sl nm st 6 0 xs.length, iv i, .acc nm2 st2 6 [x]] S k u := by
 refine ⟨212, [], rfl, entersF 212 _ Tryz.func212 (by kernel_rfl) (by kernel_rfl), fun E B W w args H hW hG hu hsz hrel => ?_⟩
 have hB' : B <= w.heap.size := Nat.le_trans hG.le hW.size
 obtain ⟨v0, v1, v2, rfl⟩ := args3 (by simpa using hsz)
 have r0 := hrel 0 _ v0 rfl rfl
 obtain rfl := rel_int (hrel 1 _ v1 rfl rfl)
 have r2 := hrel 2 _ v2 rfl rfl
 have hb' : S.h.blk nm = some ⟨st, 6, xs⟩ := hb
 have hbk := (H.bk nm _ hb').r (by simp)
 obtain ⟨cur, ty, hh, hszr, hr⟩ := hbk.row
 have hrow : RowAt E 6 (E.m st).2 xs cur := hr
 simp only at hh hszr
 obtain ⟨a, c, news, rfl, hnl, hel, hn1, hspot, hnr⟩ := srcM_of H r0 (sz := 6) (ys := xs) (by simp [listM, getB, hb'])
 obtain ⟨a2, c2, vs, rfl, hvl, hel2, hv1, hspot2, hvr⟩ := srcM_of H r2 (sz := 6) (ys := [x]) (by simp [listM, listOf])
 obtain ⟨hnc, hcc, hcm, ha⟩ : xs.length <= c /\ 0 + c <= E.cp st /\ c <= maxLen /\ (0 < c -> a = some ⟨(E.m st).1, (E.m st).2 + 0 * 6, none⟩) := by
   cases r0 with
   | sl _ _ _ _ _ _ _ _ h1 h2 h3 => exact ⟨h1, h2, by assumption, h3⟩
 obtain rfl := ha (by omega)
 obtain ⟨hE2, hu2⟩ : Value.slice a2 [x].length c2 = E.hd st2 /\ E.u st2 := by
   cases r2 with
   | acc _ _ _ _ _ h1 h2 _ => exact ⟨h2, h1⟩
 obtain ⟨n2, cs2, ⟨_, hown⟩, _⟩ := H.tk nm2 _ ht
 have hbt := H.bt nm nm2 _ _ hb' ht
 simp only at hown hbt
 rw [<- hE2] at hown hbt
 obtain ⟨g, cap2, cur2, hv2, hg2, hh2⟩ : ∃ g cap cur, Value.slice a2 [x].length c2 = .slice (some ⟨g, 0, none⟩) n2 cap /\ B <= g /\ w.heap[g]? = some (.cells cur 179 (0, 0)) := by
   rcases hown with ⟨h, _⟩ | ⟨g, cap, cur, fz, h1, h2, h3, h4, _⟩
   . cases h
   . obtain rfl : fz = (0, 0) := h4.elim id fun q => by cases q.1
     exact ⟨g, cap, cur, h1, h2, h3⟩
 obtain ⟨rfl, _, rfl⟩ : a2 = some ⟨g, 0, none⟩ /\ [x].length = n2 /\ c2 = cap2 := by cases hv2; exact ⟨rfl, rfl, rfl⟩
 have hgb : g ≠ (E.m st).1 := fun q => hbt (by simp [Value.ownBlock, q])
 have hsrc : ∀ (j : Nat) (v : Value), news[j]? = some v -> cur[(E.m st).2 + j]? = some v := by
   intro j v hj
   rcases hspot with ⟨h, _⟩ | ⟨ad, h, hc⟩
   . cases h
   . cases h
     have := hc j v hj
     rw [Addr.add_lit, cell_row hh] at this
     simpa using this
 have hsrc2 : ∀ (j : Nat) (v : Value), vs[j]? = some v -> w.cell? ⟨g, 0 + j, none⟩ = some v := by
   intro j v hj
   rcases hspot2 with ⟨h, _⟩ | ⟨ad, h, hc⟩
   . cases h
   . cases h
     have := hc j v hj
     rwa [Addr.add_lit] at this
 have hvl' : vs.length = 6 := by rw [hvl]; rfl
 have hel3 : ∀ y ∈ xs.drop i, ElemOk 6 y := fun y hy => hbk.el y (List.mem_of_mem_drop hy)
 have hel4 : ∀ y ∈ [x], ElemOk 6 y := fun y hy => by rw [List.mem_singleton.1 hy]; exact hx
 have hdl : (news.drop (i * 6)).length = (xs.drop i).length * 6 := by rw [List.length_drop, List.length_drop, hnl, Nat.sub_mul]
 have hdl2 : (news.drop (i * 6)).length = (xs.length - i) * 6 := by rw [hdl, List.length_drop]
 have hdr : ∀ (m : Nat) (y : AV), (xs.drop i)[m]? = some y -> ∀ (j : Nat) (z : AV), y.cells[j]? = some z -> ∃ v, (news.drop (i * 6))[m * 6 + j]? = some v /\ Rel E z v := by
   intro m y hy j z hz
   rw [List.getElem?_drop] at hy
   obtain ⟨v, q1, q2⟩ := hnr (i + m) y hy j z hz
   refine ⟨v, ?_, q2⟩
   rw [List.getElem?_drop, <- q1]
   congr 1
   omega
 have hes : ∀ L : List AV, L = xs.take (i + 1) ++ xs.drop i ++ xs.drop (i + 1 + (xs.drop i).length) -> L.take i ++ [x] ++ L.drop (i + [x].length) = xs.take i ++ [x] ++ xs.drop i := by
   rintro L rfl
   have e0 : xs.drop (i + 1 + (xs.drop i).length) = [] := List.drop_eq_nil_of_le (by rw [List.length_drop]; omega)
   have e1 : (xs.take (i + 1)).length = i + 1 := by rw [List.length_take]; omega
   rw [e0, List.append_nil, List.take_append_of_le_length (by rw [e1]; omega), List.take_take, Nat.min_eq_left (by omega)]
   congr 1
   rw [List.drop_append_of_le_length (by rw [e1]; simp), List.drop_eq_nil_of_le (by rw [e1]; simp), List.nil_append]
 have hesl : (xs.take i ++ [x] ++ xs.drop i).length = xs.length + 1 := by simp; omega
 have hesel : ∀ y ∈ xs.take i ++ [x] ++ xs.drop i, ElemOk 6 y := by
   intro y hy
   simp only [List.mem_append] at hy
   rcases hy with (q | q) | q
   . exact hbk.el y (List.mem_of_mem_take q)
   . exact hel4 y q
   . exact hel3 y q
 have hcells : xs.length * 6 <= E.cp st * 6 := Nat.mul_le_mul_right _ hbk.len
 by_cases hroom : xs.length + 1 <= c
 . have hc6 : (xs.length + 1) * 6 <= E.cp st * 6 := Nat.mul_le_mul_right _ (by omega)
   have hcon := ins_shift (E.m st).1 (E.m st).2 xs.length c i g 0 c2 (news.drop (i * 6)) vs cur ty w hi hroom (by simp only [maxLen] at hcm; omega) hgb hh hdl2 hvl' (by omega)
     (fun j v hj => by rw [List.getElem?_drop] at hj; rw [Nat.add_assoc]; exact hsrc _ v hj) hsrc2 (fun v hv => hn1 v (List.mem_of_mem_drop hv)) hv1
     179 ty cur2.size cur.size (by simp [World.shape?, hh2]) (by simp [World.shape?, hh]) (by omega) (by simp [World.frozen?, hh2]) (by simp [World.frozen?, hh2])
   refine hcon.mono ?_
   rintro e w' ⟨rfl, rfl⟩
   obtain ⟨q1, q2⟩ := hrow.splice (i + 1) (by omega) hbk.el hel3 hdl hdr (by rw [hdl2]; omega)
   obtain ⟨q3, q4⟩ := q2.splice (p := i) (by simp; omega) (by
     intro y hy
     simp only [List.mem_append] at hy
     rcases hy with (q | q) | q
     . exact hbk.el y (List.mem_of_mem_take q)
     . exact hel3 y q
     . exact hbk.el y (List.mem_of_mem_drop q)) hel4 hvl hvr (by rw [q1, hvl']; omega)
   rw [hes _ rfl] at q4
   have Hd : HConc E B S.h w.drew := H.change H.K (fun _ _ _ => rfl) (fun _ _ _ _ _ => rfl)
   have H' := HConc.inBlk' Hd hb' (xs.take i ++ [x] ++ xs.drop i) cur _ ty hh hesel (by rw [hesl]; simp only []; omega) (q3.trans q1) q4
   refine ⟨_, E, .sl nm st 6 0 (xs.length + 1), ⟨S.t, upd S.blk nm (some ⟨st, 6, xs.take i ++ [x] ++ xs.drop i⟩), S.tok, S.clk⟩, rfl, .refl E, H', Below.row hW.drew hbk.base _, fun _ _ _ => rfl, fun s hs => ⟨.inl hs, hu s hs⟩, Nat.le_refl _, rfl, ?_, ?_⟩
   . exact .sl nm st 6 0 (xs.length + 1) c _ (H.bu nm _ hb') hroom hcc (fun _ => by simp)
   . exact hk _ _ rfl (Nat.le_refl _) (fun n hn => by simp [hn]) rfl (.inr ⟨st, by rw [hesl], by simp⟩)
 . have hcx : c = xs.length := by omega
   have hcon := ins_grow (E.m st).1 (E.m st).2 xs.length c i g 0 c2 (news.take (i * 6)) (news.drop (i * 6)) vs w hi (by omega) hl hnc (by rw [List.length_take, hnl]; have : i * 6 <= xs.length * 6 := Nat.mul_le_mul_right _ (by omega); omega) hdl2 hvl'
     (fun j v hj => by
       rw [cell_row hh]
       rw [List.getElem?_take] at hj
       split at hj
       . exact hsrc _ v hj
       . cases hj) (fun j v hj => by rw [cell_row hh]; rw [List.getElem?_drop] at hj; rw [Nat.add_assoc]; exact hsrc _ v hj) hsrc2 (fun v hv => hn1 v (List.mem_of_mem_drop hv)) hv1
   refine hcon.mono ?_
   rintro e w' ⟨ROW, G, hGn, hGm, hRs, hR0, rfl, rfl⟩
   have hr0 : RowAt E 6 0 (xs.take i) ROW := by
     intro m y hy j z hz
     have hm : m < i := by have := (List.getElem?_eq_some_iff.1 hy).1; rw [List.length_take] at this; omega
     rw [List.getElem?_take, if_pos hm] at hy
     obtain ⟨v, p1, p2⟩ := hnr m y hy j z hz
     have hj : j < 6 := by
       have h6 : y.cells.length = 6 := (hbk.el y (List.mem_of_getElem? hy)).1
       rw [<- h6]; exact (List.getElem?_eq_some_iff.1 hz).1
     have e0 : 0 + m * 6 + j = m * 6 + j := by omega
     refine ⟨v, ?_, p2⟩
     rw [e0]
     refine hR0 _ v ?_
     rw [List.getElem?_take, if_pos (by omega)]
     exact p1
   have el0 : ∀ y ∈ xs.take i, ElemOk 6 y := fun y hy => hbk.el y (List.mem_of_mem_take hy)
   have hG6 : (xs.length + 1) * 6 <= G * 6 := Nat.mul_le_mul_right _ hGn
   have htl : (xs.take i).length = i := by rw [List.length_take]; omega
   obtain ⟨q1, q2⟩ := hr0.splice i (by rw [htl]; exact Nat.le_refl _) el0 hel4 hvl hvr (by rw [hvl', hRs]; omega)
   have hLe : (xs.take i).take i ++ [x] ++ (xs.take i).drop (i + [x].length) = xs.take i ++ [x] := by
     rw [List.drop_eq_nil_of_le (by rw [htl]; simp), List.append_nil, List.take_of_length_le (by rw [htl]; exact Nat.le_refl _)]
   rw [hLe] at q2
   obtain ⟨q3, q4⟩ := q2.splice (p := i + 1) (by simp [htl]) (by
     intro y hy
     rcases List.mem_append.1 hy with q | q
     . exact el0 y q
     . exact hel4 y q) hel3 hdl hdr (by rw [q1, hdl2, hRs]; omega)
   have hL2 : (xs.take i ++ [x]).take (i + 1) ++ xs.drop i ++ (xs.take i ++ [x]).drop (i + 1 + (xs.drop i).length) = xs.take i ++ [x] ++ xs.drop i := by
     have e1 : (xs.take i ++ [x]).drop (i + 1 + (xs.drop i).length) = [] := List.drop_eq_nil_of_le (by simp; omega)
     have e2 : (xs.take i ++ [x]).take (i + 1) = xs.take i ++ [x] := List.take_of_length_le (by simp; omega)
     rw [e1, e2, List.append_nil]
   rw [hL2] at q4
   have hst : ¬ E.u S.clk := fun q => by have := hu _ q; omega
   obtain ⟨R, hR⟩ : ∃ R, R = spl (spl ROW (i * 6) vs) ((i + 1) * 6) (news.drop (i * 6)) := ⟨_, rfl⟩
   have hRe : R.size = G * 6 /\ RowAt E 6 0 (xs.take i ++ [x] ++ xs.drop i) R := by
     rw [hR]
     simp only [Nat.zero_add] at q1 q2 q3 q4
     exact ⟨(q3.trans q1).trans hRs, q4⟩
   rw [<- hR]
   have H1 := (H.dropB nm).newRow hB' nm S.clk 6 (by simp) hst (xs.take i ++ [x] ++ xs.drop i) R 179 hesel G (by rw [hesl]; exact hGn) (by rw [hRe.1]; exact Nat.le_refl _) (fun m y hy j z hz => by
     have := hRe.2 m y hy j z hz
     simpa using this)
   have hnew : (((w.alloc (.cells ROW 179)).drew.setRow w.heap.size (spl ROW (i * 6) vs)).drew.setRow w.heap.size R).heap[w.heap.size]? = some (.cells R 179 (0, 0)) := by
     refine setRow_heap _ _ (spl ROW (i * 6) vs) R _ _ ?_
     show ((w.alloc (.cells ROW 179)).drew.setRow w.heap.size (spl ROW (i * 6) vs)).heap[w.heap.size]? = _
     exact setRow_heap _ _ ROW _ _ _ (heap_alloc_new w _)
   have hsame : ∀ g' : Nat, (((w.alloc (.cells ROW 179)).drew.setRow w.heap.size (spl ROW (i * 6) vs)).drew.setRow w.heap.size R).heap[g']? = (w.alloc (.cells R 179)).heap[g']? := by
     intro g'
     by_cases hq : g' = w.heap.size
     . subst hq
       rw [hnew]
       exact (heap_alloc_new w _).symm
     . rw [setRow_other _ _ _ _ hq]
       show ((w.alloc (.cells ROW 179)).drew.setRow w.heap.size (spl ROW (i * 6) vs)).heap[g']? = _
       rw [setRow_other _ _ _ _ hq]
       show (w.alloc (.cells ROW 179)).heap[g']? = _
       show (w.heap.push _)[g']? = (w.heap.push _)[g']?
       rw [Array.getElem?_push, Array.getElem?_push, if_neg hq, if_neg hq]
   have H2 := H1.change (w' := ((w.alloc (.cells ROW 179)).drew.setRow w.heap.size (spl ROW (i * 6) vs)).drew.setRow w.heap.size R) (fun b o v q => by
     have := H1.K b o v q
     simp only [World.cell?, hsame] at this ⊢
     exact this) (fun _ _ _ => hsame _) (fun _ _ _ _ _ => hsame _)
   refine ⟨_, _, .sl nm S.clk 6 0 (xs.length + 1), ⟨S.t, upd S.blk nm (some ⟨S.clk, 6, xs.take i ++ [x] ++ xs.drop i⟩), S.tok, S.clk + 1⟩, rfl, Env.le_withM hst (w.heap.size, 0) G, ?_, ?_, fun _ _ _ => rfl, fun s hs => ?_, Nat.le_succ _, rfl, ?_, ?_⟩
   . have e0 : (S.h.setB nm none).setB nm (some ⟨S.clk, 6, xs.take i ++ [x] ++ xs.drop i⟩) = S.h.setB nm (some ⟨S.clk, 6, xs.take i ++ [x] ++ xs.drop i⟩) := by
       simp only [Hp.setB]
       congr 1
       funext n
       simp only [upd]
       split <;> rfl
     rw [e0] at H2
     exact H2
   . exact Below.row ((Below.row ((hW.alloc hB' _).drew) hB' _).drew) hB' _
   . rcases hs with q | q
     . subst q; exact ⟨.inr (Nat.le_refl _), Nat.lt_succ_self _⟩
     . exact ⟨.inl q, Nat.lt_succ_of_lt (hu s q)⟩
   . have em : (E.withM S.clk (w.heap.size, 0) G).m S.clk = (w.heap.size, 0) := upd_same _ _ _
     have ec : (E.withM S.clk (w.heap.size, 0) G).cp S.clk = G := upd_same _ _ _
     exact .sl nm S.clk 6 0 (xs.length + 1) G _ (.inl rfl) hGn (by rw [ec]; omega) (fun _ => by rw [em])
   . exact hk _ _ rfl (Nat.le_succ _) (fun n hn => by simp [hn]) rfl (.inr ⟨S.clk, by rw [hesl], by simp⟩)
end Go.Gv

namespace Go.Gv
open Go.Proofs
open Go.RowKit Go.Lib Go.Proofs
theorem sizeI : (Tryz.prog.info? 49).map (·.size) = some 2 := by kernel_rfl
set_option maxHeartbeats 4000000 in
set_option maxRecDepth 100000 in
theorem repl_raw (b off n c i m vb voff vc : Nat) (cs vs : List Value) (cur : Array Value) (ty : TypeId) (w : World) (hm : 0 < m) (hj : i + m < n) (hnc : n <= c) (hc63 : c <= 9223372036854775807) (hvb : vb ≠ b)
   (hg : w.heap[b]? = some (.cells cur ty (0, 0))) (hcl : cs.length = (n - (i + m)) * 2) (hvl : vs.length = m * 2) (hfit : off + n * 2 <= cur.size)
   (hcs : ∀ j v, cs[j]? = some v -> cur[off + (i + m) * 2 + j]? = some v)
   (hvs : ∀ j v, vs[j]? = some v -> w.cell? ⟨vb, voff + j, none⟩ = some v) (h1c : ∀ v ∈ cs, v.oneCell' = true) (h1v : ∀ v ∈ vs, v.oneCell' = true) :
   Calls Tryz.prog 53 #[.slice (some ⟨b, off, none⟩) n c, .int .i64 i, .int .i64 ((i : Int) + m), .slice (some ⟨vb, voff, none⟩) m vc] w fun e w' =>
     e = .returned (.slice (some ⟨b, off, none⟩) n c) /\ w' = w.drew.drew.setRow b (spl (spl cur (off + i * 2) vs) (off + (i + m) * 2) cs) := by
 have hu := Tryz.underlying50
 have mixed : Tryz.prog.follows .mixedOrders = true := by kernel_rfl
 have hz1 : ¬ ((i : Int) = (i : Int) + m) := by omega
 have hz2 : ¬ ((i : Int) + m = (n : Int)) := by omega
 have hgd : w.drew.heap[b]? = some (.cells cur ty (0, 0)) := hg
 have hcp1 : ∀ ty' dc, (Builtin.copy_ #[50, 50] ty' #[.slice (some ⟨b, off + i * 2, none⟩) (n - i) dc, .slice (some ⟨vb, voff, none⟩) m vc]).run Tryz.prog w.drew = .ok (goInt (m : Int)) (w.drew.setRow b (spl cur (off + i * 2) vs)) := fun ty' dc => by
   have hmn : Nat.min m (n - i) = m := by simp only [Nat.min_def]; split <;> omega
   have h := run_copy_rowK (P := Tryz.prog) 2 w.drew 50 50 ty' 49 b (off + i * 2) (n - i) dc ⟨vb, voff, none⟩ m vc cur ty vs hu sizeI hgd (by rw [hmn]; exact hvl)
     (fun j v hj => by rw [Addr.add_lit]; exact hvs j v hj) (by rw [hvl]; omega) h1v
   rw [hmn] at h
   exact h
 obtain ⟨cur1, hc1⟩ : ∃ cur1, cur1 = spl cur (off + i * 2) vs := ⟨_, rfl⟩
 have hs1 : cur1.size = cur.size := by rw [hc1]; exact spl_size _ _ _ (by rw [hvl]; omega)
 have hcs1 : ∀ j v, cs[j]? = some v -> cur1[off + (i + m) * 2 + j]? = some v := fun j v hj => by
   rw [hc1]
   unfold spl
   rw [List.getElem?_toArray, List.append_assoc, List.getElem?_append_right (by rw [List.length_take]; omega), List.getElem?_append_right (by rw [List.length_take, hvl]; omega), List.getElem?_drop]
   have := hcs j v hj
   rw [<- this]
   simp only [List.length_take, hvl, Array.getElem?_toList, Array.length_toList]
   congr 1
   omega
 rw [<- hc1] at hcp1 ⊢
 obtain ⟨W1, hW1⟩ : ∃ W1, W1 = w.drew.setRow b cur1 := ⟨_, rfl⟩
 have hg1 : W1.drew.heap[b]? = some (.cells cur1 ty (0, 0)) := by rw [hW1]; exact setRow_heap w.drew b cur cur1 ty _ hgd
 have hcp2 : ∀ ty' dc sc, (Builtin.copy_ #[50, 50] ty' #[.slice (some ⟨b, off + (i + m) * 2, none⟩) (n - (i + m)) dc, .slice (some ⟨b, off + (i + m) * 2, none⟩) (n - (i + m)) sc]).run Tryz.prog W1.drew = .ok (goInt ((n - (i + m) : Nat) : Int)) (W1.drew.setRow b (spl cur1 (off + (i + m) * 2) cs)) := fun ty' dc sc => by
   have hmn : Nat.min (n - (i + m)) (n - (i + m)) = n - (i + m) := by simp only [Nat.min_def]; split <;> omega
   have h := run_copy_rowK (P := Tryz.prog) 2 W1.drew 50 50 ty' 49 b (off + (i + m) * 2) (n - (i + m)) dc ⟨b, off + (i + m) * 2, none⟩ (n - (i + m)) sc cur1 ty cs hu sizeI hg1 (by rw [hmn]; exact hcl)
     (fun j v hj => by rw [Addr.add_lit, cell_row hg1]; exact hcs1 j v hj) (by rw [hcl, hs1]; omega) h1c
   rw [hmn] at h
   exact h
 rw [<- hW1] at hcp1
 have hfin : W1.drew.setRow b (spl cur1 (off + (i + m) * 2) cs) = w.drew.drew.setRow b (spl cur1 (off + (i + m) * 2) cs) := by rw [hW1]; show (w.drew.drew.setRow b cur1).setRow b _ = _; rw [setRow_setRow]
 rw [<- hfin]
 clear hfin hg1 hgd hcs1 hW1 hs1 hc1
 have hw1 : IntKind.i64.wrap ((i : Int) + m) = (i : Int) + m := by rw [IntKind.wrap_i64]; omega
 have hb1 : (0 : Int) <= (i : Int) + m := by omega
 have hin : i <= n := by omega
 have hcne : ¬ (c = i + m) := by omega
 have hcni : ¬ (c = i) := by omega
 have htn : ((i : Int) + m).toNat = i + m := by omega
 have hle : (i : Int) + m <= (n : Int) := by omega
 have htot : (i : Int) + m + ((n - (i + m) : Nat) : Int) = (n : Int) := by omega
 have hw2 : IntKind.i64.wrap ((i : Int) + m + ((n - (i + m) : Nat) : Int)) = (n : Int) := by rw [htot, IntKind.wrap_i64]; omega
 have hclr : ∀ a cap W, (Builtin.clear_ #[50] 0 #[.slice a 0 cap]).run Tryz.prog W = .ok (.tuple #[]) W := fun a cap W => by
   cases a <;> simp [Builtin.clear_, run_underlying hu]
 go_enter Tryz.func53, Tryz.ntmps53
 go_wp2
 go_region
 go_wp2_with (at_builtin; refine wpList_copy_runI _ rfl _ _ 50 50 rfl _ _ rfl rfl (hcp1 _ _) ?_)
 go_region_law_o (refine step_copy_runI rfl _ _ 50 50 rfl _ _ (by simp [Act.eval, Act.put]) (by simp [Act.eval, Act.put]) (hcp2 _ _ _) ?_)
 go_wp2_with (simp only [hclr])
 all_goals (go_ret; exact ⟨rfl, rfl⟩)
theorem repl_v (nm st : Nat) (xs ys : List AV) (i : Nat) (hm : 0 < ys.length) (hj : i + ys.length < xs.length) (hl : xs.length <= 1000000) (v : AV) (hv : ∀ (E : Env) (u : Value), Rel E v u -> Rel E (.lst 2 ys) u) {S : St} {k : AV -> St -> Prop} {u : Dep k} (hb : S.blk nm = some ⟨st, 2, xs⟩)
   (hk : ∀ S', S'.t = S.t -> S'.tok = S.tok -> S.clk <= S'.clk -> (∀ n, n ≠ nm -> S'.blk n = S.blk n) -> S'.blk nm = some ⟨st, 2, xs.take i ++ ys ++ xs.drop (i + ys.length)⟩ -> k (.sl nm st 2 0 xs.length) S') :
   CallG Tryz.prog (.fn 53 []) [.sl nm st 2 0 xs.length, iv i, iv ((i : Int) + ys.length), v] S k u := by
 refine ⟨53, [], rfl, entersF 53 _ Tryz.func53 (by kernel_rfl) (by kernel_rfl), fun E B W w args H hW hG hu hsz hrel => ?_⟩
 have hB' : B <= w.heap.size := Nat.le_trans hG.le hW.size
 obtain ⟨v0, v1, v2, v3, rfl⟩ : ∃ a b c d, args = #[a, b, c, d] := by
   have h : args.size = 4 := by simpa using hsz
   refine ⟨args[0], args[1], args[2], args[3], ?_⟩
   apply Array.ext
   . simp [h]
   . intro i h1 h2
     match i, h1 with
     | 0, _ => rfl
     | 1, _ => rfl
     | 2, _ => rfl
     | 3, _ => rfl
     | i + 4, h1 => omega
 have r0 := hrel 0 _ v0 rfl rfl
 obtain rfl := rel_int (hrel 1 _ v1 rfl rfl)
 obtain rfl := rel_int (hrel 2 _ v2 rfl rfl)
 have r3 := hv E v3 (hrel 3 _ v3 rfl rfl)
 have hb' : S.h.blk nm = some ⟨st, 2, xs⟩ := hb
 have hbk := (H.bk nm _ hb').r (by simp)
 obtain ⟨cur, ty, hh, hszr, hr⟩ := hbk.row
 have hrow : RowAt E 2 (E.m st).2 xs cur := hr
 simp only at hh hszr
 obtain ⟨a, c, news, rfl, hnl, hel, hn1, hspot, hnr⟩ := srcM_of H r0 (sz := 2) (ys := xs) (by simp [listM, getB, hb'])
 obtain ⟨a2, c2, vs, rfl, hvl, hel2, hv1, hspot2, hvr⟩ := srcM_of H r3 (sz := 2) (ys := ys) (by simp [listM, listOf])
 obtain ⟨hnc, hcc, hcm, ha⟩ : xs.length <= c /\ 0 + c <= E.cp st /\ c <= maxLen /\ (0 < c -> a = some ⟨(E.m st).1, (E.m st).2 + 0 * 2, none⟩) := by
   cases r0 with
   | sl _ _ _ _ _ _ _ _ h1 h2 h3 => exact ⟨h1, h2, by assumption, h3⟩
 obtain rfl := ha (by omega)
 obtain ⟨g, o2, rfl, hgK⟩ : ∃ g o, a2 = some ⟨g, o, none⟩ /\ ∃ z, E.K g o = some z := by
   generalize hq : Value.slice a2 ys.length c2 = q at r3
   cases r3 with
   | lst0 _ _ _ => simp at hm
   | lst _ b o _ cap f hcap hsz2 hk2 h12 hr2 =>
     cases hq
     obtain ⟨y, hy⟩ : ∃ y, ys[0]? = some y := ⟨_, List.getElem?_eq_getElem hm⟩
     exact ⟨b, o, rfl, _, by simpa using hk2 0 0 hm (by omega)⟩
 have hgb : g ≠ (E.m st).1 := fun q => by
   obtain ⟨z, hz⟩ := hgK
   rw [q, hbk.noK] at hz
   cases hz
 have hsrc : ∀ (j : Nat) (v : Value), news[j]? = some v -> cur[(E.m st).2 + j]? = some v := by
   intro j v hj
   rcases hspot with ⟨h, _⟩ | ⟨ad, h, hc⟩
   . cases h
   . cases h
     have := hc j v hj
     rw [Addr.add_lit, cell_row hh] at this
     simpa using this
 have hsrc2 : ∀ (j : Nat) (v : Value), vs[j]? = some v -> w.cell? ⟨g, o2 + j, none⟩ = some v := by
   intro j v hj
   rcases hspot2 with ⟨h, _⟩ | ⟨ad, h, hc⟩
   . cases h
   . cases h
     have := hc j v hj
     rwa [Addr.add_lit] at this
 have hel3 : ∀ y ∈ xs.drop (i + ys.length), ElemOk 2 y := fun y hy => hbk.el y (List.mem_of_mem_drop hy)
 have hdl : (news.drop ((i + ys.length) * 2)).length = (xs.drop (i + ys.length)).length * 2 := by rw [List.length_drop, List.length_drop, hnl, Nat.sub_mul]
 have hdl2 : (news.drop ((i + ys.length) * 2)).length = (xs.length - (i + ys.length)) * 2 := by rw [hdl, List.length_drop]
 have hdr : ∀ (m : Nat) (y : AV), (xs.drop (i + ys.length))[m]? = some y -> ∀ (j : Nat) (z : AV), y.cells[j]? = some z -> ∃ v, (news.drop ((i + ys.length) * 2))[m * 2 + j]? = some v /\ Rel E z v := by
   intro m y hy j z hz
   rw [List.getElem?_drop] at hy
   obtain ⟨v, q1, q2⟩ := hnr _ y hy j z hz
   refine ⟨v, ?_, q2⟩
   rw [List.getElem?_drop, <- q1]
   congr 1
   omega
 have hc2 : xs.length * 2 <= E.cp st * 2 := Nat.mul_le_mul_right _ (by omega)
 have hcon := repl_raw (E.m st).1 (E.m st).2 xs.length c i ys.length g o2 c2 (news.drop ((i + ys.length) * 2)) vs cur ty w hm hj hnc (by simp only [maxLen] at hcm; omega) hgb hh hdl2 hvl (by omega)
   (fun j v hj => by rw [List.getElem?_drop] at hj; rw [Nat.add_assoc]; exact hsrc _ v hj) hsrc2 (fun v hv => hn1 v (List.mem_of_mem_drop hv)) hv1
 refine hcon.mono ?_
 rintro e w' ⟨rfl, rfl⟩
 obtain ⟨q1, q2⟩ := hrow.splice i (by omega) hbk.el hel2 hvl hvr (by rw [hvl]; omega)
 have hL : (xs.take i ++ ys ++ xs.drop (i + ys.length)).length = xs.length := by simp; omega
 have helL : ∀ y ∈ xs.take i ++ ys ++ xs.drop (i + ys.length), ElemOk 2 y := by
   intro y hy
   simp only [List.mem_append] at hy
   rcases hy with (q | q) | q
   . exact hbk.el y (List.mem_of_mem_take q)
   . exact hel2 y q
   . exact hel3 y q
 obtain ⟨q3, q4⟩ := q2.splice (p := i + ys.length) (by rw [hL]; omega) helL hel3 hdl hdr (by rw [q1, hdl2]; omega)
 have hLe : (xs.take i ++ ys ++ xs.drop (i + ys.length)).take (i + ys.length) ++ xs.drop (i + ys.length) ++ (xs.take i ++ ys ++ xs.drop (i + ys.length)).drop (i + ys.length + (xs.drop (i + ys.length)).length) = xs.take i ++ ys ++ xs.drop (i + ys.length) := by
   have e1 : (xs.take i ++ ys).length = i + ys.length := by simp; omega
   rw [List.take_append_of_le_length (by rw [e1]; exact Nat.le_refl _), List.take_of_length_le (by rw [e1]; exact Nat.le_refl _)]
   have e2 : (xs.take i ++ ys ++ xs.drop (i + ys.length)).drop (i + ys.length + (xs.drop (i + ys.length)).length) = [] := List.drop_eq_nil_of_le (by rw [hL, List.length_drop]; omega)
   rw [e2, List.append_nil]
 rw [hLe] at q4
 have Hd : HConc E B S.h w.drew.drew := H.change H.K (fun _ _ _ => rfl) (fun _ _ _ _ _ => rfl)
 have H' := HConc.inBlk' Hd hb' (xs.take i ++ ys ++ xs.drop (i + ys.length)) cur _ ty hh helL (by rw [hL]; exact Nat.le_trans (by omega) hcc) (q3.trans q1) q4
 refine ⟨_, E, .sl nm st 2 0 xs.length, ⟨S.t, upd S.blk nm (some ⟨st, 2, xs.take i ++ ys ++ xs.drop (i + ys.length)⟩), S.tok, S.clk⟩, rfl, .refl E, H', Below.row (hW.drew.drew) hbk.base _, fun _ _ _ => rfl, fun s hs => ⟨.inl hs, hu s hs⟩, Nat.le_refl _, rfl, ?_, ?_⟩
 . exact .sl nm st 2 0 xs.length c _ (H.bu nm _ hb') hnc hcc (fun _ => by simp)
 . exact hk _ rfl rfl (Nat.le_refl _) (fun n hn => by simp [hn]) (by simp)
end Go.Gv

namespace Go.Gv
open Go.Proofs
def insE_c : AC := (.seq (.reg [oA 6 (.mv (.c .nils))]) (.seq (.reg [oM 10 0, oM 11 1, oA 12 (.slice (some 6) (.t 10) (some (.t 11)) none)]) (.seq (.reg [oM 13 2, oK 14 13, oM 7 14]) (.seq (.seq (.reg [oM 15 7, oZ 16 .eql 15 0]) (.cond (.t 16) (.seq (.reg [oM 17 0, oM 6 17]) .ret) .skip)) (.seq (.reg [oM 18 0, oK 19 18, oM 8 19]) (.seq (.seq (.reg [oM 20 1, oM 21 8, oB 22 .eql 20 21]) (.cond (.t 22) (.seq (.reg [oM 23 0, oM 24 2, oA 25 (.appw 1000275025 6 179 64 (.t 23) (.t 24)), oM 6 25]) .ret) .skip)) (.seq (.seq (.reg [oM 26 8, oM 27 7, oB 28 .add 26 27, oM 29 0, ⟨(some 30), none, (.op .bad)⟩, oB 31 .gtr 28 30]) (.cond (.t 31) (.seq (.reg [oM 32 0, oM 33 1, oA 34 (.slice (some 6) (.t 32) none (some (.t 33))), oM 35 8, oM 36 7, oB 37 .add 35 36, oM 38 1, oB 39 .sub 37 38, ⟨(some 40), none, (.op .bad)⟩, oM 9 40]) (.seq (.reg [oM 41 9, oM 42 1, oA 43 (.slice (some 6) (.t 41) (some (.t 42)) none), oM 44 2, oA 45 (.cpy 6 (.t 43) (.t 44))]) (.seq (.regd [oM 46 9, oM 47 1, oM 48 7, oB 49 .add 47 48, oA 50 (.slice (some 6) (.t 46) (some (.t 49)) none), oM 51 0, oM 52 1, oA 53 (.slice (some 6) (.t 51) (some (.t 52)) none), oA 54 (.cpy 6 (.t 50) (.t 53))] [[], [], [], [1, 2], [0, 3, 1, 2], [], [], [5, 6], [4, 7, 0, 3, 1, 2, 5, 6]]) (.seq (.reg [oM 55 9, oM 6 55]) .ret)))) .skip)) (.seq (.reg [oM 56 0, oM 57 8, oM 58 7, oB 59 .add 57 58, oA 60 (.slice (some 6) (.t 56) none (some (.t 59))), oM 0 60]) (.seq (.seq (.reg [oM 61 2, oM 62 0, oM 63 1, oM 64 7, oB 65 .add 63 64, oA 66 (.slice (some 6) (.t 62) (some (.t 65)) none), oC 67 (.c (.fn 234 [])) [(.t 61), (.t 66)], oA 68 (.not (.t 67))]) (.cond (.t 68) (.seq (.regd [oM 69 0, oM 70 1, oM 71 7, oB 72 .add 70 71, oA 73 (.slice (some 6) (.t 69) (some (.t 72)) none), oM 74 0, oM 75 1, oA 76 (.slice (some 6) (.t 74) (some (.t 75)) none), oA 77 (.cpy 6 (.t 73) (.t 76))] [[], [], [], [1, 2], [0, 3, 1, 2], [], [], [5, 6], [4, 7, 0, 3, 1, 2, 5, 6]]) (.seq (.reg [oM 78 0, oM 79 1, oA 80 (.slice (some 6) (.t 78) (some (.t 79)) none), oM 81 2, oA 82 (.cpy 6 (.t 80) (.t 81))]) (.seq (.reg [oM 83 0, oM 6 83]) .ret))) .skip)) (.seq (.reg [oM 84 0, oM 85 8, oA 86 (.slice (some 6) (.t 84) (some (.t 85)) none), oM 87 2, oA 88 (.cpy 6 (.t 86) (.t 87))]) (.seq (.reg [oM 89 0, oM 90 1, oA 91 (.slice (some 6) (.t 89) (some (.t 90)) none), oM 92 7, oC 93 (.c (.fn 235 [])) [(.t 91), (.t 92)]]) (.seq (.reg [oM 94 0, oM 6 94]) .ret))))))))))))
set_option maxRecDepth 100000 in
theorem insE_get : getF Tryz.prog 212 275000 [(25, 1000000025)] = some ("slices.Insert[[]gavotte/api.Message,gavotte/api.Message]", 95, insE_c, [(.tmp 6)]) := by kernel_rfl
def mput_r6 : List AI := [oM 19 0, oC 20 (.c (.fn 182 [])) [(.t 19)], oM 21 6, oA 22 (.load (some 6) (.t 3)), oC 23 (.c (.fn 213 [])) [(.t 22)], oA 24 (.bsl 276024 6 179 1 (.agg [(.int .i64 0), (.int .i64 0), (.int .i64 0), (.int .i64 0), (.int .i64 0), .nils]) [(0, (.t 23))]), oC 25 (.c (.fn 212 [])) [(.t 20), (.t 21), (.t 24)], oM 4 25, oI 5 0]
def mput_p6 : List (List Nat) := [[], [0], [], [], [3, 1, 0], [4, 3, 1, 0], [1, 2, 5, 4, 0, 3], [6, 0, 1, 2, 3, 4, 5], [7, 0, 1, 2, 3, 4, 5, 6]]
def mput_c : AC := (.seq (.reg [oA 3 (.box 276003 6 (.t 1)), oA 4 (.mv (.c .nils)), oI 5 0]) (.seq (.seq (.reg [oM 7 0, oF 8 0 3, oA 9 (.load (some 3) (.t 8)), oC 10 (.c (.fn 131 [])) [(.t 7), (.t 9)], oZ 11 .geq 10 0]) (.cond (.t 11) (.seq (.reg [oA 4 (.mv (.c .nils)), oI 5 1]) .ret) .skip)) (.seq (.reg [oM 12 0, oA 13 (.mkf 210 [(.t 3)]), oC 14 (.c (.fn 180 [])) [(.t 12), (.t 13)], oM 6 14]) (.seq (.seq (.reg [oM 15 6, oZ 16 .lss 15 0]) (.cond (.t 16) (.reg [oM 17 0, oK 18 17, oM 6 18]) .skip)) (.seq (.regi mput_r6 mput_p6) .ret)))))
set_option maxRecDepth 100000 in
theorem mput_get : getF Tryz.prog 176 276000 [(2000006, 1)] = some ("gavotte/mail.Put", 26, mput_c, [(.tmp 4), (.tmp 5)]) := by kernel_rfl
attribute [simp] mput_r6 mput_p6
theorem ins_end (nm : Nat) (hnm : nm ≠ 1000275025) (xs : List AV) (x : AV) (nm2 st2 : Nat) (hl : xs.length <= 1000) (hx : ElemOk 6 x) (hxc : x.cells.all AV.cl1 = true) (v : AV) {S : St} {k : AV -> St -> Prop} {u : Dep k} (hM : MutIs S nm 6 v xs)
   (hk : ∀ S' v', S'.t = S.t -> S.clk <= S'.clk -> (∀ n, n ≠ nm -> n ≠ 1000275025 -> S'.blk n = S.blk n) -> S'.tok = S.tok -> MutIs S' 1000275025 6 v' (xs ++ [x]) -> k v' S') :
   CallG Tryz.prog (.fn 212 []) [v, iv xs.length, .acc nm2 st2 6 [x]] S k u := by
 refine callV insE_get (by simp) (by simp) ?_
 unfold insE_c
 rcases hM with ⟨rfl, rfl⟩ | ⟨st, rfl, hb⟩
 . simp
   exact hk _ _ rfl (by simp only []; omega) (fun n h1 h2 => by simp [h2]) rfl (.inr ⟨_, by simp; rfl, by simp⟩)
 . have hbd : (xs.length + 1) * 64 <= 140737488355328 := by omega
   simp [hb, hbd]
   exact hk _ _ rfl (by simp only []; omega) (fun n h1 h2 => by simp [h1, h2]) rfl (.inr ⟨_, by simp; rfl, by simp⟩)
def posV (m : Msg) (l : List Msg) : Nat := (l.findIdx? fun x => !lessV x.id m.id).getD l.length
theorem posV_le (m : Msg) (l : List Msg) : posV m l <= l.length := by
 unfold posV
 cases h : l.findIdx? fun x => !lessV x.id m.id with
 | none => simp
 | some i =>
   rw [List.findIdx?_eq_some_iff_getElem] at h
   obtain ⟨h, _⟩ := h
   simp; omega
theorem insV_split (m : Msg) : ∀ l : List Msg, insV m l = l.take (posV m l) ++ [m] ++ l.drop (posV m l)
 | [] => by simp [insV, posV]
 | x :: l => by
   have ih := insV_split m l
   unfold insV posV
   rw [List.findIdx?_cons]
   cases h : lessV x.id m.id with
   | false => simp
   | true =>
     simp only [if_true, Bool.not_true]
     rw [ih]
     unfold posV
     cases hf : l.findIdx? fun x => !lessV x.id m.id <;> simp
theorem pos_idx (m : Msg) (l : List Msg) : (if idxB (fun x => !lessV x.id m.id) l < 0 then (l.length : Int) else idxB (fun x => !lessV x.id m.id) l) = (posV m l : Int) := by
 unfold idxB posV
 cases hf : l.findIdx? fun x => !lessV x.id m.id with
 | none => simp
 | some i => simp; omega
def tbp (l : List Msg) (m : Msg) (pos st : Nat) (v : AV) : List (Nat × AV) := [(19, .lst 6 (l.map Msg.av)), (20, v), (21, iv pos), (22, m.av), (23, m.av), (24, .acc 276024 (st + 5) 6 [m.av])]
theorem put_draw (l : List Msg) (m : Msg) (hl : l.length <= 900) (ha : ∀ x ∈ l, x.note.args.length <= 1000) (hm : m.note.args.length <= 1000) (pos : Nat) (hp : pos <= l.length) (s3 st : Nat) {S : St} {k : St -> Prop} {u : Dep k}
   (g0 : S.t 0 = .lst 6 (l.map Msg.av)) (g6 : S.t 6 = iv pos) (g3 : S.t 3 = .ptr 276003 s3 6 0 0) (b3 : S.blk 276003 = some ⟨s3, 6, [m.av]⟩)
   (hk : ∀ S' v nm, MutIs S' nm 6 v ((l.take pos ++ [m] ++ l.drop pos).map Msg.av) -> S'.t 4 = v -> S'.t 5 = iv 0 -> k S') : regIG Tryz.prog mput_p6 st mput_r6 S k u := by
 refine regi_cut (mput_r6.take 6) (mput_r6.drop 6) rfl (by rfl) ?_
 obtain ⟨tbl, htb⟩ : ∃ tbl : AV -> List (Nat × AV), tbl = tbp l m pos st := ⟨_, rfl⟩
 have hnd : ∀ v, ((tbl v).map (·.1)).Nodup := by intro v; simp [htb, tbp]
 obtain ⟨I, hI⟩ : ∃ I : (Nat -> Bool) -> St -> Prop, ∀ D S', I D S' ↔ ∃ v, SF (tbl v) D S' /\ (∀ x, x < 19 \/ 24 < x -> S'.t x = S.t x) /\ (∀ n, Lmc n = false -> S'.blk n = S.blk n) /\
   (D 1 = true -> MutIs S' 1000230015 6 v (l.map Msg.av)) /\ (D 5 = true -> S'.tok 276024 = some ⟨st + 5, 6, 179⟩) := ⟨_, fun _ _ => Iff.rfl⟩
 show regI _ _ _ _ _ _
 refine ⟨I, (hI _ _).2 ⟨.nils, SF.start _ _, fun _ _ => rfl, fun _ _ => rfl, by simp, by simp⟩, ?_, ?_⟩
 . rintro D S' j ai hj hDj hpre hcl hi
   obtain ⟨v, hsf, ht, hbk, h1, h5⟩ := (hI _ _).1 hi
   have stp : ∀ (j d : Nat) (val : AV) (op : AOp) (st' : Nat), (tbl v)[j]? = some (d, val) -> j ≠ 1 -> j ≠ 5 -> 19 <= d -> d <= 24 -> ex S'.t S'.blk S'.tok st' op = some { v := val } -> stepV Tryz.prog st' ⟨some d, none, .op op⟩ S' (I (fun i => (i == j) || D i)) := by
     intro j d val op st' hj m1 m5 d0 d1 he
     refine stepV_op _ he ((hI _ _).2 ⟨v, hsf.ins (hnd v) hj (upd_same _ _ _) (fun y hy => upd_ne _ _ _ _ hy), fun x hx => (upd_ne _ _ _ _ (by omega)).trans (ht x hx), hbk, fun q => h1 ?_, fun q => h5 ?_⟩)
     . simpa [show (1 == j) = false by simp; omega] using q
     . simpa [show (5 == j) = false by simp; omega] using q
   have t0 := (ht 0 (.inl (by omega))).trans g0
   have t3 := (ht 3 (.inl (by omega))).trans g3
   have t6 := (ht 6 (.inl (by omega))).trans g6
   have c3 := (hbk 276003 (by simp [Lmc])).trans b3
   match j, hj, hDj, hpre with
   | 0, hj, hDj, hpre =>
     simp at hj; subst hj
     exact stp 0 19 _ _ _ (by simp [htb, tbp]; rfl) (by simp) (by simp) (by simp) (by simp) (by simp [t0])
   | 1, hj, hDj, hpre =>
     simp at hj hpre; subst hj
     refine stepV_call ?_
     simp [hsf 0 19 _ (by simp [htb, tbp]; rfl) hpre]
     refine mcopyX_v l (by omega) ha (fun S1 r hF hk1 hr => ?_)
     have f5 : D 5 = false := by
       cases hx : D 5 with
       | false => rfl
       | true => have := hcl 5 hx 1 (by simp); rw [hDj] at this; cases this
     have hsr : SF (tbl r) D S' := by
       intro j' d' v' hj' hD'
       refine hsf j' d' v' ?_ hD'
       rw [htb] at hj' ⊢
       match j', hj', hD' with
       | 0, hj', _ => exact hj'
       | 1, _, hD' => rw [hDj] at hD'; cases hD'
       | 2, hj', _ => exact hj'
       | 3, hj', _ => exact hj'
       | 4, hj', _ => exact hj'
       | 5, hj', _ => exact hj'
       | j + 6, hj', _ => simp [tbp] at hj'
     refine (hI _ _).2 ⟨r, hsr.ins (hnd r) (j := 1) (d := 20) (v := r) (by simp [htb, tbp]) (by simp) (fun y hy => by simp [hy, hF.t]), fun x hx => ?_, fun n hn => ?_, fun _ => hr.at rfl, fun q => ?_⟩
     . have : x ≠ 20 := by omega
       simp [this, hF.t, ht x hx]
     . simp
       rw [hF.b n hn, hbk n hn]
     . simp [f5] at q
   | 2, hj, hDj, hpre =>
     simp at hj; subst hj
     exact stp 2 21 _ _ _ (by simp [htb, tbp]; rfl) (by simp) (by simp) (by simp) (by simp) (by simp [t6])
   | 3, hj, hDj, hpre =>
     simp at hj; subst hj
     exact stp 3 22 _ _ _ (by simp [htb, tbp]; rfl) (by simp) (by simp) (by simp) (by simp) (by simp [t3, c3, Msg.av])
   | 4, hj, hDj, hpre =>
     simp at hj hpre; subst hj
     refine stepV_call ?_
     simp [hsf 3 22 _ (by simp [htb, tbp]; rfl) hpre.1]
     refine call (mown_pc m hm) (by simp [Msg.av]) ?_
     refine (hI _ _).2 ⟨v, hsf.ins (hnd v) (j := 4) (d := 23) (v := m.av) (by simp [htb, tbp]) (by simp) (fun y hy => by simp [hy]), fun x hx => ?_, fun n hn => hbk n hn, fun q => (h1 (by simpa using q)).at rfl, fun q => h5 (by simpa using q)⟩
     have : x ≠ 23 := by omega
     simp [this, ht x hx]
   | 5, hj, hDj, hpre =>
     simp at hj hpre; subst hj
     refine stepV_op { v := .acc 276024 (st + 5) 6 [m.av], wt := [(276024, some ⟨st + 5, 6, 179⟩)] } (by simp [hsf 4 23 _ (by simp [htb, tbp]; rfl) hpre.1, Msg.av]) ?_
     refine (hI _ _).2 ⟨v, hsf.ins (hnd v) (j := 5) (d := 24) (v := .acc 276024 (st + 5) 6 [m.av]) (by simp [htb, tbp]) (by simp [St.app]) (fun y hy => by simp [St.app, hy]), fun x hx => ?_, fun n hn => hbk n hn, fun q => (h1 (by simpa using q)).at rfl, fun _ => ?_⟩
     . have : x ≠ 24 := by omega
       simp [St.app, this, ht x hx]
     . simp [St.app, appT]
   | j + 6, hj, hDj, hpre => simp at hj
 . rintro D S' hD hi
   obtain ⟨v, hsf, ht, hbk, h1, h5⟩ := (hI _ _).1 hi
   have e20 := hsf 1 20 _ (by simp [htb, tbp]; rfl) (hD 1 (by simp))
   have e21 := hsf 2 21 _ (by simp [htb, tbp]; rfl) (hD 2 (by simp))
   have e24 := hsf 5 24 _ (by simp [htb, tbp]; rfl) (hD 5 (by simp))
   have hM := h1 (hD 1 (by simp))
   have hT := h5 (hD 5 (by simp))
   have hx : ElemOk 6 m.av := ⟨rfl, by simp [Msg.av, AV.cells, AV.one, ints]⟩
   have hxc : m.av.cells.all AV.cl1 = true := by simp [Msg.av, AV.cells, AV.cl1, ints]
   have hml : (l.map Msg.av).length = l.length := List.length_map _
   simp [e20, e21, e24]
   by_cases hlt : pos < l.length
   . rcases hM with ⟨_, q⟩ | ⟨sA, rfl, hA⟩
     . have : l.length = 0 := by rw [<- hml, q]; rfl
       omega
     . refine ins_mid 1000230015 sA (l.map Msg.av) m.av 276024 (st + 5) pos (by rw [hml]; exact hlt) (by rw [hml]; omega) hx hxc hA hT (fun S2 v q1 q2 q3 q4 q5 => ?_)
       simp [q1]
       refine hk _ v 1000230015 ?_ (by simp) (by simp)
       simp only [List.map_append, List.map_take, List.map_drop, List.map_cons, List.map_nil]
       exact q5.at rfl
   . have hpe : pos = l.length := by omega
     subst hpe
     have := ins_end 1000230015 (by simp) (l.map Msg.av) m.av 276024 (st + 5) (by rw [hml]; omega) hx hxc v (S := S') (k := fun r S' => regG Tryz.prog (st + 6 + 1) [⟨some 4, none, .op (.mv (.t 25))⟩, ⟨some 5, none, .op (.mv (.c (.int .i64 0)))⟩] (S'.put (some 25) r) k Dep.mk) (u := Dep.mk) hM (fun S2 v q1 q2 q3 q4 q5 => ?_)
     . rw [hml] at this
       exact this
     . simp [q1]
       refine hk _ v 1000275025 ?_ (by simp) (by simp)
       simp only [List.take_length, List.drop_length, List.append_nil, List.map_append, List.map_cons, List.map_nil]
       exact q5.at rfl
theorem put_all : PutAll := by
 intro l m hl ha hm
 refine pc_of_get mput_get (by simp) _ (by simp) _ ?_
 unfold mput_c
 simp [Msg.av]
 refine call (mfind_pc l m.id (by omega)) (by simp [MId.av]) ?_
 cases hix : idxV m.id l with
 | some i =>
   simp [findV, hix]
 | none =>
   simp [findV, hix]
   refine indexM_v (Lone 211002) l (by omega) _ (fun x => !lessV x.id m.id) (fun x hx S' κ hF hκ => mput1_v 276003 0 (by simp) m x ((hF.b _ (by simp [Lone])).trans (by simp [Msg.av])) hκ) (fun S' hF => ?_)
   have b3 := hF.b 276003 (by simp [Lone])
   have hpi := pos_idx m l
   have hpl := posV_le m l
   have hsp := insV_split m l
   simp at b3
   have fin : ∀ (S2 : St) (v : AV) (nm : Nat), MutIs S2 nm 6 v ((l.take (posV m l) ++ [m] ++ l.drop (posV m l)).map Msg.av) -> S2.t 4 = v -> S2.t 5 = iv 0 -> Ends [.tmp 4, .tmp 5] (.tup [.lst 6 ((insV m l).map Msg.av), iv 0]) Ex.ret S2 := by
     intro S2 v nm hM q4 q5
     rw [<- hsp] at hM
     have o1 := hM.one
     have o2 := hM.cells
     simp [q4, q5, o1, o2]
     have hc := hM.co1 (blk := S2.blk) (by simp) rfl (by
       intro x hx
       obtain ⟨y, _, rfl⟩ := List.mem_map.1 hx
       simp [Msg.av, ints])
     rcases hM with ⟨rfl, _⟩ | ⟨st, rfl, _⟩ <;> exact hc
   by_cases hlt : idxB (fun x => !lessV x.id m.id) l < 0
   . rw [if_pos hlt] at hpi
     simp [hF.t, hlt]
     refine put_draw l m hl ha hm (posV m l) hpl 0 _ (by simp) (by simp [hpi]) (by simp) (by simp [b3, Msg.av]) (fun S2 v nm hM q4 q5 => ?_)
     have := fin S2 v nm hM q4 q5
     simpa using this
   . rw [if_neg hlt] at hpi
     simp [hF.t, hlt]
     refine put_draw l m hl ha hm (posV m l) hpl 0 _ (by simp) (by simp [hpi]) (by simp) (by simp [b3, Msg.av]) (fun S2 v nm hM q4 q5 => ?_)
     have := fin S2 v nm hM q4 q5
     simpa using this
end Go.Gv
