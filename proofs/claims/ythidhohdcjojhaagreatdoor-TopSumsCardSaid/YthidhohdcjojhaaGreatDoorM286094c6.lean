/- Texts of this proof, one behind the other. What is proved, and on which conditions, stands ahead of each. -/
import Derived.Test.YthidhohdcjojhaaGreatDoorProg
import Derived.Test.YthidhohdcjojhaaGreatDoorM577cd12
import Derived.Test.YthidhohdcjojhaaGreatDoorM27a1fbf6

set_option linter.unusedVariables false
set_option linter.unusedSimpArgs false
namespace Go.Gv
open Go.Proofs
open Go.Sort Go.Shelf Go.RowKit
theorem putRow_row {w : World} {b : Nat} {cur : Array Value} {ty : TypeId} (hh : w.heap[b]? = some (.cells cur ty (0, 0))) (n off : Nat) (d : Array Int) (os : Array Obj) :
   (grow (putRow (Value.int .i64) (Sort.ahead w n) b off d) os).heap[b]? = some (.cells (putCells (Value.int .i64) off d cur) ty (0, 0)) /\ ∀ c, c ≠ b -> c < w.heap.size -> (grow (putRow (Value.int .i64) (Sort.ahead w n) b off d) os).heap[c]? = w.heap[c]? := by
 have hb : b < w.heap.size := (Array.getElem?_eq_some_iff.1 hh).1
 refine ⟨?_, fun c hc hl => ?_⟩
 . rw [heap_grow_old _ _ (by simpa using hb)]
   simp [putRow, mapBlock, Sort.ahead, Array.getElem?_modify, hh, onCells]
 . rw [heap_grow_old _ _ (by simpa using hl)]
   simp [putRow, mapBlock, Sort.ahead, Array.getElem?_modify, Ne.symm hc]
theorem putCells_get (off : Nat) (d : Array Int) (c : Array Value) (p : Nat) (h : off + d.size <= c.size) : (putCells (Value.int .i64) off d c)[p]? = if off <= p /\ p < off + d.size then some (.int .i64 d[p - off]!) else c[p]? := by
 unfold putCells
 rw [Array.getElem?_mapIdx]
 by_cases hp : off <= p /\ p < off + d.size
 . rw [if_pos hp, Array.getElem?_eq_getElem (show p < c.size by omega)]
   simp [hp]
 . rw [if_neg hp]
   cases hc : c[p]? <;> simp [hp]
theorem sort_v (nm st : Nat) (es : List AV) (zs : List Int) (h1 : 1 <= zs.length) (hzs : zs.length < 1000000) (hz : ∀ j (h : j < zs.length), es[j]? = some (iv zs[j])) {S : St} {k : AV -> St -> Prop} {u : Dep k} (hb : S.blk nm = some ⟨st, 1, es⟩)
   (hk : k (.tup []) ⟨S.t, upd S.blk nm (some ⟨st, 1, (zs.mergeSort fun x y => decide (x <= y)).map iv ++ es.drop zs.length⟩), S.tok, S.clk⟩) :
   CallG Tryz.prog (.fn 75 []) [.sl nm st 1 0 zs.length] S k u := by
 refine ⟨75, [], rfl, entersF 75 _ Tryz.func75 (by kernel_rfl) (by kernel_rfl), fun E B W w args H hW hG hu hsz hrel => ?_⟩
 have hB := hG.le
 obtain ⟨v0, rfl⟩ := args1 (by simpa using hsz)
 have r0 := hrel 0 _ v0 rfl rfl
 have hbk0 := H.bk nm _ hb
 have hbk := hbk0.r (by simp)
 have hbu := H.bu nm _ hb
 obtain ⟨cur, ty, hh, hsz', hr⟩ := hbk.row
 simp only [Nat.mul_one] at hh hsz' hr hbu
 have hlen : zs.length <= es.length := by
   have := (List.getElem?_eq_some_iff.1 (hz (zs.length - 1) (by omega))).1; omega
 have hcp := hbk.len
 simp only at hcp
 have cell : ∀ j (h : j < zs.length), cur[(E.m st).2 + j]? = some (.int .i64 zs[j]) := by
   intro j h
   obtain ⟨x, x1, x2⟩ := hr j _ (hz j h) 0 _ rfl
   obtain rfl := rel_int x2
   exact x1
 cases r0 with
 | sl _ _ _ _ _ cap a hu' hcap hc ha =>
   rw [ha (by omega)]
   simp only [Nat.zero_mul, Nat.add_zero]
   have hH : Holds (Value.int .i64) w (E.m st).1 (E.m st).2 zs.toArray := by
     intro j hj
     have hj' : j < zs.length := by simpa using hj
     refine ⟨?_, by simp [World.frozen?, hh]⟩
     rw [cell_of_row w _ _ cur ty (0, 0) hh, cell j hj']
     simp [hj']
   have hcon := AnyM.slices_Sort_int Tryz.sortI (E.m st).1 (E.m st).2 cap zs w hH hbk0.lt (by omega)
   change Calls Tryz.prog 75 _ _ _ at hcon
   refine hcon.mono ?_
   rintro e w' ⟨rfl, n, os, rfl⟩
   obtain ⟨g1, g2⟩ := putRow_row hh n (E.m st).2 (zs.mergeSort fun x y => decide (x <= y)).toArray os
   have hsl : w.heap.size <= (grow (putRow (Value.int .i64) (Sort.ahead w n) (E.m st).1 (E.m st).2 (zs.mergeSort fun x y => decide (x <= y)).toArray) os).heap.size := by
     simp [grow, putRow, mapBlock, Sort.ahead]
   have hB2 : RowKit.Below B w (grow (putRow (Value.int .i64) (Sort.ahead w n) (E.m st).1 (E.m st).2 (zs.mergeSort fun x y => decide (x <= y)).toArray) os) := by
     refine ⟨rfl, rfl, rfl, hsl, fun c hc => ?_⟩
     have h2 := hbk.base
     have h3 := hbk0.lt
     simp only at h2 h3
     exact g2 c (by omega) (by omega)
   generalize hW2 : grow (putRow (Value.int .i64) (Sort.ahead w n) (E.m st).1 (E.m st).2 (zs.mergeSort fun x y => decide (x <= y)).toArray) os = w2 at *
   have hml : (zs.mergeSort fun x y => decide (x <= y)).length = zs.length := List.length_mergeSort _
   generalize hso : (zs.mergeSort fun x y => decide (x <= y)) = so at *
   have hcz : (E.m st).2 + so.toArray.size <= cur.size := by simp [hml]; omega
   have hps : (putCells (Value.int .i64) (E.m st).2 so.toArray cur).size = cur.size := by simp [putCells]
   have H1 := H.inBlk (nm := nm) hb (so.map iv ++ es.drop zs.length) cur (putCells (Value.int .i64) (E.m st).2 so.toArray cur) ty hh (by
       intro x hx
       rcases List.mem_append.1 hx with hx | hx
       . obtain ⟨q, _, rfl⟩ := List.mem_map.1 hx
         exact ⟨rfl, by simp [AV.cells, AV.one]⟩
       . exact hbk.el x (List.mem_of_mem_drop hx)) (by simp [hml]; omega) hps (by
       intro i y hy j z hz'
       simp only [Nat.mul_one]
       by_cases hi : i < zs.length
       . have hi2 : i < so.length := by omega
         rw [List.getElem?_append_left (by simpa using hi2)] at hy
         simp [hi2] at hy
         subst hy
         rcases j with _ | j
         . simp [AV.cells] at hz'
           subst hz'
           refine ⟨.int .i64 so[i], ?_, .int _ _⟩
           rw [putCells_get _ _ _ _ hcz, if_pos ⟨by omega, by simp; omega⟩]
           simp [hi2]
         . simp [AV.cells] at hz'
       . rw [List.getElem?_append_right (by simp; omega)] at hy
         simp only [List.length_map, List.getElem?_drop, hml] at hy
         rw [show zs.length + (i - zs.length) = i by omega] at hy
         obtain ⟨x, x1, x2⟩ := hr i y hy j z hz'
         refine ⟨x, ?_, x2⟩
         rw [putCells_get _ _ _ _ hcz, if_neg (by simp [hml]; omega)]
         exact x1)
   have H2 := H1.grow (w' := w2) (by
     intro c hc'
     have hcl : c < w.heap.size := by simpa [World.setRow] using hc'
     by_cases hcb : c = (E.m st).1
     . subst hcb
       rw [g1]
       exact (setRow_heap w _ cur _ ty _ hh).symm
     . rw [g2 c hcb hcl]
       exact (setRow_other w _ _ _ hcb).symm)
   exact ⟨_, E, .tup [], ⟨S.t, upd S.blk nm (some ⟨st, 1, so.map iv ++ es.drop zs.length⟩), S.tok, S.clk⟩, rfl, .refl E, H2, hW.trans hB2, fun _ _ _ => rfl, fun s hs => ⟨.inl hs, hu s hs⟩, Nat.le_refl _, rfl, .tup [] #[] rfl (by simp), hk⟩
end Go.Gv
