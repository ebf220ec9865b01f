/- Texts of this proof, one behind the other. What is proved, and on which conditions, stands ahead of each. -/
import Derived.Test.YthidhohdcjojhaaGreatDoorProg
import Derived.Test.YthidhohdcjojhaaGreatDoorM577cd12
import Derived.Test.YthidhohdcjojhaaGreatDoorM286094c6
import Derived.Test.YthidhohdcjojhaaGreatDoorM170220fe
import Derived.Test.YthidhohdcjojhaaGreatDoorM192658a4

set_option linter.unusedVariables false
set_option linter.unusedSimpArgs false
namespace Go.Gv
open Go.Proofs
open Go.Sort Go.Shelf Go.RowKit
theorem compact_v (nm st : Nat) (zs : List Int) (hzs : zs.length < 1000000) {S : St} {k : AV -> St -> Prop} {u : Dep k} (hb : S.blk nm = some ⟨st, 1, zs.map iv⟩)
   (hk : k (.sl nm st 1 0 (Lib.compact zs).length) ⟨S.t, upd S.blk nm (some ⟨st, 1, (Lib.compact zs ++ List.replicate (zs.length - (Lib.compact zs).length) 0).map iv⟩), S.tok, S.clk⟩) (hc : (Lib.compact zs).length <= zs.length) :
   CallG Tryz.prog (.fn 45 []) [.sl nm st 1 0 zs.length] S k u := by
 refine ⟨45, [], rfl, entersF 45 _ Tryz.func45 (by kernel_rfl) (by kernel_rfl), fun E B W w args H hW hG hu hsz hrel => ?_⟩
 have hB := hG.le
 obtain ⟨v0, rfl⟩ := args1 (by simpa using hsz)
 have r0 := hrel 0 _ v0 rfl rfl
 have hbk0 := H.bk nm _ hb
 have hbk := hbk0.r (by simp)
 have hbu := H.bu nm _ hb
 obtain ⟨cur, ty, hh, hsz', hr⟩ := hbk.row
 simp only [Nat.mul_one] at hh hsz' hr hbu
 have hcp := hbk.len
 simp only [List.length_map] at hcp
 have cell : ∀ j (h : j < zs.length), cur[(E.m st).2 + j]? = some (.int .i64 zs[j]) := by
   intro j h
   obtain ⟨x, x1, x2⟩ := hr j (iv zs[j]) (by simp [h]) 0 _ rfl
   obtain rfl := rel_int x2
   exact x1
 cases r0 with
 | sl _ _ _ _ _ cap a hu' hcap hcc ha =>
   by_cases hz0 : zs.length = 0
   . have hz : zs = [] := List.eq_nil_of_length_eq_zero hz0
     subst hz
     have hcon := Any.slices_Compact_int_empty Tryz.compactI a cap w
     change Calls Tryz.prog 45 _ _ _ at hcon
     refine hcon.mono ?_
     rintro e w' ⟨rfl, rfl⟩
     have hl0 : (Lib.compact ([] : List Int)).length = 0 := by simpa using hc
     have hl1 : Lib.compact ([] : List Int) = [] := List.eq_nil_of_length_eq_zero hl0
     rw [hl0] at hk
     rw [hl1] at hk
     have e1 : (⟨S.t, upd S.blk nm (some ⟨st, 1, (([] : List Int) ++ List.replicate (([] : List Int).length - 0) 0).map iv⟩), S.tok, S.clk⟩ : St) = S := by
       refine St.ext' (fun _ => rfl) (fun x => ?_) (fun _ => rfl) rfl
       simp only [upd]
       split
       . rename_i q; rw [q, hb]; rfl
       . rfl
     rw [e1] at hk
     exact ⟨_, E, .sl nm st 1 0 0, S, rfl, .refl E, H, hW, fun _ _ _ => rfl, fun s hs => ⟨.inl hs, hu s hs⟩, Nat.le_refl _, rfl, .sl nm st 1 0 0 cap a hu' (Nat.zero_le _) hcc ha, hk⟩
   . rw [ha (by omega)]
     simp only [Nat.zero_mul, Nat.add_zero]
     have hH : Holds (Value.int .i64) w (E.m st).1 (E.m st).2 zs.toArray := by
       intro j hj
       have hj' : j < zs.length := by simpa using hj
       refine ⟨?_, by simp [World.frozen?, hh]⟩
       rw [cell_of_row w _ _ cur ty (0, 0) hh, cell j hj']
       simp [hj']
     have hcon := Any.slices_Compact_int Tryz.compactI (E.m st).1 (E.m st).2 cap zs w hH (by omega) hcap
     change Calls Tryz.prog 45 _ _ _ at hcon
     refine hcon.mono ?_
     rintro e w' ⟨rfl, q, rfl⟩
     have hml : (Lib.compact zs ++ List.replicate (zs.length - (Lib.compact zs).length) 0).length = zs.length := by simp; omega
     generalize hso : Lib.compact zs ++ List.replicate (zs.length - (Lib.compact zs).length) 0 = so at *
     obtain ⟨g1, g2⟩ := putRow_row hh q (E.m st).2 so.toArray #[]
     have hgr : ∀ w : World, grow w #[] = w := fun w => by simp [grow]
     rw [hgr] at g1 g2
     have hsl : w.heap.size <= (putRow (Value.int .i64) (Sort.ahead w q) (E.m st).1 (E.m st).2 so.toArray).heap.size := by
       simp [putRow, mapBlock, Sort.ahead]
     have hB2 : RowKit.Below B w (putRow (Value.int .i64) (Sort.ahead w q) (E.m st).1 (E.m st).2 so.toArray) := by
       refine ⟨rfl, rfl, rfl, hsl, fun c hc => ?_⟩
       have h2 := hbk.base
       have h3 := hbk0.lt
       simp only at h2 h3
       exact g2 c (by omega) (by omega)
     generalize hW2 : putRow (Value.int .i64) (Sort.ahead w q) (E.m st).1 (E.m st).2 so.toArray = w2 at *
     have hcz : (E.m st).2 + so.toArray.size <= cur.size := by simp [hml]; omega
     have hps : (putCells (Value.int .i64) (E.m st).2 so.toArray cur).size = cur.size := by simp [putCells]
     have H1 := H.inBlk (nm := nm) hb (so.map iv) cur (putCells (Value.int .i64) (E.m st).2 so.toArray cur) ty hh (by
         intro x hx
         obtain ⟨q, _, rfl⟩ := List.mem_map.1 hx
         exact ⟨rfl, by simp [AV.cells, AV.one]⟩) (by simp [hml]) hps (by
         intro i y hy j z hz'
         simp only [Nat.mul_one]
         have hi2 : i < so.length := by have := (List.getElem?_eq_some_iff.1 hy).1; simpa using this
         simp [hi2] at hy
         subst hy
         rcases j with _ | j
         . simp [AV.cells] at hz'
           subst hz'
           refine ⟨.int .i64 so[i], ?_, .int _ _⟩
           rw [putCells_get _ _ _ _ hcz, if_pos ⟨by omega, by simp; omega⟩]
           simp [hi2]
         . simp [AV.cells] at hz')
     have H2 := H1.grow (w' := w2) (by
       intro c hc'
       have hcl : c < w.heap.size := by simpa [World.setRow] using hc'
       by_cases hcb : c = (E.m st).1
       . subst hcb
         rw [g1]
         exact (setRow_heap w _ cur _ ty _ hh).symm
       . rw [g2 c hcb hcl]
         exact (setRow_other w _ _ _ hcb).symm)
     refine ⟨_, E, .sl nm st 1 0 (Lib.compact zs).length, ⟨S.t, upd S.blk nm (some ⟨st, 1, so.map iv⟩), S.tok, S.clk⟩, rfl, .refl E, H2, hW.trans hB2, fun _ _ _ => rfl, fun s hs => ⟨.inl hs, hu s hs⟩, Nat.le_refl _, rfl, ?_, hk⟩
     exact Rel.sl nm st 1 0 _ cap _ hu' (by omega) (by omega) (fun _ => by simp)
end Go.Gv
