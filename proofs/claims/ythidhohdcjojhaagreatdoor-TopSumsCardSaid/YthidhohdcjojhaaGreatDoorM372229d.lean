/- Texts of this proof, one behind the other. What is proved, and on which conditions, stands ahead of each. -/
import Derived.Test.YthidhohdcjojhaaGreatDoorProg
import Derived.Shelf.Spec.SlicesInsertGrow
import Derived.KernelRfl
import Derived.Laws.CopyRow

set_option linter.unusedVariables false
set_option linter.unusedSimpArgs false
namespace Go.Gv
open Go.Proofs
open Go.RowKit Go.Lib Go.Proofs
theorem run_copy_rowK {P : Program} (k : Nat) (w : World) (dT sT ty elem : TypeId) (g o dLen dCap : Nat) (a : Addr) (sLen sCap : Nat) (cur : Array Value) (t : TypeId) (cs : List Value)
   (hu : P.underlying dT = some (.slice elem)) (hs : (P.info? elem).map (·.size) = some k)
   (hg : w.heap[g]? = some (.cells cur t (0, 0))) (hn : cs.length = Nat.min sLen dLen * k)
   (hsrc : ∀ j v, cs[j]? = some v -> w.cell? (a.add j) = some v) (hfit : o + cs.length <= cur.size) (h1 : ∀ v ∈ cs, v.oneCell' = true) :
   (Builtin.copy_ #[dT, sT] ty #[.slice (some ⟨g, o, none⟩) dLen dCap, .slice (some a) sLen sCap]).run P w =
     .ok (goInt (Nat.min sLen dLen)) (w.setRow g (cur.toList.take o ++ cs ++ cur.toList.drop (o + cs.length)).toArray) := by
 have hl := run_loadCells_list (P := P) w a cs hsrc
 have hst := run_storeCells_at P g o t cs 0 cur w hg (by simpa using hfit) h1
 cases hq : P.info? elem with
 | none => simp [hq] at hs
 | some i =>
   have hi : i.size = k := by simpa [hq] using hs
   simp [Builtin.copy_, run_underlying hu, Builtin.lenOf, Builtin.firstCells, sizeOf, typeInfo, hq, hi, <- hn, hl, hst]
theorem sizeM : (Tryz.prog.info? 179).map (·.size) = some 6 := by kernel_rfl
theorem infoM : ∃ i0 : TypeInfo, Tryz.prog.info? 179 = some i0 /\ (∃ z, i0.zero = some z /\ z.cells.size = 6) /\ i0.size = 6 /\ i0.bytes = 64 := by
 have hm : (Tryz.prog.info? 179).map (fun i => ((i.zero.map fun z => z.cells.size), i.size, i.bytes)) = some (some 6, 6, 64) := by kernel_rfl
 rw [Option.map_eq_some_iff] at hm
 obtain ⟨i0, q1, q2⟩ := hm
 simp only [Prod.mk.injEq, Option.map_eq_some_iff] at q2
 exact ⟨i0, q1, q2.1, q2.2.1, q2.2.2⟩
theorem sizeM_run (w : World) : (Go.sizeOf 179).run Tryz.prog w = .ok 6 w := by
 obtain ⟨i0, h1, _, h2, _⟩ := infoM
 simp [Go.sizeOf, typeInfo, h1, h2]
def spl (cur : Array Value) (o : Nat) (cs : List Value) : Array Value := (cur.toList.take o ++ cs ++ cur.toList.drop (o + cs.length)).toArray
theorem spl_size (cur : Array Value) (o : Nat) (cs : List Value) (h : o + cs.length <= cur.size) : (spl cur o cs).size = cur.size := by
 simp [spl]; omega
theorem cell_row {w : World} {g : Nat} {cur : Array Value} {t : TypeId} {p : Nat × Nat} (hg : w.heap[g]? = some (.cells cur t p)) (j : Nat) : w.cell? ⟨g, j, none⟩ = cur[j]? := by
 simp [World.cell?, hg]
set_option maxHeartbeats 4000000 in
set_option maxRecDepth 100000 in
theorem ins_shift (b off n c i vb voff vc : Nat) (cs vs : List Value) (cur : Array Value) (ty : TypeId) (w : World) (hi : i < n) (hroom : n + 1 <= c) (hc63 : c <= 9223372036854775807) (hvb : vb ≠ b)
   (hg : w.heap[b]? = some (.cells cur ty (0, 0))) (hcl : cs.length = (n - i) * 6) (hvl : vs.length = 6) (hfit : off + (n + 1) * 6 <= cur.size)
   (hcs : ∀ j v, cs[j]? = some v -> cur[off + i * 6 + j]? = some v)
   (hvs : ∀ j v, vs[j]? = some v -> w.cell? ⟨vb, voff + j, none⟩ = some v) (h1c : ∀ v ∈ cs, v.oneCell' = true) (h1v : ∀ v ∈ vs, v.oneCell' = true)
   (tA tB : TypeId) (kA kB : Nat) (hsa : w.shape? vb = some (tA, kA)) (hsb : w.shape? b = some (tB, kB)) (hkB : kB ≠ 0) (hfa : w.frozen? ⟨vb, voff, none⟩ = false) (hfe : w.frozen? ⟨vb, kA, none⟩ = false) :
   Calls Tryz.prog 212 #[.slice (some ⟨b, off, none⟩) n c, .int .i64 i, .slice (some ⟨vb, voff, none⟩) 1 vc] w fun e w' =>
     e = .returned (.slice (some ⟨b, off, none⟩) (n + 1) c) /\ w' = w.drew.setRow b (spl (spl cur (off + (i + 1) * 6) cs) (off + i * 6) vs) := by
 have hu := Tryz.underlying89
 have mixed : Tryz.prog.follows .mixedOrders = true := by kernel_rfl
 have hz2 : ¬ ((i : Int) = (n : Int)) := by omega
 have hov : ∀ lb cb, (callFunc 234 #[.slice (some ⟨vb, voff, none⟩) 1 vc, .slice (some ⟨b, off + (i + 1) * 6, none⟩) lb cb]).run Tryz.prog w = .ok (.value (.bool false)) w := fun lb cb => by
   rw [run_callFunc_extern Tryz.func234 (by kernel_rfl) (by kernel_rfl) (by kernel_rfl) (e := Extern.SlicesOverlaps.overlaps #[89, 89] #[4]) (by kernel_rfl),
     Lib.run_overlaps_apart w 89 4 179 hu 6 sizeM_run ⟨vb, voff, none⟩ ⟨b, off + (i + 1) * 6, none⟩ 1 vc lb cb hvb tA tB kA kB hsa hsb hkB hfa hfe]
   rfl
 have hgd : w.drew.heap[b]? = some (.cells cur ty (0, 0)) := hg
 have hcp1 : ∀ ty' dc sc, (Builtin.copy_ #[89, 89] ty' #[.slice (some ⟨b, off + (i + 1) * 6, none⟩) (n - i) dc, .slice (some ⟨b, off + i * 6, none⟩) (n + 1 - i) sc]).run Tryz.prog w.drew = .ok (goInt ((n - i : Nat) : Int)) (w.drew.setRow b (spl cur (off + (i + 1) * 6) cs)) := fun ty' dc sc => by
   have hm : Nat.min (n + 1 - i) (n - i) = n - i := by simp only [Nat.min_def]; split <;> omega
   have h := run_copy_rowK (P := Tryz.prog) 6 w.drew 89 89 ty' 179 b (off + (i + 1) * 6) (n - i) dc ⟨b, off + i * 6, none⟩ (n + 1 - i) sc cur ty cs hu sizeM hgd (by rw [hm]; exact hcl)
     (fun j v hj => by rw [Addr.add_lit, cell_row hgd]; exact hcs j v hj) (by rw [hcl]; omega) h1c
   rw [hm] at h
   exact h
 obtain ⟨cur1, hc1⟩ : ∃ cur1, cur1 = spl cur (off + (i + 1) * 6) cs := ⟨_, rfl⟩
 have hs1 : cur1.size = cur.size := by rw [hc1]; exact spl_size _ _ _ (by rw [hcl]; omega)
 rw [<- hc1] at hcp1 ⊢
 obtain ⟨W1, hW1⟩ : ∃ W1, W1 = w.drew.setRow b cur1 := ⟨_, rfl⟩
 have hg1 : W1.heap[b]? = some (.cells cur1 ty (0, 0)) := by rw [hW1]; exact setRow_heap w.drew b cur cur1 ty _ hgd
 have hv1 : ∀ j v, vs[j]? = some v -> W1.cell? ⟨vb, voff + j, none⟩ = some v := fun j v hj => by
   rw [hW1, cell_setRow_other w.drew _ _ _ hvb]
   exact hvs j v hj
 have hcp2 : ∀ ty' dc, (Builtin.copy_ #[89, 89] ty' #[.slice (some ⟨b, off + i * 6, none⟩) (n + 1 - i) dc, .slice (some ⟨vb, voff, none⟩) 1 vc]).run Tryz.prog W1 = .ok (goInt ((1 : Nat) : Int)) (W1.setRow b (spl cur1 (off + i * 6) vs)) := fun ty' dc => by
   have hm : Nat.min 1 (n + 1 - i) = 1 := by simp only [Nat.min_def]; split <;> omega
   have h := run_copy_rowK (P := Tryz.prog) 6 W1 89 89 ty' 179 b (off + i * 6) (n + 1 - i) dc ⟨vb, voff, none⟩ 1 vc cur1 ty vs hu sizeM hg1 (by rw [hm]; exact hvl)
     (fun j v hj => by rw [Addr.add_lit]; exact hv1 j v hj) (by rw [hvl, hs1]; omega) h1v
   rw [hm] at h
   exact h
 rw [<- hW1] at hcp1
 have hfin : W1.setRow b (spl cur1 (off + i * 6) vs) = w.drew.setRow b (spl cur1 (off + i * 6) vs) := by rw [hW1, setRow_setRow]
 rw [<- hfin]
 clear hfin hv1 hg1 hgd hW1 hs1 hc1
 have hw1 : IntKind.i64.wrap ((i : Int) + 1) = (i : Int) + 1 := by rw [IntKind.wrap_i64]; omega
 have hw2 : IntKind.i64.wrap ((n : Int) + 1) = (n : Int) + 1 := by rw [IntKind.wrap_i64]; omega
 have hb1 : (0 : Int) <= (i : Int) + 1 := by omega
 have hin : i <= n := by omega
 have htn : ((i : Int) + 1).toNat = i + 1 := by omega
 have htn2 : ((n : Int) + 1).toNat = n + 1 := by omega
 have hb2 : ¬ (c = i + 1) := by omega
 have hb3 : (i : Int) <= (n : Int) + 1 := by omega
 have hb4 : ¬ (c = i) := by omega
 go_enter Tryz.func212, Tryz.ntmps212
 go_wp2_with (simp only [hov])
 go_region_law_o (refine step_copy_runI rfl _ _ 89 89 rfl _ _ (by simp [Act.eval, Act.put]) (by simp [Act.eval, Act.put]) (hcp1 _ _ _) ?_)
 go_wp2_with (at_builtin; refine wpList_copy_runI _ rfl _ _ 89 89 rfl _ _ rfl rfl (hcp2 _ _) ?_)
 go_ret
 exact ⟨rfl, rfl⟩
set_option maxHeartbeats 4000000 in
set_option maxRecDepth 100000 in
theorem ins_grow (b off n c i vb voff vc : Nat) (cs0 cs vs : List Value) (w : World) (hi : i < n) (hroom : c < n + 1) (hn : n <= 1000000)
   (hnc : n <= c) (hc0 : cs0.length = i * 6) (hcl : cs.length = (n - i) * 6) (hvl : vs.length = 6)
   (hcs0 : ∀ j v, cs0[j]? = some v -> w.cell? ⟨b, off + j, none⟩ = some v) (hcs : ∀ j v, cs[j]? = some v -> w.cell? ⟨b, off + i * 6 + j, none⟩ = some v)
   (hvs : ∀ j v, vs[j]? = some v -> w.cell? ⟨vb, voff + j, none⟩ = some v) (h1c : ∀ v ∈ cs, v.oneCell' = true) (h1v : ∀ v ∈ vs, v.oneCell' = true) :
   Calls Tryz.prog 212 #[.slice (some ⟨b, off, none⟩) n c, .int .i64 i, .slice (some ⟨vb, voff, none⟩) 1 vc] w fun e w' =>
     ∃ (ROW : Array Value) (G : Nat), n + 1 <= G /\ G <= maxLen /\ ROW.size = G * 6 /\ (∀ (j : Nat) (v : Value), cs0[j]? = some v -> ROW[j]? = some v) /\ e = .returned (.slice (some ⟨w.heap.size, 0, none⟩) (n + 1) G) /\
     w' = (((w.alloc (.cells ROW 179)).drew.setRow w.heap.size (spl ROW (i * 6) vs)).drew).setRow w.heap.size (spl (spl ROW (i * 6) vs) ((i + 1) * 6) cs) := by
 have hu := Tryz.underlying89
 have mixed : Tryz.prog.follows .mixedOrders = true := by kernel_rfl
 obtain ⟨i0, hi0, ⟨z, hz0, hzc⟩, hzs, hzb⟩ := infoM
 have hz1 : ¬ ((i : Int) = (n : Int)) := by omega
 have hz3 : (c : Int) < (n : Int) + 1 := by omega
 have hbw : b < w.heap.size := block_lt_of_cell (hcs 0 _ (List.getElem?_eq_getElem (by omega)))
 have hvw : vb < w.heap.size := block_lt_of_cell (hvs 0 _ (List.getElem?_eq_getElem (by omega)))
 have hkk : (n : Int) + 1 - (i : Int) = ((n + 1 - i : Nat) : Int) := by omega
 have hik : i + (n + 1 - i) = n + 1 := by omega
 have hold : (Builtin.firstCells i0.size i (.slice (some ⟨b, off, none⟩) i c)).run Tryz.prog w.drew = .ok cs0.toArray w.drew := by
   rw [hzs]
   exact run_firstCells_some w.drew 6 i ⟨b, off, none⟩ i c cs0 hc0 (fun j v hj => by
     rw [Addr.add_lit]
     exact hcs0 j v hj)
 have hrz : ∀ ty, (Builtin.append_ #[89, 3] ty #[.slice (some ⟨b, off, none⟩) i c, .int .i64 ((n : Int) + 1 - (i : Int))]).run Tryz.prog w =
     .ok (.slice (some ⟨w.heap.size, 0, none⟩) (n + 1) (grownCap w (n + 1) c 179)) (w.drew.alloc (.cells (cs0.toArray ++ Builtin.zeroCells z.cells (n + 1 - i) ++ Builtin.zeroCells z.cells (grownCap w (n + 1) c 179 - (n + 1))) 179)) := fun ty => by
   have h := Lib.run_append_grow_zeros w 89 3 ty 179 i0 z .i64 .i64 hu Tryz.underlying3 hi0 hz0 (some ⟨b, off, none⟩) i c cs0 hold (n + 1 - i) (by omega) (by omega) (by omega) (by omega) (by rw [hzb]; omega) (by rw [hzb, hik]; exact growslice_fits hroom (by omega))
   rw [hik] at h
   rw [hkk]
   exact h
 have hGn : n + 1 <= grownCap w (n + 1) c 179 := grownCap_ge w _ _ _
 have hGm : grownCap w (n + 1) c 179 <= maxLen := grownCap_le_maxLen w (n + 1) c 179 (by unfold maxLen; omega)
 obtain ⟨G, hG⟩ : ∃ G, G = grownCap w (n + 1) c 179 := ⟨_, rfl⟩
 rw [<- hG] at hrz hGn hGm
 obtain ⟨ROW, hROW⟩ : ∃ ROW : Array Value, ROW = cs0.toArray ++ Builtin.zeroCells z.cells (n + 1 - i) ++ Builtin.zeroCells z.cells (G - (n + 1)) := ⟨_, rfl⟩
 rw [<- hROW] at hrz
 have hRs : ROW.size = G * 6 := by
   rw [hROW]
   simp [size_zeroCells, hzc, hc0]
   omega
 have hR0 : ∀ (j : Nat) (v : Value), cs0[j]? = some v -> ROW[j]? = some v := fun j v hj => by
   have hlt := (List.getElem?_eq_some_iff.1 hj).1
   rw [hROW, Array.append_assoc, Array.getElem?_append_left (by simpa using hlt)]
   simpa using hj
 clear hROW hG hold hzc hz0 hzs hzb hi0
 obtain ⟨W1, hW1⟩ : ∃ W1, W1 = w.drew.alloc (.cells ROW 179) := ⟨_, rfl⟩
 obtain ⟨N, hN⟩ : ∃ N, N = w.heap.size := ⟨_, rfl⟩
 rw [<- hW1, <- hN] at hrz
 have hg1 : W1.heap[N]? = some (.cells ROW 179 (0, 0)) := by rw [hW1, hN]; exact heap_alloc_new w.drew _
 have hOb : ∀ j v, w.cell? ⟨b, j, none⟩ = some v -> W1.cell? ⟨b, j, none⟩ = some v := fun j v h => by rw [hW1, World.cell?_alloc_past (w := w.drew) _ b j hbw]; exact h
 have hOv : ∀ j v, w.cell? ⟨vb, j, none⟩ = some v -> W1.cell? ⟨vb, j, none⟩ = some v := fun j v h => by rw [hW1, World.cell?_alloc_past (w := w.drew) _ vb j hvw]; exact h
 have hcpA : ∀ ty' dc, (Builtin.copy_ #[89, 89] ty' #[.slice (some ⟨N, i * 6, none⟩) (n + 1 - i) dc, .slice (some ⟨vb, voff, none⟩) 1 vc]).run Tryz.prog W1 = .ok (goInt ((1 : Nat) : Int)) (W1.setRow N (spl ROW (i * 6) vs)) := fun ty' dc => by
   have hm : Nat.min 1 (n + 1 - i) = 1 := by simp only [Nat.min_def]; split <;> omega
   have h := run_copy_rowK (P := Tryz.prog) 6 W1 89 89 ty' 179 N (i * 6) (n + 1 - i) dc ⟨vb, voff, none⟩ 1 vc ROW 179 vs hu sizeM hg1 (by rw [hm]; exact hvl)
     (fun j v hj => by rw [Addr.add_lit]; exact hOv _ v (hvs j v hj)) (by rw [hvl, hRs]; omega) h1v
   rw [hm] at h
   exact h
 obtain ⟨R1, hR1⟩ : ∃ R1, R1 = spl ROW (i * 6) vs := ⟨_, rfl⟩
 have hR1s : R1.size = G * 6 := by rw [hR1, spl_size _ _ _ (by rw [hvl, hRs]; omega), hRs]
 rw [<- hR1] at hcpA
 obtain ⟨W2, hW2⟩ : ∃ W2, W2 = W1.setRow N R1 := ⟨_, rfl⟩
 rw [<- hW2] at hcpA
 have hg2 : W2.drew.heap[N]? = some (.cells R1 179 (0, 0)) := by rw [hW2]; exact setRow_heap W1 N _ _ _ _ hg1
 have hbN : b ≠ N := by omega
 have hcpB : ∀ ty' dc sc, (Builtin.copy_ #[89, 89] ty' #[.slice (some ⟨N, (i + 1) * 6, none⟩) (n - i) dc, .slice (some ⟨b, off + i * 6, none⟩) (n - i) sc]).run Tryz.prog W2.drew = .ok (goInt ((n - i : Nat) : Int)) (W2.drew.setRow N (spl R1 ((i + 1) * 6) cs)) := fun ty' dc sc => by
   have hm : Nat.min (n - i) (n - i) = n - i := by simp only [Nat.min_def]; split <;> omega
   have h := run_copy_rowK (P := Tryz.prog) 6 W2.drew 89 89 ty' 179 N ((i + 1) * 6) (n - i) dc ⟨b, off + i * 6, none⟩ (n - i) sc R1 179 cs hu sizeM hg2 (by rw [hm]; exact hcl)
     (fun j v hj => by
       rw [Addr.add_lit]
       show W2.cell? _ = _
       rw [hW2, cell_setRow_other W1 _ _ _ hbN]
       exact hOb _ v (hcs j v hj)) (by rw [hcl, hR1s]; omega) h1c
   rw [hm] at h
   exact h
 have hW2e : (w.alloc (.cells ROW 179)).drew.setRow w.heap.size (spl ROW (i * 6) vs) = W2 := by rw [hW2, hR1, hN, hW1]; rfl
 suffices hq : Calls Tryz.prog 212 #[.slice (some ⟨b, off, none⟩) n c, .int .i64 i, .slice (some ⟨vb, voff, none⟩) 1 vc] w fun e w' => e = .returned (.slice (some ⟨N, 0, none⟩) (n + 1) G) /\ w' = W2.drew.setRow N (spl R1 ((i + 1) * 6) cs) by
   refine hq.mono ?_
   rintro e w' ⟨h1, h2⟩
   exact ⟨ROW, G, hGn, hGm, hRs, hR0, by rw [<- hN]; exact h1, by rw [hW2e, <- hN, <- hR1]; exact h2⟩
 clear hW2e hg2 hg1 hOb hOv hW2 hR1s hR1 hW1 hN
 have hGi : ¬ (G = i) := by omega
 have hGim : ¬ (G = i + 1) := by omega
 have hci : ¬ (c = i) := by omega
 have hw1 : IntKind.i64.wrap ((i : Int) + 1) = (i : Int) + 1 := by rw [IntKind.wrap_i64]; omega
 have hw2 : IntKind.i64.wrap ((n : Int) + 1) = (n : Int) + 1 := by rw [IntKind.wrap_i64]; omega
 have hw3 : IntKind.i64.wrap ((n : Int) + 1 - i) = (n : Int) + 1 - i := by rw [IntKind.wrap_i64]; omega
 have hb1 : (0 : Int) <= (i : Int) + 1 := by omega
 have hin : i <= n := by omega
 have htn : ((i : Int) + 1).toNat = i + 1 := by omega
 have hb3 : (i : Int) <= (n : Int) := by omega
 have hb4 : (i : Int) <= (n : Int) + 1 := by omega
 have hG63 : G <= 9223372036854775807 := by unfold maxLen at hGm; omega
 clear hkk hik
 go_enter Tryz.func212, Tryz.ntmps212
 go_wp2_with (first
   | (at_builtin; refine Lib.wpList_append_run _ rfl _ _ _ _ rfl _ _ rfl rfl _ _ (hrz _) ?_)
   | (at_builtin; refine wpList_copy_runI _ rfl _ _ 89 89 rfl _ _ rfl rfl (hcpA _ _) ?_))
 go_region_law_o (refine step_copy_runI rfl _ _ 89 89 rfl _ _ (by simp [Act.eval, Act.put]) (by simp [Act.eval, Act.put]) (hcpB _ _ _) ?_)
 go_wp2
 go_ret
 exact ⟨rfl, rfl⟩
end Go.Gv
