/- Texts of this proof, one behind the other. What is proved, and on which conditions, stands ahead of each. -/
import Derived.Test.YthidhohdcjojhaaGreatDoorM10a4850c
import Derived.Laws.IdiomStrings

set_option linter.unusedVariables false
set_option linter.unusedSimpArgs false
namespace Go.Gv
open Go.RowKit
section
variable {P : Program} {B : Nat} {W : World} {E : Env} {h : Hp} {w : World} {a : Act} {f : Nat -> AV} {n nm st : Nat}
theorem cFields_ok (hf : ∀ t, t < n -> Rel E (f t) (a.tmps.getD t undef)) (places : List (Nat × Nat)) : ∀ (l : List (Nat × Operand)) (ps : List (Nat × Nat × X)), cFields n places l = some ps ->
   (ps.all fun p => (p.2.2.ev f).cells.length == p.2.1) = true ->
   Parts E (fun i => places[i]?) (ps.map fun p => (p.1, (p.2.2.ev f).cells)) (l.map fun p => (p.1, a.eval p.2))
 | [], ps, h, _ => by cases h; exact .nil
 | p :: l, ps, h, hall => by
   simp only [cFields, Option.bind_eq_some_iff, Option.map_eq_some_iff] at h
   obtain ⟨x, hx, q, hq, ps', hps, rfl⟩ := h
   simp only [List.all_cons, Bool.and_eq_true, beq_iff_eq] at hall
   exact .cons (by rw [hq, hall.1]) (cX_ok hf hx) (cFields_ok hf places l ps' hps hall.2)
theorem build_done (H : HConc E B h w) (hW : Below B W w) (hf : ∀ t, t < n -> Rel E (f t) (a.tmps.getD t undef)) (o : Oper) (t : TypeId) (parts : Array (Nat × Operand)) (ho : o.op = .build t parts) (fs : Array Field) (ht : P.underlying t = some (.struct fs))
   (i : TypeInfo) (hi : P.info? t = some i) (z : Value) (hz : i.zero = some z) (places : List (Nat × Nat)) (hp : placesOf P fs.toList = some places) (ps : List (Nat × Nat × X)) (hps : cFields n places parts.toList = some ps)
   (h1 : (ofC z).cells.all AV.one = true) (cs : List AV) (hcs : fillA 0 (ofC z).cells (ps.map fun p => (p.1, (p.2.2.ev f).cells)) = some cs) (hall : (ps.all fun p => (p.2.2.ev f).cells.length == p.2.1) = true) :
   Done B W E st ((execOp a.eval o).run P w) { v := .agg cs } h := by
 have h1' : ∀ y ∈ (ofC z).cells, y.one = true := by simpa using h1
 obtain ⟨c1, c2⟩ := (Rel_ofC E z).cells h1'
 have hz0 : CellsRel E (ofC z).cells z.cells := by
   refine ⟨c1, h1', fun j y v hy hv => ?_⟩
   obtain ⟨u, hu, hr, _⟩ := c2 j y hy
   rw [hv] at hu; cases hu; exact hr
 obtain ⟨zs, g1, g2, g3, g4⟩ := fill_ok (cFields_ok hf places parts.toList ps hps hall) _ _ _ hz0 hcs
 have hb : P.built t (parts.map fun p => (p.1, a.eval p.2)).toList = some zs := by
   simp only [Program.built, hi, ht, hz]
   have : fs.toList.mapM (fun f => (P.info? f.type).map fun i => (f.offset, i.size)) = some places := hp
   simp only [this, Array.toList_map]
   simpa using g1
 refine Done.pure H hW (v := .agg zs) (by simp [execOp, ho, run_build w t _ zs hb]) (.agg cs zs g2.symm ?_ g4)
 exact fun j y hy => g3 y (List.mem_of_getElem? hy)
theorem cParts_ok (hf : ∀ t, t < n -> Rel E (f t) (a.tmps.getD t undef)) : ∀ (l : List (Nat × Operand)) (ps : List (Nat × X)), cParts n l = some ps ->
   ps.length = l.length /\ ∀ (k : Nat) (p : Nat × X) (q : Nat × Operand), ps[k]? = some p -> l[k]? = some q -> p.1 = q.1 /\ Rel E (p.2.ev f) (a.eval q.2)
 | [], ps, h => by cases h; simp
 | p :: l, ps, h => by
   simp only [cParts, Option.bind_eq_some_iff, Option.map_eq_some_iff] at h
   obtain ⟨x, hx, ps', hps, rfl⟩ := h
   obtain ⟨e1, e2⟩ := cParts_ok hf l ps' hps
   refine ⟨by simp [e1], fun k u v hu hv => ?_⟩
   cases k with
   | zero => simp at hu hv; subst hu hv; exact ⟨rfl, cX_ok hf hx⟩
   | succ k => exact e2 k u v (by simpa using hu) (by simpa using hv)
theorem zeros_row {sz : Nat} (z : Value) (hz : z.cells.size = sz) (h0 : 0 < sz) (len : Nat) (hel : ElemOk sz (ofC z)) : RowRel E sz (List.replicate len (ofC z)) ((Array.range (len * sz)).map fun i => z.cells[i % z.cells.size]!) := by
 refine RowRel.zeros (Rel_ofC E z) hel len _ (by simp) ?_
 intro k hk
 rw [Array.getElem?_map, Array.getElem?_range]
 rw [hz]
 have : k % sz < z.cells.size := by rw [hz]; exact Nat.mod_lt _ h0
 simp [hk, this]
theorem Rel.norm1 {x : AV} {v : Value} (h : Rel E x v) : Rel E (norm1 x) v := by
 cases h with
 | acc nm st sz xs v hu hv hl => exact hl
 | junk v => exact .junk v
 | raw v => exact .raw v
 | bool b => exact .bool b
 | int k n => exact .int k n
 | str s => exact .str s
 | nilp => exact .nilp
 | nilf => exact .nilf
 | nils => exact .nils
 | ptr nm st sz i off hu => exact .ptr nm st sz i off hu
 | kp cs off b o f hk h1 hr => exact .kp cs off b o f hk h1 hr
 | lst0 sz a cap => exact .lst0 sz a cap
 | lst xs b o sz cap f hcap hsz hk h1 hr => exact .lst xs b o sz cap f hcap hsz hk h1 hr
 | sl nm st sz off len cap a hu hcap hc ha => exact .sl nm st sz off len cap a hu hcap hc ha
 | mp nm st hu => exact .mp nm st hu
 | fn f caps vs hs hr => exact .fn f caps vs hs hr
 | agg cs vs hs h1 hr => exact .agg cs vs hs h1 hr
 | tup cs vs hs hr => exact .tup cs vs hs hr
theorem norm1_one {x : AV} (h : x.one = true) : (Gv.norm1 x).one = true := by
 cases x <;> first | rfl | exact h
theorem Rel.norm {x : AV} {v : Value} (h : Rel E x v) : Rel E (normE x) v := by
 by_cases hx : ∃ cs, x = .agg cs
 . obtain ⟨cs, rfl⟩ := hx
   cases h with
   | agg _ vs hs h1 hr =>
     refine .agg _ vs (by simpa using hs) ?_ ?_
     . intro j y hy
       rw [List.getElem?_map] at hy
       cases hc : cs[j]? with
       | none => simp [hc] at hy
       | some z => simp only [hc, Option.map_some, Option.some.injEq] at hy; rw [<- hy]; exact norm1_one (h1 j z hc)
     . intro j y u hy hu
       rw [List.getElem?_map] at hy
       cases hc : cs[j]? with
       | none => simp [hc] at hy
       | some z => simp only [hc, Option.map_some, Option.some.injEq] at hy; rw [<- hy]; exact (hr j z u hc hu).norm1
 . have : normE x = Gv.norm1 x := by cases x <;> first | rfl | exact absurd ⟨_, rfl⟩ hx
   rw [this]; exact h.norm1
theorem bsl_done (H : HConc E B h w) (hW : Below B W w) (hB : B <= w.heap.size) (hst : ¬ E.u st) (hf : ∀ t, t < n -> Rel E (f t) (a.tmps.getD t undef)) (o : Oper) (t e : TypeId) (len : Nat) (parts : Array (Nat × Operand)) (ho : o.op = .buildSlice t len parts)
   (ht : P.underlying t = some (.slice e)) (i : TypeInfo) (hi : P.info? e = some i) (z : Value) (hz : i.zero = some z) (hlen : len * i.size <= 2 ^ 24) (hzs : z.cells.size = i.size) (h0 : 0 < i.size) (ps : List (Nat × X)) (hps : cParts n parts.toList = some ps)
   (hok : (ps.all fun p => ((normE (p.2.ev f)).cells.length == i.size) && (normE (p.2.ev f)).cells.all AV.cl1 && decide (p.1 < len)) = true) (hzl : (ofC z).cells.length = i.size) (hz1 : (ofC z).cells.all AV.cl1 = true) :
   Done B W E st ((execOp a.eval o).run P w) { v := .acc nm st i.size (ps.foldl (fun es p => es.set p.1 (normE (p.2.ev f))) (List.replicate len (ofC z))), wt := [(nm, some ⟨st, i.size, e⟩)] } h := by
 have hz1' : ∀ y ∈ (ofC z).cells, y.cl1 = true := by simpa using hz1
 have hel : ElemOk i.size (ofC z) := ⟨hzl, fun y hy => AV.one_of_cl1 (hz1' y hy)⟩
 have hz0 := zeros_row (E := E) z hzs h0 len hel
 obtain ⟨e1, e2⟩ := cParts_ok hf _ _ hps
 have hok' : ∀ p ∈ ps, ElemOk i.size (normE (p.2.ev f)) /\ (∀ y ∈ (normE (p.2.ev f)).cells, y.cl1 = true) /\ p.1 < len := by
   intro p hp
   have := List.all_eq_true.1 hok p hp
   simp only [Bool.and_eq_true, beq_iff_eq, decide_eq_true_iff] at this
   have q : ∀ y ∈ (normE (p.2.ev f)).cells, y.cl1 = true := by simpa using this.1.2
   exact ⟨⟨this.1.1, fun y hy => AV.one_of_cl1 (q y hy)⟩, q, this.2⟩
 obtain ⟨arr, g1, g2, g3, g4⟩ := rows_fill (E := E) (sz := i.size) (ps.map fun p => (p.1, normE (p.2.ev f))) (parts.toList.map fun p => (p.1, a.eval p.2)) _ _ hz0 (by simp [e1])
   (fun k p q hp hq => by
     rw [List.getElem?_map] at hp hq
     cases h1 : ps[k]? with
     | none => simp [h1] at hp
     | some p' =>
       cases h2 : parts.toList[k]? with
       | none => simp [h2] at hq
       | some q' =>
         simp only [h1, h2, Option.map_some, Option.some.injEq] at hp hq
         subst hp hq
         exact ⟨(e2 k p' q' h1 h2).1, Rel.norm (e2 k p' q' h1 h2).2⟩)
   (fun p hp => by
     rw [List.mem_map] at hp
     obtain ⟨q, hq, rfl⟩ := hp
     simpa using ⟨(hok' q hq).1, (hok' q hq).2.2⟩)
 rw [List.foldl_map] at g2 g3 g4
 generalize hes : List.foldl (fun es (p : Nat × X) => es.set p.1 (normE (p.2.ev f))) (List.replicate len (ofC z)) ps = es at g2 g3 g4 ⊢
 have hesl : es.length = len := by
   rw [<- hes]
   have : ∀ (l : List (Nat × X)) (s : List AV), (l.foldl (fun es (p : Nat × X) => es.set p.1 (normE (p.2.ev f))) s).length = s.length := by
     intro l
     induction l with
     | nil => intro s; rfl
     | cons p l ih => intro s; rw [List.foldl_cons, ih]; simp
   rw [this]; simp
 have hescl : ∀ x ∈ es, ∀ y ∈ x.cells, y.cl1 = true := by
   rw [<- hes]
   have : ∀ (l : List (Nat × X)) (s : List AV), (∀ p ∈ l, ∀ y ∈ (normE (p.2.ev f)).cells, y.cl1 = true) -> (∀ x ∈ s, ∀ y ∈ x.cells, y.cl1 = true) -> ∀ x ∈ l.foldl (fun es (p : Nat × X) => es.set p.1 (normE (p.2.ev f))) s, ∀ y ∈ x.cells, y.cl1 = true := by
     intro l
     induction l with
     | nil => intro s _ h2; exact h2
     | cons p l ih =>
       intro s h1 h2
       rw [List.foldl_cons]
       refine ih _ (fun q hq => h1 q (by simp [hq])) ?_
       intro x hx
       rcases List.mem_or_eq_of_mem_set hx with hx | hx
       . exact h2 x hx
       . rw [hx]; exact h1 p (by simp)
   exact this ps _ (fun p hp => (hok' p hp).2.1) (fun x hx => by rw [List.eq_of_mem_replicate hx]; exact hz1')
 have hown : (w.alloc (.cells arr e)).ownsRow B e i.size (.slice (some ⟨w.heap.size, 0, none⟩) len len) es.length arr.toList := by
   refine ⟨by rw [Array.length_toList, g2], .inr ⟨w.heap.size, len, arr, by rw [hesl], hB, heap_alloc_new w _, by omega, ?_, by rw [g2, hesl], ?_⟩⟩
   . have : len <= len * i.size := Nat.le_mul_of_pos_right _ h0
     simp only [maxLen]; omega
   . rw [List.take_of_length_le]; rw [Array.length_toList, g2]; exact Nat.le_refl _
 have H1 := H.grow (w' := w.alloc (.cells arr e)) (fun k hk => heap_alloc_old w _ k hk)
 obtain ⟨E', hE, hEu, hEB, H2, hrel⟩ := H1.newAcc nm st i.size e hst es _ arr.toList (.of hown) g3
   (fun k x hx j y hy => by obtain ⟨u, hu, hr, _⟩ := g4 k x hx j y hy; exact ⟨u, by simpa using hu, Rel.of_cl1 (E := E) (E' := E.cl) (fun _ _ _ q => q) hr (hescl x (List.mem_of_getElem? hx) y (List.mem_of_getElem? hy))⟩)
   (fun m b hb q => by have := (H.bk m b hb).lt; simp only [Value.ownBlock, Option.some.injEq] at q; omega)
   (fun m t' ht' _ g hg q => by have := ((H.tk m t' ht').lt hg).2; simp only [Value.ownBlock, Option.some.injEq] at q; omega)
   (fun g j hg _ => K_none H (by simp only [Value.ownBlock, Option.some.injEq] at hg; omega) j)
 refine ⟨.slice (some ⟨w.heap.size, 0, none⟩) len len, w.alloc (.cells arr e), E', .inl ?_, hE, hEu, hEB, H2, hW.alloc hB _, hrel⟩
 have hnot : ¬ (len * i.size > 2 ^ 24) := by omega
 have hlen' : ¬ (16777216 < len * i.size) := by omega
 by_cases hl0 : len * i.size = 0
 . have hl : len = 0 := by
     rcases Nat.mul_eq_zero.1 hl0 with q | q
     . exact q
     . omega
   subst hl
   have er : ∀ g : Nat -> Value, Array.map g (Array.range 0) = #[] := fun g => by simp [Array.range]
   rw [Nat.zero_mul, er] at g1
   simp [execOp, ho, Instr.buildSlice, run_underlying ht, sizeOf, typeInfo, hi, zeroValue, hz, newRow, er, g1]
 . simp [execOp, ho, Instr.buildSlice, run_underlying ht, sizeOf, typeInfo, hi, zeroValue, hz, newRow, hlen', hl0] at g1 ⊢
   simp [g1]
theorem mark_done (H : HConc E B h w) (hW : Below B W w) (o : Oper) (src dst e d0 : TypeId) (x : Operand) (ho : o.op = .convert src dst x) (hs : P.underlying src = some (.slice d0)) (hd : P.underlying dst = some (.slice e)) (he : P.underlying e = some (.int .u8)) (hsd : (src == dst) = true)
   (m s : Nat) (xs : List AV) (hne : xs ≠ []) (t : Tok) (ht : h.tok m = some t) (hts : t.st = s) (hsz : t.sz = 1) (hx : Rel E (.acc m s 1 xs) (a.eval x)) :
   Done B W E st ((execOp a.eval o).run P w) { v := .acc m s 1 xs } h := by
 subst hts
 have hx0 := hx
 obtain ⟨n0, cs, hown, hK⟩ := H.tk m t ht
 generalize hv : a.eval x = v at hx
 cases hx with
 | acc _ _ _ _ _ hu hvv hl =>
   rw [<- hvv] at hown hK
   rcases hown.2 with ⟨q, _⟩ | ⟨g, cap, cur, fz, q, hbg, hg, hfz, hnc, hcm, hcs, htk⟩
   . rw [q] at hl
     cases hl
     exact absurd rfl hne
   . obtain ⟨lo, hi⟩ := fz
     generalize hfz' : (if (lo == hi) = true then (cur.size, cur.size + 1) else (min lo cur.size, max hi (cur.size + 1))) = fz'
     have hok' : FzOk t.sz fz' cur.size := by
       refine .inr ⟨hsz, ?_⟩
       rw [<- hfz']
       split
       . exact Nat.le_refl _
       . rename_i hlh
         rcases hfz with h0 | ⟨_, h0⟩
         . cases h0; exact absurd rfl hlh
         . simp only at h0 ⊢; omega
     generalize hw' : w.freeze ⟨g, cur.size, none⟩ 1 = w'
     have hold : ∀ k, k ≠ g -> w'.heap[k]? = w.heap[k]? := by
       intro k hk
       rw [<- hw']
       simp only [World.freeze]
       rw [if_neg (by decide)]
       simp [Array.getElem?_modify, Ne.symm hk]
     have hnew : w'.heap[g]? = some (.cells cur t.ty fz') := by
       rw [<- hw', <- hfz']
       simp only [World.freeze]
       rw [if_neg (by decide)]
       simp [Array.getElem?_modify, hg]
     have hcell : ∀ b o, w'.cell? ⟨b, o, none⟩ = w.cell? ⟨b, o, none⟩ := by
       intro b o
       by_cases hb : b = g
       . subst hb
         rw [cell_of_row w' b o cur t.ty fz' hnew, cell_of_row w b o cur t.ty (lo, hi) hg]
       . exact World.cell?_of_block (w := w) (hold b hb)
     have hvb : v.ownBlock = some g := by rw [q]; rfl
     have hown' : OwnsM w' B t.ty t.sz v n0 cs := ⟨hown.1, .inr ⟨g, cap, cur, fz', q, hbg, hnew, hok', hnc, hcm, hcs, htk⟩⟩
     have hhp : h.setT m (some t) = h := by
       cases h
       simp only [Hp.setT, Hp.mk.injEq, true_and]
       funext k
       simp only [upd]
       split
       . rename_i hk; rw [hk]; exact ht.symm
       . rfl
     have H1 : HConc E B (h.setT m none) w' := (H.dropT m).change (fun b o u hu => by rw [hcell]; exact H.K b o u hu)
       (fun n b hb => hold _ (fun e => H.bt n m b t hb ht (by rw [<- hvv, hvb, e])))
       (fun n t' g' hn hg' => by
         obtain ⟨hn1, hn2⟩ : n ≠ m /\ h.tok n = some t' := by
           simp only [Hp.setT, upd] at hn
           split at hn
           . cases hn
           . rename_i hne'; exact ⟨hne', hn⟩
         exact hold _ (fun e => H.tt n m t' t g' hn1 hn2 ht hg' (by rw [<- hvv, hvb, e])))
     have H2 := H1.putT t (H.tu m t ht) ⟨n0, cs, by rw [<- hvv]; exact hown', by rw [<- hvv]; exact hK⟩ (fun n b hb => H.bt n m b t hb ht) (fun n t' g' hn1 hn2 hg' q' => H.tt n m t' t g' hn1 hn2 ht hg' q')
     rw [hhp] at H2
     refine ⟨v, w', E, .inl ?_, .refl E, fun _ h => .inl h, fun _ _ _ => rfl, H2, ?_, by rw [<- hv]; exact hx0⟩
     . have hshp : w.shape? g = some (t.ty, cur.size) := by simp only [World.shape?, hg]
       rw [<- hw']
       simp [execOp, ho, hv, q, convert, run_underlying hs, run_underlying hd, run_underlying he, hsd, markStringish, hshp]
     . exact hW.trans ⟨by rw [<- hw']; rfl, by rw [<- hw']; rfl, by rw [<- hw']; rfl, by rw [<- hw']; simp [World.freeze], fun b hb => hold b (by omega)⟩
theorem strOf_get : ∀ (xs : List AV) (l : List UInt8), strOf xs = some l -> l.length = xs.length /\ ∀ (j : Nat) (hj : j < l.length), xs[j]? = some (.int .u8 (l[j].toNat : Int))
 | [], l, h => by cases h; exact ⟨rfl, fun j hj => by simp at hj⟩
 | x :: xs, l, h => by
   unfold strOf at h
   split at h
   . rename_i q; cases q
   . rename_i k q
     rename_i n xs'
     cases q
     split at h
     . rename_i hn
       simp only [Option.map_eq_some_iff] at h
       obtain ⟨r, hr, rfl⟩ := h
       obtain ⟨e1, e2⟩ := strOf_get _ _ hr
       refine ⟨by simp [e1], fun j hj => ?_⟩
       rcases j with _ | j
       . simp; omega
       . simpa using e2 j (by simpa using hj)
     . cases h
   . cases h
theorem bys_done (H : HConc E B h w) (hW : Below B W w) (o : Oper) (src dst e : TypeId) (x : Operand) (ho : o.op = .convert src dst x) (hs : P.underlying src = some (.slice e)) (hd : P.underlying dst = some .string) (he : P.underlying e = some (.int .u8))
   (v : AV) (hx : Rel E v (a.eval x)) (xs : List AV) (hv : listOf h.blk 1 v = some xs) (l : List UInt8) (hl : strOf xs = some l) :
   Done B W E st ((execOp a.eval o).run P w) { v := .str ⟨l.toArray⟩ } h := by
 obtain ⟨ad, c, news, eu, hyc, hnl, hyel, hn1, hspot, hyr⟩ := src_of H hx hv
 obtain ⟨e1, e2⟩ := strOf_get xs l hl
 refine Done.pure H hW (v := .string ⟨l.toArray⟩) ?_ (.str _)
 rcases hspot with ⟨rfl, rfl⟩ | ⟨ad, rfl, hc⟩
 . have : l = [] := List.eq_nil_of_length_eq_zero e1
   subst this
   simp [execOp, ho, eu, convert, run_underlying hs, run_underlying hd, run_underlying he, Conv.bytesToString]
   rfl
 . have hr := run_convert_bytes_back (P := P) w src dst e ad c l hs he hd (fun j hj => by
     have hx' := e2 j hj
     obtain ⟨u, hu, hr⟩ := hyr j _ hx' 0 _ rfl
     cases hr
     exact hc j _ (by simpa using hu))
   rw [e1] at hr
   simp only [execOp, ho, eu, Sem.run_bind, hr, Result.andThen_ok, Sem.run_pure]
theorem bslm_done (H : HConc E B h w) (hW : Below B W w) (hB : B <= w.heap.size) (hst : ¬ E.u st) (hf : ∀ t, t < n -> Rel E (f t) (a.tmps.getD t undef)) (o : Oper) (t e : TypeId) (len : Nat) (parts : Array (Nat × Operand)) (ho : o.op = .buildSlice t len parts)
   (ht : P.underlying t = some (.slice e)) (i : TypeInfo) (hi : P.info? e = some i) (z : Value) (hz : i.zero = some z) (hlen : len * i.size <= 2 ^ 24) (hzs : z.cells.size = i.size) (h0 : 0 < i.size) (ps : List (Nat × X)) (hps : cParts n parts.toList = some ps)
   (hok : (ps.all fun p => ((p.2.ev f).cells.length == i.size) && (p.2.ev f).cells.all AV.one && decide (p.1 < len)) = true) (hzl : (ofC z).cells.length = i.size) (hz1 : (ofC z).cells.all AV.one = true) :
   Done B W E st ((execOp a.eval o).run P w) { v := .sl nm st i.size 0 len, wb := [(nm, some ⟨st, i.size, ps.foldl (fun es p => es.set p.1 (p.2.ev f)) (List.replicate len (ofC z))⟩)] } h := by
 have hz1' : ∀ y ∈ (ofC z).cells, y.one = true := by simpa using hz1
 have hel : ElemOk i.size (ofC z) := ⟨hzl, hz1'⟩
 have hz0 := zeros_row (E := E) z hzs h0 len hel
 obtain ⟨e1, e2⟩ := cParts_ok hf _ _ hps
 have hok' : ∀ p ∈ ps, ElemOk i.size (p.2.ev f) /\ p.1 < len := by
   intro p hp
   have := List.all_eq_true.1 hok p hp
   simp only [Bool.and_eq_true, beq_iff_eq, decide_eq_true_iff] at this
   exact ⟨⟨this.1.1, by simpa using this.1.2⟩, this.2⟩
 obtain ⟨arr, g1, g2, g3, g4⟩ := rows_fill (E := E) (sz := i.size) (ps.map fun p => (p.1, p.2.ev f)) (parts.toList.map fun p => (p.1, a.eval p.2)) _ _ hz0 (by simp [e1])
   (fun k p q hp hq => by
     rw [List.getElem?_map] at hp hq
     cases h1 : ps[k]? with
     | none => simp [h1] at hp
     | some p' =>
       cases h2 : parts.toList[k]? with
       | none => simp [h2] at hq
       | some q' =>
         simp only [h1, h2, Option.map_some, Option.some.injEq] at hp hq
         subst hp hq
         exact ⟨(e2 k p' q' h1 h2).1, (e2 k p' q' h1 h2).2⟩)
   (fun p hp => by
     rw [List.mem_map] at hp
     obtain ⟨q, hq, rfl⟩ := hp
     simpa using ⟨(hok' q hq).1, (hok' q hq).2⟩)
 rw [List.foldl_map] at g2 g3 g4
 generalize hes : List.foldl (fun es (p : Nat × X) => es.set p.1 (p.2.ev f)) (List.replicate len (ofC z)) ps = es at g2 g3 g4 ⊢
 have hesl : es.length = len := by
   rw [<- hes]
   have : ∀ (l : List (Nat × X)) (s : List AV), (l.foldl (fun es (p : Nat × X) => es.set p.1 (p.2.ev f)) s).length = s.length := by
     intro l
     induction l with
     | nil => intro s; rfl
     | cons p l ih => intro s; rw [List.foldl_cons, ih]; simp
   rw [this]; simp
 refine ⟨.slice (some ⟨w.heap.size, 0, none⟩) len len, w.alloc (.cells arr e), E.withM st (w.heap.size, 0) len, .inl ?_, Env.le_withM hst _ _, fun s hs => hs.elim .inr .inl, fun _ _ _ => rfl, ?_, hW.alloc hB _, ?_⟩
 . have hlen' : ¬ (16777216 < len * i.size) := by omega
   by_cases hl0 : len * i.size = 0
   . have hl : len = 0 := by
       rcases Nat.mul_eq_zero.1 hl0 with q | q
       . exact q
       . omega
     subst hl
     have er : ∀ g : Nat -> Value, Array.map g (Array.range 0) = #[] := fun g => by simp [Array.range]
     rw [Nat.zero_mul, er] at g1
     simp [execOp, ho, Instr.buildSlice, run_underlying ht, sizeOf, typeInfo, hi, zeroValue, hz, newRow, er, g1]
   . simp [execOp, ho, Instr.buildSlice, run_underlying ht, sizeOf, typeInfo, hi, zeroValue, hz, newRow, hlen', hl0] at g1 ⊢
     simp [g1]
 . exact H.newRow hB nm st i.size (by omega) hst es arr e g3 len (by rw [hesl]; exact Nat.le_refl _) (by rw [g2, hesl]; exact Nat.le_refl _) (fun k x hx j y hy => by obtain ⟨u, hu, hr, _⟩ := g4 k x hx j y hy; exact ⟨u, hu, hr⟩)
 . have em : (E.withM st (w.heap.size, 0) len).m st = (w.heap.size, 0) := upd_same _ _ _
   have ec : (E.withM st (w.heap.size, 0) len).cp st = len := upd_same _ _ _
   have hln : len <= len * i.size := Nat.le_mul_of_pos_right _ h0
   have hlm : len <= maxLen := by simp only [maxLen]; omega
   refine .sl nm st i.size 0 len len _ (.inl rfl) (Nat.le_refl _) (by rw [ec]; omega) (fun _ => ?_)
   rw [em]; simp
theorem msl_done (H : HConc E B h w) (hW : Below B W w) (hB : B <= w.heap.size) (hst : ¬ E.u st) (o : Oper) (t e : TypeId) (l : Operand) (ho : o.op = .makeSlice t l l) (ht : P.underlying t = some (.slice e)) (i : TypeInfo) (hi : P.info? e = some i) (z : Value)
   (hz : i.zero = some z) (hb : 0 < i.bytes) (hzs : z.cells.size = i.size) (h0 : 0 < i.size) (k : IntKind) (m : Nat) (hl : Rel E (.int k m) (a.eval l)) (hm : m * i.bytes <= 140737488355328) (hzl : (ofC z).cells.length = i.size) (hz1 : (ofC z).cells.all AV.one = true) :
   Done B W E st ((execOp a.eval o).run P w) { v := .sl nm st i.size 0 m, wb := [(nm, some ⟨st, i.size, List.replicate m (ofC z)⟩)] } h := by
 have hel : ElemOk i.size (ofC z) := ⟨hzl, by simpa using hz1⟩
 have hm' : m <= m * i.bytes := Nat.le_mul_of_pos_right _ hb
 have hcast : (i.bytes : Int) * (m : Int) = ((m * i.bytes : Nat) : Int) := by rw [Int.mul_comm]; simp
 have hrun := run_make (P := P) w t e i z ht hi hz k k (m : Int) (m : Int) (by omega) (Int.le_refl _) (by rw [hcast]; omega) (by omega)
 simp only [Int.toNat_natCast] at hrun
 obtain ⟨g1, g2, g3⟩ := RowRel.zeros (E := E) (Rel_ofC E z) hel m (madeCells z.cells (m * i.size)) (by simp [madeCells]) (fun k hk => by
   have : k % i.size < z.cells.size := by rw [hzs]; exact Nat.mod_lt _ h0
   unfold madeCells; rw [Array.getElem?_map, Array.getElem?_range, hzs]; simp [hk, this])
 refine ⟨_, _, E.withM st (w.heap.size, 0) m, .inl (by simp [execOp, ho, hl.int_inv, hrun]; exact ⟨rfl, rfl⟩), Env.le_withM hst _ _, fun s hs => hs.elim .inr .inl, fun _ _ _ => rfl, ?_, hW.alloc hB _, ?_⟩
 . exact H.newRow hB nm st i.size (by omega) hst (List.replicate m (ofC z)) _ e g2 m (by simp) (by rw [g1]; simp) (fun k x hx j y hy => by obtain ⟨u, hu, hr, _⟩ := g3 k x hx j y hy; exact ⟨u, hu, hr⟩)
 . have em : (E.withM st (w.heap.size, 0) m).m st = (w.heap.size, 0) := upd_same _ _ _
   have ec : (E.withM st (w.heap.size, 0) m).cp st = m := upd_same _ _ _
   refine .sl nm st i.size 0 m m _ (.inl rfl) (Nat.le_refl _) (by rw [ec]; omega) (fun _ => ?_)
   rw [em]; simp
end
end Go.Gv
