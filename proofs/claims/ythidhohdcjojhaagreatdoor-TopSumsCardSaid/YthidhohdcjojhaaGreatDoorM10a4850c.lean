/- Texts of this proof, one behind the other. What is proved, and on which conditions, stands ahead of each. -/
import Derived.Test.YthidhohdcjojhaaGreatDoorM6a157be
import Derived.Laws.Concat

set_option linter.unusedVariables false
set_option linter.unusedSimpArgs false
namespace Go.Gv
open Go.RowKit
section
variable {P : Program} {B : Nat} {W : World} {E : Env} {h : Hp} {w : World} {a : Act} {f : Nat -> AV} {n nm st : Nat}
theorem run_eqGuard_scalar (op : BinOp) (t : TypeId) (x y : Operand) (u v : Value) (hu : (∃ b, u = .bool b) \/ ∃ k m, u = .int k m) : (eqGuard op t x y u v).run P w = .ok () w := by
 rcases hu with ⟨b, rfl⟩ | ⟨k, m, rfl⟩ <;> cases op <;> simp [eqGuard] <;> (split <;> simp_all)
theorem eq1_run (d : Nat) (t : TypeId) (kb : Bool) (x y : AV) (u v : Value) (hu : Rel E x u) (hv : Rel E y v) (r : Bool) (hr : eq1 kb x y = some r)
   (ht : (kb = true /\ P.underlying t = some .bool) \/ (kb = false /\ ∃ k, P.underlying t = some (.int k))) :
   (Op.equalIn (d + 1) t u v).run P w = .ok r w := by
 rcases ht with ⟨rfl, ht⟩ | ⟨rfl, k0, ht⟩
 . cases x <;> cases y <;> simp only [eq1] at hr <;> (try (cases hr; done))
   cases hr
   rw [hu.bool_inv, hv.bool_inv]
   simp [Op.equalIn, run_underlying ht]
 . cases x <;> cases y <;> simp only [eq1] at hr <;> (try (cases hr; done))
   split at hr
   . rename_i e; subst e
     cases hr
     rw [hu.int_inv, hv.int_inv]
     simp [Op.equalIn, run_underlying ht]
   . cases hr
theorem part_cell (t : TypeId) (d : TypeDesc) (ht : P.underlying t = some d) (hd : isAggD d = false) (cs : Array Value) (k : Nat) (v : Value) (hk : cs[k]? = some v) : (part t cs k).run P w = .ok v w := by
 have hagg : (isAgg t).run P w = .ok false w := by
   unfold isAgg
   rw [Sem.run_bind, run_underlying ht w]
   cases d <;> simp_all [isAggD]
 simp [part, hagg, hk]
theorem eqL_run (d : Nat) (us vs : Array Value) : ∀ (fs : List Field) (k : Nat) (ks : List Bool) (xs ys : List AV) (r : Bool), scalarFields P k fs = some ks -> eqL ks xs ys = some r ->
   (∀ (j : Nat) (x : AV), xs[j]? = some x -> ∃ u, us[k + j]? = some u /\ Rel E x u) -> (∀ (j : Nat) (x : AV), ys[j]? = some x -> ∃ u, vs[k + j]? = some u /\ Rel E x u) ->
   (Op.eqFields (d + 1) us vs fs).run P w = .ok r w
 | [], k, ks, xs, ys, r, hs, hr, hx, hy => by
   cases hs
   cases xs <;> cases ys <;> simp only [eqL] at hr <;> (try (cases hr; done))
   cases hr
   simp [Op.eqFields]
 | f :: fs, k, ks, xs, ys, r, hs, hr, hx, hy => by
   simp only [scalarFields] at hs
   split at hs
   . rename_i hc
     obtain ⟨ho, hn⟩ := hc
     have hn' : f.name ≠ "_" := by simpa using hn
     have main : ∀ (kb : Bool) (ks' : List Bool), scalarFields P (k + 1) fs = some ks' -> ks = kb :: ks' -> ((kb = true /\ P.underlying f.type = some .bool) \/ (kb = false /\ ∃ k, P.underlying f.type = some (.int k))) ->
         (∃ dd, P.underlying f.type = some dd /\ isAggD dd = false) -> (Op.eqFields (d + 1) us vs (f :: fs)).run P w = .ok r w := by
       intro kb ks' hs' e ht hdd
       subst e
       obtain ⟨dd, hdd1, hdd2⟩ := hdd
       cases xs with
       | nil => cases ys <;> simp [eqL] at hr
       | cons x xs =>
         cases ys with
         | nil => simp [eqL] at hr
         | cons y ys =>
           obtain ⟨u, hu, hru⟩ := hx 0 x rfl
           obtain ⟨v, hv, hrv⟩ := hy 0 y rfl
           rw [Nat.add_zero] at hu hv
           have p1 := part_cell (P := P) (w := w) f.type dd hdd1 hdd2 us k u hu
           have p2 := part_cell (P := P) (w := w) f.type dd hdd1 hdd2 vs k v hv
           simp only [eqL] at hr
           have ih := eqL_run d us vs fs (k + 1) ks' xs ys
           cases h1 : eq1 kb x y with
           | none => simp [h1] at hr
           | some b =>
             have q := eq1_run (P := P) (w := w) d f.type kb x y u v hru hrv b h1 ht
             cases b with
             | true =>
               simp only [h1] at hr
               have := ih r hs' hr (fun j z hz => by have := hx (j + 1) z (by simpa using hz); rwa [show k + (j + 1) = k + 1 + j by omega] at this)
                 (fun j z hz => by have := hy (j + 1) z (by simpa using hz); rwa [show k + (j + 1) = k + 1 + j by omega] at this)
               simp [Op.eqFields, hn', ho, p1, p2, q, this]
             | false =>
               simp only [h1] at hr
               cases hr
               simp [Op.eqFields, hn', ho, p1, p2, q]
     split at hs
     . rename_i k0 ht
       simp only [Option.map_eq_some_iff] at hs
       obtain ⟨ks', h1, rfl⟩ := hs
       exact main false ks' h1 rfl (.inr ⟨rfl, k0, ht⟩) ⟨_, ht, rfl⟩
     . rename_i ht
       simp only [Option.map_eq_some_iff] at hs
       obtain ⟨ks', h1, rfl⟩ := hs
       exact main true ks' h1 rfl (.inl ⟨rfl, ht⟩) ⟨_, ht, rfl⟩
     . cases hs
   . cases hs
theorem eqL_append : ∀ (k1 k2 : List Bool) (xs ys : List AV) (r : Bool), eqL (k1 ++ k2) xs ys = some r ->
   ∃ r1, eqL k1 (xs.take k1.length) (ys.take k1.length) = some r1 /\ ((r1 = true /\ eqL k2 (xs.drop k1.length) (ys.drop k1.length) = some r) \/ (r1 = false /\ r = false))
 | [], k2, xs, ys, r, h => ⟨true, by simp [eqL], .inl ⟨rfl, by simpa using h⟩⟩
 | kb :: k1, k2, xs, ys, r, h => by
   cases xs with
   | nil => cases ys <;> simp [eqL] at h
   | cons x xs =>
     cases ys with
     | nil => simp [eqL] at h
     | cons y ys =>
       simp only [List.cons_append, eqL] at h
       cases h1 : eq1 kb x y with
       | none => simp [h1] at h
       | some b =>
         cases b with
         | true =>
           simp only [h1] at h
           obtain ⟨r1, q1, q2⟩ := eqL_append k1 k2 xs ys r h
           exact ⟨r1, by simp [eqL, h1, q1], by simpa using q2⟩
         | false =>
           simp only [h1] at h
           cases h
           exact ⟨false, by simp [eqL, h1], .inr ⟨rfl, rfl⟩⟩
theorem part_struct (t : TypeId) (fs : Array Field) (ht : P.underlying t = some (.struct fs)) (m : Nat) (hm : (P.info? t).map (·.size) = some m) (cs : Array Value) (k : Nat) : (part t cs k).run P w = .ok (.agg (cs.extract k (k + m))) w := by
 have hagg : (isAgg t).run P w = .ok true w := by
   unfold isAgg
   rw [Sem.run_bind, run_underlying ht w]
   rfl
 cases hi : P.info? t with
 | none => simp [hi] at hm
 | some i =>
   have e : i.size = m := by simpa [hi] using hm
   subst e
   simp [part, hagg, sizeOf, typeInfo, hi]
theorem eqL2_run (d : Nat) (us vs : Array Value) : ∀ (fs : List Field) (k : Nat) (ks : List Bool) (xs ys : List AV) (r : Bool), scalar2 P k fs = some ks -> eqL ks xs ys = some r ->
   (∀ (j : Nat) (x : AV), xs[j]? = some x -> ∃ u, us[k + j]? = some u /\ Rel E x u) -> (∀ (j : Nat) (x : AV), ys[j]? = some x -> ∃ u, vs[k + j]? = some u /\ Rel E x u) ->
   (Op.eqFields (d + 2) us vs fs).run P w = .ok r w
 | [], k, ks, xs, ys, r, hs, hr, hx, hy => by
   cases hs
   cases xs <;> cases ys <;> simp only [eqL] at hr <;> (try (cases hr; done))
   cases hr
   simp [Op.eqFields]
 | f :: fs, k, ks, xs, ys, r, hs, hr, hx, hy => by
   simp only [scalar2] at hs
   split at hs
   . rename_i hc
     obtain ⟨ho, hn⟩ := hc
     have hn' : f.name ≠ "_" := by simpa using hn
     have main : ∀ (kb : Bool) (ks' : List Bool), scalar2 P (k + 1) fs = some ks' -> ks = kb :: ks' -> ((kb = true /\ P.underlying f.type = some .bool) \/ (kb = false /\ ∃ k, P.underlying f.type = some (.int k))) ->
         (∃ dd, P.underlying f.type = some dd /\ isAggD dd = false) -> (Op.eqFields (d + 2) us vs (f :: fs)).run P w = .ok r w := by
       intro kb ks' hs' e ht hdd
       subst e
       obtain ⟨dd, hdd1, hdd2⟩ := hdd
       cases xs with
       | nil => cases ys <;> simp [eqL] at hr
       | cons x xs =>
         cases ys with
         | nil => simp [eqL] at hr
         | cons y ys =>
           obtain ⟨u, hu, hru⟩ := hx 0 x rfl
           obtain ⟨v, hv, hrv⟩ := hy 0 y rfl
           rw [Nat.add_zero] at hu hv
           have p1 := part_cell (P := P) (w := w) f.type dd hdd1 hdd2 us k u hu
           have p2 := part_cell (P := P) (w := w) f.type dd hdd1 hdd2 vs k v hv
           simp only [eqL] at hr
           have ih := eqL2_run d us vs fs (k + 1) ks' xs ys
           cases h1 : eq1 kb x y with
           | none => simp [h1] at hr
           | some b =>
             have q := eq1_run (P := P) (w := w) (d + 1) f.type kb x y u v hru hrv b h1 ht
             cases b with
             | true =>
               simp only [h1] at hr
               have := ih r hs' hr (fun j z hz => by have := hx (j + 1) z (by simpa using hz); rwa [show k + (j + 1) = k + 1 + j by omega] at this)
                 (fun j z hz => by have := hy (j + 1) z (by simpa using hz); rwa [show k + (j + 1) = k + 1 + j by omega] at this)
               simp [Op.eqFields, hn', ho, p1, p2, q, this]
             | false =>
               simp only [h1] at hr
               cases hr
               simp [Op.eqFields, hn', ho, p1, p2, q]
     split at hs
     . rename_i k0 ht
       simp only [Option.map_eq_some_iff] at hs
       obtain ⟨ks', h1, rfl⟩ := hs
       exact main false ks' h1 rfl (.inr ⟨rfl, k0, ht⟩) ⟨_, ht, rfl⟩
     . rename_i ht
       simp only [Option.map_eq_some_iff] at hs
       obtain ⟨ks', h1, rfl⟩ := hs
       exact main true ks' h1 rfl (.inl ⟨rfl, ht⟩) ⟨_, ht, rfl⟩
     . rename_i fs2 ht
       simp only [Option.bind_eq_some_iff] at hs
       obtain ⟨k1, hk1, hs⟩ := hs
       split at hs
       . rename_i hq
         obtain ⟨hq1, hq2⟩ := hq
         simp only [Option.map_eq_some_iff] at hs
         obtain ⟨k2, hk2, rfl⟩ := hs
         obtain ⟨r1, e1, e2⟩ := eqL_append k1 k2 xs ys r hr
         have hf : P.fieldsOf f.type = fs2 := by simp [Program.fieldsOf, ht]
         have ht' : P.underlying f.type = some (.struct (P.fieldsOf f.type)) := by rw [hf]; exact ht
         have p1 := part_struct (P := P) (w := w) f.type fs2 ht k1.length hq2 us k
         have p2 := part_struct (P := P) (w := w) f.type fs2 ht k1.length hq2 vs k
         have get : ∀ (zs : List AV) (cs : Array Value), (∀ (j : Nat) (x : AV), zs[j]? = some x -> ∃ u, cs[k + j]? = some u /\ Rel E x u) -> ∀ (j : Nat) (x : AV), (zs.take k1.length)[j]? = some x -> ∃ u, (cs.extract k (k + k1.length))[0 + j]? = some u /\ Rel E x u := by
           intro zs cs hz j x hj
           rw [List.getElem?_take] at hj
           split at hj
           . rename_i hlt
             obtain ⟨u, hu, hru⟩ := hz j x hj
             have hul := (Array.getElem?_eq_some_iff.1 hu).1
             refine ⟨u, ?_, hru⟩
             rw [Nat.zero_add, Array.getElem?_extract, if_pos (by omega)]
             exact hu
           . cases hj
         have q : (Op.equalIn (d + 2) f.type (.agg (us.extract k (k + k1.length))) (.agg (vs.extract k (k + k1.length)))).run P w = .ok r1 w := by
           rw [run_equalIn_struct (P := P) w (d + 1) f.type _ _ ht' hq1, hf]
           exact eqL_run d _ _ fs2.toList 0 k1 _ _ r1 hk1 e1 (get xs us hx) (get ys vs hy)
         rcases e2 with ⟨rfl, e2⟩ | ⟨rfl, rfl⟩
         . have := eqL2_run d us vs fs (k + k1.length) k2 (xs.drop k1.length) (ys.drop k1.length) r hk2 e2
             (fun j z hz => by rw [List.getElem?_drop] at hz; have := hx _ z hz; rwa [show k + (k1.length + j) = k + k1.length + j by omega] at this)
             (fun j z hz => by rw [List.getElem?_drop] at hz; have := hy _ z hz; rwa [show k + (k1.length + j) = k + k1.length + j by omega] at this)
           simp [Op.eqFields, hn', ho, p1, p2, q, this]
         . simp [Op.eqFields, hn', ho, p1, p2, q]
       . cases hs
     . cases hs
   . cases hs
theorem eqv_done (H : HConc E B h w) (hW : Below B W w) (o : Oper) (op : BinOp) (neg : Bool) (t ty : TypeId) (x y : Operand) (ho : o.op = .binOp op t x y ty) (hop : op = if neg = true then .neq else .eql) (ht : P.underlying t = some .bool) (p q : Bool)
   (hx : Rel E (.bool p) (a.eval x)) (hy : Rel E (.bool q) (a.eval y)) : Done B W E st ((execOp a.eval o).run P w) { v := .bool (if neg = true then p != q else p == q) } h := by
 have hg := fun x y => run_eqGuard_scalar (P := P) (w := w) op t x y (.bool p) (.bool q) (.inl ⟨p, rfl⟩)
 have he : (Op.equal t (.bool p) (.bool q)).run P w = .ok (p == q) w := by
   simp [Op.equal, Op.maxDepth, run_equalIn_bool' w 9999 t p q ht]
 refine Done.pure H hW (v := .bool (if neg = true then p != q else p == q)) ?_ (.bool _)
 subst hop
 cases neg
 . simp only [Bool.false_eq_true, if_false] at hg ho ⊢
   simp only [execOp, ho, hx.bool_inv, hy.bool_inv, Sem.run_bind, hg, Result.andThen_ok, binOp, he, Sem.run_pure]
 . simp only [if_true] at hg ho ⊢
   simp only [execOp, ho, hx.bool_inv, hy.bool_inv, Sem.run_bind, hg, Result.andThen_ok, binOp, he, Sem.run_pure, bne]
theorem sbin_done (H : HConc E B h w) (hW : Below B W w) (o : Oper) (op : BinOp) (t ty : TypeId) (x y : Operand) (ho : o.op = .binOp op t x y ty) (hb : op = .add \/ op = .eql \/ op = .neq) (p q : ByteArray)
   (hx : Rel E (.str p) (a.eval x)) (hy : Rel E (.str q) (a.eval y)) (v : AV) (he : sbinV op p q = some v) : Done B W E st ((execOp a.eval o).run P w) { v := v } h := by
 have hx' : a.eval x = .string p := by generalize a.eval x = z at hx; cases hx; rfl
 have hy' : a.eval y = .string q := by generalize a.eval y = z at hy; cases hy; rfl
 rcases hb with rfl | rfl | rfl
 . simp only [sbinV] at he
   split at he
   . rename_i hs
     cases he
     exact Done.pure H hW (v := .string (p ++ q)) (by simp [execOp, ho, hx', hy', binOp, eqGuard_at_string, run_string_add_sum w p q hs]) (.str _)
   . cases he
 . cases he
   exact Done.pure H hW (v := .bool (strEq p q)) (by simp [execOp, ho, hx', hy', binOp, eqGuard_at_string, Op.stringOp, strEq]) (.bool _)
 . cases he
   exact Done.pure H hW (v := .bool (!strEq p q)) (by simp [execOp, ho, hx', hy', binOp, eqGuard_at_string, Op.stringOp, strEq]) (.bool _)
theorem eqs_done (H : HConc E B h w) (hW : Below B W w) (o : Oper) (op : BinOp) (neg : Bool) (t ty : TypeId) (x y : Operand) (ho : o.op = .binOp op t x y ty) (hop : op = if neg = true then .neq else .eql) (fs : Array Field)
   (ht : P.underlying t = some (.struct fs)) (ks : List Bool) (hks : scalar2 P 0 fs.toList = some ks) (h1 : P.stoodInHeld t = false) (h2 : P.eqGuardType P.depth t = false) (xs ys : List AV)
   (hx : Rel E (.agg xs) (a.eval x)) (hy : Rel E (.agg ys) (a.eval y)) (r : Bool) (hr : eqL ks xs ys = some r) : Done B W E st ((execOp a.eval o).run P w) { v := .bool (if neg = true then !r else r) } h := by
 generalize hu : a.eval x = u at hx
 generalize hv : a.eval y = v at hy
 cases hx with
 | agg _ us s1 _ r1 =>
   cases hy with
   | agg _ vs s2 _ r2 =>
     have hf : P.fieldsOf t = fs := by simp [Program.fieldsOf, ht]
     have ht' : P.underlying t = some (.struct (P.fieldsOf t)) := by rw [hf]; exact ht
     have get : ∀ (cs : List AV) (us : Array Value), cs.length = us.size -> (∀ (j : Nat) (y : AV) (v : Value), cs[j]? = some y -> us[j]? = some v -> Rel E y v) -> ∀ (j : Nat) (x : AV), cs[j]? = some x -> ∃ u, us[0 + j]? = some u /\ Rel E x u := by
       intro cs us s r j z hz
       have hj : j < us.size := by rw [<- s]; exact (List.getElem?_eq_some_iff.1 hz).1
       exact ⟨us[j], by rw [Nat.zero_add]; exact Array.getElem?_eq_getElem hj, r j z _ hz (Array.getElem?_eq_getElem hj)⟩
     have key := eqL2_run (P := P) (w := w) 9997 us vs fs.toList 0 ks xs ys r hks hr (get xs us s1 r1) (get ys vs s2 r2)
     have he : (Op.equalIn 10000 t (.agg us) (.agg vs)).run P w = .ok r w := by
       rw [run_equalIn_struct (P := P) w 9999 t us vs ht' h1, hf]; exact key
     refine Done.pure H hW (v := .bool (if neg = true then !r else r)) ?_ (.bool _)
     have hg := fun x y => run_eqGuard_agg (P := P) w op t x y us vs h2
     subst hop
     cases neg
     . have e1 := run_eql_struct (P := P) w t us vs
       rw [he] at e1
       simp only [Bool.false_eq_true, if_false] at hg ho ⊢
       simp only [execOp, ho, hu, hv, Sem.run_bind, hg, Result.andThen_ok, e1, Sem.run_pure]
     . have e1 := run_neq_struct (P := P) w t us vs
       rw [he] at e1
       simp only [if_true] at hg ho ⊢
       simp only [execOp, ho, hu, hv, Sem.run_bind, hg, Result.andThen_ok, e1, Sem.run_pure]
theorem not_done (H : HConc E B h w) (hW : Below B W w) (o : Oper) (t : TypeId) (x : Operand) (ho : o.op = .unOp .not t x) (b : Bool) (hx : Rel E (.bool b) (a.eval x)) :
   Done B W E st ((execOp a.eval o).run P w) { v := .bool (!b) } h :=
 Done.pure H hW (v := .bool (!b)) (by simp [execOp, ho, hx.bool_inv, Op.unary]) (.bool _)
theorem neg_done (H : HConc E B h w) (hW : Below B W w) (o : Oper) (t : TypeId) (x : Operand) (ho : o.op = .unOp .neg t x) (k : IntKind) (p : Int) (hx : Rel E (.int k p) (a.eval x)) :
   Done B W E st ((execOp a.eval o).run P w) { v := .int k (k.wrap (0 - p)) } h :=
 Done.pure H hW (v := .int k (k.wrap (0 - p))) (by simp [execOp, ho, hx.int_inv, Op.unary, Op.intArith]) (.int _ _)
theorem conv_done (H : HConc E B h w) (hW : Below B W w) (o : Oper) (src dst : TypeId) (x : Operand) (ho : o.op = .convert src dst x) (k : IntKind) (d : TypeDesc) (hs : P.underlying src = some d) (hd : P.underlying dst = some (.int k))
   (k' : IntKind) (p : Int) (hx : Rel E (.int k' p) (a.eval x)) : Done B W E st ((execOp a.eval o).run P w) { v := .int k (k.wrap p) } h :=
 Done.pure H hW (v := .int k (k.wrap p)) (by simp [execOp, ho, hx.int_inv, convert, run_underlying hs, run_underlying hd, Conv.intToInt]) (.int _ _)
theorem mm_fold (mx : Bool) (k : IntKind) : ∀ (l : List AV) (us : List Value) (p r : Int), mmI mx k p l = some r -> l.length = us.length -> (∀ (j : Nat) (y : AV) (u : Value), l[j]? = some y -> us[j]? = some u -> Rel E y u) ->
   (us.foldlM (if mx = true then Builtin.max2 else Builtin.min2) (.int k p)).run P w = .ok (.int k r) w
 | [], us, p, r, hr, hl, _ => by
   have : us = [] := List.eq_nil_of_length_eq_zero (by simpa using hl.symm)
   subst this
   cases hr
   simp
 | x :: l, [], p, r, hr, hl, _ => by simp at hl
 | x :: l, u :: us, p, r, hr, hl, hrel => by
   cases x <;> simp only [mmI] at hr <;> (try (cases hr; done))
   rename_i k' q
   split at hr
   . rename_i e; subst e
     have hu := (hrel 0 _ u rfl rfl).int_inv
     subst hu
     have ih := mm_fold mx k l us _ r hr (by simpa using hl) (fun j y u hy hu => hrel (j + 1) y u (by simpa using hy) (by simpa using hu))
     cases mx
     . simp only [List.foldlM_cons, Bool.false_eq_true, if_false, Builtin.min2] at ih ⊢
       simpa using ih
     . simp only [List.foldlM_cons, if_true, Builtin.max2] at ih ⊢
       simpa using ih
   . cases hr
theorem mm_done (H : HConc E B h w) (hW : Below B W w) (o : Oper) (mx : Bool) (x : Operand) (l : List Operand) (ts : Array TypeId) (args : Array Operand) (hargs : args.toList = x :: l)
   (ho : o.op = .call { callee := .builtin (if mx = true then .max else .min), args := args, argTypes := ts }) (k : IntKind) (p r : Int)
   (hx : Rel E (.int k p) (a.eval x)) (ys : List AV) (hl : ys.length = l.length) (hys : ∀ (j : Nat) (y : AV) (z : Operand), ys[j]? = some y -> l[j]? = some z -> Rel E y (a.eval z)) (hr : mmI mx k p ys = some r) :
   Done B W E st ((execOp a.eval o).run P w) { v := .int k r } h := by
 have key := mm_fold (P := P) (w := w) mx k ys (l.map a.eval) p r hr (by simpa using hl) (fun j y u hy hu => by
   rw [List.getElem?_map] at hu
   cases hz : l[j]? with
   | none => simp [hz] at hu
   | some z => simp [hz] at hu; rw [<- hu]; exact hys j y z hy hz)
 have ea : (args.map a.eval).toList = .int k p :: l.map a.eval := by simp [hargs, hx.int_inv]
 refine Done.pure H hW (v := .int k r) ?_ (.int _ _)
 cases mx
 . simp only [execOp, ho, resolve, invoke, builtin, Bool.false_eq_true, if_false, Builtin.min_, Sem.run_bind, Sem.run_pure, Result.andThen_ok, ea] at key ⊢
   rw [key]; rfl
 . simp only [execOp, ho, resolve, invoke, builtin, if_true, Builtin.max_, Sem.run_bind, Sem.run_pure, Result.andThen_ok, ea] at key ⊢
   rw [key]; rfl
theorem mkf_done (H : HConc E B h w) (hW : Below B W w) (o : Oper) (g : FuncId) (first caps : Array Operand) (h0 : first.size = 0) (ho : o.op = .makeFunc (.func g) first caps) (ys : List AV) (hl : ys.length = caps.toList.length)
   (hys : ∀ (j : Nat) (y : AV) (z : Operand), ys[j]? = some y -> caps.toList[j]? = some z -> Rel E y (a.eval z)) : Done B W E st ((execOp a.eval o).run P w) { v := .fn g ys } h := by
 have e0 : first = #[] := Array.eq_empty_of_size_eq_zero h0
 refine Done.pure H hW (v := .func (.func g) #[] (caps.map a.eval)) (by simp [execOp, ho, e0, Instr.makeFunc]) (.fn g ys _ (by simpa using hl) ?_)
 intro j y v hy hv
 rw [Array.getElem?_map] at hv
 cases hz : caps[j]? with
 | none => simp [hz] at hv
 | some z => simp [hz] at hv; rw [<- hv]; exact hys j y z hy (by simpa using hz)
theorem ext_done (H : HConc E B h w) (hW : Below B W w) (o : Oper) (x : Operand) (i : Nat) (ho : o.op = .extract x i) (vs : List AV) (hx : Rel E (.tup vs) (a.eval x)) (y : AV) (hy : vs[i]? = some y) :
   Done B W E st ((execOp a.eval o).run P w) { v := y } h := by
 generalize hu : a.eval x = u at hx
 cases hx with
 | tup _ us hs hr =>
   have hi : i < us.size := by rw [<- hs]; exact (List.getElem?_eq_some_iff.1 hy).1
   exact Done.pure H hW (v := us[i]) (by simp [execOp, ho, hu, Instr.extract, hi]) (hr i y _ hy (Array.getElem?_eq_getElem hi))
theorem getf_done (H : HConc E B h w) (hW : Below B W w) (o : Oper) (t : TypeId) (x : Operand) (g : Nat) (ho : o.op = .field t x g) (fs : Array Field) (ht : P.underlying t = some (.struct fs)) (fd : Field) (hfd : fs[g]? = some fd)
   (d : TypeDesc) (hd : P.underlying fd.type = some d) (i : TypeInfo) (hi : P.info? fd.type = some i) (cs : List AV) (hx : Rel E (.agg cs) (a.eval x)) (y : AV)
   (hy : (isAggD d = false /\ cs[fd.offset]? = some y) \/ (isAggD d = true /\ fd.offset + i.size <= cs.length /\ y = .agg ((cs.drop fd.offset).take i.size))) :
   Done B W E st ((execOp a.eval o).run P w) { v := y } h := by
 generalize hu : a.eval x = u at hx
 cases hx with
 | agg _ us hs h1 hr =>
   rcases hy with ⟨hd0, hy⟩ | ⟨hd1, hle, rfl⟩
   . have hk : fd.offset < us.size := by rw [<- hs]; exact (List.getElem?_eq_some_iff.1 hy).1
     have p1 := part_cell (P := P) (w := w) fd.type d hd hd0 us fd.offset us[fd.offset] (Array.getElem?_eq_getElem hk)
     exact Done.pure H hW (v := us[fd.offset]) (by simp [execOp, ho, hu, Instr.field, run_underlying ht, hfd, asAgg, p1]) (hr _ y _ hy (Array.getElem?_eq_getElem hk))
   . have hagg : (isAgg fd.type).run P w = .ok true w := by
       unfold isAgg
       rw [Sem.run_bind, run_underlying hd w]
       cases d <;> simp_all [isAggD]
     refine Done.pure H hW (v := .agg (us.extract fd.offset (fd.offset + i.size))) (by simp [execOp, ho, hu, Instr.field, run_underlying ht, hfd, asAgg, part, hagg, sizeOf, typeInfo, hi]) (.agg _ _ ?_ ?_ ?_)
     . simp; omega
     . intro j z hz
       exact h1 _ z (by
         rw [List.getElem?_take] at hz
         split at hz
         . rw [List.getElem?_drop] at hz; exact hz
         . cases hz)
     . intro j z v hz hv
       rw [List.getElem?_take] at hz
       split at hz
       . rename_i hj
         rw [List.getElem?_drop] at hz
         refine hr _ z v hz ?_
         rw [Array.getElem?_extract] at hv
         split at hv
         . exact hv
         . cases hv
       . cases hz
end
end Go.Gv
