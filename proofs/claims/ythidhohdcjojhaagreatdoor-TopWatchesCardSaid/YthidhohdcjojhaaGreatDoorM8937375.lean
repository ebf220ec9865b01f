/- Texts of this proof, one behind the other. What is proved, and on which conditions, stands ahead of each. -/
import Derived.Test.YthidhohdcjojhaaGreatDoorM68022d9
import Derived.Laws.Concat

set_option linter.unusedVariables false
set_option linter.unusedSimpArgs false
namespace Go.Gv
open Go.RowKit
section
variable {P : Program} {B : Nat} {W : World} {E : Env} {h : Hp} {w : World} {a : Act} {f : Nat -> AV} {n nm st : Nat}
theorem run_eqGuard_scalar (op : BinOp) (t : TypeId) (x y : Operand) (u v : Value) (hu : (∃ b, u = .bool b) \/ ∃ k m, u = .int k m) : (eqGuard op t x y u v).run P w = .ok () w := by
 rcases hu with ⟨b, rfl⟩ | ⟨k, m, rfl⟩ <;> cases op <;> simp [eqGuard] <;> (split <;> simp_all)
theorem eq1_run (d : Nat) (t : TypeId) (kb : Bool) (x y : AV) (u v : Value) (hu : Rel E x u) (hv : Rel E y v) (r : Bool) (hr : eq1 kb x y = some r)
   (ht : (kb = true /\ P.underlying t = some .bool) \/ (kb = false /\ ∃ k, P.underlying t = some (.int k))) :
   (Op.equalIn (d + 1) t u v).run P w = .ok r w := by
 rcases ht with ⟨rfl, ht⟩ | ⟨rfl, k0, ht⟩
 . cases x <;> cases y <;> simp only [eq1] at hr <;> (try (cases hr; done))
   cases hr
   rw [hu.bool_inv, hv.bool_inv]
   simp [Op.equalIn, run_underlying ht]
 . cases x <;> cases y <;> simp only [eq1] at hr <;> (try (cases hr; done))
   split at hr
   . rename_i e; subst e
     cases hr
     rw [hu.int_inv, hv.int_inv]
     simp [Op.equalIn, run_underlying ht]
   . cases hr
theorem part_cell (t : TypeId) (d : TypeDesc) (ht : P.underlying t = some d) (hd : isAggD d = false) (cs : Array Value) (k : Nat) (v : Value) (hk : cs[k]? = some v) : (part t cs k).run P w = .ok v w := by
 have hagg : (isAgg t).run P w = .ok false w := by
   unfold isAgg
   rw [Sem.run_bind, run_underlying ht w]
   cases d <;> simp_all [isAggD]
 simp [part, hagg, hk]
theorem eqL_run (d : Nat) (us vs : Array Value) : ∀ (fs : List Field) (k : Nat) (ks : List Bool) (xs ys : List AV) (r : Bool), scalarFields P k fs = some ks -> eqL ks xs ys = some r ->
   (∀ (j : Nat) (x : AV), xs[j]? = some x -> ∃ u, us[k + j]? = some u /\ Rel E x u) -> (∀ (j : Nat) (x : AV), ys[j]? = some x -> ∃ u, vs[k + j]? = some u /\ Rel E x u) ->
   (Op.eqFields (d + 1) us vs fs).run P w = .ok r w
 | [], k, ks, xs, ys, r, hs, hr, hx, hy => by
   cases hs
   cases xs <;> cases ys <;> simp only [eqL] at hr <;> (try (cases hr; done))
   cases hr
   simp [Op.eqFields]
 | f :: fs, k, ks, xs, ys, r, hs, hr, hx, hy => by
   simp only [scalarFields] at hs
   split at hs
   . rename_i hc
     obtain ⟨ho, hn⟩ := hc
     have hn' : f.name ≠ "_" := by simpa using hn
     have main : ∀ (kb : Bool) (ks' : List Bool), scalarFields P (k + 1) fs = some ks' -> ks = kb :: ks' -> ((kb = true /\ P.underlying f.type = some .bool) \/ (kb = false /\ ∃ k, P.underlying f.type = some (.int k))) ->
         (∃ dd, P.underlying f.type = some dd /\ isAggD dd = false) -> (Op.eqFields (d + 1) us vs (f :: fs)).run P w = .ok r w := by
       intro kb ks' hs' e ht hdd
       subst e
       obtain ⟨dd, hdd1, hdd2⟩ := hdd
       cases xs with
       | nil => cases ys <;> simp [eqL] at hr
       | cons x xs =>
         cases ys with
         | nil => simp [eqL] at hr
         | cons y ys =>
           obtain ⟨u, hu, hru⟩ := hx 0 x rfl
           obtain ⟨v, hv, hrv⟩ := hy 0 y rfl
           rw [Nat.add_zero] at hu hv
           have p1 := part_cell (P := P) (w := w) f.type dd hdd1 hdd2 us k u hu
           have p2 := part_cell (P := P) (w := w) f.type dd hdd1 hdd2 vs k v hv
           simp only [eqL] at hr
           have ih := eqL_run d us vs fs (k + 1) ks' xs ys
           cases h1 : eq1 kb x y with
           | none => simp [h1] at hr
           | some b =>
             have q := eq1_run (P := P) (w := w) d f.type kb x y u v hru hrv b h1 ht
             cases b with
             | true =>
               simp only [h1] at hr
               have := ih r hs' hr (fun j z hz => by have := hx (j + 1) z (by simpa using hz); rwa [show k + (j + 1) = k + 1 + j by omega] at this)
                 (fun j z hz => by have := hy (j + 1) z (by simpa using hz); rwa [show k + (j + 1) = k + 1 + j by omega] at this)
               simp [Op.eqFields, hn', ho, p1, p2, q, this]
             | false =>
               simp only [h1] at hr
               cases hr
               simp [Op.eqFields, hn', ho, p1, p2, q]
     split at hs
     . rename_i k0 ht
       simp only [Option.map_eq_some_iff] at hs
       obtain ⟨ks', h1, rfl⟩ := hs
       exact main false ks' h1 rfl (.inr ⟨rfl, k0, ht⟩) ⟨_, ht, rfl⟩
     . rename_i ht
       simp only [Option.map_eq_some_iff] at hs
       obtain ⟨ks', h1, rfl⟩ := hs
       exact main true ks' h1 rfl (.inl ⟨rfl, ht⟩) ⟨_, ht, rfl⟩
     . cases hs
   . cases hs
theorem eqL_append : ∀ (k1 k2 : List Bool) (xs ys : List AV) (r : Bool), eqL (k1 ++ k2) xs ys = some r ->
   ∃ r1, eqL k1 (xs.take k1.length) (ys.take k1.length) = some r1 /\ ((r1 = true /\ eqL k2 (xs.drop k1.length) (ys.drop k1.length) = some r) \/ (r1 = false /\ r = false))
 | [], k2, xs, ys, r, h => ⟨true, by simp [eqL], .inl ⟨rfl, by simpa using h⟩⟩
 | kb :: k1, k2, xs, ys, r, h => by
   cases xs with
   | nil => cases ys <;> simp [eqL] at h
   | cons x xs =>
     cases ys with
     | nil => simp [eqL] at h
     | cons y ys =>
       simp only [List.cons_append, eqL] at h
       cases h1 : eq1 kb x y with
       | none => simp [h1] at h
       | some b =>
         cases b with
         | true =>
           simp only [h1] at h
           obtain ⟨r1, q1, q2⟩ := eqL_append k1 k2 xs ys r h
           exact ⟨r1, by simp [eqL, h1, q1], by simpa using q2⟩
         | false =>
           simp only [h1] at h
           cases h
           exact ⟨false, by simp [eqL, h1], .inr ⟨rfl, rfl⟩⟩
theorem part_struct (t : TypeId) (fs : Array Field) (ht : P.underlying t = some (.struct fs)) (m : Nat) (hm : (P.info? t).map (·.size) = some m) (cs : Array Value) (k : Nat) : (part t cs k).run P w = .ok (.agg (cs.extract k (k + m))) w := by
 have hagg : (isAgg t).run P w = .ok true w := by
   unfold isAgg
   rw [Sem.run_bind, run_underlying ht w]
   rfl
 cases hi : P.info? t with
 | none => simp [hi] at hm
 | some i =>
   have e : i.size = m := by simpa [hi] using hm
   subst e
   simp [part, hagg, sizeOf, typeInfo, hi]
theorem eqL2_run (d : Nat) (us vs : Array Value) : ∀ (fs : List Field) (k : Nat) (ks : List Bool) (xs ys : List AV) (r : Bool), scalar2 P k fs = some ks -> eqL ks xs ys = some r ->
   (∀ (j : Nat) (x : AV), xs[j]? = some x -> ∃ u, us[k + j]? = some u /\ Rel E x u) -> (∀ (j : Nat) (x : AV), ys[j]? = some x -> ∃ u, vs[k + j]? = some u /\ Rel E x u) ->
   (Op.eqFields (d + 2) us vs fs).run P w = .ok r w
 | [], k, ks, xs, ys, r, hs, hr, hx, hy => by
   cases hs
   cases xs <;> cases ys <;> simp only [eqL] at hr <;> (try (cases hr; done))
   cases hr
   simp [Op.eqFields]
 | f :: fs, k, ks, xs, ys, r, hs, hr, hx, hy => by
   simp only [scalar2] at hs
   split at hs
   . rename_i hc
     obtain ⟨ho, hn⟩ := hc
     have hn' : f.name ≠ "_" := by simpa using hn
     have main : ∀ (kb : Bool) (ks' : List Bool), scalar2 P (k + 1) fs = some ks' -> ks = kb :: ks' -> ((kb = true /\ P.underlying f.type = some .bool) \/ (kb = false /\ ∃ k, P.underlying f.type = some (.int k))) ->
         (∃ dd, P.underlying f.type = some dd /\ isAggD dd = false) -> (Op.eqFields (d + 2) us vs (f :: fs)).run P w = .ok r w := by
       intro kb ks' hs' e ht hdd
       subst e
       obtain ⟨dd, hdd1, hdd2⟩ := hdd
       cases xs with
       | nil => cases ys <;> simp [eqL] at hr
       | cons x xs =>
         cases ys with
         | nil => simp [eqL] at hr
         | cons y ys =>
           obtain ⟨u, hu, hru⟩ := hx 0 x rfl
           obtain ⟨v, hv, hrv⟩ := hy 0 y rfl
           rw [Nat.add_zero] at hu hv
           have p1 := part_cell (P := P) (w := w) f.type dd hdd1 hdd2 us k u hu
           have p2 := part_cell (P := P) (w := w) f.type dd hdd1 hdd2 vs k v hv
           simp only [eqL] at hr
           have ih := eqL2_run d us vs fs (k + 1) ks' xs ys
           cases h1 : eq1 kb x y with
           | none => simp [h1] at hr
           | some b =>
             have q := eq1_run (P := P) (w := w) (d + 1) f.type kb x y u v hru hrv b h1 ht
             cases b with
             | true =>
               simp only [h1] at hr
               have := ih r hs' hr (fun j z hz => by have := hx (j + 1) z (by simpa using hz); rwa [show k + (j + 1) = k + 1 + j by omega] at this)
                 (fun j z hz => by have := hy (j + 1) z (by simpa using hz); rwa [show k + (j + 1) = k + 1 + j by omega] at this)
               simp [Op.eqFields, hn', ho, p1, p2, q, this]
             | false =>
               simp only [h1] at hr
               cases hr
               simp [Op.eqFields, hn', ho, p1, p2, q]
     split at hs
     . rename_i k0 ht
       simp only [Option.map_eq_some_iff] at hs
       obtain ⟨ks', h1, rfl⟩ := hs
       exact main false ks' h1 rfl (.inr ⟨rfl, k0, ht⟩) ⟨_, ht, rfl⟩
     . rename_i ht
       simp only [Option.map_eq_some_iff] at hs
       obtain ⟨ks', h1, rfl⟩ := hs
       exact main true ks' h1 rfl (.inl ⟨rfl, ht⟩) ⟨_, ht, rfl⟩
     . rename_i fs2 ht
       simp only [Option.bind_eq_some_iff] at hs
       obtain ⟨k1, hk1, hs⟩ := hs
       split at hs
       . rename_i hq
         obtain ⟨hq1, hq2⟩ := hq
         simp only [Option.map_eq_some_iff] at hs
         obtain ⟨k2, hk2, rfl⟩ := hs
         obtain ⟨r1, e1, e2⟩ := eqL_append k1 k2 xs ys r hr
         have hf : P.fieldsOf f.type = fs2 := by simp [Program.fieldsOf, ht]
         have ht' : P.underlying f.type = some (.struct (P.fieldsOf f.type)) := by rw [hf]; exact ht
         have p1 := part_struct (P := P) (w := w) f.type fs2 ht k1.length hq2 us k
         have p2 := part_struct (P := P) (w := w) f.type fs2 ht k1.length hq2 vs k
         have get : ∀ (zs : List AV) (cs : Array Value), (∀ (j : Nat) (x : AV), zs[j]? = some x -> ∃ u, cs[k + j]? = some u /\ Rel E x u) -> ∀ (j : Nat) (x : AV), (zs.take k1.length)[j]? = some x -> ∃ u, (cs.extract k (k + k1.length))[0 + j]? = some u /\ Rel E x u := by
           intro zs cs hz j x hj
           rw [List.getElem?_take] at hj
           split at hj
           . rename_i hlt
             obtain ⟨u, hu, hru⟩ := hz j x hj
             have hul := (Array.getElem?_eq_some_iff.1 hu).1
             refine ⟨u, ?_, hru⟩
             rw [Nat.zero_add, Array.getElem?_extract, if_pos (by omega)]
             exact hu
           . cases hj
         have q : (Op.equalIn (d + 2) f.type (.agg (us.extract k (k + k1.length))) (.agg (vs.extract k (k + k1.length)))).run P w = .ok r1 w := by
           rw [run_equalIn_struct (P := P) w (d + 1) f.type _ _ ht' hq1, hf]
           exact eqL_run d _ _ fs2.toList 0 k1 _ _ r1 hk1 e1 (get xs us hx) (get ys vs hy)
         rcases e2 with ⟨rfl, e2⟩ | ⟨rfl, rfl⟩
         . have := eqL2_run d us vs fs (k + k1.length) k2 (xs.drop k1.length) (ys.drop k1.length) r hk2 e2
             (fun j z hz => by rw [List.getElem?_drop] at hz; have := hx _ z hz; rwa [show k + (k1.length + j) = k + k1.length + j by omega] at this)
             (fun j z hz => by rw [List.getElem?_drop] at hz; have := hy _ z hz; rwa [show k + (k1.length + j) = k + k1.length + j by omega] at this)
           simp [Op.eqFields, hn', ho, p1, p2, q, this]
         . simp [Op.eqFields, hn', ho, p1, p2, q]
       . cases hs
     . cases hs
   . cases hs
theorem eqv_done (H : HConc E B h w) (hW : Below B W w) (o : Oper) (op : BinOp) (neg : Bool) (t ty : TypeId) (x y : Operand) (ho : o.op = .binOp op t x y ty) (hop : op = if neg = true then .neq else .eql) (ht : P.underlying t = some .bool) (p q : Bool)
   (hx : Rel E (.bool p) (a.eval x)) (hy : Rel E (.bool q) (a.eval y)) : Done B W E st ((execOp a.eval o).run P w) { v := .bool (if neg = true then p != q else p == q) } h := by
 have hg := fun x y => run_eqGuard_scalar (P := P) (w := w) op t x y (.bool p) (.bool q) (.inl ⟨p, rfl⟩)
 have he : (Op.equal t (.bool p) (.bool q)).run P w = .ok (p == q) w := by
   simp [Op.equal, Op.maxDepth, run_equalIn_bool' w 9999 t p q ht]
 refine Done.pure H hW (v := .bool (if neg = true then p != q else p == q)) ?_ (.bool _)
 subst hop
 cases neg
 . simp only [Bool.false_eq_true, if_false] at hg ho ⊢
   simp only [execOp, ho, hx.bool_inv, hy.bool_inv, Sem.run_bind, hg, Result.andThen_ok, binOp, he, Sem.run_pure]
 . simp only [if_true] at hg ho ⊢
   simp only [execOp, ho, hx.bool_inv, hy.bool_inv, Sem.run_bind, hg, Result.andThen_ok, binOp, he, Sem.run_pure, bne]
theorem sbin_done (H : HConc E B h w) (hW : Below B W w) (o : Oper) (op : BinOp) (t ty : TypeId) (x y : Operand) (ho : o.op = .binOp op t x y ty) (hb : op = .add \/ op = .eql \/ op = .neq) (p q : ByteArray)
   (hx : Rel E (.str p) (a.eval x)) (hy : Rel E (.str q) (a.eval y)) (v : AV) (he : sbinV op p q = some v) : Done B W E st ((execOp a.eval o).run P w) { v := v } h := by
 have hx' : a.eval x = .string p := by generalize a.eval x = z at hx; cases hx; rfl
 have hy' : a.eval y = .string q := by generalize a.eval y = z at hy; cases hy; rfl
 rcases hb with rfl | rfl | rfl
 . simp only [sbinV] at he
   split at he
   . rename_i hs
     cases he
     exact Done.pure H hW (v := .string (p ++ q)) (by simp [execOp, ho, hx', hy', binOp, eqGuard_at_string, run_string_add_sum w p q hs]) (.str _)
   . cases he
 . cases he
   exact Done.pure H hW (v := .bool (strEq p q)) (by simp [execOp, ho, hx', hy', binOp, eqGuard_at_string, Op.stringOp, strEq]) (.bool _)
 . cases he
   exact Done.pure H hW (v := .bool (!strEq p q)) (by simp [execOp, ho, hx', hy', binOp, eqGuard_at_string, Op.stringOp, strEq]) (.bool _)
theorem eqs_done (H : HConc E B h w) (hW : Below B W w) (o : Oper) (op : BinOp) (neg : Bool) (t ty : TypeId) (x y : Operand) (ho : o.op = .binOp op t x y ty) (hop : op = if neg = true then .neq else .eql) (fs : Array Field)
   (ht : P.underlying t = some (.struct fs)) (ks : List Bool) (hks : scalar2 P 0 fs.toList = some ks) (h1 : P.stoodInHeld t = false) (h2 : P.eqGuardType P.depth t = false) (xs ys : List AV)
   (hx : Rel E (.agg xs) (a.eval x)) (hy : Rel E (.agg ys) (a.eval y)) (r : Bool) (hr : eqL ks xs ys = some r) : Done B W E st ((execOp a.eval o).run P w) { v := .bool (if neg = true then !r else r) } h := by
 generalize hu : a.eval x = u at hx
 generalize hv : a.eval y = v at hy
 cases hx with
 | agg _ us s1 _ r1 =>
   cases hy with
   | agg _ vs s2 _ r2 =>
     have hf : P.fieldsOf t = fs := by simp [Program.fieldsOf, ht]
     have ht' : P.underlying t = some (.struct (P.fieldsOf t)) := by rw [hf]; exact ht
     have get : ∀ (cs : List AV) (us : Array Value), cs.length = us.size -> (∀ (j : Nat) (y : AV) (v : Value), cs[j]? = some y -> us[j]? = some v -> Rel E y v) -> ∀ (j : Nat) (x : AV), cs[j]? = some x -> ∃ u, us[0 + j]? = some u /\ Rel E x u := by
       intro cs us s r j z hz
       have hj : j < us.size := by rw [<- s]; exact (List.getElem?_eq_some_iff.1 hz).1
       exact ⟨us[j], by rw [Nat.zero_add]; exact Array.getElem?_eq_getElem hj, r j z _ hz (Array.getElem?_eq_getElem hj)⟩
     have key := eqL2_run (P := P) (w := w) 9997 us vs fs.toList 0 ks xs ys r hks hr (get xs us s1 r1) (get ys vs s2 r2)
     have he : (Op.equalIn 10000 t (.agg us) (.agg vs)).run P w = .ok r w := by
       rw [run_equalIn_struct (P := P) w 9999 t us vs ht' h1, hf]; exact key
     refine Done.pure H hW (v := .bool (if neg = true then !r else r)) ?_ (.bool _)
     have hg := fun x y => run_eqGuard_agg (P := P) w op t x y us vs h2
     subst hop
     cases neg
     . have e1 := run_eql_struct (P := P) w t us vs
       rw [he] at e1
       simp only [Bool.false_eq_true, if_false] at hg ho ⊢
       simp only [execOp, ho, hu, hv, Sem.run_bind, hg, Result.andThen_ok, e1, Sem.run_pure]
     . have e1 := run_neq_struct (P := P) w t us vs
       rw [he] at e1
       simp only [if_true] at hg ho ⊢
       simp only [execOp, ho, hu, hv, Sem.run_bind, hg, Result.andThen_ok, e1, Sem.run_pure]
theorem not_done (H : HConc E B h w) (hW : Below B W w) (o : Oper) (t : TypeId) (x : Operand) (ho : o.op = .unOp .not t x) (b : Bool) (hx : Rel E (.bool b) (a.eval x)) :
   Done B W E st ((execOp a.eval o).run P w) { v := .bool (!b) } h :=
 Done.pure H hW (v := .bool (!b)) (by simp [execOp, ho, hx.bool_inv, Op.unary]) (.bool _)
theorem neg_done (H : HConc E B h w) (hW : Below B W w) (o : Oper) (t : TypeId) (x : Operand) (ho : o.op = .unOp .neg t x) (k : IntKind) (p : Int) (hx : Rel E (.int k p) (a.eval x)) :
   Done B W E st ((execOp a.eval o).run P w) { v := .int k (k.wrap (0 - p)) } h :=
 Done.pure H hW (v := .int k (k.wrap (0 - p))) (by simp [execOp, ho, hx.int_inv, Op.unary, Op.intArith]) (.int _ _)
theorem conv_done (H : HConc E B h w) (hW : Below B W w) (o : Oper) (src dst : TypeId) (x : Operand) (ho : o.op = .convert src dst x) (k : IntKind) (d : TypeDesc) (hs : P.underlying src = some d) (hd : P.underlying dst = some (.int k))
   (k' : IntKind) (p : Int) (hx : Rel E (.int k' p) (a.eval x)) : Done B W E st ((execOp a.eval o).run P w) { v := .int k (k.wrap p) } h :=
 Done.pure H hW (v := .int k (k.wrap p)) (by simp [execOp, ho, hx.int_inv, convert, run_underlying hs, run_underlying hd, Conv.intToInt]) (.int _ _)
theorem mm_fold (mx : Bool) (k : IntKind) : ∀ (l : List AV) (us : List Value) (p r : Int), mmI mx k p l = some r -> l.length = us.length -> (∀ (j : Nat) (y : AV) (u : Value), l[j]? = some y -> us[j]? = some u -> Rel E y u) ->
   (us.foldlM (if mx = true then Builtin.max2 else Builtin.min2) (.int k p)).run P w = .ok (.int k r) w
 | [], us, p, r, hr, hl, _ => by
   have : us = [] := List.eq_nil_of_length_eq_zero (by simpa using hl.symm)
   subst this
   cases hr
   simp
 | x :: l, [], p, r, hr, hl, _ => by simp at hl
 | x :: l, u :: us, p, r, hr, hl, hrel => by
   cases x <;> simp only [mmI] at hr <;> (try (cases hr; done))
   rename_i k' q
   split at hr
   . rename_i e; subst e
     have hu := (hrel 0 _ u rfl rfl).int_inv
     subst hu
     have ih := mm_fold mx k l us _ r hr (by simpa using hl) (fun j y u hy hu => hrel (j + 1) y u (by simpa using hy) (by simpa using hu))
     cases mx
     . simp only [List.foldlM_cons, Bool.false_eq_true, if_false, Builtin.min2] at ih ⊢
       simpa using ih
     . simp only [List.foldlM_cons, if_true, Builtin.max2] at ih ⊢
       simpa using ih
   . cases hr
theorem mm_done (H : HConc E B h w) (hW : Below B W w) (o : Oper) (mx : Bool) (x : Operand) (l : List Operand) (ts : Array TypeId) (args : Array Operand) (hargs : args.toList = x :: l)
   (ho : o.op = .call { callee := .builtin (if mx = true then .max else .min), args := args, argTypes := ts }) (k : IntKind) (p r : Int)
   (hx : Rel E (.int k p) (a.eval x)) (ys : List AV) (hl : ys.length = l.length) (hys : ∀ (j : Nat) (y : AV) (z : Operand), ys[j]? = some y -> l[j]? = some z -> Rel E y (a.eval z)) (hr : mmI mx k p ys = some r) :
   Done B W E st ((execOp a.eval o).run P w) { v := .int k r } h := by
 have key := mm_fold (P := P) (w := w) mx k ys (l.map a.eval) p r hr (by simpa using hl) (fun j y u hy hu => by
   rw [List.getElem?_map] at hu
   cases hz : l[j]? with
   | none => simp [hz] at hu
   | some z => simp [hz] at hu; rw [<- hu]; exact hys j y z hy hz)
 have ea : (args.map a.eval).toList = .int k p :: l.map a.eval := by simp [hargs, hx.int_inv]
 refine Done.pure H hW (v := .int k r) ?_ (.int _ _)
 cases mx
 . simp only [execOp, ho, resolve, invoke, builtin, Bool.false_eq_true, if_false, Builtin.min_, Sem.run_bind, Sem.run_pure, Result.andThen_ok, ea] at key ⊢
   rw [key]; rfl
 . simp only [execOp, ho, resolve, invoke, builtin, if_true, Builtin.max_, Sem.run_bind, Sem.run_pure, Result.andThen_ok, ea] at key ⊢
   rw [key]; rfl
theorem mkf_done (H : HConc E B h w) (hW : Below B W w) (o : Oper) (g : FuncId) (first caps : Array Operand) (h0 : first.size = 0) (ho : o.op = .makeFunc (.func g) first caps) (ys : List AV) (hl : ys.length = caps.toList.length)
   (hys : ∀ (j : Nat) (y : AV) (z : Operand), ys[j]? = some y -> caps.toList[j]? = some z -> Rel E y (a.eval z)) : Done B W E st ((execOp a.eval o).run P w) { v := .fn g ys } h := by
 have e0 : first = #[] := Array.eq_empty_of_size_eq_zero h0
 refine Done.pure H hW (v := .func (.func g) #[] (caps.map a.eval)) (by simp [execOp, ho, e0, Instr.makeFunc]) (.fn g ys _ (by simpa using hl) ?_)
 intro j y v hy hv
 rw [Array.getElem?_map] at hv
 cases hz : caps[j]? with
 | none => simp [hz] at hv
 | some z => simp [hz] at hv; rw [<- hv]; exact hys j y z hy (by simpa using hz)
theorem ext_done (H : HConc E B h w) (hW : Below B W w) (o : Oper) (x : Operand) (i : Nat) (ho : o.op = .extract x i) (vs : List AV) (hx : Rel E (.tup vs) (a.eval x)) (y : AV) (hy : vs[i]? = some y) :
   Done B W E st ((execOp a.eval o).run P w) { v := y } h := by
 generalize hu : a.eval x = u at hx
 cases hx with
 | tup _ us hs hr =>
   have hi : i < us.size := by rw [<- hs]; exact (List.getElem?_eq_some_iff.1 hy).1
   exact Done.pure H hW (v := us[i]) (by simp [execOp, ho, hu, Instr.extract, hi]) (hr i y _ hy (Array.getElem?_eq_getElem hi))
theorem getf_done (H : HConc E B h w) (hW : Below B W w) (o : Oper) (t : TypeId) (x : Operand) (g : Nat) (ho : o.op = .field t x g) (fs : Array Field) (ht : P.underlying t = some (.struct fs)) (fd : Field) (hfd : fs[g]? = some fd)
   (d : TypeDesc) (hd : P.underlying fd.type = some d) (i : TypeInfo) (hi : P.info? fd.type = some i) (cs : List AV) (hx : Rel E (.agg cs) (a.eval x)) (y : AV)
   (hy : (isAggD d = false /\ cs[fd.offset]? = some y) \/ (isAggD d = true /\ fd.offset + i.size <= cs.length /\ y = .agg ((cs.drop fd.offset).take i.size))) :
   Done B W E st ((execOp a.eval o).run P w) { v := y } h := by
 generalize hu : a.eval x = u at hx
 cases hx with
 | agg _ us hs h1 hr =>
   rcases hy with ⟨hd0, hy⟩ | ⟨hd1, hle, rfl⟩
   . have hk : fd.offset < us.size := by rw [<- hs]; exact (List.getElem?_eq_some_iff.1 hy).1
     have p1 := part_cell (P := P) (w := w) fd.type d hd hd0 us fd.offset us[fd.offset] (Array.getElem?_eq_getElem hk)
     exact Done.pure H hW (v := us[fd.offset]) (by simp [execOp, ho, hu, Instr.field, run_underlying ht, hfd, asAgg, p1]) (hr _ y _ hy (Array.getElem?_eq_getElem hk))
   . have hagg : (isAgg fd.type).run P w = .ok true w := by
       unfold isAgg
       rw [Sem.run_bind, run_underlying hd w]
       cases d <;> simp_all [isAggD]
     refine Done.pure H hW (v := .agg (us.extract fd.offset (fd.offset + i.size))) (by simp [execOp, ho, hu, Instr.field, run_underlying ht, hfd, asAgg, part, hagg, sizeOf, typeInfo, hi]) (.agg _ _ ?_ ?_ ?_)
     . simp; omega
     . intro j z hz
       exact h1 _ z (by
         rw [List.getElem?_take] at hz
         split at hz
         . rw [List.getElem?_drop] at hz; exact hz
         . cases hz)
     . intro j z v hz hv
       rw [List.getElem?_take] at hz
       split at hz
       . rename_i hj
         rw [List.getElem?_drop] at hz
         refine hr _ z v hz ?_
         rw [Array.getElem?_extract] at hv
         split at hv
         . exact hv
         . cases hv
       . cases hz
end
end Go.Gv

namespace Go.Gv
open Go.RowKit
section
variable {P : Program} {B : Nat} {W : World} {E : Env} {h : Hp} {w : World} {a : Act} {f : Nat -> AV} {n nm st : Nat}
theorem cFields_ok (hf : ∀ t, t < n -> Rel E (f t) (a.tmps.getD t undef)) (places : List (Nat × Nat)) : ∀ (l : List (Nat × Operand)) (ps : List (Nat × Nat × X)), cFields n places l = some ps ->
   (ps.all fun p => (p.2.2.ev f).cells.length == p.2.1) = true ->
   Parts E (fun i => places[i]?) (ps.map fun p => (p.1, (p.2.2.ev f).cells)) (l.map fun p => (p.1, a.eval p.2))
 | [], ps, h, _ => by cases h; exact .nil
 | p :: l, ps, h, hall => by
   simp only [cFields, Option.bind_eq_some_iff, Option.map_eq_some_iff] at h
   obtain ⟨x, hx, q, hq, ps', hps, rfl⟩ := h
   simp only [List.all_cons, Bool.and_eq_true, beq_iff_eq] at hall
   exact .cons (by rw [hq, hall.1]) (cX_ok hf hx) (cFields_ok hf places l ps' hps hall.2)
theorem build_done (H : HConc E B h w) (hW : Below B W w) (hf : ∀ t, t < n -> Rel E (f t) (a.tmps.getD t undef)) (o : Oper) (t : TypeId) (parts : Array (Nat × Operand)) (ho : o.op = .build t parts) (fs : Array Field) (ht : P.underlying t = some (.struct fs))
   (i : TypeInfo) (hi : P.info? t = some i) (z : Value) (hz : i.zero = some z) (places : List (Nat × Nat)) (hp : placesOf P fs.toList = some places) (ps : List (Nat × Nat × X)) (hps : cFields n places parts.toList = some ps)
   (h1 : (ofC z).cells.all AV.one = true) (cs : List AV) (hcs : fillA 0 (ofC z).cells (ps.map fun p => (p.1, (p.2.2.ev f).cells)) = some cs) (hall : (ps.all fun p => (p.2.2.ev f).cells.length == p.2.1) = true) :
   Done B W E st ((execOp a.eval o).run P w) { v := .agg cs } h := by
 have h1' : ∀ y ∈ (ofC z).cells, y.one = true := by simpa using h1
 obtain ⟨c1, c2⟩ := (Rel_ofC E z).cells h1'
 have hz0 : CellsRel E (ofC z).cells z.cells := by
   refine ⟨c1, h1', fun j y v hy hv => ?_⟩
   obtain ⟨u, hu, hr, _⟩ := c2 j y hy
   rw [hv] at hu; cases hu; exact hr
 obtain ⟨zs, g1, g2, g3, g4⟩ := fill_ok (cFields_ok hf places parts.toList ps hps hall) _ _ _ hz0 hcs
 have hb : P.built t (parts.map fun p => (p.1, a.eval p.2)).toList = some zs := by
   simp only [Program.built, hi, ht, hz]
   have : fs.toList.mapM (fun f => (P.info? f.type).map fun i => (f.offset, i.size)) = some places := hp
   simp only [this, Array.toList_map]
   simpa using g1
 refine Done.pure H hW (v := .agg zs) (by simp [execOp, ho, run_build w t _ zs hb]) (.agg cs zs g2.symm ?_ g4)
 exact fun j y hy => g3 y (List.mem_of_getElem? hy)
theorem cParts_ok (hf : ∀ t, t < n -> Rel E (f t) (a.tmps.getD t undef)) : ∀ (l : List (Nat × Operand)) (ps : List (Nat × X)), cParts n l = some ps ->
   ps.length = l.length /\ ∀ (k : Nat) (p : Nat × X) (q : Nat × Operand), ps[k]? = some p -> l[k]? = some q -> p.1 = q.1 /\ Rel E (p.2.ev f) (a.eval q.2)
 | [], ps, h => by cases h; simp
 | p :: l, ps, h => by
   simp only [cParts, Option.bind_eq_some_iff, Option.map_eq_some_iff] at h
   obtain ⟨x, hx, ps', hps, rfl⟩ := h
   obtain ⟨e1, e2⟩ := cParts_ok hf l ps' hps
   refine ⟨by simp [e1], fun k u v hu hv => ?_⟩
   cases k with
   | zero => simp at hu hv; subst hu hv; exact ⟨rfl, cX_ok hf hx⟩
   | succ k => exact e2 k u v (by simpa using hu) (by simpa using hv)
theorem zeros_row {sz : Nat} (z : Value) (hz : z.cells.size = sz) (h0 : 0 < sz) (len : Nat) (hel : ElemOk sz (ofC z)) : RowRel E sz (List.replicate len (ofC z)) ((Array.range (len * sz)).map fun i => z.cells[i % z.cells.size]!) := by
 refine RowRel.zeros (Rel_ofC E z) hel len _ (by simp) ?_
 intro k hk
 rw [Array.getElem?_map, Array.getElem?_range]
 rw [hz]
 have : k % sz < z.cells.size := by rw [hz]; exact Nat.mod_lt _ h0
 simp [hk, this]
theorem Rel.norm1 {x : AV} {v : Value} (h : Rel E x v) : Rel E (norm1 x) v := by
 cases h with
 | acc nm st sz xs v hu hv hl => exact hl
 | junk v => exact .junk v
 | raw v => exact .raw v
 | bool b => exact .bool b
 | int k n => exact .int k n
 | str s => exact .str s
 | nilp => exact .nilp
 | nilf => exact .nilf
 | nils => exact .nils
 | ptr nm st sz i off hu => exact .ptr nm st sz i off hu
 | kp cs off b o f hk h1 hr => exact .kp cs off b o f hk h1 hr
 | lst0 sz a cap => exact .lst0 sz a cap
 | lst xs b o sz cap f hcap hsz hk h1 hr => exact .lst xs b o sz cap f hcap hsz hk h1 hr
 | sl nm st sz off len cap a hu hcap hc ha => exact .sl nm st sz off len cap a hu hcap hc ha
 | mp nm st hu => exact .mp nm st hu
 | fn f caps vs hs hr => exact .fn f caps vs hs hr
 | agg cs vs hs h1 hr => exact .agg cs vs hs h1 hr
 | tup cs vs hs hr => exact .tup cs vs hs hr
theorem norm1_one {x : AV} (h : x.one = true) : (Gv.norm1 x).one = true := by
 cases x <;> first | rfl | exact h
theorem Rel.norm {x : AV} {v : Value} (h : Rel E x v) : Rel E (normE x) v := by
 by_cases hx : ∃ cs, x = .agg cs
 . obtain ⟨cs, rfl⟩ := hx
   cases h with
   | agg _ vs hs h1 hr =>
     refine .agg _ vs (by simpa using hs) ?_ ?_
     . intro j y hy
       rw [List.getElem?_map] at hy
       cases hc : cs[j]? with
       | none => simp [hc] at hy
       | some z => simp only [hc, Option.map_some, Option.some.injEq] at hy; rw [<- hy]; exact norm1_one (h1 j z hc)
     . intro j y u hy hu
       rw [List.getElem?_map] at hy
       cases hc : cs[j]? with
       | none => simp [hc] at hy
       | some z => simp only [hc, Option.map_some, Option.some.injEq] at hy; rw [<- hy]; exact (hr j z u hc hu).norm1
 . have : normE x = Gv.norm1 x := by cases x <;> first | rfl | exact absurd ⟨_, rfl⟩ hx
   rw [this]; exact h.norm1
theorem bsl_done (H : HConc E B h w) (hW : Below B W w) (hB : B <= w.heap.size) (hst : ¬ E.u st) (hf : ∀ t, t < n -> Rel E (f t) (a.tmps.getD t undef)) (o : Oper) (t e : TypeId) (len : Nat) (parts : Array (Nat × Operand)) (ho : o.op = .buildSlice t len parts)
   (ht : P.underlying t = some (.slice e)) (i : TypeInfo) (hi : P.info? e = some i) (z : Value) (hz : i.zero = some z) (hlen : len * i.size <= 2 ^ 24) (hzs : z.cells.size = i.size) (h0 : 0 < i.size) (ps : List (Nat × X)) (hps : cParts n parts.toList = some ps)
   (hok : (ps.all fun p => ((normE (p.2.ev f)).cells.length == i.size) && (normE (p.2.ev f)).cells.all AV.cl1 && decide (p.1 < len)) = true) (hzl : (ofC z).cells.length = i.size) (hz1 : (ofC z).cells.all AV.cl1 = true) :
   Done B W E st ((execOp a.eval o).run P w) { v := .acc nm st i.size (ps.foldl (fun es p => es.set p.1 (normE (p.2.ev f))) (List.replicate len (ofC z))), wt := [(nm, some ⟨st, i.size, e⟩)] } h := by
 have hz1' : ∀ y ∈ (ofC z).cells, y.cl1 = true := by simpa using hz1
 have hel : ElemOk i.size (ofC z) := ⟨hzl, fun y hy => AV.one_of_cl1 (hz1' y hy)⟩
 have hz0 := zeros_row (E := E) z hzs h0 len hel
 obtain ⟨e1, e2⟩ := cParts_ok hf _ _ hps
 have hok' : ∀ p ∈ ps, ElemOk i.size (normE (p.2.ev f)) /\ (∀ y ∈ (normE (p.2.ev f)).cells, y.cl1 = true) /\ p.1 < len := by
   intro p hp
   have := List.all_eq_true.1 hok p hp
   simp only [Bool.and_eq_true, beq_iff_eq, decide_eq_true_iff] at this
   have q : ∀ y ∈ (normE (p.2.ev f)).cells, y.cl1 = true := by simpa using this.1.2
   exact ⟨⟨this.1.1, fun y hy => AV.one_of_cl1 (q y hy)⟩, q, this.2⟩
 obtain ⟨arr, g1, g2, g3, g4⟩ := rows_fill (E := E) (sz := i.size) (ps.map fun p => (p.1, normE (p.2.ev f))) (parts.toList.map fun p => (p.1, a.eval p.2)) _ _ hz0 (by simp [e1])
   (fun k p q hp hq => by
     rw [List.getElem?_map] at hp hq
     cases h1 : ps[k]? with
     | none => simp [h1] at hp
     | some p' =>
       cases h2 : parts.toList[k]? with
       | none => simp [h2] at hq
       | some q' =>
         simp only [h1, h2, Option.map_some, Option.some.injEq] at hp hq
         subst hp hq
         exact ⟨(e2 k p' q' h1 h2).1, Rel.norm (e2 k p' q' h1 h2).2⟩)
   (fun p hp => by
     rw [List.mem_map] at hp
     obtain ⟨q, hq, rfl⟩ := hp
     simpa using ⟨(hok' q hq).1, (hok' q hq).2.2⟩)
 rw [List.foldl_map] at g2 g3 g4
 generalize hes : List.foldl (fun es (p : Nat × X) => es.set p.1 (normE (p.2.ev f))) (List.replicate len (ofC z)) ps = es at g2 g3 g4 ⊢
 have hesl : es.length = len := by
   rw [<- hes]
   have : ∀ (l : List (Nat × X)) (s : List AV), (l.foldl (fun es (p : Nat × X) => es.set p.1 (normE (p.2.ev f))) s).length = s.length := by
     intro l
     induction l with
     | nil => intro s; rfl
     | cons p l ih => intro s; rw [List.foldl_cons, ih]; simp
   rw [this]; simp
 have hescl : ∀ x ∈ es, ∀ y ∈ x.cells, y.cl1 = true := by
   rw [<- hes]
   have : ∀ (l : List (Nat × X)) (s : List AV), (∀ p ∈ l, ∀ y ∈ (normE (p.2.ev f)).cells, y.cl1 = true) -> (∀ x ∈ s, ∀ y ∈ x.cells, y.cl1 = true) -> ∀ x ∈ l.foldl (fun es (p : Nat × X) => es.set p.1 (normE (p.2.ev f))) s, ∀ y ∈ x.cells, y.cl1 = true := by
     intro l
     induction l with
     | nil => intro s _ h2; exact h2
     | cons p l ih =>
       intro s h1 h2
       rw [List.foldl_cons]
       refine ih _ (fun q hq => h1 q (by simp [hq])) ?_
       intro x hx
       rcases List.mem_or_eq_of_mem_set hx with hx | hx
       . exact h2 x hx
       . rw [hx]; exact h1 p (by simp)
   exact this ps _ (fun p hp => (hok' p hp).2.1) (fun x hx => by rw [List.eq_of_mem_replicate hx]; exact hz1')
 have hown : (w.alloc (.cells arr e)).ownsRow B e i.size (.slice (some ⟨w.heap.size, 0, none⟩) len len) es.length arr.toList := by
   refine ⟨by rw [Array.length_toList, g2], .inr ⟨w.heap.size, len, arr, by rw [hesl], hB, heap_alloc_new w _, by omega, ?_, by rw [g2, hesl], ?_⟩⟩
   . have : len <= len * i.size := Nat.le_mul_of_pos_right _ h0
     simp only [maxLen]; omega
   . rw [List.take_of_length_le]; rw [Array.length_toList, g2]; exact Nat.le_refl _
 have H1 := H.grow (w' := w.alloc (.cells arr e)) (fun k hk => heap_alloc_old w _ k hk)
 obtain ⟨E', hE, hEu, hEB, H2, hrel⟩ := H1.newAcc nm st i.size e hst es _ arr.toList hown g3
   (fun k x hx j y hy => by obtain ⟨u, hu, hr, _⟩ := g4 k x hx j y hy; exact ⟨u, by simpa using hu, Rel.of_cl1 (E := E) (E' := E.cl) (fun _ _ _ q => q) hr (hescl x (List.mem_of_getElem? hx) y (List.mem_of_getElem? hy))⟩)
   (fun m b hb q => by have := (H.bk m b hb).lt; simp only [Value.ownBlock, Option.some.injEq] at q; omega)
   (fun m t' ht' _ g hg q => by have := ((H.tk m t' ht').lt hg).2; simp only [Value.ownBlock, Option.some.injEq] at q; omega)
   (fun g j hg _ => K_none H (by simp only [Value.ownBlock, Option.some.injEq] at hg; omega) j)
 refine ⟨.slice (some ⟨w.heap.size, 0, none⟩) len len, w.alloc (.cells arr e), E', .inl ?_, hE, hEu, hEB, H2, hW.alloc hB _, hrel⟩
 have hnot : ¬ (len * i.size > 2 ^ 24) := by omega
 have hlen' : ¬ (16777216 < len * i.size) := by omega
 by_cases hl0 : len * i.size = 0
 . have hl : len = 0 := by
     rcases Nat.mul_eq_zero.1 hl0 with q | q
     . exact q
     . omega
   subst hl
   have er : ∀ g : Nat -> Value, Array.map g (Array.range 0) = #[] := fun g => by simp [Array.range]
   rw [Nat.zero_mul, er] at g1
   simp [execOp, ho, Instr.buildSlice, run_underlying ht, sizeOf, typeInfo, hi, zeroValue, hz, newRow, er, g1]
 . simp [execOp, ho, Instr.buildSlice, run_underlying ht, sizeOf, typeInfo, hi, zeroValue, hz, newRow, hlen', hl0] at g1 ⊢
   simp [g1]
theorem bslm_done (H : HConc E B h w) (hW : Below B W w) (hB : B <= w.heap.size) (hst : ¬ E.u st) (hf : ∀ t, t < n -> Rel E (f t) (a.tmps.getD t undef)) (o : Oper) (t e : TypeId) (len : Nat) (parts : Array (Nat × Operand)) (ho : o.op = .buildSlice t len parts)
   (ht : P.underlying t = some (.slice e)) (i : TypeInfo) (hi : P.info? e = some i) (z : Value) (hz : i.zero = some z) (hlen : len * i.size <= 2 ^ 24) (hzs : z.cells.size = i.size) (h0 : 0 < i.size) (ps : List (Nat × X)) (hps : cParts n parts.toList = some ps)
   (hok : (ps.all fun p => ((p.2.ev f).cells.length == i.size) && (p.2.ev f).cells.all AV.one && decide (p.1 < len)) = true) (hzl : (ofC z).cells.length = i.size) (hz1 : (ofC z).cells.all AV.one = true) :
   Done B W E st ((execOp a.eval o).run P w) { v := .sl nm st i.size 0 len, wb := [(nm, some ⟨st, i.size, ps.foldl (fun es p => es.set p.1 (p.2.ev f)) (List.replicate len (ofC z))⟩)] } h := by
 have hz1' : ∀ y ∈ (ofC z).cells, y.one = true := by simpa using hz1
 have hel : ElemOk i.size (ofC z) := ⟨hzl, hz1'⟩
 have hz0 := zeros_row (E := E) z hzs h0 len hel
 obtain ⟨e1, e2⟩ := cParts_ok hf _ _ hps
 have hok' : ∀ p ∈ ps, ElemOk i.size (p.2.ev f) /\ p.1 < len := by
   intro p hp
   have := List.all_eq_true.1 hok p hp
   simp only [Bool.and_eq_true, beq_iff_eq, decide_eq_true_iff] at this
   exact ⟨⟨this.1.1, by simpa using this.1.2⟩, this.2⟩
 obtain ⟨arr, g1, g2, g3, g4⟩ := rows_fill (E := E) (sz := i.size) (ps.map fun p => (p.1, p.2.ev f)) (parts.toList.map fun p => (p.1, a.eval p.2)) _ _ hz0 (by simp [e1])
   (fun k p q hp hq => by
     rw [List.getElem?_map] at hp hq
     cases h1 : ps[k]? with
     | none => simp [h1] at hp
     | some p' =>
       cases h2 : parts.toList[k]? with
       | none => simp [h2] at hq
       | some q' =>
         simp only [h1, h2, Option.map_some, Option.some.injEq] at hp hq
         subst hp hq
         exact ⟨(e2 k p' q' h1 h2).1, (e2 k p' q' h1 h2).2⟩)
   (fun p hp => by
     rw [List.mem_map] at hp
     obtain ⟨q, hq, rfl⟩ := hp
     simpa using ⟨(hok' q hq).1, (hok' q hq).2⟩)
 rw [List.foldl_map] at g2 g3 g4
 generalize hes : List.foldl (fun es (p : Nat × X) => es.set p.1 (p.2.ev f)) (List.replicate len (ofC z)) ps = es at g2 g3 g4 ⊢
 have hesl : es.length = len := by
   rw [<- hes]
   have : ∀ (l : List (Nat × X)) (s : List AV), (l.foldl (fun es (p : Nat × X) => es.set p.1 (p.2.ev f)) s).length = s.length := by
     intro l
     induction l with
     | nil => intro s; rfl
     | cons p l ih => intro s; rw [List.foldl_cons, ih]; simp
   rw [this]; simp
 refine ⟨.slice (some ⟨w.heap.size, 0, none⟩) len len, w.alloc (.cells arr e), E.withM st (w.heap.size, 0) len, .inl ?_, Env.le_withM hst _ _, fun s hs => hs.elim .inr .inl, fun _ _ _ => rfl, ?_, hW.alloc hB _, ?_⟩
 . have hlen' : ¬ (16777216 < len * i.size) := by omega
   by_cases hl0 : len * i.size = 0
   . have hl : len = 0 := by
       rcases Nat.mul_eq_zero.1 hl0 with q | q
       . exact q
       . omega
     subst hl
     have er : ∀ g : Nat -> Value, Array.map g (Array.range 0) = #[] := fun g => by simp [Array.range]
     rw [Nat.zero_mul, er] at g1
     simp [execOp, ho, Instr.buildSlice, run_underlying ht, sizeOf, typeInfo, hi, zeroValue, hz, newRow, er, g1]
   . simp [execOp, ho, Instr.buildSlice, run_underlying ht, sizeOf, typeInfo, hi, zeroValue, hz, newRow, hlen', hl0] at g1 ⊢
     simp [g1]
 . exact H.newRow hB nm st i.size (by omega) hst es arr e g3 len (by rw [hesl]; exact Nat.le_refl _) (by rw [g2, hesl]; exact Nat.le_refl _) (fun k x hx j y hy => by obtain ⟨u, hu, hr, _⟩ := g4 k x hx j y hy; exact ⟨u, hu, hr⟩)
 . have em : (E.withM st (w.heap.size, 0) len).m st = (w.heap.size, 0) := upd_same _ _ _
   have ec : (E.withM st (w.heap.size, 0) len).cp st = len := upd_same _ _ _
   have hln : len <= len * i.size := Nat.le_mul_of_pos_right _ h0
   have hlm : len <= maxLen := by simp only [maxLen]; omega
   refine .sl nm st i.size 0 len len _ (.inl rfl) (Nat.le_refl _) (by rw [ec]; omega) (fun _ => ?_)
   rw [em]; simp
theorem msl_done (H : HConc E B h w) (hW : Below B W w) (hB : B <= w.heap.size) (hst : ¬ E.u st) (o : Oper) (t e : TypeId) (l : Operand) (ho : o.op = .makeSlice t l l) (ht : P.underlying t = some (.slice e)) (i : TypeInfo) (hi : P.info? e = some i) (z : Value)
   (hz : i.zero = some z) (hb : 0 < i.bytes) (hzs : z.cells.size = i.size) (h0 : 0 < i.size) (k : IntKind) (m : Nat) (hl : Rel E (.int k m) (a.eval l)) (hm : m * i.bytes <= 140737488355328) (hzl : (ofC z).cells.length = i.size) (hz1 : (ofC z).cells.all AV.one = true) :
   Done B W E st ((execOp a.eval o).run P w) { v := .sl nm st i.size 0 m, wb := [(nm, some ⟨st, i.size, List.replicate m (ofC z)⟩)] } h := by
 have hel : ElemOk i.size (ofC z) := ⟨hzl, by simpa using hz1⟩
 have hm' : m <= m * i.bytes := Nat.le_mul_of_pos_right _ hb
 have hcast : (i.bytes : Int) * (m : Int) = ((m * i.bytes : Nat) : Int) := by rw [Int.mul_comm]; simp
 have hrun := run_make (P := P) w t e i z ht hi hz k k (m : Int) (m : Int) (by omega) (Int.le_refl _) (by rw [hcast]; omega) (by omega)
 simp only [Int.toNat_natCast] at hrun
 obtain ⟨g1, g2, g3⟩ := RowRel.zeros (E := E) (Rel_ofC E z) hel m (madeCells z.cells (m * i.size)) (by simp [madeCells]) (fun k hk => by
   have : k % i.size < z.cells.size := by rw [hzs]; exact Nat.mod_lt _ h0
   unfold madeCells; rw [Array.getElem?_map, Array.getElem?_range, hzs]; simp [hk, this])
 refine ⟨_, _, E.withM st (w.heap.size, 0) m, .inl (by simp [execOp, ho, hl.int_inv, hrun]; exact ⟨rfl, rfl⟩), Env.le_withM hst _ _, fun s hs => hs.elim .inr .inl, fun _ _ _ => rfl, ?_, hW.alloc hB _, ?_⟩
 . exact H.newRow hB nm st i.size (by omega) hst (List.replicate m (ofC z)) _ e g2 m (by simp) (by rw [g1]; simp) (fun k x hx j y hy => by obtain ⟨u, hu, hr, _⟩ := g3 k x hx j y hy; exact ⟨u, hu, hr⟩)
 . have em : (E.withM st (w.heap.size, 0) m).m st = (w.heap.size, 0) := upd_same _ _ _
   have ec : (E.withM st (w.heap.size, 0) m).cp st = m := upd_same _ _ _
   refine .sl nm st i.size 0 m m _ (.inl rfl) (Nat.le_refl _) (by rw [ec]; omega) (fun _ => ?_)
   rw [em]; simp
end
end Go.Gv
