/- Each abstract operation is done by the model's own operation: copies into blocks that may be written; shifts; comparisons with nil. No condition beyond those that each law names. -/
import Derived.Test.YthhgjncefjnogaaGw1
import Derived.Test.YthhgjncefjnogaaGv8
set_option linter.unusedVariables false
set_option linter.unusedSimpArgs false
namespace Go.Gv
open Go.RowKit

/-- A block whose cells have been written. -/
theorem HConc.inBlk {E : Env} {B : Nat} {h : Hp} {w : World} (H : HConc E B h w) {nm : Nat} {b : Blk} (hb : h.blk nm = some b) (es : List AV) (cur cur' : Array Value) (e : TypeId)
    (hg : w.heap[(E.m b.st).1]? = some (.cells cur e (0, 0))) (hel : ∀ x ∈ es, ElemOk b.sz x) (hlen : es.length = b.es.length) (hsz : cur'.size = cur.size) (hr : RowAt E b.sz (E.m b.st).2 es cur') :
    HConc E B (h.setB nm (some ⟨b.st, b.sz, es⟩)) (w.setRow (E.m b.st).1 cur') := by
  have hbk := H.bk nm b hb
  have hbu := H.bu nm b hb
  have H1 : HConc E B (h.setB nm none) (w.setRow (E.m b.st).1 cur') := by
    refine (H.dropB nm).change ?_ ?_ ?_
    · intro b' o v hk
      have hne : b' ≠ (E.m b.st).1 := fun q => by rw [q, hbk.noK o] at hk; cases hk
      rw [cell_setRow_other w _ _ _ hne]
      exact H.K b' o v hk
    · intro n b' hb'
      have : n ≠ nm ∧ h.blk n = some b' := by
        simp only [Hp.setB, upd] at hb'
        split at hb'
        · simp at hb'
        · rename_i hne; exact ⟨hne, hb'⟩
      exact setRow_other w _ _ _ (H.bb n nm b' _ this.1 this.2 hb)
    · intro n t' g ht' hg'
      exact setRow_other w _ _ _ (fun q => H.bt nm n _ t' hb ht' (by rw [hg', q]))
  refine H1.putB ⟨b.st, b.sz, es⟩ hbu ⟨hbk.base, hel, by rw [hlen]; exact hbk.len, ?_, hbk.noK⟩ (fun n b' hn hb' => by have := H.bb n nm b' _ hn hb' hb; exact this) (fun n t' ht' => by have := H.bt nm n _ t' hb ht'; exact this)
  obtain ⟨cur0, e0, hg0, hs0, _⟩ := hbk.row
  rw [hg] at hg0
  cases hg0
  exact ⟨cur', e, setRow_heap w _ cur _ e _ hg, by rw [hsz]; exact hs0, hr⟩

theorem Below.row {B : Nat} {W w : World} (hW : Below B W w) {g : Nat} (hg : B ≤ g) (cur' : Array Value) : Below B W (w.setRow g cur') :=
  hW.trans ⟨rfl, rfl, rfl, by simp, fun k hk => setRow_other w _ _ _ (fun q => by omega)⟩

section
variable {P : Program} {B : Nat} {W : World} {E : Env} {h : Hp} {w : World} {a : Act} {f : Nat → AV} {n nm st : Nat}

/-- A copy. -/
theorem cpy_done (H : HConc E B h w) (hW : Below B W w) (o : Oper) (x y : Operand) (t t' e e' : TypeId) (ho : o.op = .call { callee := .builtin .copy, args := #[x, y], argTypes := #[t, t'] }) (i : TypeInfo)
    (ht : P.underlying t = some (.slice e)) (hi : P.info? e = some i) (X' Y' : X) (hx : Rel E (X'.ev f) (a.eval x)) (hy : Rel E (Y'.ev f) (a.eval y)) (ef : Eff)
    (hex : ex f h.blk h.tok st (.cpy i.size X' Y') = some ef) :
    Done B W E st ((execOp a.eval o).run P w) ef h := by
  have fin : ∀ (v : Value) (w' : World), (Builtin.copy_ #[t, t'] o.type #[a.eval x, a.eval y]).run P w = .ok v w' → (execOp a.eval o).run P w = .ok (.value v) w' := by
    intro v w' hrun
    simp [execOp, ho, resolve, invoke, builtin, hrun]
  simp only [ex] at hex
  generalize X'.ev f = X at hx hex
  generalize Y'.ev f = Y at hy hex
  cases X with
  | nils =>
    simp only [Option.map_eq_some_iff] at hex
    obtain ⟨ys, hys, rfl⟩ := hex
    obtain ⟨ad, c, news, hu, _⟩ := srcM_of H hy hys
    refine Done.pure H hW (v := goInt 0) (fin _ _ ?_) (.int _ _)
    rw [hx.nils_inv, hu]
    cases ad <;> simp [Builtin.copy_, run_underlying ht, sizeOf, typeInfo, hi, Builtin.lenOf, Builtin.firstCells, loadCells, loadCellsFrom]
  | sl nm s sz' off len =>
    simp only at hex
    split at hex
    · rename_i es'
      subst es'
      simp only [Option.bind_eq_some_iff] at hex
      obtain ⟨es, hes, ys, hys, hex⟩ := hex
      split at hex
      · rename_i hle
        cases hex
        have hbs := getB_some hes
        have hbk := H.bk nm _ hbs
        obtain ⟨cur, e0, hg, hszr, hr⟩ := hbk.row
        simp only at hg hszr hr
        have hcpl : es.length ≤ E.cp s := hbk.len
        obtain ⟨ad', c', news, hu, hnl, hyel, hn1, hspot, hyr⟩ := srcM_of H hy hys
        generalize hk : min ys.length len = k
        have hky : k ≤ ys.length := by omega
        have hkl : k ≤ len := by omega
        have hkn : k * i.size ≤ news.length := by rw [hnl]; exact Nat.mul_le_mul_right _ hky
        have hnl' : (news.take (k * i.size)).length = (ys.take k).length * i.size := by simp only [List.length_take]; rw [Nat.min_eq_left hky, Nat.min_eq_left hkn]
        have hn1' : ∀ v ∈ news.take (k * i.size), v.oneCell' = true := fun v hv => hn1 v (List.mem_of_mem_take hv)
        have hyel' : ∀ z ∈ ys.take k, ElemOk i.size z := fun z hz => hyel z (List.mem_of_mem_take hz)
        have hyr' : ∀ (m : Nat) (z : AV), (ys.take k)[m]? = some z → ∀ (j : Nat) (q : AV), z.cells[j]? = some q → ∃ v, (news.take (k * i.size))[m * i.size + j]? = some v ∧ Rel E q v := by
          intro m z hz j q hq
          have hm : m < k := by have := (List.getElem?_eq_some_iff.1 hz).1; simp at this; omega
          have hj : j < i.size := by rw [← (hyel' z (List.mem_of_getElem? hz)).1]; exact (List.getElem?_eq_some_iff.1 hq).1
          rw [List.getElem?_take, if_pos hm] at hz
          obtain ⟨v, hv, hrel⟩ := hyr m z hz j q hq
          exact ⟨v, by rw [List.getElem?_take, if_pos (mul_lt hm hj)]; exact hv, hrel⟩
        have hfit : (E.m s).2 + off * i.size + (news.take (k * i.size)).length ≤ cur.size := by
          have : (off + k) * i.size ≤ E.cp s * i.size := Nat.mul_le_mul_right _ (by omega)
          rw [Nat.add_mul] at this
          rw [List.length_take, Nat.min_eq_left hkn]; omega
        have hrow0 : RowAt E i.size (E.m s).2 es cur := hr
        obtain ⟨q1, q2⟩ := hrow0.splice off (by omega) hbk.el hyel' hnl' hyr' hfit
        have hlen2 : (ys.take k).length = k := by simp; omega
        rw [hlen2] at q2
        have H' := H.inBlk hbs (es.take off ++ ys.take k ++ es.drop (off + k)) cur _ e0 hg (fun z hz => by
            simp only [List.mem_append] at hz
            rcases hz with (hz | hz) | hz
            · exact hbk.el z (List.mem_of_mem_take hz)
            · exact hyel' z hz
            · exact hbk.el z (List.mem_of_mem_drop hz)) (by simp only [List.length_append, List.length_take, List.length_drop]; omega) q1 q2
        generalize hX : a.eval x = vx at hx
        cases hx with
        | sl _ _ _ _ _ cap ad hus hcap hc ha =>
          have hcells : (Builtin.firstCells i.size k (a.eval y)).run P w = .ok (news.take (k * i.size)).toArray w := by
            rw [hu]
            rcases hspot with ⟨rfl, hy0⟩ | ⟨ad2, rfl, hcell⟩
            · have hk0 : k = 0 := by rw [hy0] at hky; simpa using hky
              subst hk0
              simp [Builtin.firstCells]
            · refine run_firstCells_some w i.size k ad2 _ c' _ (by rw [hnl', hlen2]) (fun j v hv => hcell j v ?_)
              rw [List.getElem?_take] at hv
              split at hv
              · exact hv
              · cases hv
          have hlo : (Builtin.lenOf (a.eval y)).run P w = .ok ys.length w := by rw [hu]; rfl
          have hmin : Nat.min ys.length len = k := hk
          have hrun : (Builtin.copy_ #[t, t'] o.type #[.slice ad len cap, a.eval y]).run P w = .ok (goInt k) (w.setRow (E.m s).1 (cur.toList.take ((E.m s).2 + off * i.size) ++ news.take (k * i.size) ++ cur.toList.drop ((E.m s).2 + off * i.size + (news.take (k * i.size)).length)).toArray) := by
            by_cases hk0 : k = 0
            · subst hk0
              have hself : w.setRow (E.m s).1 (cur.toList.take ((E.m s).2 + off * i.size) ++ news.take (0 * i.size) ++ cur.toList.drop ((E.m s).2 + off * i.size + (news.take (0 * i.size)).length)).toArray = w := by
                simp only [Nat.zero_mul, List.take_zero, List.append_nil, List.length_nil, Nat.add_zero, List.take_append_drop, Array.toArray_toList]
                exact setRow_self w _ cur e0 (0, 0) hg
              rw [hself]
              have hcells0 : (Builtin.firstCells i.size 0 (a.eval y)).run P w = .ok #[] w := by simpa using hcells
              cases ad <;> simp [Builtin.copy_, run_underlying ht, sizeOf, typeInfo, hi, hlo, hmin, hcells0, storeCells]
            · rw [ha (by omega)]
              have hst := run_storeCells_at P (E.m s).1 ((E.m s).2 + off * i.size) e0 (news.take (k * i.size)) 0 cur w hg (by simpa using hfit) hn1'
              simp only [Nat.add_zero] at hst
              simp [Builtin.copy_, run_underlying ht, sizeOf, typeInfo, hi, hlo, hmin, hcells, hst]
          refine ⟨goInt k, _, E, .inl (fin _ _ (by rw [hX]; exact hrun)), .refl E, fun _ q => .inl q, fun _ _ _ => rfl, H', Below.row hW hbk.base _, .int _ _⟩
      · cases hex
    · cases hex
  | _ => cases hex

theorem shift_done (H : HConc E B h w) (hW : Below B W w) (o : Oper) (l : Bool) (t ty : TypeId) (x y : Operand) (ho : o.op = .binOp (if l = true then .shl else .shr) t x y ty) (k k' : IntKind) (p q : Int) (hx : Rel E (.int k p) (a.eval x)) (hy : Rel E (.int k' q) (a.eval y)) (hq : ¬ q < 0) :
    Done B W E st ((execOp a.eval o).run P w) { v := .int k (shiftI l k p q) } h := by
  unfold shiftI
  have ex := hx.int_inv
  have ey := hy.int_inv
  have hg : ∀ x y : Operand, (eqGuard (if l = true then .shl else .shr) t x y (.int k p) (.int k' q)).run P w = .ok () w := by
    intro x y; cases l <;> simp [eqGuard]
  refine Done.pure H hW (v := .int k (if l = true then k.wrap (p * 2 ^ (min q.toNat k.bits)) else p.fdiv (2 ^ (min q.toNat k.bits)))) ?_ (.int _ _)
  have hg' := hg x y
  cases l
  · simp only [Bool.false_eq_true, if_false] at ho hg' ⊢
    simp [execOp, ho, ex, ey, hg', binOp, Op.shift, hq]
  · simp only [if_true] at ho hg' ⊢
    simp [execOp, ho, ex, ey, hg', binOp, Op.shift, hq]

theorem nilck_done (H : HConc E B h w) (hW : Below B W w) (o : Oper) (x : Operand) (ho : o.op = .nilCheck x) (v : AV) (hv : Rel E v (a.eval x)) (hp : (∃ nm s sz i o, v = .ptr nm s sz i o) ∨ ∃ cs o, v = .kp cs o) :
    Done B W E st ((execOp a.eval o).run P w) { v := v } h := by
  refine Done.pure H hW (v := a.eval x) ?_ hv
  have : ∃ ad, a.eval x = .pointer (some ad) := by
    generalize a.eval x = u at hv
    rcases hp with ⟨_, _, _, _, _, rfl⟩ | ⟨_, _, rfl⟩ <;> cases hv <;> exact ⟨_, rfl⟩
  obtain ⟨ad, he⟩ := this
  simp [execOp, ho, he]

theorem nilOp_spec {P : Program} {t : TypeId} {y : Operand} {kd : Nat} (h : nilOp P t y = some kd) :
    (kd = 0 ∧ y = .const (.slice none 0 0) ∧ ∃ e, P.underlying t = some (.slice e)) ∨ (kd = 1 ∧ y = .const (.pointer none) ∧ ∃ e, P.underlying t = some (.pointer e)) ∨ (kd = 2 ∧ y = .const .nilFunc ∧ ∃ p q r, P.underlying t = some (.func p q r)) := by
  unfold nilOp at h
  split at h
  · split at h
    · rename_i e he; cases h; exact .inl ⟨rfl, rfl, e, he⟩
    · cases h
  · split at h
    · rename_i e he; cases h; exact .inr (.inl ⟨rfl, rfl, e, he⟩)
    · cases h
  · split at h
    · rename_i p q r he; cases h; exact .inr (.inr ⟨rfl, rfl, p, q, r, he⟩)
    · cases h
  · cases h

theorem nil_slice (d : Nat) (t e : TypeId) (ht : P.underlying t = some (.slice e)) (ad : Option Addr) (l c : Nat) : (Op.equalIn (d + 1) t (.slice ad l c) (.slice none 0 0)).run P w = .ok ad.isNone w := by
  cases ad <;> simp [Op.equalIn, run_underlying ht]
theorem nil_ptr (d : Nat) (t e : TypeId) (ht : P.underlying t = some (.pointer e)) (ad : Option Addr) : (Op.equalIn (d + 1) t (.pointer ad) (.pointer none)).run P w = .ok ad.isNone w := by
  cases ad <;> simp [Op.equalIn, run_underlying ht]
theorem nil_fn (d : Nat) (t : TypeId) (p q r) (ht : P.underlying t = some (.func p q r)) : (Op.equalIn (d + 1) t .nilFunc .nilFunc).run P w = .ok true w := by
  simp [Op.equalIn, run_underlying ht]
theorem nil_fn' (d : Nat) (t : TypeId) (p q r) (ht : P.underlying t = some (.func p q r)) (x y z) : (Op.equalIn (d + 1) t (.func x y z) .nilFunc).run P w = .ok false w := by
  simp [Op.equalIn, run_underlying ht]

/-- A comparison with nil. -/
theorem nilq_done (H : HConc E B h w) (hW : Below B W w) (o : Oper) (op : BinOp) (neg : Bool) (t ty : TypeId) (x y : Operand) (ho : o.op = .binOp op t x y ty) (hop : op = if neg = true then .neq else .eql)
    (v : AV) (hx : Rel E v (a.eval x)) (kd : Nat) (b : Bool) (hb : nilA kd v = some b) (hy : nilOp P t y = some kd) :
    Done B W E st ((execOp a.eval o).run P w) { v := .bool (if neg = true then !b else b) } h := by
  have main : ∀ (u z : Value), a.eval x = u → a.eval y = z → (Op.equal t u z).run P w = .ok b w → (∀ x' y' : Operand, (eqGuard op t x' y' u z).run P w = .ok () w) →
      ((∀ s : Bool, (binOp (if s = true then .neq else .eql) t u z).run P w = ((do let q ← Op.equal t u z; pure (Value.bool (if s = true then !q else q))) : Sem Value).run P w)) →
      Done B W E st ((execOp a.eval o).run P w) { v := .bool (if neg = true then !b else b) } h := by
    intro u z hu hz he hg hbin
    refine Done.pure H hW (v := .bool (if neg = true then !b else b)) ?_ (.bool _)
    have hb2 := hbin neg
    rw [← hop] at hb2
    simp only [execOp, ho, hu, hz, Sem.run_bind, hg, Result.andThen_ok, hb2, he, Sem.run_pure]
  rcases nilOp_spec hy with ⟨rfl, rfl, e, ht⟩ | ⟨rfl, rfl, e, ht⟩ | ⟨rfl, rfl, p, q, r, ht⟩
  · have hk : ∃ ad l c, a.eval x = .slice ad l c ∧ ad.isNone = b := by
      generalize a.eval x = u at hx
      cases v <;> simp only [nilA] at hb <;> (try (cases hb; done))
      case nils => cases hb; exact ⟨none, 0, 0, hx.nils_inv, rfl⟩
      case lst s xs =>
        cases xs with
        | nil => cases hb
        | cons q xs => cases hb; cases hx; exact ⟨_, _, _, rfl, rfl⟩
      case acc nm st s xs =>
        cases xs with
        | nil => cases hb
        | cons q xs =>
          cases hb
          cases hx with
          | acc _ _ _ _ _ _ _ hl => cases hl; exact ⟨_, _, _, rfl, rfl⟩
      case sl nm st s off len =>
        split at hb
        · cases hb
          cases hx with
          | sl _ _ _ _ _ cap ad hu hcap hc ha => exact ⟨_, _, _, rfl, by rw [ha (by omega)]; rfl⟩
        · cases hb
    obtain ⟨ad, l, c, e1, e3⟩ := hk
    refine main _ _ e1 rfl ?_ ?_ ?_
    · have := nil_slice (P := P) (w := w) 9999 t e ht ad l c
      rw [e3] at this; exact this
    · intro x' y'; cases op <;> simp [eqGuard]
    · intro s; cases s <;> simp [binOp]
  · have hk : ∃ ad, a.eval x = .pointer ad ∧ ad.isNone = b := by
      generalize a.eval x = u at hx
      cases v <;> simp only [nilA] at hb <;> (try (cases hb; done)) <;> cases hb <;> cases hx <;> exact ⟨_, rfl, rfl⟩
    obtain ⟨ad, e1, e3⟩ := hk
    refine main _ _ e1 rfl ?_ ?_ ?_
    · have := nil_ptr (P := P) (w := w) 9999 t e ht ad
      rw [e3] at this; exact this
    · intro x' y'; cases op <;> simp [eqGuard]
    · intro s; cases s <;> simp [binOp]
  · have hk : (a.eval x = .nilFunc ∧ b = true) ∨ ((∃ p q r, a.eval x = .func p q r) ∧ b = false) := by
      generalize a.eval x = u at hx
      cases v <;> simp only [nilA] at hb <;> (try (cases hb; done)) <;> cases hb <;> cases hx
      · exact .inl ⟨rfl, rfl⟩
      · exact .inr ⟨⟨_, _, _, rfl⟩, rfl⟩
    rcases hk with ⟨e1, e3⟩ | ⟨⟨p', q', r', e1⟩, e3⟩
    · refine main _ _ e1 rfl ?_ ?_ ?_
      · rw [e3]; exact nil_fn (P := P) (w := w) 9999 t p q r ht
      · intro x' y'; cases op <;> simp [eqGuard]
      · intro s; cases s <;> simp [binOp]
    · refine main _ _ e1 rfl ?_ ?_ ?_
      · rw [e3]; exact nil_fn' (P := P) (w := w) 9999 t p q r ht p' q' r'
      · intro x' y'; cases op <;> simp [eqGuard]
      · intro s; cases s <;> simp [binOp]

theorem nilCmp_spec {op : Op} {kd : Nat} {neg : Bool} {x : X} (h : nilCmp P n op = some (kd, neg, x)) :
    ∃ o t y ty x0, op = .binOp o t x0 y ty ∧ o = (if neg = true then BinOp.neq else .eql) ∧ nilOp P t y = some kd ∧ cX n x0 = some x := by
  cases op with
  | binOp op t x0 y ty =>
    simp only [nilCmp, Option.bind_eq_some_iff] at h
    obtain ⟨k, hk, x1, h1, h2⟩ := h
    split at h2
    · cases h2; exact ⟨_, _, _, _, _, rfl, rfl, hk, h1⟩
    · cases h2; exact ⟨_, _, _, _, _, rfl, rfl, hk, h1⟩
    · cases h2
  | _ => cases h

theorem nq_done (H : HConc E B h w) (hW : Below B W w) (hf : ∀ t, t < n → Rel E (f t) (a.tmps.getD t undef)) (o : Oper) {kd : Nat} {neg : Bool} {x : X} (hc : nilCmp P n o.op = some (kd, neg, x)) (e : Eff)
    (he : ex f h.blk h.tok st (.nilq kd neg x) = some e) : Done B W E st ((execOp a.eval o).run P w) e h := by
  obtain ⟨op, t, y, ty, x0, h1, h2, h3, h4⟩ := nilCmp_spec hc
  simp only [ex, Option.map_eq_some_iff] at he
  obtain ⟨b, hb, rfl⟩ := he
  exact nilq_done H hW o op neg t ty x0 y h1 h2 _ (cX_ok hf h4) kd b hb h3

/-- A comparison of an empty list with nil. -/
theorem nilq_und (H : HConc E B h w) (o : Oper) (op : BinOp) (neg : Bool) (t ty : TypeId) (x y : Operand) (ho : o.op = .binOp op t x y ty) (hop : op = if neg = true then .neq else .eql)
    (v : AV) (hx : Rel E v (a.eval x)) (hv : undV v = true) (hy : nilOp P t y = some 0) : ∃ b : Bool, (execOp a.eval o).run P w = .ok (.value (.bool b)) w := by
  rcases nilOp_spec hy with ⟨_, rfl, e, ht⟩ | ⟨q, _⟩ | ⟨q, _⟩
  · have hk : ∃ ad l c, a.eval x = .slice ad l c := by
      generalize a.eval x = u at hx
      cases v <;> simp only [undV] at hv <;> (try (cases hv; done))
      case lst s xs => cases hx <;> exact ⟨_, _, _, rfl⟩
      case acc nm st s xs =>
        cases hx with
        | acc _ _ _ _ _ _ _ hl => cases hl <;> exact ⟨_, _, _, rfl⟩
      case sl nm st s off len => cases hx; exact ⟨_, _, _, rfl⟩
    obtain ⟨ad, l, c, e1⟩ := hk
    have he : (Op.equal t (.slice ad l c) (.slice none 0 0)).run P w = .ok ad.isNone w := nil_slice (P := P) (w := w) 9999 t e ht ad l c
    refine ⟨if neg = true then !ad.isNone else ad.isNone, ?_⟩
    have hg : ∀ x' y' : Operand, (eqGuard op t x' y' (.slice ad l c) (.slice none 0 0)).run P w = .ok () w := by
      intro x' y'; cases op <;> simp [eqGuard]
    have hb2 : (binOp op t (.slice ad l c) (.slice none 0 0)).run P w = .ok (.bool (if neg = true then !ad.isNone else ad.isNone)) w := by
      subst hop
      cases neg <;> simp [binOp, he]
    have e2 : a.eval (.const (.slice none 0 0)) = .slice none 0 0 := rfl
    simp only [execOp, ho, e1, e2, Sem.run_bind, hg, Result.andThen_ok, hb2, Sem.run_pure]
  · cases q
  · cases q

end
end Go.Gv
