/- Each abstract operation is done by the model's own operation: stores, slices, indexes and arithmetic. No condition beyond those that each law names. -/
import Derived.Test.YthhgjncefjnogaaGv5
set_option linter.unusedVariables false
set_option linter.unusedSimpArgs false
namespace Go.Gv
open Go.RowKit

theorem seg_get {α : Type} (l vs : List α) (k p : Nat) (h : k + vs.length ≤ l.length) :
    (l.take k ++ vs ++ l.drop (k + vs.length))[p]? = if p < k then l[p]? else if p < k + vs.length then vs[p - k]? else l[p]? := by
  have hk : (l.take k).length = k := by simp; omega
  by_cases h1 : p < k
  · rw [if_pos h1, List.append_assoc, List.getElem?_append_left (by omega), List.getElem?_take, if_pos h1]
  · rw [if_neg h1]
    by_cases h2 : p < k + vs.length
    · rw [if_pos h2, List.append_assoc, List.getElem?_append_right (by omega), hk, List.getElem?_append_left (by omega)]
    · rw [if_neg h2, List.getElem?_append_right (by simp; omega), List.getElem?_drop]
      congr 1
      simp
      omega

theorem setCells_get (e : AV) (off sz : Nat) (vs : List AV) (he : ElemOk sz e) (hv : ∀ y ∈ vs, y.one = true) (hn : 0 < vs.length) (hle : off + vs.length ≤ e.cells.length) :
    ElemOk sz (setCells e off vs) ∧ ∀ j, (setCells e off vs).cells[j]? = if j < off then e.cells[j]? else if j < off + vs.length then vs[j - off]? else e.cells[j]? := by
  by_cases h1 : e.one = true
  · have ec := AV.cells_one h1
    rw [ec] at hle ⊢
    simp at hle
    have h0 : off = 0 ∧ vs.length = 1 := by omega
    obtain ⟨v, rfl⟩ : ∃ v, vs = [v] := List.length_eq_one_iff.1 h0.2
    have es : setCells e off [v] = v := by cases e <;> first | rfl | (simp [AV.one] at h1)
    have hv1 := hv v (by simp)
    have hs : sz = 1 := by rw [← he.1, ec]; rfl
    rw [es, h0.1]
    refine ⟨⟨by rw [AV.cells_one hv1, hs]; rfl, fun y hy => by rw [AV.cells_one hv1] at hy; simp at hy; rw [hy]; exact hv1⟩, fun j => ?_⟩
    rw [AV.cells_one hv1]
    cases j <;> simp
  · cases e with
    | agg cs =>
      have hle' : off + vs.length ≤ cs.length := hle
      refine ⟨⟨?_, fun y hy => ?_⟩, fun j => seg_get cs vs off j hle'⟩
      · have := he.1
        simp only [setCells, AV.cells, List.length_append, List.length_take, List.length_drop] at this ⊢
        omega
      · simp only [setCells, AV.cells, List.mem_append] at hy
        rcases hy with (hy | hy) | hy
        · exact he.2 y (List.mem_of_mem_take hy)
        · exact hv y hy
        · exact he.2 y (List.mem_of_mem_drop hy)
    | tup cs => have := he.2 (.tup cs) (by simp [AV.cells]); simp [AV.one] at this
    | junk => have := he.2 .junk (by simp [AV.cells]); simp [AV.one] at this
    | raw v => have := he.2 (.raw v) (by simp [AV.cells]); exact absurd this h1
    | _ => simp [AV.one] at h1

theorem store_done {P : Program} {B : Nat} {W : World} {E : Env} {h : Hp} {w : World} (H : HConc E B h w) (hW : Below B W w) {nm st sz i off : Nat} {es : List AV} {e x : AV} {va vx : Value} (t : TypeId) (ti : TypeInfo)
    (hi : P.info? t = some ti) (ha : Rel E (.ptr nm st sz i off) va) (hx : Rel E x vx) (hg : getB h.blk nm st sz = some es) (he : es[i]? = some e) (hn : x.cells.length = ti.size) (h1 : x.cells.all AV.one = true)
    (hle : off + ti.size ≤ e.cells.length) (h0 : 0 < ti.size) :
    ∃ w', (Instr.storeAt t va vx).run P w = .ok () w' ∧ HConc E B (h.setB nm (some ⟨st, sz, es.set i (setCells e off x.cells)⟩)) w' ∧ Below B W w' := by
  have h1' : ∀ y ∈ x.cells, y.one = true := by simpa using h1
  have hb := getB_some hg
  have hbk := H.bk nm _ hb
  have hbu := H.bu nm _ hb
  obtain ⟨cur, ty, hh, hsz, hr⟩ := hbk.row
  simp only at hh hsz hr hbu
  have hcpl : es.length ≤ E.cp st := hbk.len
  have hsz0 := hsz
  have hsz : (E.m st).2 + es.length * sz ≤ cur.size := by have := Nat.mul_le_mul_right sz hcpl; omega
  obtain ⟨c1, c2⟩ := hx.cells h1'
  have hel : ElemOk sz e := hbk.el e (List.mem_of_getElem? he)
  have hil : i < es.length := (List.getElem?_eq_some_iff.1 he).1
  obtain ⟨q1, q2⟩ := setCells_get e off sz x.cells hel h1' (by omega) (by omega)
  cases ha with
  | ptr _ _ _ _ _ hu =>
    have hlen : vx.cells.toList.length = x.cells.length := by simpa using c1
    have hone : ∀ u ∈ vx.cells.toList, u.oneCell' = true := by
      intro u hu
      obtain ⟨j, hj⟩ := List.getElem?_of_mem hu
      have hjl : j < x.cells.length := by rw [← hlen]; exact (List.getElem?_eq_some_iff.1 hj).1
      obtain ⟨u', hu', _, ho⟩ := c2 j _ (List.getElem?_eq_getElem hjl)
      have : vx.cells[j]? = some u := by simpa using hj
      rw [this] at hu'
      cases hu'
      exact ho
    have hmul : i * sz + e.cells.length ≤ es.length * sz := by
      have : (i + 1) * sz ≤ es.length * sz := Nat.mul_le_mul_right _ hil
      rw [Nat.add_mul] at this
      rw [hel.1]; omega
    have hfit : (E.m st).2 + i * sz + off + 0 + vx.cells.toList.length ≤ cur.size := by rw [hlen]; omega
    have hst := run_storeCells_at P (E.m st).1 ((E.m st).2 + i * sz + off) ty vx.cells.toList 0 cur w hh hfit hone
    simp only [Nat.add_zero] at hst
    generalize hcur' : (cur.toList.take ((E.m st).2 + i * sz + off) ++ vx.cells.toList ++ cur.toList.drop ((E.m st).2 + i * sz + off + vx.cells.toList.length)).toArray = cur' at hst
    have hget : ∀ p, cur'[p]? = if p < (E.m st).2 + i * sz + off then cur[p]? else if p < (E.m st).2 + i * sz + off + x.cells.length then vx.cells[p - ((E.m st).2 + i * sz + off)]? else cur[p]? := by
      intro p
      rw [← hcur']
      have := seg_get cur.toList vx.cells.toList ((E.m st).2 + i * sz + off) p (by simp only [Array.length_toList]; rw [Array.length_toList] at hlen; rw [Nat.add_zero, Array.length_toList] at hfit; exact hfit)
      rw [List.getElem?_toArray, this, hlen]
      simp
    have hsize : cur'.size = cur.size := by
      rw [← hcur']
      have := hfit
      simp only [List.size_toArray, List.length_append, List.length_take, List.length_drop, Array.length_toList] at this ⊢
      omega
    refine ⟨w.setRow (E.m st).1 cur', ?_, ?_, ?_⟩
    · have hcs : ¬ (vx.cells.size ≠ ti.size) := by rw [c1, hn]; simp
      simp only [Instr.storeAt, Instr.sureAddr, storeVar, sizeOf, typeInfo, hi, Sem.run_bind, Sem.run_pure, run_program, Result.andThen_ok]
      rw [if_neg hcs]
      exact hst
    · have H1 : HConc E B (h.setB nm none) (w.setRow (E.m st).1 cur') := by
        refine (H.dropB nm).change ?_ ?_ ?_
        · intro b o v hk
          have hne : b ≠ (E.m st).1 := fun q => by rw [q, hbk.noK o] at hk; cases hk
          rw [cell_setRow_other w _ _ _ hne]
          exact H.K b o v hk
        · intro n b hb'
          have : n ≠ nm ∧ h.blk n = some b := by
            simp only [Hp.setB, upd] at hb'
            split at hb'
            · simp at hb'
            · rename_i hne; exact ⟨hne, hb'⟩
          exact setRow_other w _ _ _ (H.bb n nm b _ this.1 this.2 hb)
        · intro n t' g ht' hg'
          exact setRow_other w _ _ _ (fun q => H.bt nm n _ t' hb ht' (by rw [hg', q]))
      refine H1.putB ⟨st, sz, _⟩ hbu ⟨hbk.base, ?_, by simp only [List.length_set]; exact hbk.len, ?_, hbk.noK⟩ (fun n b' hn hb' => by have := H.bb n nm b' _ hn hb' hb; exact this) (fun n t' ht' => by have := H.bt nm n _ t' hb ht'; exact this)
      · intro y hy
        rcases List.mem_or_eq_of_mem_set hy with hy | hy
        · exact hbk.el y hy
        · rw [hy]; exact q1
      · refine ⟨cur', ty, setRow_heap w _ cur _ ty _ hh, by rw [hsize]; exact hsz0, ?_⟩
        intro i' y hy j z hz
        show ∃ u, cur'[(E.m st).2 + i' * sz + j]? = some u ∧ Rel E z u
        have hy : (es.set i (setCells e off x.cells))[i']? = some y := hy
        rw [List.getElem?_set] at hy
        by_cases hii : i = i'
        · subst hii
          simp only [if_true, hil] at hy
          cases hy
          rw [q2] at hz
          have hjl : j < sz := by rw [← q1.1]; exact (List.getElem?_eq_some_iff.1 ((q2 j).trans hz)).1
          rw [hget]
          by_cases p1 : j < off
          · rw [if_pos p1] at hz
            rw [if_pos (by omega)]
            exact hr i e he j z hz
          · rw [if_neg p1] at hz
            rw [if_neg (by omega)]
            by_cases p2 : j < off + x.cells.length
            · rw [if_pos p2] at hz
              rw [if_pos (by omega)]
              obtain ⟨u, hu', hrel, _⟩ := c2 _ z hz
              refine ⟨u, ?_, hrel⟩
              rw [show (E.m st).2 + i * sz + j - ((E.m st).2 + i * sz + off) = j - off by omega]
              exact hu'
            · rw [if_neg p2] at hz
              rw [if_neg (by omega)]
              exact hr i e he j z hz
        · rw [if_neg hii] at hy
          obtain ⟨u, hu', hrel⟩ := hr i' y hy j z hz
          refine ⟨u, ?_, hrel⟩
          have hely : ElemOk sz y := hbk.el y (List.mem_of_getElem? hy)
          have hj : j < sz := by rw [← hely.1]; exact (List.getElem?_eq_some_iff.1 hz).1
          rw [hget]
          by_cases hlt : i' < i
          · have : (i' + 1) * sz ≤ i * sz := Nat.mul_le_mul_right _ hlt
            rw [Nat.add_mul] at this
            rw [if_pos (by omega)]
            exact hu'
          · have : (i + 1) * sz ≤ i' * sz := Nat.mul_le_mul_right _ (by omega)
            rw [Nat.add_mul] at this
            have hes := hel.1
            rw [if_neg (by omega), if_neg (by omega)]
            exact hu'
    · refine hW.trans ⟨rfl, rfl, rfl, by simp, fun k hk => setRow_other w _ _ _ (fun q => ?_)⟩
      have := hbk.base
      simp only at this
      omega

/-! ### Slices and indexes -/

theorem slice_any {P : Program} (w : World) (t e : TypeId) (ti : TypeInfo) (ht : P.underlying t = some (.slice e)) (hi : P.info? e = some ti) (a : Option Addr) (len cap : Nat) (hc : len ≤ cap)
    (lo hi' : Option Value) (l h : Nat) (hlo : lo = none ∧ l = 0 ∨ ∃ k, lo = some (.int k l)) (hhi : hi' = none ∧ h = len ∨ ∃ k, hi' = some (.int k h)) (h1 : l ≤ h) (h2 : h ≤ len) :
    (Instr.sliceAt t (.slice a len cap) lo hi' none).run P w = .ok (.slice (if cap = l then a else a.map (·.add (l * ti.size))) (h - l) (cap - l)) w := by
  have g1 : h ≤ cap := by omega
  rcases hlo with ⟨rfl, rfl⟩ | ⟨k, rfl⟩ <;> rcases hhi with ⟨rfl, rfl⟩ | ⟨k', rfl⟩ <;>
    simp [Instr.sliceAt, Instr.slice, run_underlying ht, Instr.sliceBounds, Instr.sliceBound, asIntOf, sizeOf, typeInfo, hi, h1, g1, hc]

theorem slice_done {P : Program} {E : Env} {B : Nat} {h : Hp} {w : World} (H : HConc E B h w) {x r : AV} {v : Value} (hx : Rel E x v) (so : Option Nat) (lo hi : Option Nat) (hr : sliceA so x lo hi = some r)
    (t : TypeId) (hty : (so = none ∧ P.underlying t = some .string) ∨ ∃ e ti, so = some ti.size ∧ P.underlying t = some (.slice e) ∧ P.info? e = some ti)
    (vlo vhi : Option Value) (hlo : (lo = none ∧ vlo = none) ∨ ∃ k n, lo = some n ∧ vlo = some (.int k n)) (hhi : (hi = none ∧ vhi = none) ∨ ∃ k n, hi = some n ∧ vhi = some (.int k n)) :
    ∃ u, (Instr.sliceAt t v vlo vhi none).run P w = .ok u w ∧ Rel E r u := by
  have lstcase : ∀ (e : TypeId) (ti : TypeInfo) sz xs, ti.size = sz → Rel E (.lst sz xs) v → P.underlying t = some (.slice e) → P.info? e = some ti → (lo.getD 0 ≤ hi.getD xs.length ∧ hi.getD xs.length ≤ xs.length) → r = .lst sz ((xs.take (hi.getD xs.length)).drop (lo.getD 0)) →
      ∃ u, (Instr.sliceAt t v vlo vhi none).run P w = .ok u w ∧ Rel E r u := by
    intro e ti sz xs hs hrel ht hti hle hrr
    subst hrr hs
    have hlen : ∃ a cap, v = .slice a xs.length cap ∧ xs.length ≤ cap := by
      cases hrel with
      | lst0 _ a cap => exact ⟨a, cap, rfl, Nat.zero_le _⟩
      | lst _ b o _ cap f hcap _ _ _ _ => exact ⟨_, cap, rfl, hcap⟩
    obtain ⟨a, cap, ev, hcap⟩ := hlen
    have hrun := slice_any (P := P) w t e ti ht hti a xs.length cap hcap vlo vhi (lo.getD 0) (hi.getD xs.length)
      (by rcases hlo with ⟨e1, e2⟩ | ⟨k, n, e1, e2⟩ <;> subst e1 e2 <;> simp) (by rcases hhi with ⟨e1, e2⟩ | ⟨k, n, e1, e2⟩ <;> subst e1 e2 <;> simp) hle.1 hle.2
    rw [ev, hrun]
    refine ⟨_, rfl, ?_⟩
    have hl : ((xs.take (hi.getD xs.length)).drop (lo.getD 0)).length = hi.getD xs.length - lo.getD 0 := by
      rw [List.length_drop, List.length_take]; omega
    by_cases hz : hi.getD xs.length - lo.getD 0 = 0
    · have e0 : (xs.take (hi.getD xs.length)).drop (lo.getD 0) = [] := List.eq_nil_of_length_eq_zero (by rw [hl, hz])
      rw [e0, hz]
      exact .lst0 _ _ _
    · subst ev
      have hne : cap ≠ lo.getD 0 := by omega
      cases hrel with
      | lst0 _ a cap => simp at hz hle; omega
      | lst _ b o _ cap f hcap hsz' hk h1 hr' =>
        rw [if_neg hne, Option.map_some, Addr.add_mk, ← hl]
        have hidx : ∀ i y, ((xs.take (hi.getD xs.length)).drop (lo.getD 0))[i]? = some y → xs[lo.getD 0 + i]? = some y := by
          intro i y hy
          rw [List.getElem?_drop, List.getElem?_take] at hy
          split at hy
          · exact hy
          · cases hy
        refine .lst _ b _ ti.size _ (fun i j => f (lo.getD 0 + i) j) (by omega) (fun y hy => hsz' y (List.mem_of_mem_take (List.mem_of_mem_drop hy))) ?_ ?_ ?_
        · intro i j hi' hj
          have := hk (lo.getD 0 + i) j (by omega) hj
          rwa [show o + lo.getD 0 * ti.size + i * ti.size + j = o + (lo.getD 0 + i) * ti.size + j by rw [Nat.add_mul]; omega]
        · exact fun i y hy => h1 _ y (hidx i y hy)
        · exact fun i y hy => hr' _ y (hidx i y hy)
  cases x with
  | lst sz xs =>
    simp only [sliceA] at hr
    split at hr
    · rename_i hle; cases hr
      rcases hty with ⟨e1, _⟩ | ⟨e, ti, e1, g1, g2⟩
      · rw [e1] at hle; simp at hle
      · rw [e1] at hle; exact lstcase e ti sz xs (by simpa using hle.1) hx g1 g2 hle.2 rfl
    · cases hr
  | acc nm st sz xs =>
    simp only [sliceA] at hr
    split at hr
    · rename_i hle; cases hr
      rcases hty with ⟨e1, _⟩ | ⟨e, ti, e1, g1, g2⟩
      · rw [e1] at hle; simp at hle
      · cases hx with
        | acc _ _ _ _ _ _ _ hl => rw [e1] at hle; exact lstcase e ti sz xs (by simpa using hle.1) hl g1 g2 hle.2 rfl
    · cases hr
  | nils =>
    simp only [sliceA] at hr
    split at hr
    · rename_i hle; cases hr
      rcases hty with ⟨e1, _⟩ | ⟨e, ti, e1, g1, g2⟩
      · exact absurd e1 hle.1
      · have ev := hx.nils_inv
        subst ev
        have hle := hle.2
        have hrun := slice_any (P := P) w t e ti g1 g2 none 0 0 (Nat.le_refl _) vlo vhi 0 0
          (by rcases hlo with ⟨e1, e2⟩ | ⟨k, n, e1, e2⟩ <;> subst e1 e2 <;> simp at hle ⊢; omega) (by rcases hhi with ⟨e1, e2⟩ | ⟨k, n, e1, e2⟩ <;> subst e1 e2 <;> simp at hle ⊢; omega) (Nat.le_refl _) (Nat.le_refl _)
        exact ⟨_, hrun, by simpa using Rel.nils⟩
    · cases hr
  | sl nm st sz off len =>
    simp only [sliceA] at hr
    split at hr
    · rename_i hle; cases hr
      rcases hty with ⟨e1, _⟩ | ⟨e, ti, e1, g1, g2⟩
      · rw [e1] at hle; simp at hle
      · rw [e1] at hle
        obtain ⟨hs, hle⟩ := hle
        have hs : ti.size = sz := by simpa using hs
        subst hs
        cases hx with
        | sl _ _ _ _ _ cap a hu hcap hc ha =>
          have hrun := slice_any (P := P) w t e ti g1 g2 a len cap hcap vlo vhi (lo.getD 0) (hi.getD len)
            (by rcases hlo with ⟨e1, e2⟩ | ⟨k, n, e1, e2⟩ <;> subst e1 e2 <;> simp) (by rcases hhi with ⟨e1, e2⟩ | ⟨k, n, e1, e2⟩ <;> subst e1 e2 <;> simp) hle.1 hle.2
          refine ⟨_, hrun, .sl _ _ _ _ _ _ _ hu (by omega) (by omega) (fun hpos => ?_)⟩
          have hne : cap ≠ lo.getD 0 := by omega
          rw [if_neg hne, ha (by omega), Option.map_some, Addr.add_mk]
          rw [show (E.m st).2 + off * ti.size + lo.getD 0 * ti.size = (E.m st).2 + (off + lo.getD 0) * ti.size by rw [Nat.add_mul]; omega]
    · cases hr
  | str s =>
    simp only [sliceA] at hr
    split at hr
    · rename_i hle; cases hr
      rcases hty with ⟨_, g1⟩ | ⟨e, ti, e1, _, _⟩
      · have ev := hx.str_inv
        subst ev
        refine ⟨.string (s.extract (lo.getD 0) (hi.getD s.size)), ?_, .str _⟩
        have q1 : (lo.getD 0) ≤ hi.getD s.size := hle.2.1
        have q2 : hi.getD s.size ≤ s.size := hle.2.2
        rcases hlo with ⟨rfl, rfl⟩ | ⟨k, n, rfl, rfl⟩ <;> rcases hhi with ⟨rfl, rfl⟩ | ⟨k', n', rfl, rfl⟩ <;> simp at q1 q2 <;>
          simp [Instr.sliceAt, Instr.slice, run_underlying g1, Instr.sliceBounds, Instr.sliceBound, asIntOf, q1, q2]
      · rw [hle.1] at e1; cases e1
    · cases hr
  | _ => simp [sliceA] at hr

theorem idx_done {P : Program} {E : Env} {B : Nat} {h : Hp} {w : World} (H : HConc E B h w) {x r : AV} {v : Value} (hx : Rel E x v) (i sz : Nat) (hr : idxA h.blk sz x i = some r)
    (t e : TypeId) (ti : TypeInfo) (ht : P.underlying t = some (.slice e)) (hi : P.info? e = some ti) (hsz : ti.size = sz) (k : IntKind) :
    ∃ u, (Instr.indexAt t v (.int k i)).run P w = .ok u w ∧ Rel E r u := by
  subst hsz
  have run1 : ∀ (ad : Addr) (len cap : Nat), i < len → (Instr.indexAt t (.slice (some ad) len cap) (.int k i)).run P w = .ok (.pointer (some (ad.add (i * ti.size)))) w := by
    intro ad len cap hil
    have q : (0 : Int) ≤ (i : Int) ∧ (i : Int) < (len : Int) := by omega
    simp [Instr.indexAt, run_underlying ht, asIntOf, sizeOf, typeInfo, hi, hil]
  have lstcase : ∀ xs, Rel E (.lst ti.size xs) v → ∀ y, xs[i]? = some y → r = .kp y.cells 0 → ∃ u, (Instr.indexAt t v (.int k i)).run P w = .ok u w ∧ Rel E r u := by
    intro xs hrel y hy hrr
    subst hrr
    have hil := (List.getElem?_eq_some_iff.1 hy).1
    cases hrel with
    | lst0 _ a cap => simp at hy
    | lst _ b o _ cap f hcap hsz' hk h1 hr' =>
      refine ⟨_, run1 _ _ _ hil, ?_⟩
      rw [Addr.add_mk]
      have hl := hsz' y (List.mem_of_getElem? hy)
      have := Rel.kp (E := E) y.cells 0 b (o + i * ti.size) (f i) (fun j hj => hk i j hil (by omega)) (h1 i y hy) (hr' i y hy)
      simpa using this
  cases x with
  | lst s xs =>
    simp only [idxA] at hr
    split at hr
    · rename_i es; subst es
      cases hy : xs[i]? with
      | none => simp [hy] at hr
      | some y => simp [hy] at hr; exact lstcase xs hx y hy hr.symm
    · cases hr
  | acc nm st s xs =>
    simp only [idxA] at hr
    split at hr
    · rename_i es; subst es
      cases hx with
      | acc _ _ _ _ _ _ _ hl =>
        cases hy : xs[i]? with
        | none => simp [hy] at hr
        | some y => simp [hy] at hr; exact lstcase xs hl y hy hr.symm
    · cases hr
  | sl nm st s off len =>
    simp only [idxA] at hr
    split at hr
    · rename_i hc
      obtain ⟨es, hil⟩ := hc
      subst es
      cases hr
      cases hx with
      | sl _ _ _ _ _ cap a hu hcap hc ha =>
        have ea := ha (by omega)
        subst ea
        refine ⟨_, run1 _ _ _ hil, ?_⟩
        rw [Addr.add_mk]
        have := Rel.ptr (E := E) nm st ti.size (off + i) 0 hu
        rw [show (E.m st).2 + off * ti.size + i * ti.size = (E.m st).2 + (off + i) * ti.size + 0 by rw [Nat.add_mul]; omega]
        exact this
    · cases hr
  | _ => simp [idxA] at hr

end Go.Gv
