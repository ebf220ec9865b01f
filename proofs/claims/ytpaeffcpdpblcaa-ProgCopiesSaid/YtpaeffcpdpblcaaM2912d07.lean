/- Texts of this proof, one behind the other. What is proved, and on which conditions, stands ahead of each. -/
import Derived.Test.YtpaeffcpdpblcaaM135ec9d

/- Each abstract operation is done by the model's own operation: stores, slices, indexes and arithmetic. No condition beyond those that each law names. -/
set_option linter.unusedVariables false
set_option linter.unusedSimpArgs false
namespace Go.Gv
open Go.RowKit

theorem seg_get {α : Type} (l vs : List α) (k p : Nat) (h : k + vs.length ≤ l.length) :
    (l.take k ++ vs ++ l.drop (k + vs.length))[p]? = if p < k then l[p]? else if p < k + vs.length then vs[p - k]? else l[p]? := by
  have hk : (l.take k).length = k := by simp; omega
  by_cases h1 : p < k
  · rw [if_pos h1, List.append_assoc, List.getElem?_append_left (by omega), List.getElem?_take, if_pos h1]
  · rw [if_neg h1]
    by_cases h2 : p < k + vs.length
    · rw [if_pos h2, List.append_assoc, List.getElem?_append_right (by omega), hk, List.getElem?_append_left (by omega)]
    · rw [if_neg h2, List.getElem?_append_right (by simp; omega), List.getElem?_drop]
      congr 1
      simp
      omega

theorem setCells_get (e : AV) (off sz : Nat) (vs : List AV) (he : ElemOk sz e) (hv : ∀ y ∈ vs, y.one = true) (hn : 0 < vs.length) (hle : off + vs.length ≤ e.cells.length) :
    ElemOk sz (setCells e off vs) ∧ ∀ j, (setCells e off vs).cells[j]? = if j < off then e.cells[j]? else if j < off + vs.length then vs[j - off]? else e.cells[j]? := by
  by_cases h1 : e.one = true
  · have ec := AV.cells_one h1
    rw [ec] at hle ⊢
    simp at hle
    have h0 : off = 0 ∧ vs.length = 1 := by omega
    obtain ⟨v, rfl⟩ : ∃ v, vs = [v] := List.length_eq_one_iff.1 h0.2
    have es : setCells e off [v] = v := by cases e <;> first | rfl | (simp [AV.one] at h1)
    have hv1 := hv v (by simp)
    have hs : sz = 1 := by rw [← he.1, ec]; rfl
    rw [es, h0.1]
    refine ⟨⟨by rw [AV.cells_one hv1, hs]; rfl, fun y hy => by rw [AV.cells_one hv1] at hy; simp at hy; rw [hy]; exact hv1⟩, fun j => ?_⟩
    rw [AV.cells_one hv1]
    cases j <;> simp
  · cases e with
    | agg cs =>
      have hle' : off + vs.length ≤ cs.length := hle
      refine ⟨⟨?_, fun y hy => ?_⟩, fun j => seg_get cs vs off j hle'⟩
      · have := he.1
        simp only [setCells, AV.cells, List.length_append, List.length_take, List.length_drop] at this ⊢
        omega
      · simp only [setCells, AV.cells, List.mem_append] at hy
        rcases hy with (hy | hy) | hy
        · exact he.2 y (List.mem_of_mem_take hy)
        · exact hv y hy
        · exact he.2 y (List.mem_of_mem_drop hy)
    | tup cs => have := he.2 (.tup cs) (by simp [AV.cells]); simp [AV.one] at this
    | junk => have := he.2 .junk (by simp [AV.cells]); simp [AV.one] at this
    | raw v => have := he.2 (.raw v) (by simp [AV.cells]); exact absurd this h1
    | _ => simp [AV.one] at h1

theorem store_done {P : Program} {B : Nat} {W : World} {E : Env} {h : Hp} {w : World} (H : HConc E B h w) (hW : Below B W w) {nm st sz i off : Nat} {es : List AV} {e x : AV} {va vx : Value} (t : TypeId) (ti : TypeInfo)
    (hi : P.info? t = some ti) (ha : Rel E (.ptr nm st sz i off) va) (hx : Rel E x vx) (hg : getB h.blk nm st sz = some es) (he : es[i]? = some e) (hn : x.cells.length = ti.size) (h1 : x.cells.all AV.one = true)
    (hle : off + ti.size ≤ e.cells.length) (h0 : 0 < ti.size) :
    ∃ w', (Instr.storeAt t va vx).run P w = .ok () w' ∧ HConc E B (h.setB nm (some ⟨st, sz, es.set i (setCells e off x.cells)⟩)) w' ∧ Below B W w' := by
  have h1' : ∀ y ∈ x.cells, y.one = true := by simpa using h1
  have hb := getB_some hg
  have hs0 := getB_pos hg
  have hbk := (H.bk nm _ hb).r hs0
  have hbu := H.bu nm _ hb
  obtain ⟨cur, ty, hh, hsz, hr⟩ := hbk.row
  simp only at hh hsz hr hbu
  have hcpl : es.length ≤ E.cp st := hbk.len
  have hsz0 := hsz
  have hsz : (E.m st).2 + es.length * sz ≤ cur.size := by have := Nat.mul_le_mul_right sz hcpl; omega
  obtain ⟨c1, c2⟩ := hx.cells h1'
  have hel : ElemOk sz e := hbk.el e (List.mem_of_getElem? he)
  have hil : i < es.length := (List.getElem?_eq_some_iff.1 he).1
  obtain ⟨q1, q2⟩ := setCells_get e off sz x.cells hel h1' (by omega) (by omega)
  cases ha with
  | ptr _ _ _ _ _ hu =>
    have hlen : vx.cells.toList.length = x.cells.length := by simpa using c1
    have hone : ∀ u ∈ vx.cells.toList, u.oneCell' = true := by
      intro u hu
      obtain ⟨j, hj⟩ := List.getElem?_of_mem hu
      have hjl : j < x.cells.length := by rw [← hlen]; exact (List.getElem?_eq_some_iff.1 hj).1
      obtain ⟨u', hu', _, ho⟩ := c2 j _ (List.getElem?_eq_getElem hjl)
      have : vx.cells[j]? = some u := by simpa using hj
      rw [this] at hu'
      cases hu'
      exact ho
    have hmul : i * sz + e.cells.length ≤ es.length * sz := by
      have : (i + 1) * sz ≤ es.length * sz := Nat.mul_le_mul_right _ hil
      rw [Nat.add_mul] at this
      rw [hel.1]; omega
    have hfit : (E.m st).2 + i * sz + off + 0 + vx.cells.toList.length ≤ cur.size := by rw [hlen]; omega
    have hst := run_storeCells_at P (E.m st).1 ((E.m st).2 + i * sz + off) ty vx.cells.toList 0 cur w hh hfit hone
    simp only [Nat.add_zero] at hst
    generalize hcur' : (cur.toList.take ((E.m st).2 + i * sz + off) ++ vx.cells.toList ++ cur.toList.drop ((E.m st).2 + i * sz + off + vx.cells.toList.length)).toArray = cur' at hst
    have hget : ∀ p, cur'[p]? = if p < (E.m st).2 + i * sz + off then cur[p]? else if p < (E.m st).2 + i * sz + off + x.cells.length then vx.cells[p - ((E.m st).2 + i * sz + off)]? else cur[p]? := by
      intro p
      rw [← hcur']
      have := seg_get cur.toList vx.cells.toList ((E.m st).2 + i * sz + off) p (by simp only [Array.length_toList]; rw [Array.length_toList] at hlen; rw [Nat.add_zero, Array.length_toList] at hfit; exact hfit)
      rw [List.getElem?_toArray, this, hlen]
      simp
    have hsize : cur'.size = cur.size := by
      rw [← hcur']
      have := hfit
      simp only [List.size_toArray, List.length_append, List.length_take, List.length_drop, Array.length_toList] at this ⊢
      omega
    refine ⟨w.setRow (E.m st).1 cur', ?_, ?_, ?_⟩
    · have hcs : ¬ (vx.cells.size ≠ ti.size) := by rw [c1, hn]; simp
      simp only [Instr.storeAt, Instr.sureAddr, storeVar, sizeOf, typeInfo, hi, Sem.run_bind, Sem.run_pure, run_program, Result.andThen_ok]
      rw [if_neg hcs]
      exact hst
    · have H1 : HConc E B (h.setB nm none) (w.setRow (E.m st).1 cur') := by
        refine (H.dropB nm).change ?_ ?_ ?_
        · intro b o v hk
          have hne : b ≠ (E.m st).1 := fun q => by rw [q, hbk.noK o] at hk; cases hk
          rw [cell_setRow_other w _ _ _ hne]
          exact H.K b o v hk
        · intro n b hb'
          have : n ≠ nm ∧ h.blk n = some b := by
            simp only [Hp.setB, upd] at hb'
            split at hb'
            · simp at hb'
            · rename_i hne; exact ⟨hne, hb'⟩
          exact setRow_other w _ _ _ (H.bb n nm b _ this.1 this.2 hb)
        · intro n t' g ht' hg'
          exact setRow_other w _ _ _ (fun q => H.bt nm n _ t' hb ht' (by rw [hg', q]))
      refine H1.putB ⟨st, sz, _⟩ hbu (.row hs0 ⟨hbk.base, ?_, by simp only [List.length_set]; exact hbk.len, ?_, hbk.noK⟩) (fun n b' hn hb' => by have := H.bb n nm b' _ hn hb' hb; exact this) (fun n t' ht' => by have := H.bt nm n _ t' hb ht'; exact this)
      · intro y hy
        rcases List.mem_or_eq_of_mem_set hy with hy | hy
        · exact hbk.el y hy
        · rw [hy]; exact q1
      · refine ⟨cur', ty, setRow_heap w _ cur _ ty _ hh, by rw [hsize]; exact hsz0, ?_⟩
        intro i' y hy j z hz
        show ∃ u, cur'[(E.m st).2 + i' * sz + j]? = some u ∧ Rel E z u
        have hy : (es.set i (setCells e off x.cells))[i']? = some y := hy
        rw [List.getElem?_set] at hy
        by_cases hii : i = i'
        · subst hii
          simp only [if_true, hil] at hy
          cases hy
          rw [q2] at hz
          have hjl : j < sz := by rw [← q1.1]; exact (List.getElem?_eq_some_iff.1 ((q2 j).trans hz)).1
          rw [hget]
          by_cases p1 : j < off
          · rw [if_pos p1] at hz
            rw [if_pos (by omega)]
            exact hr i e he j z hz
          · rw [if_neg p1] at hz
            rw [if_neg (by omega)]
            by_cases p2 : j < off + x.cells.length
            · rw [if_pos p2] at hz
              rw [if_pos (by omega)]
              obtain ⟨u, hu', hrel, _⟩ := c2 _ z hz
              refine ⟨u, ?_, hrel⟩
              rw [show (E.m st).2 + i * sz + j - ((E.m st).2 + i * sz + off) = j - off by omega]
              exact hu'
            · rw [if_neg p2] at hz
              rw [if_neg (by omega)]
              exact hr i e he j z hz
        · rw [if_neg hii] at hy
          obtain ⟨u, hu', hrel⟩ := hr i' y hy j z hz
          refine ⟨u, ?_, hrel⟩
          have hely : ElemOk sz y := hbk.el y (List.mem_of_getElem? hy)
          have hj : j < sz := by rw [← hely.1]; exact (List.getElem?_eq_some_iff.1 hz).1
          rw [hget]
          by_cases hlt : i' < i
          · have : (i' + 1) * sz ≤ i * sz := Nat.mul_le_mul_right _ hlt
            rw [Nat.add_mul] at this
            rw [if_pos (by omega)]
            exact hu'
          · have : (i + 1) * sz ≤ i' * sz := Nat.mul_le_mul_right _ (by omega)
            rw [Nat.add_mul] at this
            have hes := hel.1
            rw [if_neg (by omega), if_neg (by omega)]
            exact hu'
    · refine hW.trans ⟨rfl, rfl, rfl, by simp, fun k hk => setRow_other w _ _ _ (fun q => ?_)⟩
      have := hbk.base
      simp only at this
      omega

/-! ### Slices and indexes -/

theorem slice_any {P : Program} (w : World) (t e : TypeId) (ti : TypeInfo) (ht : P.underlying t = some (.slice e)) (hi : P.info? e = some ti) (a : Option Addr) (len cap : Nat) (hc : len ≤ cap)
    (lo hi' : Option Value) (l h : Nat) (hlo : lo = none ∧ l = 0 ∨ ∃ k, lo = some (.int k l)) (hhi : hi' = none ∧ h = len ∨ ∃ k, hi' = some (.int k h)) (h1 : l ≤ h) (h2 : h ≤ len) :
    (Instr.sliceAt t (.slice a len cap) lo hi' none).run P w = .ok (.slice (if cap = l then a else a.map (·.add (l * ti.size))) (h - l) (cap - l)) w := by
  have g1 : h ≤ cap := by omega
  rcases hlo with ⟨rfl, rfl⟩ | ⟨k, rfl⟩ <;> rcases hhi with ⟨rfl, rfl⟩ | ⟨k', rfl⟩ <;>
    simp [Instr.sliceAt, Instr.slice, run_underlying ht, Instr.sliceBounds, Instr.sliceBound, asIntOf, sizeOf, typeInfo, hi, h1, g1, hc]

theorem slice_done {P : Program} {E : Env} {B : Nat} {h : Hp} {w : World} (H : HConc E B h w) {x r : AV} {v : Value} (hx : Rel E x v) (so : Option Nat) (lo hi : Option Nat) (hr : sliceA so x lo hi = some r)
    (t : TypeId) (hty : (so = none ∧ P.underlying t = some .string) ∨ ∃ e ti, so = some ti.size ∧ P.underlying t = some (.slice e) ∧ P.info? e = some ti)
    (vlo vhi : Option Value) (hlo : (lo = none ∧ vlo = none) ∨ ∃ k n, lo = some n ∧ vlo = some (.int k n)) (hhi : (hi = none ∧ vhi = none) ∨ ∃ k n, hi = some n ∧ vhi = some (.int k n)) :
    ∃ u, (Instr.sliceAt t v vlo vhi none).run P w = .ok u w ∧ Rel E r u := by
  have lstcase : ∀ (e : TypeId) (ti : TypeInfo) sz xs, ti.size = sz → Rel E (.lst sz xs) v → P.underlying t = some (.slice e) → P.info? e = some ti → (lo.getD 0 ≤ hi.getD xs.length ∧ hi.getD xs.length ≤ xs.length) → r = .lst sz ((xs.take (hi.getD xs.length)).drop (lo.getD 0)) →
      ∃ u, (Instr.sliceAt t v vlo vhi none).run P w = .ok u w ∧ Rel E r u := by
    intro e ti sz xs hs hrel ht hti hle hrr
    subst hrr hs
    have hlen : ∃ a cap, v = .slice a xs.length cap ∧ xs.length ≤ cap := by
      cases hrel with
      | lst0 _ a cap => exact ⟨a, cap, rfl, Nat.zero_le _⟩
      | lst _ b o _ cap f hcap _ _ _ _ => exact ⟨_, cap, rfl, hcap⟩
    obtain ⟨a, cap, ev, hcap⟩ := hlen
    have hrun := slice_any (P := P) w t e ti ht hti a xs.length cap hcap vlo vhi (lo.getD 0) (hi.getD xs.length)
      (by rcases hlo with ⟨e1, e2⟩ | ⟨k, n, e1, e2⟩ <;> subst e1 e2 <;> simp) (by rcases hhi with ⟨e1, e2⟩ | ⟨k, n, e1, e2⟩ <;> subst e1 e2 <;> simp) hle.1 hle.2
    rw [ev, hrun]
    refine ⟨_, rfl, ?_⟩
    have hl : ((xs.take (hi.getD xs.length)).drop (lo.getD 0)).length = hi.getD xs.length - lo.getD 0 := by
      rw [List.length_drop, List.length_take]; omega
    by_cases hz : hi.getD xs.length - lo.getD 0 = 0
    · have e0 : (xs.take (hi.getD xs.length)).drop (lo.getD 0) = [] := List.eq_nil_of_length_eq_zero (by rw [hl, hz])
      rw [e0, hz]
      exact .lst0 _ _ _
    · subst ev
      have hne : cap ≠ lo.getD 0 := by omega
      cases hrel with
      | lst0 _ a cap => simp at hz hle; omega
      | lst _ b o _ cap f hcap hsz' hk h1 hr' =>
        rw [if_neg hne, Option.map_some, Addr.add_mk, ← hl]
        have hidx : ∀ i y, ((xs.take (hi.getD xs.length)).drop (lo.getD 0))[i]? = some y → xs[lo.getD 0 + i]? = some y := by
          intro i y hy
          rw [List.getElem?_drop, List.getElem?_take] at hy
          split at hy
          · exact hy
          · cases hy
        refine .lst _ b _ ti.size _ (fun i j => f (lo.getD 0 + i) j) (by omega) (fun y hy => hsz' y (List.mem_of_mem_take (List.mem_of_mem_drop hy))) ?_ ?_ ?_
        · intro i j hi' hj
          have := hk (lo.getD 0 + i) j (by omega) hj
          rwa [show o + lo.getD 0 * ti.size + i * ti.size + j = o + (lo.getD 0 + i) * ti.size + j by rw [Nat.add_mul]; omega]
        · exact fun i y hy => h1 _ y (hidx i y hy)
        · exact fun i y hy => hr' _ y (hidx i y hy)
  cases x with
  | lst sz xs =>
    simp only [sliceA] at hr
    split at hr
    · rename_i hle; cases hr
      rcases hty with ⟨e1, _⟩ | ⟨e, ti, e1, g1, g2⟩
      · rw [e1] at hle; simp at hle
      · rw [e1] at hle; exact lstcase e ti sz xs (by simpa using hle.1) hx g1 g2 hle.2 rfl
    · cases hr
  | acc nm st sz xs =>
    simp only [sliceA] at hr
    split at hr
    · rename_i hle; cases hr
      rcases hty with ⟨e1, _⟩ | ⟨e, ti, e1, g1, g2⟩
      · rw [e1] at hle; simp at hle
      · cases hx with
        | acc _ _ _ _ _ _ _ hl => rw [e1] at hle; exact lstcase e ti sz xs (by simpa using hle.1) hl g1 g2 hle.2 rfl
    · cases hr
  | nils =>
    simp only [sliceA] at hr
    split at hr
    · rename_i hle; cases hr
      rcases hty with ⟨e1, _⟩ | ⟨e, ti, e1, g1, g2⟩
      · exact absurd e1 hle.1
      · have ev := hx.nils_inv
        subst ev
        have hle := hle.2
        have hrun := slice_any (P := P) w t e ti g1 g2 none 0 0 (Nat.le_refl _) vlo vhi 0 0
          (by rcases hlo with ⟨e1, e2⟩ | ⟨k, n, e1, e2⟩ <;> subst e1 e2 <;> simp at hle ⊢; omega) (by rcases hhi with ⟨e1, e2⟩ | ⟨k, n, e1, e2⟩ <;> subst e1 e2 <;> simp at hle ⊢; omega) (Nat.le_refl _) (Nat.le_refl _)
        exact ⟨_, hrun, by simpa using Rel.nils⟩
    · cases hr
  | sl nm st sz off len =>
    simp only [sliceA] at hr
    split at hr
    · rename_i hle; cases hr
      rcases hty with ⟨e1, _⟩ | ⟨e, ti, e1, g1, g2⟩
      · rw [e1] at hle; simp at hle
      · rw [e1] at hle
        obtain ⟨hs, hle⟩ := hle
        have hs : ti.size = sz := by simpa using hs
        subst hs
        cases hx with
        | sl _ _ _ _ _ cap a hu hcap hc ha =>
          have hrun := slice_any (P := P) w t e ti g1 g2 a len cap hcap vlo vhi (lo.getD 0) (hi.getD len)
            (by rcases hlo with ⟨e1, e2⟩ | ⟨k, n, e1, e2⟩ <;> subst e1 e2 <;> simp) (by rcases hhi with ⟨e1, e2⟩ | ⟨k, n, e1, e2⟩ <;> subst e1 e2 <;> simp) hle.1 hle.2
          refine ⟨_, hrun, .sl _ _ _ _ _ _ _ hu (by omega) (by omega) (fun hpos => ?_)⟩
          have hne : cap ≠ lo.getD 0 := by omega
          rw [if_neg hne, ha (by omega), Option.map_some, Addr.add_mk]
          rw [show (E.m st).2 + off * ti.size + lo.getD 0 * ti.size = (E.m st).2 + (off + lo.getD 0) * ti.size by rw [Nat.add_mul]; omega]
    · cases hr
  | str s =>
    simp only [sliceA] at hr
    split at hr
    · rename_i hle; cases hr
      rcases hty with ⟨_, g1⟩ | ⟨e, ti, e1, _, _⟩
      · have ev := hx.str_inv
        subst ev
        refine ⟨.string (s.extract (lo.getD 0) (hi.getD s.size)), ?_, .str _⟩
        have q1 : (lo.getD 0) ≤ hi.getD s.size := hle.2.1
        have q2 : hi.getD s.size ≤ s.size := hle.2.2
        rcases hlo with ⟨rfl, rfl⟩ | ⟨k, n, rfl, rfl⟩ <;> rcases hhi with ⟨rfl, rfl⟩ | ⟨k', n', rfl, rfl⟩ <;> simp at q1 q2 <;>
          simp [Instr.sliceAt, Instr.slice, run_underlying g1, Instr.sliceBounds, Instr.sliceBound, asIntOf, q1, q2]
      · rw [hle.1] at e1; cases e1
    · cases hr
  | _ => simp [sliceA] at hr

theorem idx_done {P : Program} {E : Env} {B : Nat} {h : Hp} {w : World} (H : HConc E B h w) {x r : AV} {v : Value} (hx : Rel E x v) (i sz : Nat) (hr : idxA h.blk sz x i = some r)
    (t e : TypeId) (ti : TypeInfo) (ht : P.underlying t = some (.slice e)) (hi : P.info? e = some ti) (hsz : ti.size = sz) (k : IntKind) :
    ∃ u, (Instr.indexAt t v (.int k i)).run P w = .ok u w ∧ Rel E r u := by
  subst hsz
  have run1 : ∀ (ad : Addr) (len cap : Nat), i < len → (Instr.indexAt t (.slice (some ad) len cap) (.int k i)).run P w = .ok (.pointer (some (ad.add (i * ti.size)))) w := by
    intro ad len cap hil
    have q : (0 : Int) ≤ (i : Int) ∧ (i : Int) < (len : Int) := by omega
    simp [Instr.indexAt, run_underlying ht, asIntOf, sizeOf, typeInfo, hi, hil]
  have lstcase : ∀ xs, Rel E (.lst ti.size xs) v → ∀ y, xs[i]? = some y → r = .kp y.cells 0 → ∃ u, (Instr.indexAt t v (.int k i)).run P w = .ok u w ∧ Rel E r u := by
    intro xs hrel y hy hrr
    subst hrr
    have hil := (List.getElem?_eq_some_iff.1 hy).1
    cases hrel with
    | lst0 _ a cap => simp at hy
    | lst _ b o _ cap f hcap hsz' hk h1 hr' =>
      refine ⟨_, run1 _ _ _ hil, ?_⟩
      rw [Addr.add_mk]
      have hl := hsz' y (List.mem_of_getElem? hy)
      have := Rel.kp (E := E) y.cells 0 b (o + i * ti.size) (f i) (fun j hj => hk i j hil (by omega)) (h1 i y hy) (hr' i y hy)
      simpa using this
  cases x with
  | lst s xs =>
    simp only [idxA] at hr
    split at hr
    · rename_i es; subst es
      cases hy : xs[i]? with
      | none => simp [hy] at hr
      | some y => simp [hy] at hr; exact lstcase xs hx y hy hr.symm
    · cases hr
  | acc nm st s xs =>
    simp only [idxA] at hr
    split at hr
    · rename_i es; subst es
      cases hx with
      | acc _ _ _ _ _ _ _ hl =>
        cases hy : xs[i]? with
        | none => simp [hy] at hr
        | some y => simp [hy] at hr; exact lstcase xs hl y hy hr.symm
    · cases hr
  | sl nm st s off len =>
    simp only [idxA] at hr
    split at hr
    · rename_i hc
      obtain ⟨es, hil⟩ := hc
      subst es
      cases hr
      cases hx with
      | sl _ _ _ _ _ cap a hu hcap hc ha =>
        have ea := ha (by omega)
        subst ea
        refine ⟨_, run1 _ _ _ hil, ?_⟩
        rw [Addr.add_mk]
        have := Rel.ptr (E := E) nm st ti.size (off + i) 0 hu
        rw [show (E.m st).2 + off * ti.size + i * ti.size = (E.m st).2 + (off + i) * ti.size + 0 by rw [Nat.add_mul]; omega]
        exact this
    · cases hr
  | _ => simp [idxA] at hr

end Go.Gv

/- Each abstract operation is done by the model's own operation: composite values. No condition beyond those that each law names. -/
set_option linter.unusedVariables false
set_option linter.unusedSimpArgs false
namespace Go.Gv
open Go.RowKit

theorem fold_list (off : Nat) : ∀ (l : List Value) (s : Nat) (arr : Array Value), off + s + l.length ≤ arr.size →
    ((l.zipIdx s).foldl (fun cs (x : Value × Nat) => cs.setIfInBounds (off + x.2) x.1) arr).size = arr.size ∧
    ∀ p, ((l.zipIdx s).foldl (fun cs (x : Value × Nat) => cs.setIfInBounds (off + x.2) x.1) arr)[p]? = if off + s ≤ p ∧ p < off + s + l.length then l[p - (off + s)]? else arr[p]?
  | [], s, arr, _ => by simp; intro p h1 h2; omega
  | c :: l, s, arr, h => by
    have h' : off + (s + 1) + l.length ≤ (arr.setIfInBounds (off + s) c).size := by simp at h ⊢; omega
    obtain ⟨e1, e2⟩ := fold_list off l (s + 1) (arr.setIfInBounds (off + s) c) h'
    rw [List.zipIdx_cons, List.foldl_cons]
    refine ⟨by rw [e1]; simp, fun p => ?_⟩
    rw [e2 p]
    simp only [List.length_cons] at h ⊢
    by_cases hp : p = off + s
    · subst hp
      rw [if_neg (by omega), if_pos (by omega), Nat.sub_self, List.getElem?_cons_zero, Array.getElem?_setIfInBounds_self_of_lt (by omega)]
    · by_cases hq : off + (s + 1) ≤ p ∧ p < off + (s + 1) + l.length
      · rw [if_pos hq, if_pos (by omega)]
        rw [show p - (off + s) = (p - (off + (s + 1))) + 1 by omega]
        simp
      · rw [if_neg hq, if_neg (by omega), Array.getElem?_setIfInBounds]
        rw [if_neg (by omega)]

theorem fold_get (off : Nat) (v : Array Value) (arr : Array Value) (h : off + v.size ≤ arr.size) :
    (v.zipIdx.foldl (fun cs (x : Value × Nat) => cs.setIfInBounds (off + x.2) x.1) arr).size = arr.size ∧
    ∀ p, (v.zipIdx.foldl (fun cs (x : Value × Nat) => cs.setIfInBounds (off + x.2) x.1) arr)[p]? = if off ≤ p ∧ p < off + v.size then v[p - off]? else arr[p]? := by
  have := fold_list off v.toList 0 arr (by simpa using h)
  rw [← Array.foldl_toList]
  simp only [Nat.add_zero, Array.length_toList, Array.getElem?_toList] at this
  have e : v.zipIdx.toList = v.toList.zipIdx := by simp
  rw [e]
  exact this

/-- Cells that stand for these. -/
def CellsRel (E : Env) (cs : List AV) (vs : Array Value) : Prop := vs.size = cs.length ∧ (∀ y ∈ cs, y.one = true) ∧ ∀ (j : Nat) (y : AV) (v : Value), cs[j]? = some y → vs[j]? = some v → Rel E y v

theorem CellsRel.get {E : Env} {cs : List AV} {vs : Array Value} (h : CellsRel E cs vs) {j : Nat} {y : AV} (hy : cs[j]? = some y) : ∃ v, vs[j]? = some v ∧ Rel E y v := by
  have hj : j < vs.size := by rw [h.1]; exact (List.getElem?_eq_some_iff.1 hy).1
  exact ⟨vs[j], Array.getElem?_eq_getElem hj, h.2.2 j y _ hy (Array.getElem?_eq_getElem hj)⟩

/-- Parts: where each goes, and what it stands for. -/
inductive Parts (E : Env) (place : Nat → Option (Nat × Nat)) : List (Nat × List AV) → List (Nat × Value) → Prop
  | nil : Parts E place [] []
  | cons {off i : Nat} {x : AV} {v : Value} {as : List (Nat × List AV)} {vs : List (Nat × Value)} (hp : place i = some (off, x.cells.length)) (hr : Rel E x v) (h : Parts E place as vs) :
      Parts E place ((off, x.cells) :: as) ((i, v) :: vs)

theorem fill_ok {E : Env} {place : Nat → Option (Nat × Nat)} {as : List (Nat × List AV)} {vs : List (Nat × Value)} (h : Parts E place as vs) :
    ∀ (cs cs' : List AV) (zs : Array Value), CellsRel E cs zs → fillA 0 cs as = some cs' → ∃ zs', Instr.fill place zs vs = some zs' ∧ CellsRel E cs' zs' := by
  induction h with
  | nil => intro cs cs' zs hz hf; cases hf; exact ⟨zs, rfl, hz⟩
  | @cons off i x v as vs hp hr _ ih =>
    intro cs cs' zs hz hf
    simp only [fillA] at hf
    split at hf
    · rename_i hc
      obtain ⟨hle, h1⟩ := hc
      have h1' : ∀ y ∈ x.cells, y.one = true := by simpa using h1
      obtain ⟨c1, c2⟩ := hr.cells h1'
      have hfit : off + v.cells.size ≤ zs.size := by rw [c1, hz.1]; exact hle
      obtain ⟨s1, s2⟩ := fold_get off v.cells zs hfit
      have hnew : CellsRel E (cs.take off ++ x.cells ++ cs.drop (off + x.cells.length)) (v.cells.zipIdx.foldl (fun cs (x : Value × Nat) => cs.setIfInBounds (off + x.2) x.1) zs) := by
        refine ⟨?_, ?_, ?_⟩
        · rw [s1, hz.1]; simp; omega
        · intro y hy
          simp only [List.mem_append] at hy
          rcases hy with (hy | hy) | hy
          · exact hz.2.1 y (List.mem_of_mem_take hy)
          · exact h1' y hy
          · exact hz.2.1 y (List.mem_of_mem_drop hy)
        · intro j y u hy hu
          rw [seg_get _ _ _ _ hle] at hy
          rw [s2 j, c1] at hu
          by_cases p1 : j < off
          · rw [if_pos p1] at hy; rw [if_neg (by omega)] at hu; exact hz.2.2 j y u hy hu
          · rw [if_neg p1] at hy
            by_cases p2 : j < off + x.cells.length
            · rw [if_pos p2] at hy; rw [if_pos (by omega)] at hu
              obtain ⟨u', hu', hrel, _⟩ := c2 _ y hy
              rw [hu] at hu'; cases hu'; exact hrel
            · rw [if_neg p2] at hy; rw [if_neg (by omega)] at hu; exact hz.2.2 j y u hy hu
      obtain ⟨zs', hz1, hz2⟩ := ih _ _ _ hnew hf
      refine ⟨zs', ?_, hz2⟩
      simp only [Instr.fill, hp]
      rw [if_neg (by simp [c1]; rw [hz.1]; omega)]
      exact hz1
    · cases hf

/-- A row that holds these elements. -/
def RowRel (E : Env) (sz : Nat) (es : List AV) (arr : Array Value) : Prop :=
  arr.size = es.length * sz ∧ (∀ x ∈ es, ElemOk sz x) ∧ ∀ (i : Nat) (x : AV), es[i]? = some x → ∀ (j : Nat) (y : AV), x.cells[j]? = some y → ∃ u, arr[i * sz + j]? = some u ∧ Rel E y u ∧ u.oneCell' = true

theorem RowRel.set {E : Env} {sz : Nat} {es : List AV} {arr : Array Value} (h : RowRel E sz es arr) {i : Nat} (hi : i < es.length) {x : AV} {v : Value} (hx : Rel E x v) (hel : ElemOk sz x) :
    (i * sz + v.cells.size ≤ arr.size) ∧ RowRel E sz (es.set i x) (v.cells.zipIdx.foldl (fun cs (x : Value × Nat) => cs.setIfInBounds (i * sz + x.2) x.1) arr) := by
  obtain ⟨c1, c2⟩ := hx.cells hel.2
  have hmul : i * sz + sz ≤ es.length * sz := by
    have : (i + 1) * sz ≤ es.length * sz := Nat.mul_le_mul_right _ hi
    rw [Nat.add_mul] at this; omega
  have hfit : i * sz + v.cells.size ≤ arr.size := by rw [c1, hel.1, h.1]; exact hmul
  obtain ⟨s1, s2⟩ := fold_get (i * sz) v.cells arr hfit
  refine ⟨hfit, by rw [s1, h.1]; simp, ?_, ?_⟩
  · intro y hy
    rcases List.mem_or_eq_of_mem_set hy with hy | hy
    · exact h.2.1 y hy
    · rw [hy]; exact hel
  · intro i' y hy j z hz
    rw [s2, c1, hel.1]
    rw [List.getElem?_set] at hy
    by_cases hii : i = i'
    · subst hii
      simp only [if_true, hi] at hy
      cases hy
      have hj : j < sz := by rw [← hel.1]; exact (List.getElem?_eq_some_iff.1 hz).1
      rw [if_pos (by omega), show i * sz + j - i * sz = j by omega]
      exact c2 j z hz
    · rw [if_neg hii] at hy
      have hj : j < sz := by rw [← (h.2.1 y (List.mem_of_getElem? hy)).1]; exact (List.getElem?_eq_some_iff.1 hz).1
      rw [if_neg ?_]
      · exact h.2.2 i' y hy j z hz
      · intro q
        by_cases hlt : i' < i
        · have : (i' + 1) * sz ≤ i * sz := Nat.mul_le_mul_right _ hlt
          rw [Nat.add_mul] at this; omega
        · have : (i + 1) * sz ≤ i' * sz := Nat.mul_le_mul_right _ (by omega)
          rw [Nat.add_mul] at this; omega

theorem rows_fill {E : Env} {sz : Nat} : ∀ (ps : List (Nat × AV)) (vs : List (Nat × Value)) (es : List AV) (arr : Array Value), RowRel E sz es arr → ps.length = vs.length →
    (∀ (k : Nat) (p : Nat × AV) (q : Nat × Value), ps[k]? = some p → vs[k]? = some q → p.1 = q.1 ∧ Rel E p.2 q.2) → (∀ p ∈ ps, ElemOk sz p.2 ∧ p.1 < es.length) →
    ∃ arr', Instr.fill (fun i => some (i * sz, sz)) arr vs = some arr' ∧ RowRel E sz (ps.foldl (fun es p => es.set p.1 p.2) es) arr'
  | [], vs, es, arr, h, hl, _, _ => by
    have : vs = [] := List.eq_nil_of_length_eq_zero (by simpa using hl.symm)
    subst this
    exact ⟨arr, rfl, h⟩
  | p :: ps, [], es, arr, h, hl, _, _ => by simp at hl
  | p :: ps, q :: vs, es, arr, h, hl, hrel, hok => by
    obtain ⟨e1, e2⟩ := hrel 0 p q rfl rfl
    obtain ⟨o1, o2⟩ := hok p (by simp)
    obtain ⟨f1, f2⟩ := h.set o2 e2 o1
    obtain ⟨arr', g1, g2⟩ := rows_fill ps vs _ _ f2 (by simpa using hl) (fun k a b ha hb => hrel (k + 1) a b (by simpa using ha) (by simpa using hb)) (fun a ha => ⟨(hok a (by simp [ha])).1, by simp; exact (hok a (by simp [ha])).2⟩)
    refine ⟨arr', ?_, g2⟩
    obtain ⟨c1, _⟩ := e2.cells o1.2
    cases q with
    | mk i v =>
      simp only at e1 e2 f1 c1
      subst e1
      simp only [Instr.fill]
      rw [if_neg (by simp [c1, o1.1]; rw [c1, o1.1] at f1; omega)]
      exact g1

/-- Fresh elements. -/
theorem RowRel.zeros {E : Env} {sz : Nat} {z : AV} {zv : Value} (hz : Rel E z zv) (hel : ElemOk sz z) (n : Nat) (arr : Array Value) (hs : arr.size = n * sz)
    (ha : ∀ k, k < n * sz → arr[k]? = zv.cells[k % sz]?) : RowRel E sz (List.replicate n z) arr := by
  obtain ⟨c1, c2⟩ := hz.cells hel.2
  refine ⟨by simpa using hs, fun x hx => by rw [List.eq_of_mem_replicate hx]; exact hel, ?_⟩
  intro i x hx j y hy
  have hi : i < n := by have := (List.getElem?_eq_some_iff.1 hx).1; simpa using this
  have ex : x = z := List.eq_of_mem_replicate (List.mem_of_getElem? hx)
  subst ex
  have hj : j < sz := by rw [← hel.1]; exact (List.getElem?_eq_some_iff.1 hy).1
  obtain ⟨u, hu, hr, ho⟩ := c2 j y hy
  refine ⟨u, ?_, hr, ho⟩
  rw [ha _ (mul_lt hi hj), Nat.mul_comm, Nat.mul_add_mod, Nat.mod_eq_of_lt hj]
  exact hu

/-! ### Constants -/

def ofC1 : Value → AV
  | .bool b => .bool b
  | .int k n => .int k n
  | .string s => .str s
  | .pointer none => .nilp
  | .slice none 0 0 => .nils
  | .nilFunc => .nilf
  | v => .raw v

def ofC : Value → AV
  | .agg cs => if cs.all Value.oneCell' = true then .agg (cs.toList.map ofC1) else .raw (.agg cs)
  | v => ofC1 v

theorem Rel_ofC1 (E : Env) (v : Value) : Rel E (ofC1 v) v := by
  unfold ofC1
  split <;> first | exact .bool _ | exact .int _ _ | exact .str _ | exact .nilp | exact .nils | exact .nilf | exact .raw _

theorem one_ofC1 {v : Value} (h : v.oneCell' = true) : (ofC1 v).one = true := by
  unfold ofC1
  split <;> first | rfl | exact h

theorem Rel_ofC (E : Env) (v : Value) : Rel E (ofC v) v := by
  unfold ofC
  split
  · rename_i cs
    split
    · rename_i h
      have h' : ∀ u ∈ cs.toList, u.oneCell' = true := by
        intro u hu
        have := Array.all_eq_true'.1 h u (Array.mem_toList_iff.1 hu)
        exact this
      refine .agg _ _ (by simp) ?_ ?_
      · intro j y hy
        rw [List.getElem?_map] at hy
        cases hc : cs.toList[j]? with
        | none => simp [hc] at hy
        | some u => simp [hc] at hy; rw [← hy]; exact one_ofC1 (h' u (List.mem_of_getElem? hc))
      · intro j y u hy hu
        rw [List.getElem?_map] at hy
        have : cs.toList[j]? = some u := by simpa using hu
        simp [this] at hy
        rw [← hy]; exact Rel_ofC1 E u
    · exact .raw _
  · exact Rel_ofC1 E _

end Go.Gv

/- How the model's operations are turned into abstract ones, and that each turned one is done. No condition beyond those that each law names. -/
set_option linter.unusedVariables false
set_option linter.unusedSimpArgs false
namespace Go.Gv
open Go.RowKit

def cX (n : Nat) : Operand → Option X
  | .tmp t => if t < n then some (.t t) else none
  | .const v => some (.c (ofC v))
  | .func f => some (.c (.fn f []))
  | .global _ => none

def cXs (n : Nat) : List Operand → Option (List X)
  | [] => some []
  | x :: l => (cX n x).bind fun x => (cXs n l).map fun l => x :: l

def cOptX (n : Nat) : Option Operand → Option (Option X)
  | none => some none
  | some x => (cX n x).map some

def isAggD : TypeDesc → Bool
  | .struct _ | .array _ _ => true
  | _ => false

/-- The nil of a type. -/
def nilOp (P : Program) (t : TypeId) : Operand → Option Nat
  | .const (.slice none 0 0) => match P.underlying t with | some (.slice _) => some 0 | _ => none
  | .const (.pointer none) => match P.underlying t with | some (.pointer _) => some 1 | _ => none
  | .const .nilFunc => match P.underlying t with | some (.func _ _ _) => some 2 | _ => none
  | _ => none

/-- A comparison with nil. -/
def nilCmp (P : Program) (n : Nat) : Op → Option (Nat × Bool × X)
  | .binOp op t x y _ => (nilOp P t y).bind fun kd => (cX n x).bind fun x => match op with
    | .eql => some (kd, false, x)
    | .neq => some (kd, true, x)
    | _ => none
  | _ => none

def cParts (n : Nat) : List (Nat × Operand) → Option (List (Nat × X))
  | [] => some []
  | p :: l => (cX n p.2).bind fun x => (cParts n l).map fun l => (p.1, x) :: l

def cFields (n : Nat) (places : List (Nat × Nat)) : List (Nat × Operand) → Option (List (Nat × Nat × X))
  | [] => some []
  | p :: l => (cX n p.2).bind fun x => (places[p.1]?).bind fun q => (cFields n places l).map fun l => (q.1, q.2, x) :: l

def placesOf (P : Program) (fs : List Field) : Option (List (Nat × Nat)) := fs.mapM fun f => (P.info? f.type).map fun i => (f.offset, i.size)

/-- Fields that are all whole numbers or bools, one cell each, in order; which are bools. -/
def scalarFields (P : Program) : Nat → List Field → Option (List Bool)
  | _, [] => some []
  | k, f :: l => if f.offset = k ∧ (f.name != "_") = true then match P.underlying f.type with
    | some (.int _) => (scalarFields P (k + 1) l).map fun r => false :: r
    | some .bool => (scalarFields P (k + 1) l).map fun r => true :: r
    | _ => none else none

def cOp (P : Program) (n nm : Nat) : Op → Option AOp
  | .move x => (cX n x).map .mv
  | .assign x => (cX n x).map .mv
  | .pick c a b => (cX n c).bind fun c => (cX n a).bind fun a => (cX n b).map fun b => .pick c a b
  | .alloc e => (P.info? e).bind fun i => i.zero.bind fun z => if 0 < i.size then some (.new nm i.size (ofC z)) else none
  | .box e x => (cX n x).bind fun x => (P.info? e).bind fun i => if 0 < i.size then some (.box nm i.size x) else none
  | .build t parts => match P.underlying t with
    | some (.struct fs) => (P.info? t).bind fun i => i.zero.bind fun z => (placesOf P fs.toList).bind fun places => (cFields n places parts.toList).map fun ps => .build (ofC z).cells ps
    | _ => none
  | .buildSlice t len parts => match P.underlying t with
    | some (.slice e) => (P.info? e).bind fun i => i.zero.bind fun z => if len * i.size ≤ 2 ^ 24 ∧ z.cells.size = i.size ∧ 0 < i.size then (cParts n parts.toList).map fun ps => if nm < 1000000000 then .bsl nm i.size e len (ofC z) ps else .bslm nm i.size e len (ofC z) ps else none
    | _ => none
  | .load t x => (cX n x).bind fun x => (P.underlying t).bind fun d => if isAggD d = true then (P.info? t).map fun i => .load (some i.size) x else some (.load none x)
  | .store t a x => (cX n a).bind fun a => (cX n x).bind fun x => (P.info? t).bind fun i => if 0 < i.size then some (.store i.size a x) else none
  | .binOp op t x y _ => (cX n x).bind fun x => (cX n y).bind fun y => match P.underlying t with
    | some (.int _) => match op with
      | .shl => some (.shift true x y)
      | .shr => some (.shift false x y)
      | _ => some (.ibin op x y)
    | some .bool => match op with
      | .eql => some (.eqv false x y)
      | .neq => some (.eqv true x y)
      | _ => none
    | some (.struct fs) => (scalarFields P 0 fs.toList).bind fun ks => if P.stoodInHeld t = false ∧ P.eqGuardType P.depth t = false then match op with
      | .eql => some (.eqs ks false x y)
      | .neq => some (.eqs ks true x y)
      | _ => none else none
    | _ => none
  | .nilCheck x => (cX n x).map .nilck
  | .unOp .not _ x => (cX n x).map .not
  | .unOp .neg _ x => (cX n x).map .neg
  | .convert src dst x => (cX n x).bind fun x => match P.underlying src, P.underlying dst with
    | some _, some (.int k) => some (.conv k x)
    | _, _ => none
  | .makeFunc (.func f) first caps => if first.size = 0 then (cXs n caps.toList).map fun l => .mkf f l else none
  | .makeSlice t (.tmp l) (.tmp c) => if l = c then match P.underlying t with
    | some (.slice e) => (P.info? e).bind fun i => i.zero.bind fun z => if 0 < i.bytes ∧ z.cells.size = i.size ∧ 0 < i.size then (cX n (.tmp l)).map fun l => .msl nm i.size i.bytes (ofC z) l else none
    | _ => none else none
  | .slice t x lo hi none => (cX n x).bind fun x => (cOptX n lo).bind fun lo => (cOptX n hi).bind fun hi => match P.underlying t with
    | some (.slice e) => (P.info? e).map fun i => .slice (some i.size) x lo hi
    | some .string => some (.slice none x lo hi)
    | _ => none
  | .fieldAddr s x f => (cX n x).bind fun x => match P.underlying s with
    | some (.struct fs) => (fs[f]?).bind fun fd => (P.info? fd.type).bind fun i => if i.size = 0 then none else some (.fld fd.offset x)
    | _ => none
  | .field t x f => (cX n x).bind fun x => match P.underlying t with
    | some (.struct fs) => (fs[f]?).bind fun fd => (P.underlying fd.type).bind fun d => (P.info? fd.type).map fun i => .getf (if isAggD d = true then some i.size else none) fd.offset x
    | _ => none
  | .indexAddr t x i => (cX n x).bind fun x => (cX n i).bind fun i => match P.underlying t with
    | some (.slice e) => (P.info? e).map fun ti => .idx ti.size x i
    | _ => none
  | .extract x i => (cX n x).map fun x => .ext x i
  | .makeMap t none => some (.mkm nm)
  | .lookup t x i false => (cX n x).bind fun x => (cX n i).bind fun i => match P.underlying t with
    | some (.map key elem) => match P.underlying key with
      | some (.int k) => (P.info? elem).bind fun inf => inf.zero.map fun z => .mget k (ofC z) x i
      | _ => none
    | _ => none
  | .mapUpdate t m x v => (cX n m).bind fun m => (cX n x).bind fun x => (cX n v).bind fun v => match P.underlying t with
    | some (.map key elem) => match P.underlying key with
      | some (.int k) => some (.mput m x v)
      | _ => none
    | _ => none
  | .call c => match c.callee with
    | .builtin .len => match c.args.toList, c.argTypes.toList with
      | [x], [t] => (cX n x).bind fun x => match P.underlying t with
        | some (.slice _) => some (.len x)
        | some .string => some (.slen x)
        | _ => none
      | _, _ => none
    | .builtin .append => match c.args.toList, c.argTypes.toList with
      | [s, x], [t, t'] => if t = t' then (cX n s).bind fun s => (cX n x).bind fun x => match P.underlying t with
        | some (.slice e) => (P.info? e).bind fun i => i.zero.bind fun z => if 0 < i.bytes ∧ z.cells.size = i.size ∧ 0 < i.size then (if nm < 1000000000 then some (.app nm i.size e i.bytes s x) else some (.appw nm i.size e i.bytes s x)) else none
        | _ => none else none
      | _, _ => none
    | .builtin .copy => match c.args.toList, c.argTypes.toList with
      | [x, y], [t, t'] => (cX n x).bind fun x => (cX n y).bind fun y => match P.underlying t, P.underlying t' with
        | some (.slice e), some (.slice _) => (P.info? e).map fun i => .cpy i.size x y
        | _, _ => none
      | _, _ => none
    | .builtin .max => match c.args.toList with
      | x :: l => (cX n x).bind fun x => (cXs n l).map fun l => .mm true x l
      | _ => none
    | .builtin .min => match c.args.toList with
      | x :: l => (cX n x).bind fun x => (cXs n l).map fun l => .mm false x l
      | _ => none
    | _ => none
  | _ => none

section
variable {P : Program} {B : Nat} {W : World} {E : Env} {h : Hp} {w : World} {a : Act} {f : Nat → AV} {n nm st : Nat}

theorem cX_ok (hf : ∀ t, t < n → Rel E (f t) (a.tmps.getD t undef)) {x : Operand} {y : X} (hx : cX n x = some y) : Rel E (y.ev f) (a.eval x) := by
  cases x with
  | tmp t =>
    simp only [cX] at hx
    split at hx
    · rename_i ht; cases hx; exact hf t ht
    · cases hx
  | const v => cases hx; exact Rel_ofC E v
  | func g => cases hx; exact .fn g [] #[] rfl (by simp)
  | global g => cases hx

theorem cXs_ok (hf : ∀ t, t < n → Rel E (f t) (a.tmps.getD t undef)) : ∀ (l : List Operand) (ys : List X), cXs n l = some ys →
    ys.length = l.length ∧ ∀ (j : Nat) (y : X) (x : Operand), ys[j]? = some y → l[j]? = some x → Rel E (y.ev f) (a.eval x)
  | [], ys, h => by cases h; simp
  | x :: l, ys, h => by
    simp only [cXs, Option.bind_eq_some_iff, Option.map_eq_some_iff] at h
    obtain ⟨y, hy, ys', hys, rfl⟩ := h
    obtain ⟨e1, e2⟩ := cXs_ok hf l ys' hys
    refine ⟨by simp [e1], fun j z u hz hu => ?_⟩
    cases j with
    | zero => simp at hz hu; subst hz hu; exact cX_ok hf hy
    | succ j => exact e2 j z u (by simpa using hz) (by simpa using hu)

theorem mv_done (H : HConc E B h w) (hW : Below B W w) (hf : ∀ t, t < n → Rel E (f t) (a.tmps.getD t undef)) (o : Oper) (x : Operand) (ho : o.op = .move x ∨ o.op = .assign x) (y : X) (hx : cX n x = some y) :
    Done B W E st ((execOp a.eval o).run P w) { v := y.ev f } h := by
  refine Done.pure H hW (v := a.eval x) ?_ (cX_ok hf hx)
  rcases ho with ho | ho <;> simp [execOp, ho]

theorem new_done (H : HConc E B h w) (hW : Below B W w) (hB : B ≤ w.heap.size) (hst : ¬ E.u st) (o : Oper) (e : TypeId) (ho : o.op = .alloc e) (i : TypeInfo) (z : Value) (hi : P.info? e = some i) (hz : i.zero = some z) (h0 : 0 < i.size)
    (hl : (ofC z).cells.length = i.size) (h1 : (ofC z).cells.all AV.one = true) :
    Done B W E st ((execOp a.eval o).run P w) { v := .ptr nm st i.size 0 0, wb := [(nm, some ⟨st, i.size, [ofC z]⟩)] } h := by
  refine ⟨.pointer (some ⟨w.heap.size, 0, none⟩), w.alloc (.cells z.cells e), E.withM st (w.heap.size, 0) 1, .inl ?_, Env.le_withM hst _ _, fun s hs => hs.elim .inr .inl, fun _ _ _ => rfl, ?_, hW.alloc hB _, Rel.newPtr E w nm st i.size 1⟩
  · simp [execOp, ho, Instr.alloc, zeroValue, typeInfo, hi, hz, newVar, newRow]
  · exact H.newVar hB nm st i.size (by omega) hst (ofC z) z e ⟨hl, by simpa using h1⟩ (Rel_ofC E z)

theorem box_done (H : HConc E B h w) (hW : Below B W w) (hB : B ≤ w.heap.size) (hst : ¬ E.u st) (o : Oper) (e : TypeId) (x : Operand) (ho : o.op = .box e x) (y : AV) (hy : Rel E y (a.eval x)) (sz : Nat) (h0 : 0 < sz)
    (hl : y.cells.length = sz) (h1 : y.cells.all AV.one = true) :
    Done B W E st ((execOp a.eval o).run P w) { v := .ptr nm st sz 0 0, wb := [(nm, some ⟨st, sz, [y]⟩)] } h := by
  refine ⟨.pointer (some ⟨w.heap.size, 0, none⟩), w.alloc (.cells (a.eval x).cells e), E.withM st (w.heap.size, 0) 1, .inl ?_, Env.le_withM hst _ _, fun s hs => hs.elim .inr .inl, fun _ _ _ => rfl, ?_, hW.alloc hB _, Rel.newPtr E w nm st sz 1⟩
  · simp [execOp, ho, Instr.box, newVar, newRow]
  · exact H.newVar hB nm st sz (by omega) hst y (a.eval x) e ⟨hl, by simpa using h1⟩ hy

theorem pick_done (H : HConc E B h w) (hW : Below B W w) (o : Oper) (c x y : Operand) (ho : o.op = .pick c x y) (t : Bool) (hc : Rel E (.bool t) (a.eval c)) (vx vy : AV) (hx : Rel E vx (a.eval x)) (hy : Rel E vy (a.eval y)) :
    Done B W E st ((execOp a.eval o).run P w) { v := if t = true then vx else vy } h := by
  have ec := hc.bool_inv
  refine Done.pure H hW (v := if t = true then a.eval x else a.eval y) ?_ ?_
  · simp [execOp, ho, ec, asBool]
  · cases t <;> simpa

theorem load_done (H : HConc E B h w) (hW : Below B W w) (o : Oper) (t : TypeId) (x : Operand) (ho : o.op = .load t x) (v r : AV) (hx : Rel E v (a.eval x)) (d : TypeDesc) (ht : P.underlying t = some d)
    (hr : (isAggD d = false ∧ ldOne h.blk v = some r) ∨ (isAggD d = true ∧ ∃ i, P.info? t = some i ∧ ldAgg h.blk i.size v = some r)) :
    Done B W E st ((execOp a.eval o).run P w) { v := r } h := by
  have : ∃ u, (Instr.loadAt t (a.eval x)).run P w = .ok u w ∧ Rel E r u := by
    rcases hr with ⟨hd, hl⟩ | ⟨hd, i, hi, hl⟩
    · exact load_one H hx hl t d ht (by cases d <;> simp_all [isAggD])
    · exact load_agg H hx i.size hl t d i ht (by cases d <;> simp_all [isAggD]) hi rfl
  obtain ⟨u, hu, hrel⟩ := this
  exact Done.pure H hW (v := u) (by simp [execOp, ho, hu]) hrel

theorem int_done (H : HConc E B h w) (hW : Below B W w) (o : Oper) (op : BinOp) (t ty : TypeId) (x y : Operand) (ho : o.op = .binOp op t x y ty) (k : IntKind) (p q : Int) (hx : Rel E (.int k p) (a.eval x)) (hy : Rel E (.int k q) (a.eval y))
    (r : AV) (hr : intBin op k p q = some r) : Done B W E st ((execOp a.eval o).run P w) { v := r } h := by
  have ex := hx.int_inv
  have ey := hy.int_inv
  have hg : ∀ x y : Operand, (eqGuard op t x y (.int k p) (.int k q)).run P w = .ok () w := by
    intro x y; cases op <;> simp [eqGuard]
  cases op <;> simp only [intBin] at hr <;> (try (cases hr; done))
  case quo =>
    split at hr
    · cases hr
    · rename_i hq; cases hr
      exact Done.pure H hW (v := .int k (k.wrap (p.tdiv q))) (by simp [execOp, ho, ex, ey, hg, binOp, Op.intDiv, hq]) (.int _ _)
  case rem =>
    split at hr
    · cases hr
    · rename_i hq; cases hr
      exact Done.pure H hW (v := .int k (p.tmod q)) (by simp [execOp, ho, ex, ey, hg, binOp, Op.intDiv, hq]) (.int _ _)
  case and => cases hr; exact Done.pure H hW (v := .int k (bitAnd k p q)) (by simp [execOp, ho, ex, ey, hg, binOp, Op.intBits, bitAnd]) (.int _ _)
  case or => cases hr; exact Done.pure H hW (v := .int k (bitOr k p q)) (by simp [execOp, ho, ex, ey, hg, binOp, Op.intBits, bitOr]) (.int _ _)
  case xor => cases hr; exact Done.pure H hW (v := .int k (bitXor k p q)) (by simp [execOp, ho, ex, ey, hg, binOp, Op.intBits, bitXor]) (.int _ _)
  case andNot => cases hr; exact Done.pure H hW (v := .int k (bitAndNot k p q)) (by simp [execOp, ho, ex, ey, hg, binOp, Op.intBits, bitAndNot]) (.int _ _)
  case add => cases hr; exact Done.pure H hW (v := .int k (k.wrap (p + q))) (by simp [execOp, ho, ex, ey, hg, binOp, Op.intArith]) (.int _ _)
  case sub => cases hr; exact Done.pure H hW (v := .int k (k.wrap (p - q))) (by simp [execOp, ho, ex, ey, hg, binOp, Op.intArith]) (.int _ _)
  case mul => cases hr; exact Done.pure H hW (v := .int k (k.wrap (p * q))) (by simp [execOp, ho, ex, ey, hg, binOp, Op.intArith]) (.int _ _)
  case eql => cases hr; exact Done.pure H hW (v := .bool (p == q)) (by simp [execOp, ho, ex, ey, hg, binOp, Op.intCmp]) (.bool _)
  case neq => cases hr; exact Done.pure H hW (v := .bool (p != q)) (by simp [execOp, ho, ex, ey, hg, binOp, Op.intCmp]) (.bool _)
  case lss => cases hr; exact Done.pure H hW (v := .bool (decide (p < q))) (by simp [execOp, ho, ex, ey, hg, binOp, Op.intCmp]) (.bool _)
  case leq => cases hr; exact Done.pure H hW (v := .bool (decide (p ≤ q))) (by simp [execOp, ho, ex, ey, hg, binOp, Op.intCmp]) (.bool _)
  case gtr => cases hr; exact Done.pure H hW (v := .bool (decide (p > q))) (by simp [execOp, ho, ex, ey, hg, binOp, Op.intCmp]) (.bool _)
  case geq => cases hr; exact Done.pure H hW (v := .bool (decide (p ≥ q))) (by simp [execOp, ho, ex, ey, hg, binOp, Op.intCmp]) (.bool _)

theorem len_done (H : HConc E B h w) (hW : Below B W w) (o : Oper) (x : Operand) (t : TypeId) (ho : o.op = .call { callee := .builtin .len, args := #[x], argTypes := #[t] }) (v : AV) (hx : Rel E v (a.eval x))
    (k : Nat) (hk : lenOf v = some k) (e : TypeId) (ht : P.underlying t = some (.slice e)) :
    Done B W E st ((execOp a.eval o).run P w) { v := .int .i64 k } h := by
  have hs : ∃ ad cap, a.eval x = .slice ad k cap := by
    generalize a.eval x = u at hx
    cases v with
    | nils => simp [lenOf] at hk; subst hk; exact ⟨_, _, hx.nils_inv⟩
    | lst sz xs =>
      simp [lenOf] at hk; subst hk
      cases hx with
      | lst0 _ ad cap => exact ⟨ad, cap, rfl⟩
      | lst _ b o _ cap _ _ _ _ _ _ => exact ⟨_, cap, rfl⟩
    | acc nm st sz xs =>
      simp [lenOf] at hk; subst hk
      cases hx with
      | acc _ _ _ _ _ _ _ hl =>
        cases hl with
        | lst0 _ ad cap => exact ⟨ad, cap, rfl⟩
        | lst _ b o _ cap _ _ _ _ _ _ => exact ⟨_, cap, rfl⟩
    | sl nm st sz off len =>
      simp [lenOf] at hk; subst hk
      cases hx with
      | sl _ _ _ _ _ cap ad _ _ _ _ => exact ⟨ad, cap, rfl⟩
    | _ => simp [lenOf] at hk
  obtain ⟨ad, cap, e1⟩ := hs
  have hrun : (Builtin.len_ #[t] o.type #[a.eval x]).run P w = .ok (goInt k) w := by simp [e1, Builtin.len_, run_underlying ht]
  refine Done.pure H hW (v := goInt k) ?_ (.int _ _)
  simp [execOp, ho, resolve, invoke, builtin, hrun]

theorem slen_done (H : HConc E B h w) (hW : Below B W w) (o : Oper) (x : Operand) (t : TypeId) (ho : o.op = .call { callee := .builtin .len, args := #[x], argTypes := #[t] }) (s : ByteArray) (hx : Rel E (.str s) (a.eval x))
    (ht : P.underlying t = some .string) : Done B W E st ((execOp a.eval o).run P w) { v := .int .i64 s.size } h := by
  have hrun : (Builtin.len_ #[t] o.type #[a.eval x]).run P w = .ok (goInt s.size) w := by simp [hx.str_inv, Builtin.len_, run_underlying ht]
  refine Done.pure H hW (v := goInt s.size) ?_ (.int _ _)
  simp [execOp, ho, resolve, invoke, builtin, hrun]

theorem fld_done (H : HConc E B h w) (hW : Below B W w) (o : Oper) (s : TypeId) (x : Operand) (g : Nat) (ho : o.op = .fieldAddr s x g) (fs : Array Field) (hs : P.underlying s = some (.struct fs)) (fd : Field) (hfd : fs[g]? = some fd)
    (i : TypeInfo) (hi : P.info? fd.type = some i) (h0 : i.size ≠ 0) (v r : AV) (hx : Rel E v (a.eval x))
    (hr : (∃ nm st sz k off, v = .ptr nm st sz k off ∧ r = .ptr nm st sz k (off + fd.offset)) ∨ ∃ cs off, v = .kp cs off ∧ r = .kp cs (off + fd.offset)) :
    Done B W E st ((execOp a.eval o).run P w) { v := r } h := by
  have key : ∀ b q, a.eval x = .pointer (some ⟨b, q, none⟩) → (execOp a.eval o).run P w = .ok (.value (.pointer (some ⟨b, q + fd.offset, none⟩))) w := by
    intro b q e
    simp [execOp, ho, e, Instr.fieldAt, run_underlying hs, hfd, Instr.sureAddr, fieldPlace, sizeOf, typeInfo, hi, h0, Addr.add_mk]
  rcases hr with ⟨nm, st', sz, k, off, rfl, rfl⟩ | ⟨cs, off, rfl, rfl⟩
  · generalize hv : a.eval x = u at hx
    cases hx with
    | ptr _ _ _ _ _ hu =>
      refine Done.pure H hW (key _ _ hv) ?_
      rw [Nat.add_assoc]
      exact .ptr nm st' sz k (off + fd.offset) hu
  · generalize hv : a.eval x = u at hx
    cases hx with
    | kp _ _ b q fn hk h1 hr =>
      refine Done.pure H hW (key _ _ hv) ?_
      rw [Nat.add_assoc]
      exact .kp cs (off + fd.offset) b q fn hk h1 hr

end

end Go.Gv

/- Every abstract operation other than a call is done by the model's operation that it was turned from. No condition beyond those that each law names. -/
set_option linter.unusedVariables false
set_option linter.unusedSimpArgs false
namespace Go.Gv
open Go.RowKit

section
variable {P : Program} {B : Nat} {W : World} {E : Env} {h : Hp} {w : World} {a : Act} {f : Nat → AV} {n nm st : Nat}

theorem run_eqGuard_scalar (op : BinOp) (t : TypeId) (x y : Operand) (u v : Value) (hu : (∃ b, u = .bool b) ∨ ∃ k m, u = .int k m) : (eqGuard op t x y u v).run P w = .ok () w := by
  rcases hu with ⟨b, rfl⟩ | ⟨k, m, rfl⟩ <;> cases op <;> simp [eqGuard] <;> (split <;> simp_all)

theorem eq1_run (d : Nat) (t : TypeId) (kb : Bool) (x y : AV) (u v : Value) (hu : Rel E x u) (hv : Rel E y v) (r : Bool) (hr : eq1 kb x y = some r)
    (ht : (kb = true ∧ P.underlying t = some .bool) ∨ (kb = false ∧ ∃ k, P.underlying t = some (.int k))) :
    (Op.equalIn (d + 1) t u v).run P w = .ok r w := by
  rcases ht with ⟨rfl, ht⟩ | ⟨rfl, k0, ht⟩
  · cases x <;> cases y <;> simp only [eq1] at hr <;> (try (cases hr; done))
    cases hr
    rw [hu.bool_inv, hv.bool_inv]
    simp [Op.equalIn, run_underlying ht]
  · cases x <;> cases y <;> simp only [eq1] at hr <;> (try (cases hr; done))
    split at hr
    · rename_i e; subst e
      cases hr
      rw [hu.int_inv, hv.int_inv]
      simp [Op.equalIn, run_underlying ht]
    · cases hr

theorem part_cell (t : TypeId) (d : TypeDesc) (ht : P.underlying t = some d) (hd : isAggD d = false) (cs : Array Value) (k : Nat) (v : Value) (hk : cs[k]? = some v) : (part t cs k).run P w = .ok v w := by
  have hagg : (isAgg t).run P w = .ok false w := by
    unfold isAgg
    rw [Sem.run_bind, run_underlying ht w]
    cases d <;> simp_all [isAggD]
  simp [part, hagg, hk]

theorem eqL_run (d : Nat) (us vs : Array Value) : ∀ (fs : List Field) (k : Nat) (ks : List Bool) (xs ys : List AV) (r : Bool), scalarFields P k fs = some ks → eqL ks xs ys = some r →
    (∀ (j : Nat) (x : AV), xs[j]? = some x → ∃ u, us[k + j]? = some u ∧ Rel E x u) → (∀ (j : Nat) (x : AV), ys[j]? = some x → ∃ u, vs[k + j]? = some u ∧ Rel E x u) →
    (Op.eqFields (d + 1) us vs fs).run P w = .ok r w
  | [], k, ks, xs, ys, r, hs, hr, hx, hy => by
    cases hs
    cases xs <;> cases ys <;> simp only [eqL] at hr <;> (try (cases hr; done))
    cases hr
    simp [Op.eqFields]
  | f :: fs, k, ks, xs, ys, r, hs, hr, hx, hy => by
    simp only [scalarFields] at hs
    split at hs
    · rename_i hc
      obtain ⟨ho, hn⟩ := hc
      have hn' : f.name ≠ "_" := by simpa using hn
      have main : ∀ (kb : Bool) (ks' : List Bool), scalarFields P (k + 1) fs = some ks' → ks = kb :: ks' → ((kb = true ∧ P.underlying f.type = some .bool) ∨ (kb = false ∧ ∃ k, P.underlying f.type = some (.int k))) →
          (∃ dd, P.underlying f.type = some dd ∧ isAggD dd = false) → (Op.eqFields (d + 1) us vs (f :: fs)).run P w = .ok r w := by
        intro kb ks' hs' e ht hdd
        subst e
        obtain ⟨dd, hdd1, hdd2⟩ := hdd
        cases xs with
        | nil => cases ys <;> simp [eqL] at hr
        | cons x xs =>
          cases ys with
          | nil => simp [eqL] at hr
          | cons y ys =>
            obtain ⟨u, hu, hru⟩ := hx 0 x rfl
            obtain ⟨v, hv, hrv⟩ := hy 0 y rfl
            rw [Nat.add_zero] at hu hv
            have p1 := part_cell (P := P) (w := w) f.type dd hdd1 hdd2 us k u hu
            have p2 := part_cell (P := P) (w := w) f.type dd hdd1 hdd2 vs k v hv
            simp only [eqL] at hr
            have ih := eqL_run d us vs fs (k + 1) ks' xs ys
            cases h1 : eq1 kb x y with
            | none => simp [h1] at hr
            | some b =>
              have q := eq1_run (P := P) (w := w) d f.type kb x y u v hru hrv b h1 ht
              cases b with
              | true =>
                simp only [h1] at hr
                have := ih r hs' hr (fun j z hz => by have := hx (j + 1) z (by simpa using hz); rwa [show k + (j + 1) = k + 1 + j by omega] at this)
                  (fun j z hz => by have := hy (j + 1) z (by simpa using hz); rwa [show k + (j + 1) = k + 1 + j by omega] at this)
                simp [Op.eqFields, hn', ho, p1, p2, q, this]
              | false =>
                simp only [h1] at hr
                cases hr
                simp [Op.eqFields, hn', ho, p1, p2, q]
      split at hs
      · rename_i k0 ht
        simp only [Option.map_eq_some_iff] at hs
        obtain ⟨ks', h1, rfl⟩ := hs
        exact main false ks' h1 rfl (.inr ⟨rfl, k0, ht⟩) ⟨_, ht, rfl⟩
      · rename_i ht
        simp only [Option.map_eq_some_iff] at hs
        obtain ⟨ks', h1, rfl⟩ := hs
        exact main true ks' h1 rfl (.inl ⟨rfl, ht⟩) ⟨_, ht, rfl⟩
      · cases hs
    · cases hs

theorem eqv_done (H : HConc E B h w) (hW : Below B W w) (o : Oper) (op : BinOp) (neg : Bool) (t ty : TypeId) (x y : Operand) (ho : o.op = .binOp op t x y ty) (hop : op = if neg = true then .neq else .eql) (ht : P.underlying t = some .bool) (p q : Bool)
    (hx : Rel E (.bool p) (a.eval x)) (hy : Rel E (.bool q) (a.eval y)) : Done B W E st ((execOp a.eval o).run P w) { v := .bool (if neg = true then p != q else p == q) } h := by
  have hg := fun x y => run_eqGuard_scalar (P := P) (w := w) op t x y (.bool p) (.bool q) (.inl ⟨p, rfl⟩)
  have he : (Op.equal t (.bool p) (.bool q)).run P w = .ok (p == q) w := by
    simp [Op.equal, Op.maxDepth, run_equalIn_bool' w 9999 t p q ht]
  refine Done.pure H hW (v := .bool (if neg = true then p != q else p == q)) ?_ (.bool _)
  subst hop
  cases neg
  · simp only [Bool.false_eq_true, if_false] at hg ho ⊢
    simp only [execOp, ho, hx.bool_inv, hy.bool_inv, Sem.run_bind, hg, Result.andThen_ok, binOp, he, Sem.run_pure]
  · simp only [if_true] at hg ho ⊢
    simp only [execOp, ho, hx.bool_inv, hy.bool_inv, Sem.run_bind, hg, Result.andThen_ok, binOp, he, Sem.run_pure, bne]

theorem eqs_done (H : HConc E B h w) (hW : Below B W w) (o : Oper) (op : BinOp) (neg : Bool) (t ty : TypeId) (x y : Operand) (ho : o.op = .binOp op t x y ty) (hop : op = if neg = true then .neq else .eql) (fs : Array Field)
    (ht : P.underlying t = some (.struct fs)) (ks : List Bool) (hks : scalarFields P 0 fs.toList = some ks) (h1 : P.stoodInHeld t = false) (h2 : P.eqGuardType P.depth t = false) (xs ys : List AV)
    (hx : Rel E (.agg xs) (a.eval x)) (hy : Rel E (.agg ys) (a.eval y)) (r : Bool) (hr : eqL ks xs ys = some r) : Done B W E st ((execOp a.eval o).run P w) { v := .bool (if neg = true then !r else r) } h := by
  generalize hu : a.eval x = u at hx
  generalize hv : a.eval y = v at hy
  cases hx with
  | agg _ us s1 _ r1 =>
    cases hy with
    | agg _ vs s2 _ r2 =>
      have hf : P.fieldsOf t = fs := by simp [Program.fieldsOf, ht]
      have ht' : P.underlying t = some (.struct (P.fieldsOf t)) := by rw [hf]; exact ht
      have get : ∀ (cs : List AV) (us : Array Value), cs.length = us.size → (∀ (j : Nat) (y : AV) (v : Value), cs[j]? = some y → us[j]? = some v → Rel E y v) → ∀ (j : Nat) (x : AV), cs[j]? = some x → ∃ u, us[0 + j]? = some u ∧ Rel E x u := by
        intro cs us s r j z hz
        have hj : j < us.size := by rw [← s]; exact (List.getElem?_eq_some_iff.1 hz).1
        exact ⟨us[j], by rw [Nat.zero_add]; exact Array.getElem?_eq_getElem hj, r j z _ hz (Array.getElem?_eq_getElem hj)⟩
      have key := eqL_run (P := P) (w := w) 9998 us vs fs.toList 0 ks xs ys r hks hr (get xs us s1 r1) (get ys vs s2 r2)
      have he : (Op.equalIn 10000 t (.agg us) (.agg vs)).run P w = .ok r w := by
        rw [run_equalIn_struct (P := P) w 9999 t us vs ht' h1, hf]; exact key
      refine Done.pure H hW (v := .bool (if neg = true then !r else r)) ?_ (.bool _)
      have hg := fun x y => run_eqGuard_agg (P := P) w op t x y us vs h2
      subst hop
      cases neg
      · have e1 := run_eql_struct (P := P) w t us vs
        rw [he] at e1
        simp only [Bool.false_eq_true, if_false] at hg ho ⊢
        simp only [execOp, ho, hu, hv, Sem.run_bind, hg, Result.andThen_ok, e1, Sem.run_pure]
      · have e1 := run_neq_struct (P := P) w t us vs
        rw [he] at e1
        simp only [if_true] at hg ho ⊢
        simp only [execOp, ho, hu, hv, Sem.run_bind, hg, Result.andThen_ok, e1, Sem.run_pure]

theorem not_done (H : HConc E B h w) (hW : Below B W w) (o : Oper) (t : TypeId) (x : Operand) (ho : o.op = .unOp .not t x) (b : Bool) (hx : Rel E (.bool b) (a.eval x)) :
    Done B W E st ((execOp a.eval o).run P w) { v := .bool (!b) } h :=
  Done.pure H hW (v := .bool (!b)) (by simp [execOp, ho, hx.bool_inv, Op.unary]) (.bool _)

theorem neg_done (H : HConc E B h w) (hW : Below B W w) (o : Oper) (t : TypeId) (x : Operand) (ho : o.op = .unOp .neg t x) (k : IntKind) (p : Int) (hx : Rel E (.int k p) (a.eval x)) :
    Done B W E st ((execOp a.eval o).run P w) { v := .int k (k.wrap (0 - p)) } h :=
  Done.pure H hW (v := .int k (k.wrap (0 - p))) (by simp [execOp, ho, hx.int_inv, Op.unary, Op.intArith]) (.int _ _)

theorem conv_done (H : HConc E B h w) (hW : Below B W w) (o : Oper) (src dst : TypeId) (x : Operand) (ho : o.op = .convert src dst x) (k : IntKind) (d : TypeDesc) (hs : P.underlying src = some d) (hd : P.underlying dst = some (.int k))
    (k' : IntKind) (p : Int) (hx : Rel E (.int k' p) (a.eval x)) : Done B W E st ((execOp a.eval o).run P w) { v := .int k (k.wrap p) } h :=
  Done.pure H hW (v := .int k (k.wrap p)) (by simp [execOp, ho, hx.int_inv, convert, run_underlying hs, run_underlying hd, Conv.intToInt]) (.int _ _)

theorem mm_fold (mx : Bool) (k : IntKind) : ∀ (l : List AV) (us : List Value) (p r : Int), mmI mx k p l = some r → l.length = us.length → (∀ (j : Nat) (y : AV) (u : Value), l[j]? = some y → us[j]? = some u → Rel E y u) →
    (us.foldlM (if mx = true then Builtin.max2 else Builtin.min2) (.int k p)).run P w = .ok (.int k r) w
  | [], us, p, r, hr, hl, _ => by
    have : us = [] := List.eq_nil_of_length_eq_zero (by simpa using hl.symm)
    subst this
    cases hr
    simp
  | x :: l, [], p, r, hr, hl, _ => by simp at hl
  | x :: l, u :: us, p, r, hr, hl, hrel => by
    cases x <;> simp only [mmI] at hr <;> (try (cases hr; done))
    rename_i k' q
    split at hr
    · rename_i e; subst e
      have hu := (hrel 0 _ u rfl rfl).int_inv
      subst hu
      have ih := mm_fold mx k l us _ r hr (by simpa using hl) (fun j y u hy hu => hrel (j + 1) y u (by simpa using hy) (by simpa using hu))
      cases mx
      · simp only [List.foldlM_cons, Bool.false_eq_true, if_false, Builtin.min2] at ih ⊢
        simpa using ih
      · simp only [List.foldlM_cons, if_true, Builtin.max2] at ih ⊢
        simpa using ih
    · cases hr

theorem mm_done (H : HConc E B h w) (hW : Below B W w) (o : Oper) (mx : Bool) (x : Operand) (l : List Operand) (ts : Array TypeId) (args : Array Operand) (hargs : args.toList = x :: l)
    (ho : o.op = .call { callee := .builtin (if mx = true then .max else .min), args := args, argTypes := ts }) (k : IntKind) (p r : Int)
    (hx : Rel E (.int k p) (a.eval x)) (ys : List AV) (hl : ys.length = l.length) (hys : ∀ (j : Nat) (y : AV) (z : Operand), ys[j]? = some y → l[j]? = some z → Rel E y (a.eval z)) (hr : mmI mx k p ys = some r) :
    Done B W E st ((execOp a.eval o).run P w) { v := .int k r } h := by
  have key := mm_fold (P := P) (w := w) mx k ys (l.map a.eval) p r hr (by simpa using hl) (fun j y u hy hu => by
    rw [List.getElem?_map] at hu
    cases hz : l[j]? with
    | none => simp [hz] at hu
    | some z => simp [hz] at hu; rw [← hu]; exact hys j y z hy hz)
  have ea : (args.map a.eval).toList = .int k p :: l.map a.eval := by simp [hargs, hx.int_inv]
  refine Done.pure H hW (v := .int k r) ?_ (.int _ _)
  cases mx
  · simp only [execOp, ho, resolve, invoke, builtin, Bool.false_eq_true, if_false, Builtin.min_, Sem.run_bind, Sem.run_pure, Result.andThen_ok, ea] at key ⊢
    rw [key]; rfl
  · simp only [execOp, ho, resolve, invoke, builtin, if_true, Builtin.max_, Sem.run_bind, Sem.run_pure, Result.andThen_ok, ea] at key ⊢
    rw [key]; rfl

theorem mkf_done (H : HConc E B h w) (hW : Below B W w) (o : Oper) (g : FuncId) (first caps : Array Operand) (h0 : first.size = 0) (ho : o.op = .makeFunc (.func g) first caps) (ys : List AV) (hl : ys.length = caps.toList.length)
    (hys : ∀ (j : Nat) (y : AV) (z : Operand), ys[j]? = some y → caps.toList[j]? = some z → Rel E y (a.eval z)) : Done B W E st ((execOp a.eval o).run P w) { v := .fn g ys } h := by
  have e0 : first = #[] := Array.eq_empty_of_size_eq_zero h0
  refine Done.pure H hW (v := .func (.func g) #[] (caps.map a.eval)) (by simp [execOp, ho, e0, Instr.makeFunc]) (.fn g ys _ (by simpa using hl) ?_)
  intro j y v hy hv
  rw [Array.getElem?_map] at hv
  cases hz : caps[j]? with
  | none => simp [hz] at hv
  | some z => simp [hz] at hv; rw [← hv]; exact hys j y z hy (by simpa using hz)

theorem ext_done (H : HConc E B h w) (hW : Below B W w) (o : Oper) (x : Operand) (i : Nat) (ho : o.op = .extract x i) (vs : List AV) (hx : Rel E (.tup vs) (a.eval x)) (y : AV) (hy : vs[i]? = some y) :
    Done B W E st ((execOp a.eval o).run P w) { v := y } h := by
  generalize hu : a.eval x = u at hx
  cases hx with
  | tup _ us hs hr =>
    have hi : i < us.size := by rw [← hs]; exact (List.getElem?_eq_some_iff.1 hy).1
    exact Done.pure H hW (v := us[i]) (by simp [execOp, ho, hu, Instr.extract, hi]) (hr i y _ hy (Array.getElem?_eq_getElem hi))

theorem getf_done (H : HConc E B h w) (hW : Below B W w) (o : Oper) (t : TypeId) (x : Operand) (g : Nat) (ho : o.op = .field t x g) (fs : Array Field) (ht : P.underlying t = some (.struct fs)) (fd : Field) (hfd : fs[g]? = some fd)
    (d : TypeDesc) (hd : P.underlying fd.type = some d) (i : TypeInfo) (hi : P.info? fd.type = some i) (cs : List AV) (hx : Rel E (.agg cs) (a.eval x)) (y : AV)
    (hy : (isAggD d = false ∧ cs[fd.offset]? = some y) ∨ (isAggD d = true ∧ fd.offset + i.size ≤ cs.length ∧ y = .agg ((cs.drop fd.offset).take i.size))) :
    Done B W E st ((execOp a.eval o).run P w) { v := y } h := by
  generalize hu : a.eval x = u at hx
  cases hx with
  | agg _ us hs h1 hr =>
    rcases hy with ⟨hd0, hy⟩ | ⟨hd1, hle, rfl⟩
    · have hk : fd.offset < us.size := by rw [← hs]; exact (List.getElem?_eq_some_iff.1 hy).1
      have p1 := part_cell (P := P) (w := w) fd.type d hd hd0 us fd.offset us[fd.offset] (Array.getElem?_eq_getElem hk)
      exact Done.pure H hW (v := us[fd.offset]) (by simp [execOp, ho, hu, Instr.field, run_underlying ht, hfd, asAgg, p1]) (hr _ y _ hy (Array.getElem?_eq_getElem hk))
    · have hagg : (isAgg fd.type).run P w = .ok true w := by
        unfold isAgg
        rw [Sem.run_bind, run_underlying hd w]
        cases d <;> simp_all [isAggD]
      refine Done.pure H hW (v := .agg (us.extract fd.offset (fd.offset + i.size))) (by simp [execOp, ho, hu, Instr.field, run_underlying ht, hfd, asAgg, part, hagg, sizeOf, typeInfo, hi]) (.agg _ _ ?_ ?_ ?_)
      · simp; omega
      · intro j z hz
        exact h1 _ z (by
          rw [List.getElem?_take] at hz
          split at hz
          · rw [List.getElem?_drop] at hz; exact hz
          · cases hz)
      · intro j z v hz hv
        rw [List.getElem?_take] at hz
        split at hz
        · rename_i hj
          rw [List.getElem?_drop] at hz
          refine hr _ z v hz ?_
          rw [Array.getElem?_extract] at hv
          split at hv
          · exact hv
          · cases hv
        · cases hz

end
end Go.Gv

/- Every abstract operation other than a call is done by the model's operation that it was turned from: the joint law. No condition beyond those that it names. -/
set_option linter.unusedVariables false
set_option linter.unusedSimpArgs false
namespace Go.Gv
open Go.RowKit

section
variable {P : Program} {B : Nat} {W : World} {E : Env} {h : Hp} {w : World} {a : Act} {f : Nat → AV} {n nm st : Nat}

theorem cFields_ok (hf : ∀ t, t < n → Rel E (f t) (a.tmps.getD t undef)) (places : List (Nat × Nat)) : ∀ (l : List (Nat × Operand)) (ps : List (Nat × Nat × X)), cFields n places l = some ps →
    (ps.all fun p => (p.2.2.ev f).cells.length == p.2.1) = true →
    Parts E (fun i => places[i]?) (ps.map fun p => (p.1, (p.2.2.ev f).cells)) (l.map fun p => (p.1, a.eval p.2))
  | [], ps, h, _ => by cases h; exact .nil
  | p :: l, ps, h, hall => by
    simp only [cFields, Option.bind_eq_some_iff, Option.map_eq_some_iff] at h
    obtain ⟨x, hx, q, hq, ps', hps, rfl⟩ := h
    simp only [List.all_cons, Bool.and_eq_true, beq_iff_eq] at hall
    exact .cons (by rw [hq, hall.1]) (cX_ok hf hx) (cFields_ok hf places l ps' hps hall.2)

theorem build_done (H : HConc E B h w) (hW : Below B W w) (hf : ∀ t, t < n → Rel E (f t) (a.tmps.getD t undef)) (o : Oper) (t : TypeId) (parts : Array (Nat × Operand)) (ho : o.op = .build t parts) (fs : Array Field) (ht : P.underlying t = some (.struct fs))
    (i : TypeInfo) (hi : P.info? t = some i) (z : Value) (hz : i.zero = some z) (places : List (Nat × Nat)) (hp : placesOf P fs.toList = some places) (ps : List (Nat × Nat × X)) (hps : cFields n places parts.toList = some ps)
    (h1 : (ofC z).cells.all AV.one = true) (cs : List AV) (hcs : fillA 0 (ofC z).cells (ps.map fun p => (p.1, (p.2.2.ev f).cells)) = some cs) (hall : (ps.all fun p => (p.2.2.ev f).cells.length == p.2.1) = true) :
    Done B W E st ((execOp a.eval o).run P w) { v := .agg cs } h := by
  have h1' : ∀ y ∈ (ofC z).cells, y.one = true := by simpa using h1
  obtain ⟨c1, c2⟩ := (Rel_ofC E z).cells h1'
  have hz0 : CellsRel E (ofC z).cells z.cells := by
    refine ⟨c1, h1', fun j y v hy hv => ?_⟩
    obtain ⟨u, hu, hr, _⟩ := c2 j y hy
    rw [hv] at hu; cases hu; exact hr
  obtain ⟨zs, g1, g2, g3, g4⟩ := fill_ok (cFields_ok hf places parts.toList ps hps hall) _ _ _ hz0 hcs
  have hb : P.built t (parts.map fun p => (p.1, a.eval p.2)).toList = some zs := by
    simp only [Program.built, hi, ht, hz]
    have : fs.toList.mapM (fun f => (P.info? f.type).map fun i => (f.offset, i.size)) = some places := hp
    simp only [this, Array.toList_map]
    simpa using g1
  refine Done.pure H hW (v := .agg zs) (by simp [execOp, ho, run_build w t _ zs hb]) (.agg cs zs g2.symm ?_ g4)
  exact fun j y hy => g3 y (List.mem_of_getElem? hy)

theorem cParts_ok (hf : ∀ t, t < n → Rel E (f t) (a.tmps.getD t undef)) : ∀ (l : List (Nat × Operand)) (ps : List (Nat × X)), cParts n l = some ps →
    ps.length = l.length ∧ ∀ (k : Nat) (p : Nat × X) (q : Nat × Operand), ps[k]? = some p → l[k]? = some q → p.1 = q.1 ∧ Rel E (p.2.ev f) (a.eval q.2)
  | [], ps, h => by cases h; simp
  | p :: l, ps, h => by
    simp only [cParts, Option.bind_eq_some_iff, Option.map_eq_some_iff] at h
    obtain ⟨x, hx, ps', hps, rfl⟩ := h
    obtain ⟨e1, e2⟩ := cParts_ok hf l ps' hps
    refine ⟨by simp [e1], fun k u v hu hv => ?_⟩
    cases k with
    | zero => simp at hu hv; subst hu hv; exact ⟨rfl, cX_ok hf hx⟩
    | succ k => exact e2 k u v (by simpa using hu) (by simpa using hv)

theorem zeros_row {sz : Nat} (z : Value) (hz : z.cells.size = sz) (h0 : 0 < sz) (len : Nat) (hel : ElemOk sz (ofC z)) : RowRel E sz (List.replicate len (ofC z)) ((Array.range (len * sz)).map fun i => z.cells[i % z.cells.size]!) := by
  refine RowRel.zeros (Rel_ofC E z) hel len _ (by simp) ?_
  intro k hk
  rw [Array.getElem?_map, Array.getElem?_range]
  rw [hz]
  have : k % sz < z.cells.size := by rw [hz]; exact Nat.mod_lt _ h0
  simp [hk, this]

theorem Rel.norm1 {x : AV} {v : Value} (h : Rel E x v) : Rel E (norm1 x) v := by
  cases h with
  | acc nm st sz xs v hu hv hl => exact hl
  | junk v => exact .junk v
  | raw v => exact .raw v
  | bool b => exact .bool b
  | int k n => exact .int k n
  | str s => exact .str s
  | nilp => exact .nilp
  | nilf => exact .nilf
  | nils => exact .nils
  | ptr nm st sz i off hu => exact .ptr nm st sz i off hu
  | kp cs off b o f hk h1 hr => exact .kp cs off b o f hk h1 hr
  | lst0 sz a cap => exact .lst0 sz a cap
  | lst xs b o sz cap f hcap hsz hk h1 hr => exact .lst xs b o sz cap f hcap hsz hk h1 hr
  | sl nm st sz off len cap a hu hcap hc ha => exact .sl nm st sz off len cap a hu hcap hc ha
  | mp nm st hu => exact .mp nm st hu
  | fn f caps vs hs hr => exact .fn f caps vs hs hr
  | agg cs vs hs h1 hr => exact .agg cs vs hs h1 hr
  | tup cs vs hs hr => exact .tup cs vs hs hr

theorem norm1_one {x : AV} (h : x.one = true) : (Gv.norm1 x).one = true := by
  cases x <;> first | rfl | exact h

theorem Rel.norm {x : AV} {v : Value} (h : Rel E x v) : Rel E (normE x) v := by
  by_cases hx : ∃ cs, x = .agg cs
  · obtain ⟨cs, rfl⟩ := hx
    cases h with
    | agg _ vs hs h1 hr =>
      refine .agg _ vs (by simpa using hs) ?_ ?_
      · intro j y hy
        rw [List.getElem?_map] at hy
        cases hc : cs[j]? with
        | none => simp [hc] at hy
        | some z => simp only [hc, Option.map_some, Option.some.injEq] at hy; rw [← hy]; exact norm1_one (h1 j z hc)
      · intro j y u hy hu
        rw [List.getElem?_map] at hy
        cases hc : cs[j]? with
        | none => simp [hc] at hy
        | some z => simp only [hc, Option.map_some, Option.some.injEq] at hy; rw [← hy]; exact (hr j z u hc hu).norm1
  · have : normE x = Gv.norm1 x := by cases x <;> first | rfl | exact absurd ⟨_, rfl⟩ hx
    rw [this]; exact h.norm1

theorem bsl_done (H : HConc E B h w) (hW : Below B W w) (hB : B ≤ w.heap.size) (hst : ¬ E.u st) (hf : ∀ t, t < n → Rel E (f t) (a.tmps.getD t undef)) (o : Oper) (t e : TypeId) (len : Nat) (parts : Array (Nat × Operand)) (ho : o.op = .buildSlice t len parts)
    (ht : P.underlying t = some (.slice e)) (i : TypeInfo) (hi : P.info? e = some i) (z : Value) (hz : i.zero = some z) (hlen : len * i.size ≤ 2 ^ 24) (hzs : z.cells.size = i.size) (h0 : 0 < i.size) (ps : List (Nat × X)) (hps : cParts n parts.toList = some ps)
    (hok : (ps.all fun p => ((normE (p.2.ev f)).cells.length == i.size) && (normE (p.2.ev f)).cells.all AV.cl1 && decide (p.1 < len)) = true) (hzl : (ofC z).cells.length = i.size) (hz1 : (ofC z).cells.all AV.cl1 = true) :
    Done B W E st ((execOp a.eval o).run P w) { v := .acc nm st i.size (ps.foldl (fun es p => es.set p.1 (normE (p.2.ev f))) (List.replicate len (ofC z))), wt := [(nm, some ⟨st, i.size, e⟩)] } h := by
  have hz1' : ∀ y ∈ (ofC z).cells, y.cl1 = true := by simpa using hz1
  have hel : ElemOk i.size (ofC z) := ⟨hzl, fun y hy => AV.one_of_cl1 (hz1' y hy)⟩
  have hz0 := zeros_row (E := E) z hzs h0 len hel
  obtain ⟨e1, e2⟩ := cParts_ok hf _ _ hps
  have hok' : ∀ p ∈ ps, ElemOk i.size (normE (p.2.ev f)) ∧ (∀ y ∈ (normE (p.2.ev f)).cells, y.cl1 = true) ∧ p.1 < len := by
    intro p hp
    have := List.all_eq_true.1 hok p hp
    simp only [Bool.and_eq_true, beq_iff_eq, decide_eq_true_iff] at this
    have q : ∀ y ∈ (normE (p.2.ev f)).cells, y.cl1 = true := by simpa using this.1.2
    exact ⟨⟨this.1.1, fun y hy => AV.one_of_cl1 (q y hy)⟩, q, this.2⟩
  obtain ⟨arr, g1, g2, g3, g4⟩ := rows_fill (E := E) (sz := i.size) (ps.map fun p => (p.1, normE (p.2.ev f))) (parts.toList.map fun p => (p.1, a.eval p.2)) _ _ hz0 (by simp [e1])
    (fun k p q hp hq => by
      rw [List.getElem?_map] at hp hq
      cases h1 : ps[k]? with
      | none => simp [h1] at hp
      | some p' =>
        cases h2 : parts.toList[k]? with
        | none => simp [h2] at hq
        | some q' =>
          simp only [h1, h2, Option.map_some, Option.some.injEq] at hp hq
          subst hp hq
          exact ⟨(e2 k p' q' h1 h2).1, Rel.norm (e2 k p' q' h1 h2).2⟩)
    (fun p hp => by
      rw [List.mem_map] at hp
      obtain ⟨q, hq, rfl⟩ := hp
      simpa using ⟨(hok' q hq).1, (hok' q hq).2.2⟩)
  rw [List.foldl_map] at g2 g3 g4
  generalize hes : List.foldl (fun es (p : Nat × X) => es.set p.1 (normE (p.2.ev f))) (List.replicate len (ofC z)) ps = es at g2 g3 g4 ⊢
  have hesl : es.length = len := by
    rw [← hes]
    have : ∀ (l : List (Nat × X)) (s : List AV), (l.foldl (fun es (p : Nat × X) => es.set p.1 (normE (p.2.ev f))) s).length = s.length := by
      intro l
      induction l with
      | nil => intro s; rfl
      | cons p l ih => intro s; rw [List.foldl_cons, ih]; simp
    rw [this]; simp
  have hescl : ∀ x ∈ es, ∀ y ∈ x.cells, y.cl1 = true := by
    rw [← hes]
    have : ∀ (l : List (Nat × X)) (s : List AV), (∀ p ∈ l, ∀ y ∈ (normE (p.2.ev f)).cells, y.cl1 = true) → (∀ x ∈ s, ∀ y ∈ x.cells, y.cl1 = true) → ∀ x ∈ l.foldl (fun es (p : Nat × X) => es.set p.1 (normE (p.2.ev f))) s, ∀ y ∈ x.cells, y.cl1 = true := by
      intro l
      induction l with
      | nil => intro s _ h2; exact h2
      | cons p l ih =>
        intro s h1 h2
        rw [List.foldl_cons]
        refine ih _ (fun q hq => h1 q (by simp [hq])) ?_
        intro x hx
        rcases List.mem_or_eq_of_mem_set hx with hx | hx
        · exact h2 x hx
        · rw [hx]; exact h1 p (by simp)
    exact this ps _ (fun p hp => (hok' p hp).2.1) (fun x hx => by rw [List.eq_of_mem_replicate hx]; exact hz1')
  have hown : (w.alloc (.cells arr e)).ownsRow B e i.size (.slice (some ⟨w.heap.size, 0, none⟩) len len) es.length arr.toList := by
    refine ⟨by rw [Array.length_toList, g2], .inr ⟨w.heap.size, len, arr, by rw [hesl], hB, heap_alloc_new w _, by omega, ?_, by rw [g2, hesl], ?_⟩⟩
    · have : len ≤ len * i.size := Nat.le_mul_of_pos_right _ h0
      simp only [maxLen]; omega
    · rw [List.take_of_length_le]; rw [Array.length_toList, g2]; exact Nat.le_refl _
  have H1 := H.grow (w' := w.alloc (.cells arr e)) (fun k hk => heap_alloc_old w _ k hk)
  obtain ⟨E', hE, hEu, hEB, H2, hrel⟩ := H1.newAcc nm st i.size e hst es _ arr.toList hown g3
    (fun k x hx j y hy => by obtain ⟨u, hu, hr, _⟩ := g4 k x hx j y hy; exact ⟨u, by simpa using hu, Rel.of_cl1 (E := E) (E' := E.cl) (fun _ _ _ q => q) hr (hescl x (List.mem_of_getElem? hx) y (List.mem_of_getElem? hy))⟩)
    (fun m b hb q => by have := (H.bk m b hb).lt; simp only [Value.ownBlock, Option.some.injEq] at q; omega)
    (fun m t' ht' _ g hg q => by have := ((H.tk m t' ht').lt hg).2; simp only [Value.ownBlock, Option.some.injEq] at q; omega)
    (fun g j hg _ => K_none H (by simp only [Value.ownBlock, Option.some.injEq] at hg; omega) j)
  refine ⟨.slice (some ⟨w.heap.size, 0, none⟩) len len, w.alloc (.cells arr e), E', .inl ?_, hE, hEu, hEB, H2, hW.alloc hB _, hrel⟩
  have hnot : ¬ (len * i.size > 2 ^ 24) := by omega
  have hlen' : ¬ (16777216 < len * i.size) := by omega
  by_cases hl0 : len * i.size = 0
  · have hl : len = 0 := by
      rcases Nat.mul_eq_zero.1 hl0 with q | q
      · exact q
      · omega
    subst hl
    have er : ∀ g : Nat → Value, Array.map g (Array.range 0) = #[] := fun g => by simp [Array.range]
    rw [Nat.zero_mul, er] at g1
    simp [execOp, ho, Instr.buildSlice, run_underlying ht, sizeOf, typeInfo, hi, zeroValue, hz, newRow, er, g1]
  · simp [execOp, ho, Instr.buildSlice, run_underlying ht, sizeOf, typeInfo, hi, zeroValue, hz, newRow, hlen', hl0] at g1 ⊢
    simp [g1]

/-- A literal whose elements may be written. -/
theorem bslm_done (H : HConc E B h w) (hW : Below B W w) (hB : B ≤ w.heap.size) (hst : ¬ E.u st) (hf : ∀ t, t < n → Rel E (f t) (a.tmps.getD t undef)) (o : Oper) (t e : TypeId) (len : Nat) (parts : Array (Nat × Operand)) (ho : o.op = .buildSlice t len parts)
    (ht : P.underlying t = some (.slice e)) (i : TypeInfo) (hi : P.info? e = some i) (z : Value) (hz : i.zero = some z) (hlen : len * i.size ≤ 2 ^ 24) (hzs : z.cells.size = i.size) (h0 : 0 < i.size) (ps : List (Nat × X)) (hps : cParts n parts.toList = some ps)
    (hok : (ps.all fun p => ((p.2.ev f).cells.length == i.size) && (p.2.ev f).cells.all AV.one && decide (p.1 < len)) = true) (hzl : (ofC z).cells.length = i.size) (hz1 : (ofC z).cells.all AV.one = true) :
    Done B W E st ((execOp a.eval o).run P w) { v := .sl nm st i.size 0 len, wb := [(nm, some ⟨st, i.size, ps.foldl (fun es p => es.set p.1 (p.2.ev f)) (List.replicate len (ofC z))⟩)] } h := by
  have hz1' : ∀ y ∈ (ofC z).cells, y.one = true := by simpa using hz1
  have hel : ElemOk i.size (ofC z) := ⟨hzl, hz1'⟩
  have hz0 := zeros_row (E := E) z hzs h0 len hel
  obtain ⟨e1, e2⟩ := cParts_ok hf _ _ hps
  have hok' : ∀ p ∈ ps, ElemOk i.size (p.2.ev f) ∧ p.1 < len := by
    intro p hp
    have := List.all_eq_true.1 hok p hp
    simp only [Bool.and_eq_true, beq_iff_eq, decide_eq_true_iff] at this
    exact ⟨⟨this.1.1, by simpa using this.1.2⟩, this.2⟩
  obtain ⟨arr, g1, g2, g3, g4⟩ := rows_fill (E := E) (sz := i.size) (ps.map fun p => (p.1, p.2.ev f)) (parts.toList.map fun p => (p.1, a.eval p.2)) _ _ hz0 (by simp [e1])
    (fun k p q hp hq => by
      rw [List.getElem?_map] at hp hq
      cases h1 : ps[k]? with
      | none => simp [h1] at hp
      | some p' =>
        cases h2 : parts.toList[k]? with
        | none => simp [h2] at hq
        | some q' =>
          simp only [h1, h2, Option.map_some, Option.some.injEq] at hp hq
          subst hp hq
          exact ⟨(e2 k p' q' h1 h2).1, (e2 k p' q' h1 h2).2⟩)
    (fun p hp => by
      rw [List.mem_map] at hp
      obtain ⟨q, hq, rfl⟩ := hp
      simpa using ⟨(hok' q hq).1, (hok' q hq).2⟩)
  rw [List.foldl_map] at g2 g3 g4
  generalize hes : List.foldl (fun es (p : Nat × X) => es.set p.1 (p.2.ev f)) (List.replicate len (ofC z)) ps = es at g2 g3 g4 ⊢
  have hesl : es.length = len := by
    rw [← hes]
    have : ∀ (l : List (Nat × X)) (s : List AV), (l.foldl (fun es (p : Nat × X) => es.set p.1 (p.2.ev f)) s).length = s.length := by
      intro l
      induction l with
      | nil => intro s; rfl
      | cons p l ih => intro s; rw [List.foldl_cons, ih]; simp
    rw [this]; simp
  refine ⟨.slice (some ⟨w.heap.size, 0, none⟩) len len, w.alloc (.cells arr e), E.withM st (w.heap.size, 0) len, .inl ?_, Env.le_withM hst _ _, fun s hs => hs.elim .inr .inl, fun _ _ _ => rfl, ?_, hW.alloc hB _, ?_⟩
  · have hlen' : ¬ (16777216 < len * i.size) := by omega
    by_cases hl0 : len * i.size = 0
    · have hl : len = 0 := by
        rcases Nat.mul_eq_zero.1 hl0 with q | q
        · exact q
        · omega
      subst hl
      have er : ∀ g : Nat → Value, Array.map g (Array.range 0) = #[] := fun g => by simp [Array.range]
      rw [Nat.zero_mul, er] at g1
      simp [execOp, ho, Instr.buildSlice, run_underlying ht, sizeOf, typeInfo, hi, zeroValue, hz, newRow, er, g1]
    · simp [execOp, ho, Instr.buildSlice, run_underlying ht, sizeOf, typeInfo, hi, zeroValue, hz, newRow, hlen', hl0] at g1 ⊢
      simp [g1]
  · exact H.newRow hB nm st i.size (by omega) hst es arr e g3 len (by rw [hesl]; exact Nat.le_refl _) (by rw [g2, hesl]; exact Nat.le_refl _) (fun k x hx j y hy => by obtain ⟨u, hu, hr, _⟩ := g4 k x hx j y hy; exact ⟨u, hu, hr⟩)
  · have em : (E.withM st (w.heap.size, 0) len).m st = (w.heap.size, 0) := upd_same _ _ _
    have ec : (E.withM st (w.heap.size, 0) len).cp st = len := upd_same _ _ _
    refine .sl nm st i.size 0 len len _ (.inl rfl) (Nat.le_refl _) (by rw [ec]; omega) (fun _ => ?_)
    rw [em]; simp

theorem msl_done (H : HConc E B h w) (hW : Below B W w) (hB : B ≤ w.heap.size) (hst : ¬ E.u st) (o : Oper) (t e : TypeId) (l : Operand) (ho : o.op = .makeSlice t l l) (ht : P.underlying t = some (.slice e)) (i : TypeInfo) (hi : P.info? e = some i) (z : Value)
    (hz : i.zero = some z) (hb : 0 < i.bytes) (hzs : z.cells.size = i.size) (h0 : 0 < i.size) (k : IntKind) (m : Nat) (hl : Rel E (.int k m) (a.eval l)) (hm : m * i.bytes ≤ 140737488355328) (hzl : (ofC z).cells.length = i.size) (hz1 : (ofC z).cells.all AV.one = true) :
    Done B W E st ((execOp a.eval o).run P w) { v := .sl nm st i.size 0 m, wb := [(nm, some ⟨st, i.size, List.replicate m (ofC z)⟩)] } h := by
  have hel : ElemOk i.size (ofC z) := ⟨hzl, by simpa using hz1⟩
  have hm' : m ≤ m * i.bytes := Nat.le_mul_of_pos_right _ hb
  have hcast : (i.bytes : Int) * (m : Int) = ((m * i.bytes : Nat) : Int) := by rw [Int.mul_comm]; simp
  have hrun := run_make (P := P) w t e i z ht hi hz k k (m : Int) (m : Int) (by omega) (Int.le_refl _) (by rw [hcast]; omega) (by omega)
  simp only [Int.toNat_natCast] at hrun
  obtain ⟨g1, g2, g3⟩ := RowRel.zeros (E := E) (Rel_ofC E z) hel m (madeCells z.cells (m * i.size)) (by simp [madeCells]) (fun k hk => by
    have : k % i.size < z.cells.size := by rw [hzs]; exact Nat.mod_lt _ h0
    unfold madeCells; rw [Array.getElem?_map, Array.getElem?_range, hzs]; simp [hk, this])
  refine ⟨_, _, E.withM st (w.heap.size, 0) m, .inl (by simp [execOp, ho, hl.int_inv, hrun]; exact ⟨rfl, rfl⟩), Env.le_withM hst _ _, fun s hs => hs.elim .inr .inl, fun _ _ _ => rfl, ?_, hW.alloc hB _, ?_⟩
  · exact H.newRow hB nm st i.size (by omega) hst (List.replicate m (ofC z)) _ e g2 m (by simp) (by rw [g1]; simp) (fun k x hx j y hy => by obtain ⟨u, hu, hr, _⟩ := g3 k x hx j y hy; exact ⟨u, hu, hr⟩)
  · have em : (E.withM st (w.heap.size, 0) m).m st = (w.heap.size, 0) := upd_same _ _ _
    have ec : (E.withM st (w.heap.size, 0) m).cp st = m := upd_same _ _ _
    refine .sl nm st i.size 0 m m _ (.inl rfl) (Nat.le_refl _) (by rw [ec]; omega) (fun _ => ?_)
    rw [em]; simp

end
end Go.Gv
