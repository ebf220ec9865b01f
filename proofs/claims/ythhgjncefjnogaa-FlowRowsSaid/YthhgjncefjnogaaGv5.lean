/- Each abstract operation is done by the model's own operation: append, new variables, loads and stores. No condition beyond those that each law names. -/
import Derived.Test.YthhgjncefjnogaaGv4
set_option linter.unusedVariables false
set_option linter.unusedSimpArgs false
namespace Go.Gv
open Go.RowKit

/-- What a list that may be appended to owns. -/
theorem acc_row {E : Env} {B : Nat} {w : World} (hK : ∀ b o v, E.K b o = some v → w.cell? ⟨b, o, none⟩ = some v) {sz : Nat} {ty : TypeId} {xs : List AV} {v : Value}
    (hl : Rel E (.lst sz xs) v) (ht : TokOk E B w sz ty v) :
    ∃ cs, w.ownsRow B ty sz v xs.length cs ∧ (∀ x ∈ xs, ElemOk sz x) ∧ (∀ g j, v.ownBlock = some g → xs.length * sz ≤ j → E.K g j = none) ∧
      ∀ (i : Nat) (x : AV), xs[i]? = some x → ∀ (j : Nat) (y : AV), x.cells[j]? = some y → ∃ u, cs[i * sz + j]? = some u ∧ Rel E.cl y u := by
  obtain ⟨n, cs, hown, hk⟩ := ht
  have hn : n = xs.length := by
    rcases hown.2 with ⟨rfl, h0⟩ | ⟨g, cap, cur, rfl, _⟩
    · cases hl; simp [h0]
    · cases hl <;> rfl
  subst hn
  refine ⟨cs, hown, ?_, hk, ?_⟩
  · cases hl with
    | lst0 _ a cap => simp
    | lst _ b o _ cap f hcap hsz hk h1 hr =>
      intro y hy
      refine ⟨hsz y hy, fun z hz => ?_⟩
      obtain ⟨i, hi⟩ := List.getElem?_of_mem hy
      obtain ⟨j, hj⟩ := List.getElem?_of_mem hz
      exact h1 i y hi j z hj
  · intro i x hx j y hy
    have hi := (List.getElem?_eq_some_iff.1 hx).1
    cases hl with
    | lst0 _ a cap => simp at hx
    | lst _ b o _ cap f hcap hsz hk' h1 hr =>
      have hj : j < sz := by rw [← hsz x (List.mem_of_getElem? hx)]; exact (List.getElem?_eq_some_iff.1 hy).1
      have hlt : i * sz + j < cs.length := by rw [hown.1]; exact mul_lt hi hj
      have hc : cs[i * sz + j]? = some cs[i * sz + j] := List.getElem?_eq_getElem hlt
      refine ⟨_, hc, ?_⟩
      have hcell := hK _ _ _ (hk' i j hi hj)
      rcases hown.2 with ⟨h0, _⟩ | ⟨g, cap', cur, h0, _⟩
      · cases h0
      · have e : b = g ∧ o = 0 := by cases h0; exact ⟨rfl, rfl⟩
        have hc2 := hown.cells (g := g) (by rw [h0]; rfl) _ _ hc
        rw [e.1, e.2, Nat.zero_add] at hcell
        rw [Addr.add_mk, Nat.zero_add] at hc2
        rw [hcell] at hc2
        rw [← Option.some.inj hc2]
        exact hr i x hx j y hy

theorem Grew.below {B : Nat} {W w w' : World} {v v' : Value} {k : Nat} (hW : Below B W w) (hB : B ≤ w.heap.size) (g : Grew w w' v v' k) (hv : ∀ b, v.ownBlock = some b → B ≤ b) : Below B W w' :=
  hW.trans ⟨g.os, g.tape, g.output, g.size, fun b hb => g.block b (by omega) (fun e => by have := hv b e; omega)⟩

/-- Tokens without some. -/
theorem tok_set {h : Hp} {nm n : Nat} {t : Tok} (hx : (h.setT nm none).tok n = some t) : n ≠ nm ∧ h.tok n = some t := by
  simp only [Hp.setT, upd] at hx
  split at hx
  · simp at hx
  · rename_i hne; exact ⟨hne, hx⟩

theorem app_core {P : Program} {B : Nat} {W : World} {E : Env} {h : Hp} {w : World} (H : HConc E B h w) (hW : Below B W w) (hB : B ≤ w.heap.size) (nm st sz : Nat) (t ty e : TypeId) (i : TypeInfo) (z : Value)
    (hst : ¬ E.u st) (ht : P.underlying t = some (.slice e)) (hi : P.info? e = some i) (hz : i.zero = some z) (hsz : i.size = sz) (hzs : z.cells.size = sz) (h0 : 0 < sz) (hb1 : 0 < i.bytes)
    (xs ys : List AV) (v u : Value) (cs : List Value) (hown : w.ownsRow B e sz v xs.length cs) (hel : ∀ x ∈ xs, ElemOk sz x)
    (hr : ∀ (i : Nat) (x : AV), xs[i]? = some x → ∀ (j : Nat) (y : AV), x.cells[j]? = some y → ∃ u, cs[i * sz + j]? = some u ∧ Rel E.cl y u)
    (hK : ∀ g j, v.ownBlock = some g → xs.length * sz ≤ j → E.K g j = none)
    (hb : ∀ n b, h.blk n = some b → v.ownBlock ≠ some (E.m b.st).1) (htk : ∀ n t, h.tok n = some t → ∀ g, (E.hd t.st).ownBlock = some g → v.ownBlock ≠ some g)
    (hu : Src E w sz ys u) (hby : (xs.length + ys.length) * i.bytes ≤ 140737488355328) :
    ∃ v' w' E', (Builtin.append_ #[t, t] ty #[v, u]).run P w = .ok v' w' ∧ E.le E' ∧ (∀ x, E'.u x → E.u x ∨ x = st) ∧ (∀ b o, b < B → E'.K b o = E.K b o) ∧ HConc E' B (h.setT nm (some ⟨st, sz, e⟩)) w' ∧ Below B W w' ∧ Rel E' (.acc nm st sz (xs ++ ys)) v' := by
  obtain ⟨a, c, news, eu, hyc, hnl, hyel, hn1, hspot, hyr⟩ := hu
  have h63 : xs.length + ys.length ≤ maxLen := by
    have : xs.length + ys.length ≤ (xs.length + ys.length) * i.bytes := Nat.le_mul_of_pos_right _ hb1
    simp only [maxLen]; omega
  obtain ⟨v', w', hrun, hown', hg⟩ := run_append_gv (P := P) w B t ty e i z sz ht hi hz hsz hzs h0 v xs.length cs hown hB u ys.length news
    ⟨a, c, eu, hspot.imp (fun q => ⟨q.1, by rw [q.2]; rfl⟩) (fun q => q)⟩ hnl hn1 h63 hby
  have hvlt := hown.lt
  have H1 : HConc E B h w' := by
    refine H.change ?_ ?_ ?_
    · intro b o x hk
      have hc := H.K b o x hk
      have hlt := World.block_lt_of_cell? w _ hc
      by_cases e : v.ownBlock = some b
      · have : o < xs.length * sz := by
          rcases Nat.lt_or_ge o (xs.length * sz) with q | q
          · exact q
          · rw [hK b o e q] at hk; cases hk
        exact hg.kept b o x e this hc
      · rw [World.cell?_of_block (w := w) (hg.block b hlt e)]; exact hc
    · intro n b x; exact hg.block _ (H.bk n b x).lt (hb n b x)
    · intro n t' g x hx; exact hg.block _ ((H.tk n t' x).lt hx).2 (htk n t' x g hx)
  have hlen : (xs ++ ys).length = xs.length + ys.length := List.length_append
  have q1 : ∀ (k : Nat) (x : AV), (xs ++ ys)[k]? = some x → ∀ (j : Nat) (y : AV), x.cells[j]? = some y → ∃ u, (cs ++ news)[k * sz + j]? = some u ∧ Rel E.cl y u := by
    intro k x hx j y hy
    by_cases hk : k < xs.length
    · rw [List.getElem?_append_left hk] at hx
      obtain ⟨q, hq, hqr⟩ := hr k x hx j y hy
      exact ⟨q, by rw [List.getElem?_append_left (List.getElem?_eq_some_iff.1 hq).1]; exact hq, hqr⟩
    · rw [List.getElem?_append_right (by omega)] at hx
      obtain ⟨q, hq, hqr⟩ := hyr _ x hx j y hy
      refine ⟨q, ?_, hqr⟩
      have e1 : k * sz = xs.length * sz + (k - xs.length) * sz := by rw [← Nat.add_mul]; congr 1; omega
      rw [List.getElem?_append_right (by rw [hown.1]; omega), hown.1, e1]
      rw [show xs.length * sz + (k - xs.length) * sz + j - xs.length * sz = (k - xs.length) * sz + j by omega]
      exact hq
  have q2 : ∀ n b, h.blk n = some b → v'.ownBlock ≠ some (E.m b.st).1 := by
    intro n b x
    rcases hg.own with e1 | ⟨g', e1, e2⟩
    · rw [e1]; exact hb n b x
    · rw [e1]; intro q; have := (H.bk n b x).lt; cases q; omega
  have q3 : ∀ n t, h.tok n = some t → n ≠ nm → ∀ g, (E.hd t.st).ownBlock = some g → v'.ownBlock ≠ some g := by
    intro n t' x hne g hx
    rcases hg.own with e1 | ⟨g', e1, e2⟩
    · rw [e1]; exact htk n t' x g hx
    · rw [e1]; intro q; have := ((H.tk n t' x).lt hx).2; cases q; omega
  have q4 : ∀ g j, v'.ownBlock = some g → (xs ++ ys).length * sz ≤ j → E.K g j = none := by
    intro g j hg' hj
    rcases hg.own with e1 | ⟨g', e1, e2⟩
    · rw [e1] at hg'
      refine hK g j hg' (Nat.le_trans (Nat.mul_le_mul_right _ ?_) hj)
      omega
    · rw [e1] at hg'; cases hg'
      exact K_none H e2 j
  obtain ⟨E', hE, hEu, hEB, H2, hrel⟩ := H1.newAcc nm st sz e hst (xs ++ ys) v' (cs ++ news) (by rw [hlen]; exact hown') (fun x hx => (List.mem_append.1 hx).elim (hel x) (hyel x)) q1 q2 q3 q4
  exact ⟨v', w', E', hrun, hE, hEu, hEB, H2, hg.below hW hB (fun b hb' => (hvlt b hb').1), hrel⟩

/-- An append. -/
theorem app_done {P : Program} {B : Nat} {W : World} {E : Env} {h : Hp} {w : World} (H : HConc E B h w) (hW : Below B W w) (hB : B ≤ w.heap.size) (nm st sz : Nat) (t ty e : TypeId) (i : TypeInfo) (z : Value)
    (hst : ¬ E.u st) (ht : P.underlying t = some (.slice e)) (hi : P.info? e = some i) (hz : i.zero = some z) (hsz : i.size = sz) (hzs : z.cells.size = sz) (h0 : 0 < sz) (hb1 : 0 < i.bytes)
    (s x : AV) (vs vx : Value) (hs : Rel E s vs) (hx : Rel E x vx) (b : List AV × Option Nat) (hb : appBase h.tok sz e s = some b) (ys : List AV) (hys : listOf h.blk sz x = some ys)
    (hby : (b.1.length + ys.length) * i.bytes ≤ 140737488355328) :
    ∃ v' w' E', (Builtin.append_ #[t, t] ty #[vs, vx]).run P w = .ok v' w' ∧ E.le E' ∧ (∀ x, E'.u x → E.u x ∨ x = st) ∧ (∀ b o, b < B → E'.K b o = E.K b o) ∧
      HConc E' B (h.app { v := .acc nm st sz (b.1 ++ ys), wt := (match b.2 with | some n => [(n, none)] | none => []) ++ [(nm, some ⟨st, sz, e⟩)] }) w' ∧ Below B W w' ∧ Rel E' (.acc nm st sz (b.1 ++ ys)) v' := by
  have hsrc := src_of H hx hys
  cases s with
  | nils =>
    have : b = ([], none) := by simpa [appBase] using hb.symm
    subst this
    have ev := hs.nils_inv
    subst ev
    exact app_core (xs := []) H hW hB nm st sz t ty e i z hst ht hi hz hsz hzs h0 hb1 ys _ _ [] (World.ownsRow_nil w B e sz) (by simp) (by simp) (by simp [Value.ownBlock]) (by simp [Value.ownBlock]) (by simp [Value.ownBlock]) hsrc hby
  | acc nm' st' s' xs =>
    simp only [appBase] at hb
    split at hb
    · rename_i tk htk
      split at hb
      · rename_i hc
        obtain ⟨c1, c2, c3, c4⟩ := hc
        cases hb
        cases hs with
        | acc _ _ _ _ _ hu hv hl =>
          subst c3
          have htok := H.tk nm' tk htk
          rw [c1, c2, c4, ← hv] at htok
          obtain ⟨cs, hown, hel, hK, hr⟩ := acc_row H.K hl htok
          refine app_core (xs := xs) (h := h.setT nm' none) (H.dropT nm') hW hB nm st s' t ty e i z hst ht hi hz hsz hzs h0 hb1 ys _ _ cs hown hel hr hK ?_ ?_ ?_ hby
          · intro n b' hb'
            have := H.bt n nm' b' tk hb' htk
            rwa [c1, ← hv] at this
          · intro n t' ht' g hg
            obtain ⟨hne, ht''⟩ := tok_set ht'
            intro q
            exact H.tt n nm' t' tk g hne ht'' htk hg (by rw [c1, ← hv]; exact q)
          · exact hsrc
      · cases hb
    · cases hb
  | _ => simp [appBase] at hb

/-! ### Loads -/

theorem getB_some {blk : Nat → Option Blk} {nm st sz : Nat} {es : List AV} (h : getB blk nm st sz = some es) : blk nm = some ⟨st, sz, es⟩ := by
  unfold getB at h
  split at h
  · rename_i b hb
    split at h
    · rename_i hc; cases h; rw [hb, ← hc.1, ← hc.2]
    · cases h
  · cases h

/-- The cells that an address shows. -/
theorem cellsAt_of {E : Env} {B : Nat} {h : Hp} {w : World} (H : HConc E B h w) {a : AV} {v : Value} (ha : Rel E a v) {cs : List AV} {off : Nat} (hc : cellsAt h.blk a = some (cs, off)) :
    ∃ g o, v = .pointer (some ⟨g, o + off, none⟩) ∧ (∀ y ∈ cs, y.one = true) ∧ ∀ (j : Nat) (y : AV), cs[j]? = some y → ∃ u, w.cell? ⟨g, o + j, none⟩ = some u ∧ Rel E y u := by
  cases a with
  | ptr nm st sz i o' =>
    simp only [cellsAt] at hc
    cases hg : getB h.blk nm st sz with
    | none => simp [hg] at hc
    | some es =>
      simp only [hg, Option.bind_some] at hc
      cases hx : es[i]? with
      | none => simp [hx] at hc
      | some x =>
        simp only [hx, Option.map_some, Option.some.injEq, Prod.mk.injEq] at hc
        obtain ⟨rfl, rfl⟩ := hc
        have hb := getB_some hg
        have hbk := H.bk nm _ hb
        obtain ⟨cur, e, hh, hsz, hr⟩ := hbk.row
        cases ha with
        | ptr _ _ _ _ _ hu =>
          refine ⟨(E.m st).1, (E.m st).2 + i * sz, rfl, (hbk.el x (List.mem_of_getElem? hx)).2, fun j y hy => ?_⟩
          obtain ⟨u, hu, hrel⟩ := hr i x hx j y hy
          exact ⟨u, by rw [cell_of_row w _ _ cur e (0, 0) hh]; exact hu, hrel⟩
  | kp cs' o' =>
    simp only [cellsAt, Option.some.injEq, Prod.mk.injEq] at hc
    obtain ⟨rfl, rfl⟩ := hc
    cases ha with
    | kp _ _ b o f hk h1 hr =>
      refine ⟨b, o, rfl, fun y hy => ?_, fun j y hy => ⟨f j, H.K _ _ _ (hk j (List.getElem?_eq_some_iff.1 hy).1), (hr j y hy).mono E.cl_le⟩⟩
      obtain ⟨j, hj⟩ := List.getElem?_of_mem hy
      exact h1 j y hj
  | _ => simp [cellsAt] at hc

theorem load_one {P : Program} {E : Env} {B : Nat} {h : Hp} {w : World} (H : HConc E B h w) {a x : AV} {v : Value} (ha : Rel E a v) (hx : ldOne h.blk a = some x) (t : TypeId) (d : TypeDesc)
    (ht : P.underlying t = some d) (hd : (match d with | .struct _ | .array _ _ => true | _ => false) = false) :
    ∃ u, (Instr.loadAt t v).run P w = .ok u w ∧ Rel E x u := by
  unfold ldOne at hx
  cases hc : cellsAt h.blk a with
  | none => simp [hc] at hx
  | some p =>
    obtain ⟨cs, off⟩ := p
    simp only [hc, Option.bind_some] at hx
    obtain ⟨g, o, rfl, _, hr⟩ := cellsAt_of H ha hc
    obtain ⟨u, hu, hrel⟩ := hr off x hx
    refine ⟨u, ?_, hrel⟩
    have hagg : (isAgg t).run P w = .ok false w := by
      unfold isAgg
      rw [Sem.run_bind, run_underlying ht w]
      cases d <;> simp_all
    simp [Instr.loadAt, Instr.sureAddr, loadVar, hagg, hu]

theorem load_agg {P : Program} {E : Env} {B : Nat} {h : Hp} {w : World} (H : HConc E B h w) {a x : AV} {v : Value} (ha : Rel E a v) (n : Nat) (hx : ldAgg h.blk n a = some x) (t : TypeId) (d : TypeDesc) (i : TypeInfo)
    (ht : P.underlying t = some d) (hd : (match d with | .struct _ | .array _ _ => true | _ => false) = true) (hi : P.info? t = some i) (hn : i.size = n) :
    ∃ u, (Instr.loadAt t v).run P w = .ok u w ∧ Rel E x u := by
  subst hn
  unfold ldAgg at hx
  cases hc : cellsAt h.blk a with
  | none => simp [hc] at hx
  | some p =>
    obtain ⟨cs, off⟩ := p
    simp only [hc, Option.bind_some] at hx
    split at hx
    · rename_i hle
      cases hx
      obtain ⟨g, o, rfl, h1, hr⟩ := cellsAt_of H ha hc
      have hagg : (isAgg t).run P w = .ok true w := by
        unfold isAgg
        rw [Sem.run_bind, run_underlying ht w]
        cases d <;> simp_all
      let f : Nat → Value := fun j => (w.cell? ⟨g, o + off + j, none⟩).getD .nilFunc
      have hf : ∀ j, j < i.size → ∃ y, cs[off + j]? = some y ∧ w.cell? ⟨g, o + off + j, none⟩ = some (f j) ∧ Rel E y (f j) := by
        intro j hj
        obtain ⟨y, hy⟩ : ∃ y, cs[off + j]? = some y := ⟨_, List.getElem?_eq_getElem (by omega)⟩
        obtain ⟨u, hu, hrel⟩ := hr _ y hy
        rw [← Nat.add_assoc] at hu
        refine ⟨y, hy, ?_, ?_⟩
        · simp only [f, hu, Option.getD_some]
        · simp only [f, hu, Option.getD_some]; exact hrel
      have hl : (loadCells ⟨g, o + off, none⟩ i.size).run P w = .ok ((List.range i.size).map f).toArray w :=
        run_loadCells w _ i.size f (fun j hj => by rw [Addr.add_mk]; exact (hf j hj).choose_spec.2.1)
      refine ⟨.agg ((List.range i.size).map f).toArray, ?_, .agg _ _ ?_ ?_ ?_⟩
      · simp [Instr.loadAt, Instr.sureAddr, loadVar, hagg, sizeOf, typeInfo, hi, hl]
      · simp; omega
      · intro j y hy
        exact h1 y (List.mem_of_mem_drop (List.mem_of_mem_take (List.mem_of_getElem? hy)))
      · intro j y u hy hu
        have hj : j < i.size := by have := (List.getElem?_eq_some_iff.1 hy).1; simp at this; omega
        obtain ⟨y', hy', _, hrel⟩ := hf j hj
        rw [List.getElem?_take, if_pos hj, List.getElem?_drop, hy'] at hy
        cases hy
        simp [hj] at hu
        rw [← hu]; exact hrel
    · cases hx

end Go.Gv
