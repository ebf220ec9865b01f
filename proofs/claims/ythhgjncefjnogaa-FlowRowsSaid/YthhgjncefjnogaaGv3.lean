/- Each abstract operation is done by the model's own operation: first part, the heap's laws. No condition beyond those that each law names. -/
import Derived.Test.YthhgjncefjnogaaGv2
set_option linter.unusedVariables false
set_option linter.unusedSimpArgs false
namespace Go.Gv
open Go.RowKit

theorem Addr.add_mk (b o n : Nat) : (⟨b, o, none⟩ : Addr).add n = ⟨b, o + n, none⟩ := by unfold Addr.add; split <;> simp_all

theorem Below.of_alloc {B : Nat} {W w : World} (h : Below B W w) (hB : B ≤ w.heap.size) (o : Obj) : Below B W (w.alloc o) := h.alloc hB o

theorem K_none {E : Env} {B : Nat} {h : Hp} {w : World} (H : HConc E B h w) {b : Nat} (hb : w.heap.size ≤ b) (j : Nat) : E.K b j = none := by
  cases hk : E.K b j with
  | none => rfl
  | some v => have := World.block_lt_of_cell? w _ (H.K b j v hk); simp at this; omega

theorem mul_lt {i n j sz : Nat} (hi : i < n) (hj : j < sz) : i * sz + j < n * sz := by
  have : (i + 1) * sz ≤ n * sz := Nat.mul_le_mul_right _ hi
  rw [Nat.add_mul] at this; omega

/-- A new row of cells that holds elements. -/
theorem HConc.newRow {E : Env} {B : Nat} {h : Hp} {w : World} (H : HConc E B h w) (hB : B ≤ w.heap.size) (nm st sz : Nat) (hst : ¬ E.u st) (es : List AV) (cur : Array Value) (e : TypeId)
    (hel : ∀ x ∈ es, ElemOk sz x) (c : Nat) (hcl : es.length ≤ c) (hsz : c * sz ≤ cur.size)
    (hr : ∀ (i : Nat) (x : AV), es[i]? = some x → ∀ (j : Nat) (y : AV), x.cells[j]? = some y → ∃ u, cur[i * sz + j]? = some u ∧ Rel E y u) :
    HConc (E.withM st (w.heap.size, 0) c) B (h.setB nm (some ⟨st, sz, es⟩)) (w.alloc (.cells cur e)) := by
  have hE := Env.le_withM hst (w.heap.size, 0) c
  have h1 := H.grow (w' := w.alloc (.cells cur e)) (fun k hk => heap_alloc_old w _ k hk)
  have h2 := h1.env hE h1.K (fun n b x j => (h1.bk n b x).noK j) (fun _ _ _ _ _ _ => rfl)
  have em : (E.withM st (w.heap.size, 0) c).m st = (w.heap.size, 0) := upd_same _ _ _
  have ec : (E.withM st (w.heap.size, 0) c).cp st = c := upd_same _ _ _
  refine (h2.dropB nm).putB ⟨st, sz, es⟩ (.inl rfl) ⟨?_, hel, by rw [ec]; exact hcl, ?_, ?_⟩ ?_ ?_
  · rw [em]; exact hB
  · rw [em, ec]
    refine ⟨cur, e, heap_alloc_new w _, by simpa using hsz, fun i x hx j y hy => ?_⟩
    obtain ⟨u, hu, hrel⟩ := hr i x hx j y hy
    exact ⟨u, by simpa using hu, hrel.mono hE⟩
  · rw [em]; exact fun j => K_none H (Nat.le_refl _) j
  · intro n b' hn hb'
    rw [hE.m _ (H.bu n b' hb'), em]
    exact fun q => by have := (H.bk n b' hb').lt; rw [q] at this; exact Nat.lt_irrefl _ this
  · intro n t ht q
    rw [hE.hd _ (H.tu n t ht), em] at q
    exact Nat.lt_irrefl _ ((H.tk n t ht).lt q).2

theorem Rel.newPtr (E : Env) (w : World) (nm st sz c : Nat) : Rel (E.withM st (w.heap.size, 0) c) (.ptr nm st sz 0 0) (.pointer (some ⟨w.heap.size, 0, none⟩)) := by
  have em : (E.withM st (w.heap.size, 0) c).m st = (w.heap.size, 0) := upd_same _ _ _
  have := Rel.ptr (E := E.withM st (w.heap.size, 0) c) nm st sz 0 0 (.inl rfl)
  rw [em] at this
  simpa using this

/-- One element: a variable. -/
theorem HConc.newVar {E : Env} {B : Nat} {h : Hp} {w : World} (H : HConc E B h w) (hB : B ≤ w.heap.size) (nm st sz : Nat) (hst : ¬ E.u st) (x : AV) (v : Value) (e : TypeId)
    (hx : ElemOk sz x) (hv : Rel E x v) :
    HConc (E.withM st (w.heap.size, 0) 1) B (h.setB nm (some ⟨st, sz, [x]⟩)) (w.alloc (.cells v.cells e)) := by
  obtain ⟨c1, c2⟩ := hv.cells hx.2
  refine H.newRow hB nm st sz hst [x] v.cells e (fun y hy => by simp at hy; rw [hy]; exact hx) 1 (Nat.le_refl _) (by simp [c1, hx.1]) ?_
  intro i y hy j z hz
  cases i with
  | zero =>
    simp at hy; subst hy
    obtain ⟨u, hu, hr, _⟩ := c2 j z hz
    exact ⟨u, by simpa using hu, hr⟩
  | succ i => simp at hy

/-- The knowledge of a row's first cells. -/
def knowRow (E : Env) (g k : Nat) (cur : Array Value) : Nat → Nat → Option Value := fun b j => if b = g ∧ j < k then cur[j]? else E.K b j

/-- What has become of a list that may be appended to. -/
theorem HConc.newAcc {E : Env} {B : Nat} {h : Hp} {w : World} (H : HConc E B h w) (nm st sz : Nat) (ty : TypeId) (hst : ¬ E.u st) (xs : List AV) (v : Value) (cs : List Value)
    (hown : w.ownsRow B ty sz v xs.length cs)
    (hel : ∀ x ∈ xs, ElemOk sz x)
    (hr : ∀ (i : Nat) (x : AV), xs[i]? = some x → ∀ (j : Nat) (y : AV), x.cells[j]? = some y → ∃ u, cs[i * sz + j]? = some u ∧ Rel E.cl y u)
    (hb : ∀ n b, h.blk n = some b → v.ownBlock ≠ some (E.m b.st).1) (ht : ∀ n t, h.tok n = some t → n ≠ nm → ∀ g, (E.hd t.st).ownBlock = some g → v.ownBlock ≠ some g)
    (hK : ∀ g j, v.ownBlock = some g → xs.length * sz ≤ j → E.K g j = none) :
    ∃ E', E.le E' ∧ (∀ s, E'.u s → E.u s ∨ s = st) ∧ (∀ b o, b < B → E'.K b o = E.K b o) ∧ HConc E' B (h.setT nm (some ⟨st, sz, ty⟩)) w ∧ Rel E' (.acc nm st sz xs) v := by
  obtain ⟨hl, hcase⟩ := hown
  rcases hcase with ⟨rfl, h0⟩ | ⟨g, cap, cur, rfl, hbg, hg, hnc, hcm, hcs, htake⟩
  · -- nil
    have hx : xs = [] := List.eq_nil_of_length_eq_zero h0
    subst hx
    have hE := Env.le_withHd hst (.slice none 0 0)
    have eh : (E.withHd st (.slice none 0 0)).hd st = .slice none 0 0 := upd_same _ _ _
    have h2 := H.env hE H.K (fun n b x j => (H.bk n b x).noK j) (fun _ _ _ _ _ _ => rfl)
    refine ⟨E.withHd st (.slice none 0 0), hE, fun s hs => hs.elim .inr .inl, fun _ _ _ => rfl, ?_, .acc nm st sz [] _ (.inl rfl) eh.symm (.lst0 sz none 0)⟩
    refine (h2.dropT nm).putT ⟨st, sz, ty⟩ (.inl rfl) ⟨0, [], by rw [eh]; exact World.ownsRow_nil w B ty sz, fun g j hg => by rw [eh] at hg; simp [Value.ownBlock] at hg⟩ ?_ ?_
    · intro n b x; rw [eh]; simp [Value.ownBlock]
    · intro n t' g _ _ _; rw [eh]; simp [Value.ownBlock]
  · have hcell : ∀ j, w.cell? ⟨g, j, none⟩ = cur[j]? := fun j => cell_of_row w g j cur ty (0, 0) hg
    have hcs' : ∀ k u, cs[k]? = some u → cur[k]? = some u ∧ k < xs.length * sz := by
      intro k u hu
      have hk : k < xs.length * sz := by rw [← hl]; exact (List.getElem?_eq_some_iff.1 hu).1
      rw [← htake, List.getElem?_take, if_pos hk] at hu
      exact ⟨by simpa using hu, hk⟩
    let E1 : Env := E.withK (knowRow E g (xs.length * sz) cur)
    have hE1 : E.le E1 := Env.le_withK (fun b o u hu => by
      unfold knowRow
      split
      · rename_i hc; have := H.K b o u hu; rw [hc.1, hcell] at this; exact this
      · exact hu)
    have hst1 : ¬ E1.u st := hst
    have h1 : HConc E1 B (h.setT nm none) w := by
      refine (H.dropT nm).env hE1 ?_ ?_ ?_
      · intro b o u hu
        simp only [E1, Env.withK, knowRow] at hu
        split at hu
        · rename_i hc; rw [hc.1, hcell]; exact hu
        · exact H.K b o u hu
      · intro n b x j
        have hne : (E.m b.st).1 ≠ g := fun q => hb n b x (by simp [Value.ownBlock, q])
        show knowRow E g _ cur (E.m b.st).1 j = none
        unfold knowRow
        rw [if_neg (by simp [hne])]
        exact (H.bk n b x).noK j
      · intro n t g' x hx j
        have x' : h.tok n = some t ∧ n ≠ nm := by
          simp only [Hp.setT, upd] at x
          split at x
          · simp at x
          · rename_i hne; exact ⟨x, hne⟩
        have hne : g' ≠ g := fun q => ht n t x'.1 x'.2 g' hx (by simp [Value.ownBlock, q])
        show knowRow E g _ cur g' j = E.K g' j
        unfold knowRow
        rw [if_neg (by simp [hne])]
    let v : Value := .slice (some ⟨g, 0, none⟩) xs.length cap
    have hE2 := Env.le_withHd hst1 v
    have eh : (E1.withHd st v).hd st = v := upd_same _ _ _
    have h2 := h1.env hE2 h1.K (fun n b x j => (h1.bk n b x).noK j) (fun _ _ _ _ _ _ => rfl)
    have eK : ∀ b j, (E1.withHd st v).K b j = knowRow E g (xs.length * sz) cur b j := fun _ _ => rfl
    refine ⟨E1.withHd st v, hE1.trans hE2, fun s hs => hs.elim .inr .inl, fun b o hb' => by rw [eK]; unfold knowRow; rw [if_neg (by omega)], ?_, .acc nm st sz xs _ (.inl rfl) eh.symm ?_⟩
    · have h2' : HConc (E1.withHd st v) B (((h.setT nm none)).setT nm none) w := h2.dropT nm
      have h3 := HConc.putT (h := h) (nm := nm) (E := E1.withHd st v) (B := B) (w := w) (by
        refine h2.sub (fun _ _ x => x) (fun _ _ x => x)) ⟨st, sz, ty⟩ (.inl rfl) ?_ ?_ ?_
      · exact h3
      · refine ⟨xs.length, cs, ?_, ?_⟩
        · rw [eh]; exact ⟨hl, .inr ⟨g, cap, cur, rfl, hbg, hg, hnc, hcm, hcs, htake⟩⟩
        · intro g' j hg' hj
          rw [eh] at hg'
          have hgg : g = g' := by simpa [v, Value.ownBlock] using hg'
          subst hgg
          rw [eK]; unfold knowRow
          rw [if_neg (by simp only at hj; omega)]
          exact hK g j rfl hj
      · intro n b x
        rw [eh, hE2.m _ (hE1.u _ (H.bu n b x)), hE1.m _ (H.bu n b x)]
        exact hb n b x
      · intro n t' g' hn x hx
        rw [eh]
        rw [hE2.hd _ (hE1.u _ (H.tu n t' x)), hE1.hd _ (H.tu n t' x)] at hx
        exact ht n t' x hn g' hx
    · refine .lst xs g 0 sz cap (fun i j => (cur[i * sz + j]?).getD .nilFunc) hnc (fun x hx => (hel x hx).1) ?_ ?_ ?_
      · intro i j hi hj
        have hlt := mul_lt hi hj
        have hlt' : i * sz + j < cur.size := by
          rw [hcs]; exact Nat.lt_of_lt_of_le hlt (Nat.mul_le_mul_right _ hnc)
        rw [eK]; unfold knowRow
        rw [if_pos ⟨rfl, by simpa using hlt⟩]
        simp [hlt']
      · intro i x hx j y hy
        exact (hel x (List.mem_of_getElem? hx)).2 y (List.mem_of_getElem? hy)
      · intro i x hx j y hy
        obtain ⟨u, hu, hrel⟩ := hr i x hx j y hy
        have := (hcs' _ u hu).1
        simp only [this, Option.getD_some]
        exact hrel.mono (hE1.trans hE2).cl

end Go.Gv
