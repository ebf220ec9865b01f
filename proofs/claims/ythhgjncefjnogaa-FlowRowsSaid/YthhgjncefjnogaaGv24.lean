/- A value of a state seen as a closed one, however deep its lists lie; calls of pure functions with such values. No condition beyond those that each law names. -/
import Derived.Test.YthhgjncefjnogaaGv23
import Derived.Test.YthhgjncefjnogaaGv22
set_option linter.unusedVariables false
set_option linter.unusedSimpArgs false
namespace Go.Gv
open Go.RowKit

def elemR (R : AV → AV → Prop) : AV → AV → Prop
  | .agg xs, .agg ys => coL R xs ys
  | x, y => R x y

/-- What stands for x may be taken for the closed y; 'd': so deep do lists lie in lists. -/
def dco (blk : Nat → Option Blk) : Nat → AV → AV → Prop
  | 0, x, y => co1 none x y
  | d + 1, x, y => match x, y with
    | .nils, .lst _ ys => ys = []
    | .lst s xs, .lst s' ys => s = s' ∧ (xs = ys ∨ coL (elemR (dco blk d)) xs ys)
    | .acc _ _ s xs, .lst s' ys => s = s' ∧ (xs = ys ∨ coL (elemR (dco blk d)) xs ys)
    | .sl nm st s off len, .lst s' ys => s = s' ∧ ∃ es, getB blk nm st s = some es ∧ off + len ≤ es.length ∧ coL (elemR (dco blk d)) ((es.drop off).take len) ys
    | x, y => co1 none x y

theorem dco_one {blk : Nat → Option Blk} : ∀ (d : Nat) {x y : AV}, dco blk d x y → x.one = true → y.one = true := by
  intro d x y h hx
  cases d with
  | zero => exact co1_one h hx
  | succ d =>
    unfold dco at h
    split at h <;> first | rfl | exact co1_one h hx

theorem elemR_cells {blk : Nat → Option Blk} {d : Nat} {x y : AV} (h : elemR (dco blk d) x y) (h1 : ∀ z ∈ x.cells, z.one = true) : x.cells.length = y.cells.length ∧ ∀ (j : Nat) (a b : AV), x.cells[j]? = some a → y.cells[j]? = some b → dco blk d a b := by
  by_cases hx : ∃ xs ys, x = .agg xs ∧ y = .agg ys
  · obtain ⟨xs, ys, rfl, rfl⟩ := hx
    exact coL_get h
  · have hd : dco blk d x y := by
      unfold elemR at h
      split at h
      · exact absurd ⟨_, _, rfl, rfl⟩ hx
      · exact h
    by_cases hxa : ∃ xs, x = .agg xs
    · obtain ⟨xs, rfl⟩ := hxa
      exfalso
      cases d with
      | zero => cases y <;> exact hd
      | succ d => unfold dco at hd; cases y <;> exact hd
    · have hxc : x.cells = [x] := by cases x <;> first | rfl | exact absurd ⟨_, rfl⟩ hxa
      have hx1 : x.one = true := h1 x (by rw [hxc]; simp)
      have hy1 := dco_one d hd hx1
      have hyc := AV.cells_one hy1
      rw [hxc, hyc]
      refine ⟨rfl, fun j a b ha hb => ?_⟩
      cases j with
      | zero => simp at ha hb; subst ha; subst hb; exact hd
      | succ j => simp at ha

section
variable {E : Env} {B : Nat} {h : Hp} {w : World}

/-- A list's elements, one by one. -/
theorem dco_list (K0 : ∀ b o u, E.K b o = some u → w.cell? ⟨b, o, none⟩ = some u) {blk : Nat → Option Blk} {d : Nat} (ih : ∀ (x y : AV) (v : Value), dco blk d x y → Rel E x v → Rel (envK (Kw w)) y v)
    {xs ys : List AV} {b o sz cap : Nat} (f : Nat → Nat → Value) (hcap : xs.length ≤ cap) (hsz : ∀ x ∈ xs, x.cells.length = sz)
    (hk : ∀ i j : Nat, i < xs.length → j < sz → w.cell? ⟨b, o + i * sz + j, none⟩ = some (f i j))
    (h1 : ∀ (i : Nat) (x : AV), xs[i]? = some x → ∀ (j : Nat) (y : AV), x.cells[j]? = some y → y.one = true)
    (hr : ∀ (i : Nat) (x : AV), xs[i]? = some x → ∀ (j : Nat) (y : AV), x.cells[j]? = some y → Rel E y (f i j))
    (hc : coL (elemR (dco blk d)) xs ys) : Rel (envK (Kw w)) (.lst sz ys) (.slice (some ⟨b, o, none⟩) xs.length cap) := by
  obtain ⟨e1, e2⟩ := coL_get hc
  have pair : ∀ (i : Nat) (y : AV), ys[i]? = some y → ∃ x, xs[i]? = some x ∧ elemR (dco blk d) x y := by
    intro i y hy
    obtain ⟨x, hx⟩ : ∃ x, xs[i]? = some x := ⟨_, List.getElem?_eq_getElem (by rw [e1]; exact (List.getElem?_eq_some_iff.1 hy).1)⟩
    exact ⟨x, hx, e2 i x y hx hy⟩
  have ones : ∀ (i : Nat) (x : AV), xs[i]? = some x → ∀ z ∈ x.cells, z.one = true := by
    intro i x hx z hz
    obtain ⟨j, hj⟩ := List.getElem?_of_mem hz
    exact h1 i x hx j z hj
  have cell : ∀ (i : Nat) (y : AV), ys[i]? = some y → ∀ (j : Nat) (q : AV), y.cells[j]? = some q → ∃ p x, xs[i]? = some x ∧ x.cells[j]? = some p ∧ dco blk d p q := by
    intro i y hy j q hq
    obtain ⟨x, hx, hxy⟩ := pair i y hy
    obtain ⟨c1, c2⟩ := elemR_cells hxy (ones i x hx)
    obtain ⟨p, hp⟩ : ∃ p, x.cells[j]? = some p := ⟨_, List.getElem?_eq_getElem (by rw [c1]; exact (List.getElem?_eq_some_iff.1 hq).1)⟩
    exact ⟨p, x, hx, hp, c2 j p q hp hq⟩
  rw [e1]
  refine Rel.lst ys b o sz cap f (by rw [← e1]; exact hcap) ?_ ?_ ?_ ?_
  · intro y hy
    obtain ⟨i, hi⟩ := List.getElem?_of_mem hy
    obtain ⟨x, hx, hxy⟩ := pair i y hi
    rw [← (elemR_cells hxy (ones i x hx)).1]
    exact hsz x (List.mem_of_getElem? hx)
  · intro i j hi hj
    exact hk i j (by rw [e1]; exact hi) hj
  · intro i y hy j q hq
    obtain ⟨p, x, hx, hp, hpq⟩ := cell i y hy j q hq
    exact dco_one d hpq (h1 i x hx j p hp)
  · intro i y hy j q hq
    obtain ⟨p, x, hx, hp, hpq⟩ := cell i y hy j q hq
    exact ih p q _ hpq (hr i x hx j p hp)

theorem dco_rel (H : HConc E B h w) : ∀ (d : Nat) (x y : AV) (v : Value), dco h.blk d x y → Rel E x v → Rel (envK (Kw w)) y v := by
  have kn : Knows E B w (Kw w) (none : Option (Nat → Option Blk)).isSome := ⟨H.K, by simp⟩
  have base : ∀ (x y : AV) (v : Value), co1 none x y → Rel E x v → Rel (envK (Kw w)) y v := fun x y v hc hr => co1_rel H kn (by simp) hc hr
  have lsts : ∀ (d : Nat), (∀ (x y : AV) (v : Value), dco h.blk d x y → Rel E x v → Rel (envK (Kw w)) y v) → ∀ (s : Nat) (xs ys : List AV) (v : Value), Rel E (.lst s xs) v → (xs = ys ∨ coL (elemR (dco h.blk d)) xs ys) → Rel (envK (Kw w)) (.lst s ys) v := by
    intro d ih s xs ys v hr hc
    rcases hc with rfl | hc
    · exact lst_envK (K := Kw w) H.K hr
    · cases hr with
      | lst0 _ a cap =>
        cases ys with
        | nil => exact .lst0 _ _ _
        | cons y ys => exact hc.elim
      | lst _ b o _ cap f hcap hsz hk h1 hr =>
        exact dco_list H.K ih f hcap hsz (fun i j hi hj => H.K _ _ _ (hk i j hi hj)) h1 (fun i x hx j y hy => (hr i x hx j y hy).mono (Env.cl_le E)) hc
  intro d
  induction d with
  | zero => exact base
  | succ d ih =>
    intro x y v hc hr
    unfold dco at hc
    split at hc
    · subst hc; rw [hr.nils_inv]; exact .lst0 _ _ _
    · obtain ⟨rfl, hc⟩ := hc
      exact lsts d ih _ _ _ v hr hc
    · obtain ⟨rfl, hc⟩ := hc
      cases hr with
      | acc _ _ _ _ _ _ _ hl => exact lsts d ih _ _ _ v hl hc
    · rename_i nm st s off len s' ys
      obtain ⟨rfl, es, hes, hle, hc⟩ := hc
      have hbs := getB_some hes
      have hbk := H.bk nm _ hbs
      obtain ⟨cur, e, hg, hsz, hrow⟩ := hbk.row
      simp only at hg hsz hrow
      cases hr with
      | sl _ _ _ _ _ cap a hu hcap hc' ha =>
        have hlen : ((es.drop off).take len).length = len := by simp; omega
        by_cases hl0 : len = 0
        · subst hl0
          rw [List.take_zero] at hc
          cases ys with
          | nil => exact .lst0 _ _ _
          | cons y ys => exact hc.elim
        · rw [ha (by omega)]
          have hidx : ∀ (i : Nat) (z : AV), ((es.drop off).take len)[i]? = some z → i < len ∧ es[off + i]? = some z := by
            intro i z hz
            rw [List.getElem?_take] at hz
            split at hz
            · rename_i hi; rw [List.getElem?_drop] at hz; exact ⟨hi, hz⟩
            · cases hz
          have hel : ∀ z ∈ (es.drop off).take len, ElemOk s z := fun z hz => hbk.el z (List.mem_of_mem_drop (List.mem_of_mem_take hz))
          have cell : ∀ (i : Nat) (z : AV), ((es.drop off).take len)[i]? = some z → ∀ (j : Nat) (q : AV), z.cells[j]? = some q →
              ∃ u, w.cell? ⟨(E.m st).1, (E.m st).2 + off * s + i * s + j, none⟩ = some u ∧ Rel E q u := by
            intro i z hz j q hq
            obtain ⟨hi, hz'⟩ := hidx i z hz
            obtain ⟨u, hu', hrel⟩ := hrow (off + i) z hz' j q hq
            refine ⟨u, ?_, hrel⟩
            rw [show (E.m st).2 + off * s + i * s + j = (E.m st).2 + (off + i) * s + j by rw [Nat.add_mul]; omega, cell_of_row w _ _ cur e (0, 0) hg]
            exact hu'
          have := dco_list (b := (E.m st).1) (o := (E.m st).2 + off * s) (sz := s) (cap := cap) H.K ih (fun i j => (w.cell? ⟨(E.m st).1, (E.m st).2 + off * s + i * s + j, none⟩).getD .nilFunc) (by rw [hlen]; exact hcap) (fun z hz => (hel z hz).1) ?_ ?_ ?_ hc
          · rw [hlen] at this; exact this
          · intro i j hi hj
            obtain ⟨z, hz⟩ : ∃ z, ((es.drop off).take len)[i]? = some z := ⟨_, List.getElem?_eq_getElem hi⟩
            obtain ⟨q, hq⟩ : ∃ q, z.cells[j]? = some q := ⟨_, List.getElem?_eq_getElem (by rw [(hel z (List.mem_of_getElem? hz)).1]; exact hj)⟩
            obtain ⟨u, hu', _⟩ := cell i z hz j q hq
            rw [hu']; rfl
          · intro i z hz j q hq
            exact (hel z (List.mem_of_getElem? hz)).2 q (List.mem_of_getElem? hq)
          · intro i z hz j q hq
            obtain ⟨u, hu', hrel⟩ := cell i z hz j q hq
            rw [hu']
            exact hrel
    · exact base x y v hc hr
theorem dcoE_rel (H : HConc E B h w) (d : Nat) (x y : AV) (v : Value) (hc : elemR (dco h.blk d) x y) (hr : Rel E x v) : Rel (envK (Kw w)) y v := by
  unfold elemR at hc
  split at hc
  · rename_i xs ys
    obtain ⟨e1, e2⟩ := coL_get hc
    cases hr with
    | agg _ vs hs h1 hr =>
      have pair : ∀ (j : Nat) (y : AV), ys[j]? = some y → ∃ x, xs[j]? = some x ∧ dco h.blk d x y := by
        intro j y hy
        obtain ⟨x, hx⟩ : ∃ x, xs[j]? = some x := ⟨_, List.getElem?_eq_getElem (by rw [e1]; exact (List.getElem?_eq_some_iff.1 hy).1)⟩
        exact ⟨x, hx, e2 j x y hx hy⟩
      refine .agg ys vs (by rw [← e1]; exact hs) (fun j y hy => ?_) (fun j y u hy hu => ?_)
      · obtain ⟨x, hx, hxy⟩ := pair j y hy
        exact dco_one d hxy (h1 j x hx)
      · obtain ⟨x, hx, hxy⟩ := pair j y hy
        exact dco_rel H d x y u hxy (hr j x u hx hu)
  · exact dco_rel H d _ _ v hc hr
end

/-- A call that reads lists in mutable blocks, however deep, and answers no list. -/
theorem callW {P : Program} {f : FuncId} {cargs : List AV} {r : AV} (h : PC P f cargs r) (d : Nat) {caps vals : List AV} {S : St} {k : AV → St → Prop} {u : Dep k} (hco : coL (elemR (dco S.blk d)) (vals ++ caps) cargs) (hflat : flat r = true) (hk : k r S) :
    CallG P (.fn f caps) vals S k u := by
  obtain ⟨hent, hc⟩ := h
  refine ⟨f, caps, rfl, hent, fun E B W w args H hW hB hu hsz hrel => ?_⟩
  obtain ⟨e1, e2⟩ := coL_get hco
  refine (hc (Kw w) w args (fun b o v q => q) (by rw [hsz, e1]) ?_).mono ?_
  · intro j y u hy hu
    obtain ⟨x, hx⟩ : ∃ x, (vals ++ caps)[j]? = some x := ⟨_, List.getElem?_eq_getElem (by rw [e1]; exact (List.getElem?_eq_some_iff.1 hy).1)⟩
    exact dcoE_rel H d x y u (e2 j x y hx hy) (hrel j x u hx hu)
  · rintro e w' ⟨v, rfl, hbel, hr⟩
    have hle : B ≤ w.heap.size := Nat.le_trans hB hW.size
    exact ⟨v, E, r, S, rfl, .refl E, H.grow (fun k hk => hbel.block k hk), hW.trans (hbel.mono hle), fun _ _ _ => rfl, fun s hs => ⟨.inl hs, hu s hs⟩, Nat.le_refl _, rfl, flat_rel hr hflat, hk⟩

end Go.Gv
