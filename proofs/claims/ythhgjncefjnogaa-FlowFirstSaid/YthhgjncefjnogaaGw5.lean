/- Calls whose arguments are closed but for a coercion in depth (nil for an empty list in a list). -/
import Derived.Test.YthhgjncefjnogaaGw4
namespace Go.Gv
section
variable {E : Env} {B : Nat} {h : Hp} {w : World}
theorem dcl_list {K : Nat → Nat → Option Value} {blk : Nat → Option Blk} {d : Nat} (ih : ∀ (x y : AV) (v : Value), dco blk d x y → Rel E x v → Rel (envK (K)) y v)
    {xs ys : List AV} {b o sz cap : Nat} (f : Nat → Nat → Value) (hcap : xs.length ≤ cap) (hsz : ∀ x ∈ xs, x.cells.length = sz)
    (hk : ∀ i j : Nat, i < xs.length → j < sz → K b (o + i * sz + j) = some (f i j))
    (h1 : ∀ (i : Nat) (x : AV), xs[i]? = some x → ∀ (j : Nat) (y : AV), x.cells[j]? = some y → y.one = true)
    (hr : ∀ (i : Nat) (x : AV), xs[i]? = some x → ∀ (j : Nat) (y : AV), x.cells[j]? = some y → Rel E y (f i j))
    (hc : coL (elemR (dco blk d)) xs ys) : Rel (envK (K)) (.lst sz ys) (.slice (some ⟨b, o, none⟩) xs.length cap) := by
  obtain ⟨e1, e2⟩ := coL_get hc
  have pair : ∀ (i : Nat) (y : AV), ys[i]? = some y → ∃ x, xs[i]? = some x ∧ elemR (dco blk d) x y := by
    intro i y hy
    obtain ⟨x, hx⟩ : ∃ x, xs[i]? = some x := ⟨_, List.getElem?_eq_getElem (by rw [e1]; exact (List.getElem?_eq_some_iff.1 hy).1)⟩
    exact ⟨x, hx, e2 i x y hx hy⟩
  have ones : ∀ (i : Nat) (x : AV), xs[i]? = some x → ∀ z ∈ x.cells, z.one = true := by
    intro i x hx z hz
    obtain ⟨j, hj⟩ := List.getElem?_of_mem hz
    exact h1 i x hx j z hj
  have cell : ∀ (i : Nat) (y : AV), ys[i]? = some y → ∀ (j : Nat) (q : AV), y.cells[j]? = some q → ∃ p x, xs[i]? = some x ∧ x.cells[j]? = some p ∧ dco blk d p q := by
    intro i y hy j q hq
    obtain ⟨x, hx, hxy⟩ := pair i y hy
    obtain ⟨c1, c2⟩ := elemR_cells hxy (ones i x hx)
    obtain ⟨p, hp⟩ : ∃ p, x.cells[j]? = some p := ⟨_, List.getElem?_eq_getElem (by rw [c1]; exact (List.getElem?_eq_some_iff.1 hq).1)⟩
    exact ⟨p, x, hx, hp, c2 j p q hp hq⟩
  rw [e1]
  refine Rel.lst ys b o sz cap f (by rw [← e1]; exact hcap) ?_ ?_ ?_ ?_
  · intro y hy
    obtain ⟨i, hi⟩ := List.getElem?_of_mem hy
    obtain ⟨x, hx, hxy⟩ := pair i y hi
    rw [← (elemR_cells hxy (ones i x hx)).1]
    exact hsz x (List.mem_of_getElem? hx)
  · intro i j hi hj
    exact hk i j (by rw [e1]; exact hi) hj
  · intro i y hy j q hq
    obtain ⟨p, x, hx, hp, hpq⟩ := cell i y hy j q hq
    exact dco_one d hpq (h1 i x hx j p hp)
  · intro i y hy j q hq
    obtain ⟨p, x, hx, hp, hpq⟩ := cell i y hy j q hq
    exact ih p q _ hpq (hr i x hx j p hp)


theorem dcc_rel : ∀ (d : Nat) (x y : AV) (v : Value), dco (fun _ => none) d x y → (∀ b o u, E.K b o = some u → w.cell? ⟨b, o, none⟩ = some u) → Rel E x v → Rel (envK E.K) y v := by
  have base : ∀ (x y : AV) (v : Value), co1 none x y → (∀ b o u, E.K b o = some u → w.cell? ⟨b, o, none⟩ = some u) → Rel E x v → Rel (envK E.K) y v := by
    intro x y v hc hK hr
    have H : HConc E w.heap.size ⟨fun _ => none, fun _ => none⟩ w := ⟨hK, by simp, by simp, by simp, by simp, by simp, by simp, by simp⟩
    exact co1_rel H (K := E.K) ⟨fun _ _ _ q => q, by simp⟩ (by simp) hc hr
  have lsts : ∀ (d : Nat), (∀ (x y : AV) (v : Value), dco (fun _ => none) d x y → Rel E x v → Rel (envK E.K) y v) → ∀ (s : Nat) (xs ys : List AV) (v : Value), Rel E (.lst s xs) v → (xs = ys ∨ coL (elemR (dco (fun _ => none) d)) xs ys) → Rel (envK E.K) (.lst s ys) v := by
    intro d ih s xs ys v hr hc
    rcases hc with rfl | hc
    · exact lst_envK (K := E.K) (fun _ _ _ q => q) hr
    · cases hr with
      | lst0 _ a cap =>
        cases ys with
        | nil => exact .lst0 _ _ _
        | cons y ys => exact hc.elim
      | lst _ b o _ cap f hcap hsz hk h1 hr =>
        exact dcl_list ih f hcap hsz hk h1 (fun i x hx j y hy => (hr i x hx j y hy).mono (Env.cl_le E)) hc
  intro d
  induction d with
  | zero => exact base
  | succ d ih =>
    intro x y v hc hK hr
    have ih' := fun (x y : AV) (v : Value) q r => ih x y v q hK r
    unfold dco at hc
    split at hc
    · subst hc; rw [hr.nils_inv]; exact .lst0 _ _ _
    · obtain ⟨rfl, hc⟩ := hc
      exact lsts d ih' _ _ _ v hr hc
    · obtain ⟨rfl, hc⟩ := hc
      cases hr with
      | acc _ _ _ _ _ _ _ hl => exact lsts d ih' _ _ _ v hl hc
    · obtain ⟨_, es, hes, _⟩ := hc
      exact absurd hes (by simp [getB])
    · exact base x y v hc hK hr
theorem dccE_rel (d : Nat) (x y : AV) (v : Value) (hc : elemR (dco (fun _ => none) d) x y) (hK : ∀ b o u, E.K b o = some u → w.cell? ⟨b, o, none⟩ = some u) (hr : Rel E x v) : Rel (envK E.K) y v := by
  unfold elemR at hc
  split at hc
  · rename_i xs ys
    obtain ⟨e1, e2⟩ := coL_get hc
    cases hr with
    | agg _ vs hs h1 hr =>
      have pair : ∀ (j : Nat) (y : AV), ys[j]? = some y → ∃ x, xs[j]? = some x ∧ dco (fun _ => none) d x y := by
        intro j y hy
        obtain ⟨x, hx⟩ : ∃ x, xs[j]? = some x := ⟨_, List.getElem?_eq_getElem (by rw [e1]; exact (List.getElem?_eq_some_iff.1 hy).1)⟩
        exact ⟨x, hx, e2 j x y hx hy⟩
      refine .agg ys vs (by rw [← e1]; exact hs) (fun j y hy => ?_) (fun j y u hy hu => ?_)
      · obtain ⟨x, hx, hxy⟩ := pair j y hy
        exact dco_one d hxy (h1 j x hx)
      · obtain ⟨x, hx, hxy⟩ := pair j y hy
        exact dcc_rel d x y u hxy hK (hr j x u hx hu)
  · exact dcc_rel d _ _ v hc hK hr
end
theorem pcall_deep {P : Program} {f : FuncId} {cargs : List AV} {r : AV} (h : PC P f cargs r) (d : Nat) {caps vals : List AV} (hco : coL (elemR (dco (fun _ => none) d)) (vals ++ caps) cargs) : PCallP P (.fn f caps) vals r := by
  obtain ⟨hent, hc⟩ := h
  refine ⟨f, caps, rfl, hent, fun E w args hK hsz hrel => ?_⟩
  obtain ⟨e1, e2⟩ := coL_get hco
  refine hc E.K w args hK (by rw [hsz, e1]) ?_
  intro j y u hy hu
  obtain ⟨x, hx⟩ : ∃ x, (vals ++ caps)[j]? = some x := ⟨_, List.getElem?_eq_getElem (by rw [e1]; exact (List.getElem?_eq_some_iff.1 hy).1)⟩
  exact dccE_rel (w := w) d x y u (e2 j x y hx hy) hK (hrel j x u hx hu)
/-- A call whose arguments fit in depth d. -/
theorem callC {P : Program} {f : FuncId} {cargs : List AV} {r : AV} (h : PC P f cargs r) (d : Nat) {caps vals : List AV} {S : St} {k : AV → St → Prop} {u : Dep k} (hco : coL (elemR (dco (fun _ => none) d)) (vals ++ caps) cargs) (hk : k r S) : CallG P (.fn f caps) vals S k u :=
  CallP_of_PCallP (pcall_deep h d hco) hk
theorem calldC {P : Program} {f : FuncId} {cargs : List AV} {r : AV} (h : PC P f cargs r) (d : Nat) {caps vals : List AV} {k : AV → Prop} {u : Dep k} (hco : coL (elemR (dco (fun _ => none) d)) (vals ++ caps) cargs) (hk : k r) : callD P (.fn f caps) vals k u :=
  ⟨r, pcall_deep h d hco, hk⟩
end Go.Gv
