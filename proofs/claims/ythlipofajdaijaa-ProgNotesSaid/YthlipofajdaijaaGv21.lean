/- The contract of slices.Clone over abstract values, from what the model's own walk of it says. No condition beyond those that each law names. -/
import Derived.Test.YthlipofajdaijaaGv20
set_option linter.unusedVariables false
set_option linter.unusedSimpArgs false
namespace Go.Gv
open Go.RowKit

theorem row_idx {size i j n : Nat} (h0 : 0 < size) (hi : i < n) (hj : j < size) : (i * size + j) / size = i ∧ (i * size + j) % size = j ∧ i * size + j < n * size := by
  refine ⟨?_, ?_, mul_lt hi hj⟩
  · rw [Nat.add_comm, Nat.add_mul_div_right _ _ h0, Nat.div_eq_of_lt hj, Nat.zero_add]
  · rw [Nat.add_comm, Nat.add_mul_mod_self_right, Nat.mod_eq_of_lt hj]

/-- Cells of the call's own, told as a list. -/
theorem lst_of_own {K : Nat → Nat → Option Value} {w w' : World} {ty : TypeId} {size : Nat} {xs : List AV} {v' : Value} {news : List Value}
    (hown : w'.ownsRow w.heap.size ty size v' xs.length news) (hsz : ∀ x ∈ xs, x.cells.length = size)
    (h1 : ∀ (i : Nat) (x : AV), xs[i]? = some x → ∀ (j : Nat) (y : AV), x.cells[j]? = some y → y.one = true)
    (hr : ∀ (i : Nat) (x : AV), xs[i]? = some x → ∀ (j : Nat) (y : AV), x.cells[j]? = some y → ∃ u, news[i * size + j]? = some u ∧ Rel (envK K).cl y u)
    (hK : ∀ b o u, K b o = some u → over K w w' b o = some u) : Rel (envK (over K w w')) (.lst size xs) v' := by
  have hown' := hown
  obtain ⟨hl, ⟨rfl, h0⟩ | ⟨g, cap, cur, rfl, hbg, hg, hnc, hcm, hcs, htake⟩⟩ := hown
  · have : xs = [] := List.eq_nil_of_length_eq_zero h0
    subst this
    exact .lst0 _ _ _
  · have cell : ∀ (i : Nat) (x : AV), xs[i]? = some x → ∀ (j : Nat) (y : AV), x.cells[j]? = some y → ∃ u, w'.cell? ⟨g, 0 + i * size + j, none⟩ = some u ∧ Rel (envK K).cl y u := by
      intro i x hx j y hy
      obtain ⟨u, hu, hru⟩ := hr i x hx j y hy
      refine ⟨u, ?_, hru⟩
      have := hown'.cells (g := g) rfl _ _ hu
      rw [Addr.add_mk] at this
      rw [← this]; congr 2; omega
    refine Rel.lst xs g 0 size cap (fun i j => (w'.cell? ⟨g, 0 + i * size + j, none⟩).getD .nilFunc) hnc hsz ?_ h1 ?_
    · intro i j hi hj
      obtain ⟨x, hx⟩ : ∃ x, xs[i]? = some x := ⟨_, List.getElem?_eq_getElem hi⟩
      obtain ⟨y, hy⟩ : ∃ y, x.cells[j]? = some y := ⟨_, List.getElem?_eq_getElem (by rw [hsz x (List.mem_of_getElem? hx)]; exact hj)⟩
      obtain ⟨u, hu, _⟩ := cell i x hx j y hy
      show over K w w' g (0 + i * size + j) = _
      unfold over
      rw [if_neg (by omega), hu]; rfl
    · intro i x hx j y hy
      obtain ⟨u, hu, hru⟩ := cell i x hx j y hy
      rw [hu]
      exact hru.mono (E := (envK K).cl) (E' := (envK (over K w w')).cl) ⟨hK, fun _ (q : False) => q.elim, fun _ (q : False) => q.elim, fun _ (q : False) => q.elim⟩

theorem pc_clone {P : Program} {f : FuncId} (hent : enters P f) (ty : TypeId) (size bytes : Nat) (h0 : 0 < size)
    (hn : ∀ n c w, Calls P f #[.slice none n c] w fun e w' => e = .returned (.slice none 0 0) ∧ w' = w)
    (hs : ∀ (a : Addr) (n c : Nat) (news : List Value) (w : World), news.length = n * size → n ≤ maxLen → n * bytes ≤ 140737488355328 → (∀ j u, news[j]? = some u → w.cell? (a.add j) = some u) → (∀ u ∈ news, u.oneCell' = true) →
      Calls P f #[.slice (some a) n c] w fun e w' => ∃ v', e = .returned v' ∧ w'.ownsRow w.heap.size ty size v' n news ∧ Below w.heap.size w w')
    (xs : List AV) (hb : xs.length * bytes ≤ 140737488355328) (hm : xs.length ≤ maxLen) : PC P f [.lst size xs] (.lst size xs) := by
  refine ⟨hent, fun K w vs hK hsz hrel => ?_⟩
  obtain ⟨v, rfl⟩ : ∃ v, vs = #[v] := by
    refine ⟨vs[0]'(by simp at hsz; omega), ?_⟩
    apply Array.ext
    · simpa using hsz
    · intro i h1 h2; simp at h2; subst h2; rfl
  have hr : Rel (envK K) (.lst size xs) v := hrel 0 _ _ rfl rfl
  have hKo : ∀ w', Below w.heap.size w w' → ∀ b o u, K b o = some u → over K w w' b o = some u := by
    intro w' hbel b o u hu
    unfold over
    have := World.block_lt_of_cell? w _ (hK b o u hu)
    simp at this
    rw [if_pos this, hu]
  cases hr with
  | lst0 _ a cap =>
    cases a with
    | none =>
      refine (hn 0 cap w).mono ?_
      rintro e w' ⟨rfl, rfl⟩
      exact ⟨_, rfl, Below.refl _ _, .lst0 _ _ _⟩
    | some a =>
      refine (hs a 0 cap [] w (by simp) (by simp) (by simp) (by simp) (by simp)).mono ?_
      rintro e w' ⟨v', rfl, hown, hbel⟩
      exact ⟨_, rfl, hbel, lst_of_own (xs := []) hown (by simp) (by simp) (by simp) (hKo w' hbel)⟩
  | lst _ b o _ cap f hcap hsz' hk h1 hr =>
    have hg : ∀ k u, ((List.range (xs.length * size)).map fun k => f (k / size) (k % size))[k]? = some u → k < xs.length * size ∧ u = f (k / size) (k % size) := by
      intro k u hu
      rw [List.getElem?_map] at hu
      by_cases hlt : k < xs.length * size
      · rw [List.getElem?_range hlt] at hu; simp at hu; exact ⟨hlt, hu.symm⟩
      · rw [List.getElem?_eq_none (by simpa using hlt)] at hu; simp at hu
    have hval : ∀ k, k < xs.length * size → K b (o + k) = some (f (k / size) (k % size)) := by
      intro k hlt
      have hi : k / size < xs.length := Nat.div_lt_of_lt_mul (by rw [Nat.mul_comm]; exact hlt)
      have := hk (k / size) (k % size) hi (Nat.mod_lt _ h0)
      rw [show o + k / size * size + k % size = o + k by have := Nat.div_add_mod k size; rw [Nat.mul_comm] at this; omega] at this
      exact this
    have hone : ∀ k, k < xs.length * size → (f (k / size) (k % size)).oneCell' = true := by
      intro k hlt
      have hi : k / size < xs.length := Nat.div_lt_of_lt_mul (by rw [Nat.mul_comm]; exact hlt)
      obtain ⟨x, hx⟩ : ∃ x, xs[k / size]? = some x := ⟨_, List.getElem?_eq_getElem hi⟩
      obtain ⟨y, hy⟩ : ∃ y, x.cells[k % size]? = some y := ⟨_, List.getElem?_eq_getElem (by rw [hsz' x (List.mem_of_getElem? hx)]; exact Nat.mod_lt _ h0)⟩
      exact (hr _ x hx _ y hy).one (h1 _ x hx _ y hy)
    refine (hs ⟨b, o, none⟩ xs.length cap ((List.range (xs.length * size)).map fun k => f (k / size) (k % size)) w (by simp) hm hb ?_ ?_).mono ?_
    · intro j u hu
      obtain ⟨hlt, rfl⟩ := hg j u hu
      rw [Addr.add_mk]
      exact hK _ _ _ (hval j hlt)
    · intro u hu
      obtain ⟨k, hk'⟩ := List.getElem?_of_mem hu
      obtain ⟨hlt, rfl⟩ := hg k u hk'
      exact hone k hlt
    · rintro e w' ⟨v', rfl, hown, hbel⟩
      refine ⟨_, rfl, hbel, lst_of_own hown hsz' h1 ?_ (hKo w' hbel)⟩
      intro i x hx j y hy
      have hi := (List.getElem?_eq_some_iff.1 hx).1
      have hj : j < size := by rw [← hsz' x (List.mem_of_getElem? hx)]; exact (List.getElem?_eq_some_iff.1 hy).1
      obtain ⟨e1, e2, e3⟩ := row_idx h0 hi hj
      refine ⟨f i j, ?_, hr i x hx j y hy⟩
      rw [List.getElem?_map, List.getElem?_range e3]
      simp [e1, e2]

end Go.Gv
