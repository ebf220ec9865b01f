/- What a row's reading of an argument says in abstract values. No condition beyond those that each law names. -/
import Derived.Test.YthhgjncefjnogaaGv20
import Derived.ChangeArms
import Derived.DataReads
set_option linter.unusedVariables false
set_option linter.unusedSimpArgs false
namespace Go.Gv
open Go.RowKit

def Kw (w : World) : Nat → Nat → Option Value := fun b o => w.cell? ⟨b, o, none⟩

section
variable {H : Type} {enc : TypeId × Value → H} {P : Program} {w : World} {t e : TypeId}

def Opens (enc : TypeId × Value → H) (P : Program) (w : World) (t : TypeId) (A : Type) (f : A → AV) (Pr : A → Prop) : Prop :=
  ∀ (fuel : Nat) (cs : List Value) (x : DataW H × List MemPlace), DataW.trod enc P w 0 (fun _ => true) true fuel t cs = some x →
    ∃ a, Pr a ∧ cs.length = (f a).cells.length ∧ (∀ y ∈ (f a).cells, y.one = true) ∧ ∀ (j : Nat) (y : AV) (u : Value), (f a).cells[j]? = some y → cs[j]? = some u → Rel (envK (Kw w)) y u

def InR (n : Int) : Prop := (Lit.int .i64 n).wf = true

theorem opens_int (ht : P.underlying t = some (.int .i64)) : Opens enc P w t Int iv InR := by
  intro fuel cs x h
  obtain ⟨n, rfl, _, hw⟩ := DataW.trod_int ht h
  refine ⟨n, hw, rfl, by simp, ?_⟩
  intro j y u hy hu
  cases j with
  | zero => simp at hy hu; subst hy; subst hu; exact .int _ _
  | succ j => simp at hy
theorem opens_bool (ht : P.underlying t = some .bool) : Opens enc P w t Bool AV.bool (fun _ => True) := by
  intro fuel cs x h
  obtain ⟨n, rfl, _⟩ := DataW.trod_bool ht h
  refine ⟨n, trivial, rfl, by simp, ?_⟩
  intro j y u hy hu
  cases j with
  | zero => simp at hy hu; subst hy; subst hu; exact .bool _
  | succ j => simp at hy
theorem opens_slice {A : Type} {f : A → AV} {Pr : A → Prop} (ht : P.underlying t = some (.slice e)) (size : Nat) (hsz : P.cellsOf e = size) (h0 : 0 < size) (hel : Opens enc P w e A f Pr) (hlen : ∀ a, (f a).cells.length = size) :
    Opens enc P w t (List A) (fun l => .lst size (l.map f)) (fun l => l.length ≤ maxLen ∧ ∀ a ∈ l, Pr a) := by
  intro fuel cs x h
  have one : ∀ {v : Value} {y : AV}, Rel (envK (Kw w)) y v → ∀ (j : Nat) (y' : AV) (u : Value), [y][j]? = some y' → [v][j]? = some u → Rel (envK (Kw w)) y' u := by
    intro v y hr j y' u hy hu
    cases j with
    | zero => simp at hy hu; subst hy; subst hu; exact hr
    | succ j => simp at hy
  rcases DataW.trod_slice ht h with ⟨rfl, _⟩ | ⟨a, len, cap, elems, rest, n, rfl, rfl, _, hb, hle, hcap, hel', helem, _, _⟩
  · exact ⟨[], ⟨by simp, by simp⟩, rfl, by simp, one (.lst0 _ _ _)⟩
  · rw [hsz] at helem
    have q : ∀ i : Fin len, ∃ (c : A) (cs' : List Value), Pr c ∧ cs'.length = size ∧ (∀ j, j < size → w.cell? ((a.add (i * size)).add j) = cs'[j]?) ∧ (∀ y ∈ (f c).cells, y.one = true) ∧ ∀ (j : Nat) (y : AV) (u : Value), (f c).cells[j]? = some y → cs'[j]? = some u → Rel (envK (Kw w)) y u := by
      intro i
      have h1 := helem i i.2
      rw [List.getElem?_eq_getElem (by rw [hel']; exact i.2)] at h1
      simp only [Option.bind_eq_some_iff] at h1
      obtain ⟨cs', h1, h2⟩ := h1
      obtain ⟨_, c2, c3⟩ := World.cells?_some h1
      obtain ⟨c, p1, p2, p3, p4⟩ := hel _ _ _ h2
      exact ⟨c, cs', p1, c2, c3, p3, p4⟩
    let g : Fin len → A := fun i => (q i).choose
    have hg : ∀ i : Fin len, ∃ (cs' : List Value), Pr (g i) ∧ cs'.length = size ∧ (∀ j, j < size → w.cell? ((a.add (i * size)).add j) = cs'[j]?) ∧ (∀ y ∈ (f (g i)).cells, y.one = true) ∧ ∀ (j : Nat) (y : AV) (u : Value), (f (g i)).cells[j]? = some y → cs'[j]? = some u → Rel (envK (Kw w)) y u :=
      fun i => (q i).choose_spec
    clear_value g
    have hget : ∀ (i : Nat) (y : AV), ((List.ofFn g).map f)[i]? = some y → ∃ h : i < len, y = f (g ⟨i, h⟩) := by
      intro i y hy
      rw [List.getElem?_map, List.getElem?_ofFn] at hy
      split at hy
      · rename_i hi; simp at hy; exact ⟨hi, hy.symm⟩
      · simp at hy
    refine ⟨List.ofFn g, ⟨by simp; omega, ?_⟩, rfl, by simp, one ?_⟩
    · intro c hc
      obtain ⟨i, rfl⟩ := List.mem_ofFn.1 hc
      obtain ⟨_, p, _⟩ := hg i
      exact p
    · by_cases hz : len = 0
      · subst hz
        have : List.ofFn g = [] := List.length_eq_zero_iff.1 (by simp)
        rw [this]; exact .lst0 _ _ _
      · have hspot : a.spot = none := by
          obtain ⟨cs', _, p2, p3, _⟩ := hg ⟨0, by omega⟩
          have := p3 0 h0
          rw [List.getElem?_eq_getElem (by omega)] at this
          simp [Addr.add, World.cell?] at this
          split at this
          · cases hs : a.spot with
            | none => rfl
            | some s => simp [hs] at this
          · simp at this
        obtain ⟨b, o, spot⟩ := a
        simp only at hspot
        subst hspot
        have cell : ∀ (i : Nat) (y : AV), ((List.ofFn g).map f)[i]? = some y → ∀ (j : Nat) (z : AV), y.cells[j]? = some z → ∃ u, w.cell? ⟨b, o + i * size + j, none⟩ = some u ∧ Rel (envK (Kw w)) z u := by
          intro i y hy j z hz'
          obtain ⟨hi, rfl⟩ := hget i y hy
          obtain ⟨cs', _, p2, p3, _, p5⟩ := hg ⟨i, hi⟩
          have hj : j < size := by rw [← hlen (g ⟨i, hi⟩)]; exact (List.getElem?_eq_some_iff.1 hz').1
          have e1 := p3 j hj
          rw [Addr.add_mk, Addr.add_mk] at e1
          have e2 : cs'[j]? = some cs'[j] := List.getElem?_eq_getElem (by omega)
          exact ⟨cs'[j], by rw [e1, e2], p5 j z _ hz' e2⟩
        have hcl : (envK (Kw w)).cl = envK (Kw w) := rfl
        have := Rel.lst (E := envK (Kw w)) ((List.ofFn g).map f) b o size cap (fun i j => (w.cell? ⟨b, o + i * size + j, none⟩).getD .nilFunc) (by simpa using hle) ?_ ?_ ?_ ?_
        · simpa using this
        · intro y hy
          obtain ⟨i, hi⟩ := List.getElem?_of_mem hy
          obtain ⟨_, rfl⟩ := hget i y hi
          exact hlen _
        · intro i j hi hj
          have hi' : i < len := by simpa using hi
          obtain ⟨y, hy⟩ : ∃ y, ((List.ofFn g).map f)[i]? = some y := ⟨_, List.getElem?_eq_getElem hi⟩
          obtain ⟨z, hz'⟩ : ∃ z, y.cells[j]? = some z := by
            obtain ⟨_, rfl⟩ := hget i y hy
            exact ⟨_, List.getElem?_eq_getElem (by rw [hlen]; exact hj)⟩
          obtain ⟨u, hu, _⟩ := cell i y hy j z hz'
          show w.cell? _ = _
          rw [hu]; rfl
        · intro i y hy j z hz'
          obtain ⟨hi, rfl⟩ := hget i y hy
          obtain ⟨_, _, _, _, p4, _⟩ := hg ⟨i, hi⟩
          exact p4 z (List.mem_of_getElem? hz')
        · intro i y hy j z hz'
          obtain ⟨u, hu, hr⟩ := cell i y hy j z hz'
          rw [hu]
          exact hr
end

end Go.Gv
