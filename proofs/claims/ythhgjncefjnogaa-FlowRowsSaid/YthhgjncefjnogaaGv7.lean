/- Each abstract operation is done by the model's own operation: composite values. No condition beyond those that each law names. -/
import Derived.Test.YthhgjncefjnogaaGv6
set_option linter.unusedVariables false
set_option linter.unusedSimpArgs false
namespace Go.Gv
open Go.RowKit

theorem fold_list (off : Nat) : ∀ (l : List Value) (s : Nat) (arr : Array Value), off + s + l.length ≤ arr.size →
    ((l.zipIdx s).foldl (fun cs (x : Value × Nat) => cs.setIfInBounds (off + x.2) x.1) arr).size = arr.size ∧
    ∀ p, ((l.zipIdx s).foldl (fun cs (x : Value × Nat) => cs.setIfInBounds (off + x.2) x.1) arr)[p]? = if off + s ≤ p ∧ p < off + s + l.length then l[p - (off + s)]? else arr[p]?
  | [], s, arr, _ => by simp; intro p h1 h2; omega
  | c :: l, s, arr, h => by
    have h' : off + (s + 1) + l.length ≤ (arr.setIfInBounds (off + s) c).size := by simp at h ⊢; omega
    obtain ⟨e1, e2⟩ := fold_list off l (s + 1) (arr.setIfInBounds (off + s) c) h'
    rw [List.zipIdx_cons, List.foldl_cons]
    refine ⟨by rw [e1]; simp, fun p => ?_⟩
    rw [e2 p]
    simp only [List.length_cons] at h ⊢
    by_cases hp : p = off + s
    · subst hp
      rw [if_neg (by omega), if_pos (by omega), Nat.sub_self, List.getElem?_cons_zero, Array.getElem?_setIfInBounds_self_of_lt (by omega)]
    · by_cases hq : off + (s + 1) ≤ p ∧ p < off + (s + 1) + l.length
      · rw [if_pos hq, if_pos (by omega)]
        rw [show p - (off + s) = (p - (off + (s + 1))) + 1 by omega]
        simp
      · rw [if_neg hq, if_neg (by omega), Array.getElem?_setIfInBounds]
        rw [if_neg (by omega)]

theorem fold_get (off : Nat) (v : Array Value) (arr : Array Value) (h : off + v.size ≤ arr.size) :
    (v.zipIdx.foldl (fun cs (x : Value × Nat) => cs.setIfInBounds (off + x.2) x.1) arr).size = arr.size ∧
    ∀ p, (v.zipIdx.foldl (fun cs (x : Value × Nat) => cs.setIfInBounds (off + x.2) x.1) arr)[p]? = if off ≤ p ∧ p < off + v.size then v[p - off]? else arr[p]? := by
  have := fold_list off v.toList 0 arr (by simpa using h)
  rw [← Array.foldl_toList]
  simp only [Nat.add_zero, Array.length_toList, Array.getElem?_toList] at this
  have e : v.zipIdx.toList = v.toList.zipIdx := by simp
  rw [e]
  exact this

/-- Cells that stand for these. -/
def CellsRel (E : Env) (cs : List AV) (vs : Array Value) : Prop := vs.size = cs.length ∧ (∀ y ∈ cs, y.one = true) ∧ ∀ (j : Nat) (y : AV) (v : Value), cs[j]? = some y → vs[j]? = some v → Rel E y v

theorem CellsRel.get {E : Env} {cs : List AV} {vs : Array Value} (h : CellsRel E cs vs) {j : Nat} {y : AV} (hy : cs[j]? = some y) : ∃ v, vs[j]? = some v ∧ Rel E y v := by
  have hj : j < vs.size := by rw [h.1]; exact (List.getElem?_eq_some_iff.1 hy).1
  exact ⟨vs[j], Array.getElem?_eq_getElem hj, h.2.2 j y _ hy (Array.getElem?_eq_getElem hj)⟩

/-- Parts: where each goes, and what it stands for. -/
inductive Parts (E : Env) (place : Nat → Option (Nat × Nat)) : List (Nat × List AV) → List (Nat × Value) → Prop
  | nil : Parts E place [] []
  | cons {off i : Nat} {x : AV} {v : Value} {as : List (Nat × List AV)} {vs : List (Nat × Value)} (hp : place i = some (off, x.cells.length)) (hr : Rel E x v) (h : Parts E place as vs) :
      Parts E place ((off, x.cells) :: as) ((i, v) :: vs)

theorem fill_ok {E : Env} {place : Nat → Option (Nat × Nat)} {as : List (Nat × List AV)} {vs : List (Nat × Value)} (h : Parts E place as vs) :
    ∀ (cs cs' : List AV) (zs : Array Value), CellsRel E cs zs → fillA 0 cs as = some cs' → ∃ zs', Instr.fill place zs vs = some zs' ∧ CellsRel E cs' zs' := by
  induction h with
  | nil => intro cs cs' zs hz hf; cases hf; exact ⟨zs, rfl, hz⟩
  | @cons off i x v as vs hp hr _ ih =>
    intro cs cs' zs hz hf
    simp only [fillA] at hf
    split at hf
    · rename_i hc
      obtain ⟨hle, h1⟩ := hc
      have h1' : ∀ y ∈ x.cells, y.one = true := by simpa using h1
      obtain ⟨c1, c2⟩ := hr.cells h1'
      have hfit : off + v.cells.size ≤ zs.size := by rw [c1, hz.1]; exact hle
      obtain ⟨s1, s2⟩ := fold_get off v.cells zs hfit
      have hnew : CellsRel E (cs.take off ++ x.cells ++ cs.drop (off + x.cells.length)) (v.cells.zipIdx.foldl (fun cs (x : Value × Nat) => cs.setIfInBounds (off + x.2) x.1) zs) := by
        refine ⟨?_, ?_, ?_⟩
        · rw [s1, hz.1]; simp; omega
        · intro y hy
          simp only [List.mem_append] at hy
          rcases hy with (hy | hy) | hy
          · exact hz.2.1 y (List.mem_of_mem_take hy)
          · exact h1' y hy
          · exact hz.2.1 y (List.mem_of_mem_drop hy)
        · intro j y u hy hu
          rw [seg_get _ _ _ _ hle] at hy
          rw [s2 j, c1] at hu
          by_cases p1 : j < off
          · rw [if_pos p1] at hy; rw [if_neg (by omega)] at hu; exact hz.2.2 j y u hy hu
          · rw [if_neg p1] at hy
            by_cases p2 : j < off + x.cells.length
            · rw [if_pos p2] at hy; rw [if_pos (by omega)] at hu
              obtain ⟨u', hu', hrel, _⟩ := c2 _ y hy
              rw [hu] at hu'; cases hu'; exact hrel
            · rw [if_neg p2] at hy; rw [if_neg (by omega)] at hu; exact hz.2.2 j y u hy hu
      obtain ⟨zs', hz1, hz2⟩ := ih _ _ _ hnew hf
      refine ⟨zs', ?_, hz2⟩
      simp only [Instr.fill, hp]
      rw [if_neg (by simp [c1]; rw [hz.1]; omega)]
      exact hz1
    · cases hf

/-- A row that holds these elements. -/
def RowRel (E : Env) (sz : Nat) (es : List AV) (arr : Array Value) : Prop :=
  arr.size = es.length * sz ∧ (∀ x ∈ es, ElemOk sz x) ∧ ∀ (i : Nat) (x : AV), es[i]? = some x → ∀ (j : Nat) (y : AV), x.cells[j]? = some y → ∃ u, arr[i * sz + j]? = some u ∧ Rel E y u ∧ u.oneCell' = true

theorem RowRel.set {E : Env} {sz : Nat} {es : List AV} {arr : Array Value} (h : RowRel E sz es arr) {i : Nat} (hi : i < es.length) {x : AV} {v : Value} (hx : Rel E x v) (hel : ElemOk sz x) :
    (i * sz + v.cells.size ≤ arr.size) ∧ RowRel E sz (es.set i x) (v.cells.zipIdx.foldl (fun cs (x : Value × Nat) => cs.setIfInBounds (i * sz + x.2) x.1) arr) := by
  obtain ⟨c1, c2⟩ := hx.cells hel.2
  have hmul : i * sz + sz ≤ es.length * sz := by
    have : (i + 1) * sz ≤ es.length * sz := Nat.mul_le_mul_right _ hi
    rw [Nat.add_mul] at this; omega
  have hfit : i * sz + v.cells.size ≤ arr.size := by rw [c1, hel.1, h.1]; exact hmul
  obtain ⟨s1, s2⟩ := fold_get (i * sz) v.cells arr hfit
  refine ⟨hfit, by rw [s1, h.1]; simp, ?_, ?_⟩
  · intro y hy
    rcases List.mem_or_eq_of_mem_set hy with hy | hy
    · exact h.2.1 y hy
    · rw [hy]; exact hel
  · intro i' y hy j z hz
    rw [s2, c1, hel.1]
    rw [List.getElem?_set] at hy
    by_cases hii : i = i'
    · subst hii
      simp only [if_true, hi] at hy
      cases hy
      have hj : j < sz := by rw [← hel.1]; exact (List.getElem?_eq_some_iff.1 hz).1
      rw [if_pos (by omega), show i * sz + j - i * sz = j by omega]
      exact c2 j z hz
    · rw [if_neg hii] at hy
      have hj : j < sz := by rw [← (h.2.1 y (List.mem_of_getElem? hy)).1]; exact (List.getElem?_eq_some_iff.1 hz).1
      rw [if_neg ?_]
      · exact h.2.2 i' y hy j z hz
      · intro q
        by_cases hlt : i' < i
        · have : (i' + 1) * sz ≤ i * sz := Nat.mul_le_mul_right _ hlt
          rw [Nat.add_mul] at this; omega
        · have : (i + 1) * sz ≤ i' * sz := Nat.mul_le_mul_right _ (by omega)
          rw [Nat.add_mul] at this; omega

theorem rows_fill {E : Env} {sz : Nat} : ∀ (ps : List (Nat × AV)) (vs : List (Nat × Value)) (es : List AV) (arr : Array Value), RowRel E sz es arr → ps.length = vs.length →
    (∀ (k : Nat) (p : Nat × AV) (q : Nat × Value), ps[k]? = some p → vs[k]? = some q → p.1 = q.1 ∧ Rel E p.2 q.2) → (∀ p ∈ ps, ElemOk sz p.2 ∧ p.1 < es.length) →
    ∃ arr', Instr.fill (fun i => some (i * sz, sz)) arr vs = some arr' ∧ RowRel E sz (ps.foldl (fun es p => es.set p.1 p.2) es) arr'
  | [], vs, es, arr, h, hl, _, _ => by
    have : vs = [] := List.eq_nil_of_length_eq_zero (by simpa using hl.symm)
    subst this
    exact ⟨arr, rfl, h⟩
  | p :: ps, [], es, arr, h, hl, _, _ => by simp at hl
  | p :: ps, q :: vs, es, arr, h, hl, hrel, hok => by
    obtain ⟨e1, e2⟩ := hrel 0 p q rfl rfl
    obtain ⟨o1, o2⟩ := hok p (by simp)
    obtain ⟨f1, f2⟩ := h.set o2 e2 o1
    obtain ⟨arr', g1, g2⟩ := rows_fill ps vs _ _ f2 (by simpa using hl) (fun k a b ha hb => hrel (k + 1) a b (by simpa using ha) (by simpa using hb)) (fun a ha => ⟨(hok a (by simp [ha])).1, by simp; exact (hok a (by simp [ha])).2⟩)
    refine ⟨arr', ?_, g2⟩
    obtain ⟨c1, _⟩ := e2.cells o1.2
    cases q with
    | mk i v =>
      simp only at e1 e2 f1 c1
      subst e1
      simp only [Instr.fill]
      rw [if_neg (by simp [c1, o1.1]; rw [c1, o1.1] at f1; omega)]
      exact g1

/-- Fresh elements. -/
theorem RowRel.zeros {E : Env} {sz : Nat} {z : AV} {zv : Value} (hz : Rel E z zv) (hel : ElemOk sz z) (n : Nat) (arr : Array Value) (hs : arr.size = n * sz)
    (ha : ∀ k, k < n * sz → arr[k]? = zv.cells[k % sz]?) : RowRel E sz (List.replicate n z) arr := by
  obtain ⟨c1, c2⟩ := hz.cells hel.2
  refine ⟨by simpa using hs, fun x hx => by rw [List.eq_of_mem_replicate hx]; exact hel, ?_⟩
  intro i x hx j y hy
  have hi : i < n := by have := (List.getElem?_eq_some_iff.1 hx).1; simpa using this
  have ex : x = z := List.eq_of_mem_replicate (List.mem_of_getElem? hx)
  subst ex
  have hj : j < sz := by rw [← hel.1]; exact (List.getElem?_eq_some_iff.1 hy).1
  obtain ⟨u, hu, hr, ho⟩ := c2 j y hy
  refine ⟨u, ?_, hr, ho⟩
  rw [ha _ (mul_lt hi hj), Nat.mul_comm, Nat.mul_add_mod, Nat.mod_eq_of_lt hj]
  exact hu

/-! ### Constants -/

def ofC1 : Value → AV
  | .bool b => .bool b
  | .int k n => .int k n
  | .string s => .str s
  | .pointer none => .nilp
  | .slice none 0 0 => .nils
  | .nilFunc => .nilf
  | v => .raw v

def ofC : Value → AV
  | .agg cs => if cs.all Value.oneCell' = true then .agg (cs.toList.map ofC1) else .raw (.agg cs)
  | v => ofC1 v

theorem Rel_ofC1 (E : Env) (v : Value) : Rel E (ofC1 v) v := by
  unfold ofC1
  split <;> first | exact .bool _ | exact .int _ _ | exact .str _ | exact .nilp | exact .nils | exact .nilf | exact .raw _

theorem one_ofC1 {v : Value} (h : v.oneCell' = true) : (ofC1 v).one = true := by
  unfold ofC1
  split <;> first | rfl | exact h

theorem Rel_ofC (E : Env) (v : Value) : Rel E (ofC v) v := by
  unfold ofC
  split
  · rename_i cs
    split
    · rename_i h
      have h' : ∀ u ∈ cs.toList, u.oneCell' = true := by
        intro u hu
        have := Array.all_eq_true'.1 h u (Array.mem_toList_iff.1 hu)
        exact this
      refine .agg _ _ (by simp) ?_ ?_
      · intro j y hy
        rw [List.getElem?_map] at hy
        cases hc : cs.toList[j]? with
        | none => simp [hc] at hy
        | some u => simp [hc] at hy; rw [← hy]; exact one_ofC1 (h' u (List.mem_of_getElem? hc))
      · intro j y u hy hu
        rw [List.getElem?_map] at hy
        have : cs.toList[j]? = some u := by simpa using hu
        simp [this] at hy
        rw [← hy]; exact Rel_ofC1 E u
    · exact .raw _
  · exact Rel_ofC1 E _

end Go.Gv
