/- Each abstract operation is done by the model's own operation: appends, loads, stores. No condition beyond those that each law names. -/
import Derived.Test.YthhgjncefjnogaaGv3
import Derived.Laws.MakeOwn
import Derived.Laws.StructEq
set_option linter.unusedVariables false
set_option linter.unusedSimpArgs false
namespace Go.Gv
open Go.RowKit

/-- What an operation has done. -/
def Done (B : Nat) (W : World) (E : Env) (st : Nat) (s : Result Next) (e : Eff) (h : Hp) : Prop :=
  ∃ v w' E', (s = .ok (.value v) w' ∨ (s = .ok .skip w' ∧ v = undef)) ∧ E.le E' ∧ (∀ x, E'.u x → E.u x ∨ x = st) ∧ (∀ b o, b < B → E'.K b o = E.K b o) ∧ HConc E' B (h.app e) w' ∧ Below B W w' ∧ Rel E' e.v v

theorem Done.pure {B : Nat} {W : World} {E : Env} {st : Nat} {s : Result Next} {h : Hp} {w : World} {v : Value} {x : AV} (H : HConc E B h w) (hW : Below B W w) (hs : s = .ok (.value v) w) (hr : Rel E x v) :
    Done B W E st s { v := x } h := ⟨v, w, E, .inl hs, .refl E, fun _ h => .inl h, fun _ _ _ => rfl, H, hW, hr⟩

/-! ### Appending -/

structure Grew (w w' : World) (v v' : Value) (k : Nat) : Prop where
  os : w'.os = w.os
  tape : w'.tape = w.tape
  output : w'.output = w.output
  size : w.heap.size ≤ w'.heap.size
  block : ∀ b, b < w.heap.size → v.ownBlock ≠ some b → w'.heap[b]? = w.heap[b]?
  kept : ∀ g j u, v.ownBlock = some g → j < k → w.cell? ⟨g, j, none⟩ = some u → w'.cell? ⟨g, j, none⟩ = some u
  own : v'.ownBlock = v.ownBlock ∨ ∃ g', v'.ownBlock = some g' ∧ w.heap.size ≤ g'

theorem run_append_gv {P : Program} (w : World) (B : Nat) (t ty e : TypeId) (i : TypeInfo) (z : Value) (sz : Nat) (ht : P.underlying t = some (.slice e)) (hi : P.info? e = some i) (hz : i.zero = some z)
    (hsz : i.size = sz) (hzs : z.cells.size = sz) (h0 : 0 < sz) (v : Value) (n : Nat) (cs : List Value) (hown : w.ownsRow B e sz v n cs) (hB : B ≤ w.heap.size)
    (u : Value) (m : Nat) (news : List Value) (hu : ∃ a c, u = .slice a m c ∧ ((a = none ∧ m = 0) ∨ ∃ ad, a = some ad ∧ ∀ j x, news[j]? = some x → w.cell? (ad.add j) = some x))
    (hl : news.length = m * sz) (h1 : ∀ x ∈ news, x.oneCell' = true) (h63 : n + m ≤ maxLen) (hby : (n + m) * i.bytes ≤ 140737488355328) :
    ∃ v' w', (Builtin.append_ #[t, t] ty #[v, u]).run P w = .ok v' w' ∧ w'.ownsRow B e sz v' (n + m) (cs ++ news) ∧ Grew w w' v v' (n * sz) := by
  subst hsz
  obtain ⟨a, c, rfl, hu⟩ := hu
  have hsmall : n + m ≤ 9223372036854775807 := by simp only [maxLen] at h63; omega
  have same : w.ownsRow B e i.size v (n + m) (cs ++ news) → m = 0 → ∃ v' w', Result.ok v w = .ok v' w' ∧ w'.ownsRow B e i.size v' (n + m) (cs ++ news) ∧ Grew w w' v v' (n * i.size) := fun h _ =>
    ⟨v, w, rfl, h, ⟨rfl, rfl, rfl, Nat.le_refl _, fun _ _ _ => rfl, fun _ _ _ _ _ h => h, .inl rfl⟩⟩
  by_cases hm : m = 0
  · -- nothing to add
    subst hm
    have hn : news = [] := List.eq_nil_of_length_eq_zero (by simpa using hl)
    subst hn
    have hrun : (Builtin.append_ #[t, t] ty #[v, .slice a 0 c]).run P w = .ok v w := by
      rcases hown.2 with ⟨rfl, hn⟩ | ⟨g, cap, cur, rfl, hbg, hg, hnc, _⟩
      · cases a <;> simp [Builtin.append_, run_underlying ht, sizeOf, typeInfo, hi, Builtin.lenOf, Builtin.firstCells, loadCells, loadCellsFrom]
      · cases a <;> simp [Builtin.append_, run_underlying ht, sizeOf, typeInfo, hi, Builtin.lenOf, Builtin.firstCells, loadCells, loadCellsFrom, hnc, storeCells]
    rw [hrun]
    exact same (by simpa using hown) rfl
  · obtain ⟨ad, rfl, hnews⟩ := hu.resolve_left (fun h => hm h.2)
    have hlen : (cs ++ news).length = (n + m) * i.size := by rw [List.length_append, hown.1, hl, Nat.add_mul]
    have grown : ∀ (old : Nat), old < n + m →
        (w.drew.alloc (.cells (cs.toArray ++ news.toArray ++ Builtin.zeroCells z.cells (grownCap w (n + m) old e - (n + m))) e)).ownsRow B e i.size
          (.slice (some ⟨w.heap.size, 0, none⟩) (n + m) (grownCap w (n + m) old e)) (n + m) (cs ++ news) ∧
        Grew w (w.drew.alloc (.cells (cs.toArray ++ news.toArray ++ Builtin.zeroCells z.cells (grownCap w (n + m) old e - (n + m))) e)) v (.slice (some ⟨w.heap.size, 0, none⟩) (n + m) (grownCap w (n + m) old e)) (n * i.size) := by
      intro old ho
      have hge := grownCap_ge w (n + m) old e
      have hcm : grownCap w (n + m) old e ≤ maxLen := grownCap_le_maxLen w (n + m) old e h63
      refine ⟨⟨hlen, .inr ⟨w.heap.size, _, _, rfl, hB, heap_alloc_new w.drew _, hge, hcm, ?_, ?_⟩⟩, ⟨rfl, rfl, rfl, by simp, fun k hk _ => heap_alloc_old w.drew _ k hk, ?_, .inr ⟨w.heap.size, rfl, Nat.le_refl _⟩⟩⟩
      · simp only [Array.size_append, List.size_toArray, size_zeroCells, hzs, hown.1, hl, ← Nat.add_mul]
        congr 1
        omega
      · simp only [Array.toList_append, List.append_assoc]
        rw [← List.append_assoc, ← hlen]
        exact List.take_left
      · intro g j u hg hj hc
        have hlt := World.block_lt_of_cell? w _ hc
        rw [World.cell?_alloc_lt w.drew _ _ (by simpa using hlt)]
        exact hc
    rcases hown.2 with ⟨rfl, rfl⟩ | ⟨g, cap, cur, rfl, hbg, hg, hnc, hcm, hcs, htake⟩
    · have hx : cs = [] := List.eq_nil_of_length_eq_zero (by simpa using hown.1)
      subst hx
      have hr := run_append_nil (P := P) w t ty e i z ht hi hz ad m c news hl hnews (by omega) (by omega) (by have hb := hby; simp only [Nat.zero_add] at hb; omega)
      have hgr := grown 0 (by omega)
      simp only [Nat.zero_add, List.nil_append, Array.empty_append] at hgr ⊢
      exact ⟨_, _, hr, hgr.1, hgr.2⟩
    · by_cases hroom : n + m ≤ cap
      · have hfit : n * i.size + news.length ≤ cur.size := by rw [hl, hcs, ← Nat.add_mul]; exact Nat.mul_le_mul_right _ hroom
        have hr := run_append_room (P := P) w t ty e i ht hi g n cap cur hg ad m c news hl hnews h1 hroom hfit
        have hlc : cs.length = n * i.size := hown.1
        refine ⟨_, _, hr, ⟨hlen, .inr ⟨g, cap, _, rfl, hbg, setRow_heap w g cur _ e _ hg, hroom, hcm, ?_, ?_⟩⟩, ⟨rfl, rfl, rfl, by simp, fun k hk hne => setRow_other w g k _ (fun q => hne (by simp [Value.ownBlock, q])), ?_, .inl rfl⟩⟩
        · simp only [List.size_toArray, List.length_append, List.length_take, List.length_drop, Array.length_toList]
          omega
        · rw [htake, ← hlen]
          exact List.take_left
        · intro g' j u hg' hj hc
          have hgg : g = g' := by simpa [Value.ownBlock] using hg'
          subst hgg
          rw [cell_setRow_same w g j cur _ e (0, 0) hg]
          rw [cell_of_row w g j cur e (0, 0) hg] at hc
          have hjl : j < cur.size := (Array.getElem?_eq_some_iff.1 hc).1
          simp only [List.getElem?_toArray, List.append_assoc]
          rw [List.getElem?_append_left (by simp; omega), List.getElem?_take, if_pos hj]
          simpa using hc
      · have holds : ∀ j x, cs[j]? = some x → w.cell? ((⟨g, 0, none⟩ : Addr).add j) = some x := hown.cells (g := g) rfl
        have hr := run_append_grow (P := P) w t ty e i z ht hi hz ⟨g, 0, none⟩ n cap cs hown.1 holds ad m c news hl hnews (by omega) (by omega) (growslice_fits (by omega) hby)
        have hgr := grown cap (by omega)
        exact ⟨_, _, hr, hgr.1, hgr.2⟩

/-- A slice whose elements are these, in cells that can be read. -/
def Src (E : Env) (w : World) (sz : Nat) (ys : List AV) (u : Value) : Prop :=
  ∃ (a : Option Addr) (c : Nat) (news : List Value), u = .slice a ys.length c ∧ ys.length ≤ c ∧ news.length = ys.length * sz ∧ (∀ y ∈ ys, ElemOk sz y) ∧ (∀ v ∈ news, v.oneCell' = true) ∧
    ((a = none ∧ ys = []) ∨ ∃ ad, a = some ad ∧ ∀ (j : Nat) (v : Value), news[j]? = some v → w.cell? (ad.add j) = some v) ∧
    ∀ (i : Nat) (y : AV), ys[i]? = some y → ∀ (j : Nat) (z : AV), y.cells[j]? = some z → ∃ v, news[i * sz + j]? = some v ∧ Rel E.cl z v

/-- Where a list's elements are read. -/
theorem src_of {E : Env} {B : Nat} {h : Hp} {w : World} (H : HConc E B h w) {x : AV} {u : Value} (hu : Rel E x u) {sz : Nat} {ys : List AV} (hx : listOf h.blk sz x = some ys) :
    Src E w sz ys u := by
  have empty : ∀ a c, u = .slice a 0 c → ys = [] → Src E w sz ys u := by
    intro a c e1 e2
    subst e1 e2
    exact ⟨a, c, [], rfl, Nat.zero_le _, by simp, by simp, by simp, by cases a <;> simp, by simp⟩
  -- elements in cells that are read by a function
  have main : ∀ (b o c : Nat) (g : Nat → Nat → Value) (spot : Addr), spot = ⟨b, o, none⟩ → u = .slice (some spot) ys.length c → ys.length ≤ c → (∀ y ∈ ys, ElemOk sz y) →
      (∀ i y, ys[i]? = some y → ∀ j z, y.cells[j]? = some z → w.cell? ⟨b, o + i * sz + j, none⟩ = some (g i j) ∧ Rel E.cl z (g i j)) → Src E w sz ys u := by
    intro b o c g spot hspot e1 hcap hel hg
    subst hspot
    have parts : ∀ k, k < ys.length * sz → k / sz < ys.length ∧ k % sz < sz ∧ k / sz * sz + k % sz = k := by
      intro k hk
      have hs : 0 < sz := by
        rcases Nat.eq_zero_or_pos sz with e | e
        · subst e; simp at hk
        · exact e
      exact ⟨Nat.div_lt_of_lt_mul (by rw [Nat.mul_comm]; exact hk), Nat.mod_lt _ hs, by have := Nat.div_add_mod k sz; rw [Nat.mul_comm] at this; exact this⟩
    have at_ : ∀ i y, ys[i]? = some y → ∀ j z, y.cells[j]? = some z → ((List.range (ys.length * sz)).map fun k => g (k / sz) (k % sz))[i * sz + j]? = some (g i j) := by
      intro i y hy j z hz
      have hi := (List.getElem?_eq_some_iff.1 hy).1
      have hj : j < sz := by rw [← (hel y (List.mem_of_getElem? hy)).1]; exact (List.getElem?_eq_some_iff.1 hz).1
      have hlt := mul_lt hi hj
      rw [List.getElem?_map, List.getElem?_range hlt]
      have hs : 0 < sz := by omega
      have d1 : (i * sz + j) / sz = i := by rw [Nat.mul_comm, Nat.mul_add_div hs, Nat.div_eq_of_lt hj]; simp
      have d2 : (i * sz + j) % sz = j := by rw [Nat.mul_comm, Nat.mul_add_mod]; exact Nat.mod_eq_of_lt hj
      simp [d1, d2]
    refine ⟨some ⟨b, o, none⟩, c, (List.range (ys.length * sz)).map fun k => g (k / sz) (k % sz), e1, hcap, by simp, hel, ?_, .inr ⟨⟨b, o, none⟩, rfl, ?_⟩, ?_⟩
    · intro v hv
      rw [List.mem_map] at hv
      obtain ⟨k, hk, rfl⟩ := hv
      obtain ⟨p1, p2, p3⟩ := parts k (List.mem_range.1 hk)
      obtain ⟨y, hy⟩ : ∃ y, ys[k / sz]? = some y := ⟨_, List.getElem?_eq_getElem p1⟩
      have hym := hel y (List.mem_of_getElem? hy)
      obtain ⟨z, hz⟩ : ∃ z, y.cells[k % sz]? = some z := ⟨_, List.getElem?_eq_getElem (by rw [hym.1]; exact p2)⟩
      exact (hg _ y hy _ z hz).2.one (hym.2 z (List.mem_of_getElem? hz))
    · intro k v hk
      have hk' : k < ys.length * sz := by have := (List.getElem?_eq_some_iff.1 hk).1; simpa using this
      obtain ⟨p1, p2, p3⟩ := parts k hk'
      obtain ⟨y, hy⟩ : ∃ y, ys[k / sz]? = some y := ⟨_, List.getElem?_eq_getElem p1⟩
      have hym := hel y (List.mem_of_getElem? hy)
      obtain ⟨z, hz⟩ : ∃ z, y.cells[k % sz]? = some z := ⟨_, List.getElem?_eq_getElem (by rw [hym.1]; exact p2)⟩
      have e2 := at_ _ y hy _ z hz
      rw [p3] at e2
      rw [e2] at hk
      cases hk
      rw [Addr.add_mk]
      have := (hg _ y hy _ z hz).1
      rwa [Nat.add_assoc, p3] at this
    · intro i y hy j z hz
      exact ⟨g i j, at_ i y hy j z hz, (hg i y hy j z hz).2⟩
  have lstcase : ∀ s xs, s = sz → xs = ys → Rel E (.lst s xs) u → Src E w sz ys u := by
    intro s xs e1 e2 hr
    subst e1 e2
    cases hr with
    | lst0 _ a cap => exact empty a cap rfl rfl
    | lst _ b o _ cap f hcap hsz hk h1 hr =>
      have hel : ∀ y ∈ xs, ElemOk s y := by
        intro y hy
        refine ⟨hsz y hy, fun z hz => ?_⟩
        obtain ⟨i, hi⟩ := List.getElem?_of_mem hy
        obtain ⟨j, hj⟩ := List.getElem?_of_mem hz
        exact h1 i y hi j z hj
      refine main b o cap f ⟨b, o, none⟩ rfl rfl hcap hel ?_
      intro i y hy j z hz
      have hi := (List.getElem?_eq_some_iff.1 hy).1
      have hj : j < s := by rw [← (hel y (List.mem_of_getElem? hy)).1]; exact (List.getElem?_eq_some_iff.1 hz).1
      exact ⟨H.K _ _ _ (hk i j hi hj), hr i y hy j z hz⟩
  cases x with
  | nils => simp [listOf] at hx; subst hx; exact empty none 0 hu.nils_inv rfl
  | lst s xs =>
    simp only [listOf] at hx
    split at hx
    · rename_i e; cases hx; exact lstcase s ys e rfl hu
    · cases hx
  | acc nm st s xs =>
    simp only [listOf] at hx
    split at hx
    · rename_i e; cases hx
      cases hu with
      | acc _ _ _ _ _ _ _ hl => exact lstcase s ys e rfl hl
    · cases hx
  | sl nm st s off len =>
    simp only [listOf] at hx
    split at hx
    · rename_i e
      subst e
      unfold getB at hx
      split at hx
      · rename_i b hb
        split at hx
        · rename_i hst
          simp only [Option.bind_some] at hx
          split at hx
          · rename_i hle'
            obtain ⟨hle, hcl⟩ := hle'
            cases hx
            have hbk := H.bk nm b hb
            obtain ⟨cur, e, hg, hsz, hr⟩ := hbk.row
            rw [hst.1, hst.2] at *
            cases hu with
            | sl _ _ _ _ _ cap a hus hcap hc ha =>
              have hlen : ((b.es.drop off).take len).length = len := by simp; omega
              by_cases hl0 : len = 0
              · refine empty a cap (by rw [hl0]) (by simp [hl0])
              · have ea := ha (by omega)
                subst ea
                have hmem : ∀ y ∈ (b.es.drop off).take len, y ∈ b.es := fun y hy => List.mem_of_mem_drop (List.mem_of_mem_take hy)
                have hel' : ∀ y ∈ (b.es.drop off).take len, ElemOk s y := by
                  intro y hy; exact hbk.el y (hmem y hy)
                rw [hlen] at main
                refine main (E.m st).1 ((E.m st).2 + off * s) cap (fun i j => (cur[(E.m st).2 + (off + i) * s + j]?).getD .nilFunc) _ rfl rfl hcap hel' ?_
                intro i y hy j z hz
                have hi : i < len := by have := (List.getElem?_eq_some_iff.1 hy).1; omega
                have hy' : b.es[off + i]? = some y := by
                  rw [List.getElem?_take, if_pos hi, List.getElem?_drop] at hy
                  exact hy
                obtain ⟨v, hv, hrel⟩ := hr (off + i) y hy' j z hz
                have e1 : (E.m st).2 + off * s + i * s + j = (E.m st).2 + (off + i) * s + j := by rw [Nat.add_mul]; omega
                rw [e1, cell_of_row w _ _ cur e (0, 0) hg, hv]
                have hz1 : z.cl1 = true := by
                  have q := List.all_eq_true.1 hcl y (List.mem_of_getElem? hy)
                  exact List.all_eq_true.1 q z (List.mem_of_getElem? hz)
                exact ⟨rfl, Rel.of_cl1 (E := E) (E' := E.cl) (fun _ _ _ q => q) hrel hz1⟩
          · cases hx
        · cases hx
      · cases hx
    · cases hx
  | _ => simp [listOf] at hx

end Go.Gv
