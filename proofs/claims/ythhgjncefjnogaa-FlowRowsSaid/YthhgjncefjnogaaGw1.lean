/- Each abstract operation is done by the model's own operation: appends to, and copies into, blocks that may be written; shifts; comparisons with nil. No condition beyond those that each law names. -/
import Derived.Test.YthhgjncefjnogaaGv6
import Derived.Deep.AppendSrc
set_option linter.unusedVariables false
set_option linter.unusedSimpArgs false
namespace Go.Gv
open Go.RowKit

theorem seg_get' {α : Type} (l vs : List α) (k p : Nat) (h : k ≤ l.length) :
    (l.take k ++ vs ++ l.drop (k + vs.length))[p]? = if p < k then l[p]? else if p < k + vs.length then vs[p - k]? else l[p]? := by
  have hk : (l.take k).length = k := by simp; omega
  by_cases h1 : p < k
  · rw [if_pos h1, List.append_assoc, List.getElem?_append_left (by omega), List.getElem?_take, if_pos h1]
  · rw [if_neg h1]
    by_cases h2 : p < k + vs.length
    · rw [if_pos h2, List.append_assoc, List.getElem?_append_right (by omega), hk, List.getElem?_append_left (by omega)]
    · rw [if_neg h2, List.getElem?_append_right (by simp; omega), List.getElem?_drop]
      congr 1
      simp
      omega

/-- Cells of a row that hold elements. -/
def RowAt (E : Env) (sz o : Nat) (es : List AV) (cur : Array Value) : Prop :=
  ∀ (i : Nat) (x : AV), es[i]? = some x → ∀ (j : Nat) (y : AV), x.cells[j]? = some y → ∃ u, cur[o + i * sz + j]? = some u ∧ Rel E y u

theorem RowAt.splice {E : Env} {sz o : Nat} {es ys : List AV} {cur : Array Value} {news : List Value} (hr : RowAt E sz o es cur) (p : Nat) (hp : p ≤ es.length) (hel : ∀ x ∈ es, ElemOk sz x) (hyel : ∀ y ∈ ys, ElemOk sz y)
    (hn : news.length = ys.length * sz) (hy : ∀ (i : Nat) (y : AV), ys[i]? = some y → ∀ (j : Nat) (z : AV), y.cells[j]? = some z → ∃ v, news[i * sz + j]? = some v ∧ Rel E z v)
    (hfit : o + p * sz + news.length ≤ cur.size) :
    (cur.toList.take (o + p * sz) ++ news ++ cur.toList.drop (o + p * sz + news.length)).toArray.size = cur.size ∧
    RowAt E sz o (es.take p ++ ys ++ es.drop (p + ys.length)) (cur.toList.take (o + p * sz) ++ news ++ cur.toList.drop (o + p * sz + news.length)).toArray := by
  refine ⟨by simp only [List.size_toArray, List.length_append, List.length_take, List.length_drop, Array.length_toList]; omega, ?_⟩
  intro i x hx j y hyj
  have hjsz : ∀ x, ElemOk sz x → x.cells[j]? = some y → j < sz := fun x hx hy => by rw [← hx.1]; exact (List.getElem?_eq_some_iff.1 hy).1
  rw [seg_get' es ys p i hp] at hx
  rw [List.getElem?_toArray, seg_get' cur.toList news (o + p * sz) _ (by simp only [Array.length_toList]; omega), hn]
  by_cases h1 : i < p
  · rw [if_pos h1] at hx
    have hj := hjsz x (hel x (List.mem_of_getElem? hx)) hyj
    have : (i + 1) * sz ≤ p * sz := Nat.mul_le_mul_right _ h1
    rw [Nat.add_mul] at this
    rw [if_pos (by omega)]
    simpa using hr i x hx j y hyj
  · rw [if_neg h1] at hx
    have e1 : p * sz ≤ i * sz := Nat.mul_le_mul_right _ (by omega)
    by_cases h2 : i < p + ys.length
    · rw [if_pos h2] at hx
      have hj := hjsz x (hyel x (List.mem_of_getElem? hx)) hyj
      have e2 : (i + 1) * sz ≤ (p + ys.length) * sz := Nat.mul_le_mul_right _ h2
      rw [Nat.add_mul, Nat.add_mul] at e2
      rw [if_neg (by omega), if_pos (by omega)]
      obtain ⟨v, hv, hrel⟩ := hy _ x hx j y hyj
      refine ⟨v, ?_, hrel⟩
      rw [← hv]
      congr 1
      rw [Nat.sub_mul]
      omega
    · rw [if_neg h2] at hx
      have e2 : (p + ys.length) * sz ≤ i * sz := Nat.mul_le_mul_right _ (by omega)
      rw [Nat.add_mul] at e2
      rw [if_neg (by omega), if_neg (by omega)]
      simpa using hr i x hx j y hyj

/-- A slice whose elements are these, in cells that can be read; what they hold may change later. -/
def SrcM (E : Env) (w : World) (sz : Nat) (ys : List AV) (u : Value) : Prop :=
  ∃ (a : Option Addr) (c : Nat) (news : List Value), u = .slice a ys.length c ∧ news.length = ys.length * sz ∧ (∀ y ∈ ys, ElemOk sz y) ∧ (∀ v ∈ news, v.oneCell' = true) ∧
    ((a = none ∧ ys = []) ∨ ∃ ad : Addr, a = some ad ∧ ∀ (j : Nat) (v : Value), news[j]? = some v → w.cell? (ad.add j) = some v) ∧
    ∀ (i : Nat) (y : AV), ys[i]? = some y → ∀ (j : Nat) (z : AV), y.cells[j]? = some z → ∃ v, news[i * sz + j]? = some v ∧ Rel E z v

theorem srcM_of {E : Env} {B : Nat} {h : Hp} {w : World} (H : HConc E B h w) {x : AV} {u : Value} (hu : Rel E x u) {sz : Nat} {ys : List AV} (hx : listM h.blk sz x = some ys) :
    SrcM E w sz ys u := by
  have weak : listOf h.blk sz x = some ys → SrcM E w sz ys u := fun hl => by
    obtain ⟨a, c, news, h1, _, h3, h4, h5, h6, h7⟩ := src_of H hu hl
    exact ⟨a, c, news, h1, h3, h4, h5, h6, fun i y hy j z hz => let ⟨v, hv, hr⟩ := h7 i y hy j z hz; ⟨v, hv, hr.mono E.cl_le⟩⟩
  cases x with
  | nils => exact weak hx
  | lst s xs => exact weak hx
  | acc nm st s xs => exact weak hx
  | sl nm st s off len =>
    simp only [listM] at hx
    split at hx
    · rename_i e
      subst e
      simp only [Option.bind_eq_some_iff] at hx
      obtain ⟨es, hes, hx⟩ := hx
      split at hx
      · rename_i hle
        cases hx
        have hb := getB_some hes
        have hbk := H.bk nm _ hb
        obtain ⟨cur, e, hg, hsz, hr⟩ := hbk.row
        simp only at hg hsz hr
        cases hu with
        | sl _ _ _ _ _ cap a hus hcap hc ha =>
          have hlen : ((es.drop off).take len).length = len := by simp; omega
          by_cases hl0 : len = 0
          · subst hl0
            refine ⟨a, cap, [], by simp, by simp, by simp, by simp, ?_, by simp⟩
            cases a with
            | none => exact .inl ⟨rfl, by simp⟩
            | some ad => exact .inr ⟨ad, rfl, by simp⟩
          · have ea := ha (by omega)
            subst ea
            have hmem : ∀ y ∈ (es.drop off).take len, y ∈ es := fun y hy => List.mem_of_mem_drop (List.mem_of_mem_take hy)
            have hel' : ∀ y ∈ (es.drop off).take len, ElemOk s y := fun y hy => hbk.el y (hmem y hy)
            have hfit : (E.m st).2 + (off + len) * s ≤ cur.size := by
              have : (off + len) * s ≤ E.cp st * s := Nat.mul_le_mul_right _ (by have := hbk.len; simp only at this; omega)
              omega
            have hidx : ∀ (i : Nat) (y : AV), ((es.drop off).take len)[i]? = some y → i < len ∧ es[off + i]? = some y := by
              intro i y hy
              have hi : i < len := by have := (List.getElem?_eq_some_iff.1 hy).1; omega
              rw [List.getElem?_take, if_pos hi, List.getElem?_drop] at hy
              exact ⟨hi, hy⟩
            have parts : ∀ k, k < len * s → k / s < len ∧ k % s < s ∧ k / s * s + k % s = k := by
              intro k hk
              have hs : 0 < s := by
                rcases Nat.eq_zero_or_pos s with e | e
                · subst e; simp at hk
                · exact e
              exact ⟨Nat.div_lt_of_lt_mul (by rw [Nat.mul_comm]; exact hk), Nat.mod_lt _ hs, by have := Nat.div_add_mod k s; rw [Nat.mul_comm] at this; exact this⟩
            let news : List Value := (cur.toList.drop ((E.m st).2 + off * s)).take (len * s)
            have hnl : news.length = len * s := by
              simp only [news, List.length_take, List.length_drop, Array.length_toList]
              rw [Nat.add_mul] at hfit
              omega
            have hng : ∀ j, j < len * s → news[j]? = cur[(E.m st).2 + off * s + j]? := by
              intro j hj
              simp only [news, List.getElem?_take, if_pos hj, List.getElem?_drop, Array.getElem?_toList]
            refine ⟨some _, cap, news, by rw [hlen], by rw [hlen]; exact hnl, hel', ?_, .inr ⟨_, rfl, ?_⟩, ?_⟩
            · intro v hv
              obtain ⟨k, hk⟩ := List.getElem?_of_mem hv
              have hkl : k < len * s := by rw [← hnl]; exact (List.getElem?_eq_some_iff.1 hk).1
              obtain ⟨p1, p2, p3⟩ := parts k hkl
              obtain ⟨y, hy⟩ : ∃ y, ((es.drop off).take len)[k / s]? = some y := ⟨_, List.getElem?_eq_getElem (by rw [hlen]; exact p1)⟩
              have hym := hel' y (List.mem_of_getElem? hy)
              obtain ⟨z, hz⟩ : ∃ z, y.cells[k % s]? = some z := ⟨_, List.getElem?_eq_getElem (by rw [hym.1]; exact p2)⟩
              obtain ⟨v', hv', hrel⟩ := hr (off + k / s) y (hidx _ y hy).2 _ z hz
              rw [hng k hkl] at hk
              rw [show (E.m st).2 + (off + k / s) * s + k % s = (E.m st).2 + off * s + k by rw [Nat.add_mul]; omega, hk] at hv'
              cases hv'
              exact hrel.one (hym.2 z (List.mem_of_getElem? hz))
            · intro j v hv
              have hjl : j < len * s := by rw [← hnl]; exact (List.getElem?_eq_some_iff.1 hv).1
              rw [Addr.add_mk, cell_of_row w _ _ cur e (0, 0) hg, ← hng j hjl]
              exact hv
            · intro i y hy j z hz
              obtain ⟨hi, hy'⟩ := hidx i y hy
              have hj : j < s := by rw [← (hel' y (List.mem_of_getElem? hy)).1]; exact (List.getElem?_eq_some_iff.1 hz).1
              obtain ⟨v, hv, hrel⟩ := hr (off + i) y hy' j z hz
              refine ⟨v, ?_, hrel⟩
              rw [hng _ (mul_lt hi hj), ← hv]
              congr 1
              rw [Nat.add_mul]; omega
      · cases hx
    · cases hx
  | _ => simp [listM] at hx

/-- A block's row as a window of it. -/
theorem row_window {E : Env} {sz o off len : Nat} {es : List AV} {cur : Array Value} (h : RowAt E sz o es cur) : RowAt E sz (o + off * sz) ((es.drop off).take len) cur := by
  intro i x hx j y hy
  rw [List.getElem?_take] at hx
  split at hx
  · rw [List.getElem?_drop] at hx
    have := h (off + i) x hx j y hy
    rwa [show o + off * sz + i * sz + j = o + (off + i) * sz + j by rw [Nat.add_mul]; omega]
  · cases hx

/-- A block that lies where another one lay. -/
theorem HConc.reBlk {E : Env} {B : Nat} {h : Hp} {w w' : World} (H : HConc E B h w) {nm0 : Nat} {b0 : Blk} (hb0 : h.blk nm0 = some b0) (nm st sz off c : Nat) (hst : ¬ E.u st) (es : List AV) (cur' : Array Value) (e : TypeId)
    (hsz : sz = b0.sz) (hw' : w' = w.setRow (E.m b0.st).1 cur') (hold : ∃ cur, w.heap[(E.m b0.st).1]? = some (.cells cur e (0, 0)))
    (hel : ∀ x ∈ es, ElemOk sz x) (hcl : es.length ≤ c) (hfit : (E.m b0.st).2 + off * sz + c * sz ≤ cur'.size)
    (hr : RowAt E sz ((E.m b0.st).2 + off * sz) es cur') :
    HConc (E.withM st ((E.m b0.st).1, (E.m b0.st).2 + off * sz) c) B ((h.setB nm0 none).setB nm (some ⟨st, sz, es⟩)) w' := by
  obtain ⟨cur, hg⟩ := hold
  have hbk := H.bk nm0 b0 hb0
  have hE := Env.le_withM hst ((E.m b0.st).1, (E.m b0.st).2 + off * sz) c
  have em : (E.withM st ((E.m b0.st).1, (E.m b0.st).2 + off * sz) c).m st = ((E.m b0.st).1, (E.m b0.st).2 + off * sz) := upd_same _ _ _
  have ec : (E.withM st ((E.m b0.st).1, (E.m b0.st).2 + off * sz) c).cp st = c := upd_same _ _ _
  have H1 : HConc E B (h.setB nm0 none) w' := by
    subst hw'
    refine (H.dropB nm0).change ?_ ?_ ?_
    · intro b o v hk
      have hne : b ≠ (E.m b0.st).1 := fun q => by rw [q, hbk.noK o] at hk; cases hk
      rw [cell_setRow_other w _ _ _ hne]
      exact H.K b o v hk
    · intro n b hb'
      have : n ≠ nm0 ∧ h.blk n = some b := by
        simp only [Hp.setB, upd] at hb'
        split at hb'
        · simp at hb'
        · rename_i hne; exact ⟨hne, hb'⟩
      exact setRow_other w _ _ _ (H.bb n nm0 b _ this.1 this.2 hb0)
    · intro n t' g ht' hg'
      exact setRow_other w _ _ _ (fun q => H.bt nm0 n _ t' hb0 ht' (by rw [hg', q]))
  have H2 := H1.env hE H1.K (fun n b x j => (H1.bk n b x).noK j) (fun _ _ _ _ _ _ => rfl)
  refine (H2.dropB nm).putB ⟨st, sz, es⟩ (.inl rfl) ⟨by rw [em]; exact hbk.base, hel, by rw [ec]; exact hcl, ?_, by rw [em]; exact hbk.noK⟩ ?_ ?_
  · rw [em, ec]
    refine ⟨cur', e, by rw [hw']; exact setRow_heap w _ cur _ e _ hg, hfit, fun i x hx j y hy => ?_⟩
    obtain ⟨u, hu, hrel⟩ := hr i x hx j y hy
    exact ⟨u, hu, hrel.mono hE⟩
  · intro n b' hn hb'
    have : n ≠ nm0 ∧ h.blk n = some b' := by
      simp only [Hp.setB, upd] at hb'
      split at hb'
      · simp at hb'
      · rename_i hne; exact ⟨hne, hb'⟩
    rw [hE.m _ (H.bu n b' this.2), em]
    exact H.bb n nm0 b' b0 this.1 this.2 hb0
  · intro n t ht
    rw [hE.hd _ (H.tu n t ht), em]
    exact H.bt nm0 n b0 t hb0 ht

theorem hp_app_two (h : Hp) (v : AV) (n0 : Option Nat) (nm : Nat) (b : Blk) :
    h.app { v := v, wb := (match n0 with | some n => [(n, none)] | none => []) ++ [(nm, some b)] } = (match n0 with | some n => h.setB n none | none => h).setB nm (some b) := by
  cases n0 <;> rfl

/-- An append to a list in a block of its own. -/
theorem appw_done {P : Program} {B : Nat} {W : World} {E : Env} {h : Hp} {w : World} (H : HConc E B h w) (hW : Below B W w) (hB : B ≤ w.heap.size) (nm st sz : Nat) (t ty e : TypeId) (i : TypeInfo) (z : Value)
    (hst : ¬ E.u st) (ht : P.underlying t = some (.slice e)) (hi : P.info? e = some i) (hz : i.zero = some z) (hsz : i.size = sz) (hzs : z.cells.size = sz) (h0 : 0 < sz) (hb1 : 0 < i.bytes)
    (s x : AV) (vs vx : Value) (hs : Rel E s vs) (hx : Rel E x vx) (b : List AV × Option Nat) (hb : appwBase h.blk sz s = some b) (ys : List AV) (hys : listM h.blk sz x = some ys)
    (hne : b.2 = none → ys ≠ []) (hby : (b.1.length + ys.length) * i.bytes ≤ 140737488355328) :
    ∃ v' w' E', (Builtin.append_ #[t, t] ty #[vs, vx]).run P w = .ok v' w' ∧ E.le E' ∧ (∀ x, E'.u x → E.u x ∨ x = st) ∧ (∀ b o, b < B → E'.K b o = E.K b o) ∧
      HConc E' B (h.app { v := .sl nm st sz 0 (b.1.length + ys.length), wb := (match b.2 with | some n => [(n, none)] | none => []) ++ [(nm, some ⟨st, sz, b.1 ++ ys⟩)] }) w' ∧ Below B W w' ∧ Rel E' (.sl nm st sz 0 (b.1.length + ys.length)) v' := by
  subst hsz
  obtain ⟨a, c, news, rfl, hnl, hyel, hn1, hspot, hyr⟩ := srcM_of H hx hys
  have hsrc : Go.Src P i.size t (.slice a ys.length c) ys.length news w := by
    rcases hspot with ⟨rfl, rfl⟩ | ⟨ad, rfl, hc⟩
    · have : news = [] := List.eq_nil_of_length_eq_zero (by simpa using hnl)
      subst this
      exact Go.Src.ofNil w ht c
    · exact Go.Src.ofSlice w ht ad ys.length c news hnl hc hn1
  have hby63 : b.1.length + ys.length ≤ 140737488355328 := Nat.le_trans (Nat.le_mul_of_pos_right _ hb1) hby
  -- a new row
  have grow : ∀ (h1 : Hp) (base : Option Addr) (cap : Nat) (xs : List AV) (olds : List Value), HConc E B h1 w → xs = b.1 → vs = .slice base xs.length cap → olds.length = xs.length * i.size → (∀ x ∈ xs, ElemOk i.size x) →
      (∀ (k : Nat) (x : AV), xs[k]? = some x → ∀ (j : Nat) (y : AV), x.cells[j]? = some y → ∃ u, olds[k * i.size + j]? = some u ∧ Rel E y u) →
      (Builtin.firstCells i.size xs.length (.slice base xs.length cap)).run P w.drew = .ok olds.toArray w.drew → cap < xs.length + ys.length →
      ∃ v' w' E', (Builtin.append_ #[t, t] ty #[vs, .slice a ys.length c]).run P w = .ok v' w' ∧ E.le E' ∧ (∀ x, E'.u x → E.u x ∨ x = st) ∧ (∀ b o, b < B → E'.K b o = E.K b o) ∧
        HConc E' B (h1.setB nm (some ⟨st, i.size, b.1 ++ ys⟩)) w' ∧ Below B W w' ∧ Rel E' (.sl nm st i.size 0 (b.1.length + ys.length)) v' := by
    intro h1 base cap xs olds H1 hxs hvs hol hxel hor hold hcap
    subst hvs
    rw [← hxs] at hby63 hby ⊢
    have hrun := run_append_grow_src (P := P) w t t ty e i z ht hi hz base xs.length cap olds hold (.slice a ys.length c) ys.length news hsrc hcap (by omega) (growslice_fits (by omega) hby)
    have hge := grownCap_ge w (xs.length + ys.length) cap e
    have Hd : HConc E B h1 w.drew := H1.change H1.K (fun _ _ _ => rfl) (fun _ _ _ _ _ => rfl)
    have hsize : ((olds ++ news).toArray ++ Builtin.zeroCells z.cells (grownCap w (xs.length + ys.length) cap e - (xs.length + ys.length))).size = grownCap w (xs.length + ys.length) cap e * i.size := by
      simp only [Array.size_append, List.size_toArray, List.length_append, size_zeroCells, hzs, hol, hnl, ← Nat.add_mul]
      congr 1; omega
    refine ⟨_, _, E.withM st (w.heap.size, 0) (grownCap w (xs.length + ys.length) cap e), hrun, Env.le_withM hst _ _, fun s hs => hs.elim .inr .inl, fun _ _ _ => rfl, ?_, (hW.drew).alloc hB _, ?_⟩
    · refine Hd.newRow hB nm st i.size hst (xs ++ ys) _ e (fun x hx => (List.mem_append.1 hx).elim (hxel x) (hyel x)) _ (by rw [List.length_append]; exact hge) (by rw [hsize]; exact Nat.le_refl _) ?_
      intro k x hx j y hy
      have key : ∃ u, (olds ++ news)[k * i.size + j]? = some u ∧ Rel E y u := by
        by_cases hk : k < xs.length
        · rw [List.getElem?_append_left hk] at hx
          obtain ⟨u, hu, hrel⟩ := hor k x hx j y hy
          exact ⟨u, by rw [List.getElem?_append_left (List.getElem?_eq_some_iff.1 hu).1]; exact hu, hrel⟩
        · rw [List.getElem?_append_right (by omega)] at hx
          obtain ⟨u, hu, hrel⟩ := hyr _ x hx j y hy
          have e1 : k * i.size = xs.length * i.size + (k - xs.length) * i.size := by rw [← Nat.add_mul]; congr 1; omega
          refine ⟨u, ?_, hrel⟩
          rw [List.getElem?_append_right (by omega), hol, e1, show xs.length * i.size + (k - xs.length) * i.size + j - xs.length * i.size = (k - xs.length) * i.size + j by omega]
          exact hu
      obtain ⟨u, hu, hrel⟩ := key
      refine ⟨u, ?_, hrel⟩
      have hlt : k * i.size + j < (olds ++ news).toArray.size := by simpa using (List.getElem?_eq_some_iff.1 hu).1
      rw [Array.getElem?_append_left hlt]
      simpa using hu
    · have em : (E.withM st (w.heap.size, 0) (grownCap w (xs.length + ys.length) cap e)).m st = (w.heap.size, 0) := upd_same _ _ _
      have ec : (E.withM st (w.heap.size, 0) (grownCap w (xs.length + ys.length) cap e)).cp st = grownCap w (xs.length + ys.length) cap e := upd_same _ _ _
      refine .sl nm st i.size 0 _ _ _ (.inl rfl) hge (by rw [ec]; omega) (fun _ => ?_)
      rw [em]; simp
  rw [hp_app_two]
  cases s with
  | nils =>
    have hb' : b = ([], none) := by simpa [appwBase] using hb.symm
    subst hb'
    have hyne : ys ≠ [] := hne rfl
    have hpos : 0 < ys.length := List.length_pos_iff.2 hyne
    exact grow h none 0 [] [] H rfl (by rw [hs.nils_inv]; rfl) (by simp) (by simp) (by simp) (by exact run_firstCells_none w.drew i.size 0 0 0) (by simp; omega)
  | sl nm0 st0 s0 off len =>
    simp only [appwBase] at hb
    split at hb
    · rename_i es0
      subst es0
      simp only [Option.bind_eq_some_iff] at hb
      obtain ⟨es, hes, hb⟩ := hb
      split at hb
      · rename_i hle
        cases hb
        have hbs := getB_some hes
        have hbk := H.bk nm0 _ hbs
        obtain ⟨cur, e', hg, hszr, hr⟩ := hbk.row
        simp only at hg hszr hr
        have hcpl : es.length ≤ E.cp st0 := hbk.len
        have hwl : ((es.drop off).take len).length = len := by simp; omega
        have hwel : ∀ x ∈ (es.drop off).take len, ElemOk i.size x := fun x hx => hbk.el x (List.mem_of_mem_drop (List.mem_of_mem_take hx))
        have hrow0 : RowAt E i.size (E.m st0).2 es cur := hr
        have hwin := row_window (off := off) (len := len) hrow0
        cases hs with
        | sl _ _ _ _ _ cap ad hu hcap hc ha =>
          have hcapfit : (E.m st0).2 + off * i.size + cap * i.size ≤ cur.size := by
            have : (off + cap) * i.size ≤ E.cp st0 * i.size := Nat.mul_le_mul_right _ hc
            rw [Nat.add_mul] at this; omega
          by_cases hroom : len + ys.length ≤ cap
          · -- there is room
            have hfit : (E.m st0).2 + off * i.size + len * i.size + news.length ≤ cur.size := by
              have : (len + ys.length) * i.size ≤ cap * i.size := Nat.mul_le_mul_right _ hroom
              rw [Nat.add_mul] at this; omega
            obtain ⟨q1, q2⟩ := hwin.splice len (by omega) hwel hyel hnl hyr hfit
            have t1 : ((es.drop off).take len).take len = (es.drop off).take len := List.take_of_length_le (by omega)
            have t2 : ((es.drop off).take len).drop (len + ys.length) = [] := List.drop_of_length_le (by omega)
            rw [t1, t2, List.append_nil] at q2
            have hrun : (Builtin.append_ #[t, t] ty #[.slice ad len cap, .slice a ys.length c]).run P w =
                .ok (.slice ad (len + ys.length) cap) (w.setRow (E.m st0).1 (cur.toList.take ((E.m st0).2 + off * i.size + len * i.size) ++ news ++ cur.toList.drop ((E.m st0).2 + off * i.size + len * i.size + news.length)).toArray) := by
              by_cases hc0 : cap = 0
              · have hy0 : ys = [] := List.eq_nil_of_length_eq_zero (by omega)
                have hn0 : news = [] := List.eq_nil_of_length_eq_zero (by rw [hnl, hy0]; simp)
                have hl0 : len = 0 := by omega
                have hself : w.setRow (E.m st0).1 (cur.toList.take ((E.m st0).2 + off * i.size + len * i.size) ++ news ++ cur.toList.drop ((E.m st0).2 + off * i.size + len * i.size + news.length)).toArray = w := by
                  rw [hn0]
                  simp only [List.append_nil, List.length_nil, Nat.add_zero, List.take_append_drop, Array.toArray_toList]
                  exact setRow_self w _ cur e' (0, 0) hg
                rw [hself]
                subst hc0 hl0 hy0 hn0
                cases ad <;> cases a <;> simp [Builtin.append_, run_underlying ht, sizeOf, typeInfo, hi, Builtin.lenOf, Builtin.firstCells, loadCells, loadCellsFrom, storeCells]
              · rw [ha (by omega)]
                have hst := run_storeCells_at P (E.m st0).1 ((E.m st0).2 + off * i.size + len * i.size) e' news 0 cur w hg (by simpa using hfit) hn1
                simp only [Nat.add_zero] at hst
                simp [Builtin.append_, run_underlying ht, sizeOf, typeInfo, hi, hsrc.len, hroom, hsrc.cells, Addr.add_lit, hst]
            have H' := H.reBlk hbs nm st i.size off cap hst ((es.drop off).take len ++ ys) _ e' rfl rfl ⟨cur, hg⟩ (fun x hx => (List.mem_append.1 hx).elim (hwel x) (hyel x)) (by rw [List.length_append, hwl]; exact hroom)
              (by rw [q1]; exact hcapfit) q2
            refine ⟨_, _, _, hrun, Env.le_withM hst _ _, fun s hs => hs.elim .inr .inl, fun _ _ _ => rfl, H', ?_, ?_⟩
            · refine hW.trans ⟨rfl, rfl, rfl, by simp, fun k hk => setRow_other w _ _ _ (fun q => ?_)⟩
              have := hbk.base
              simp only at this
              omega
            · have em : (E.withM st ((E.m st0).1, (E.m st0).2 + off * i.size) cap).m st = ((E.m st0).1, (E.m st0).2 + off * i.size) := upd_same _ _ _
              have ec : (E.withM st ((E.m st0).1, (E.m st0).2 + off * i.size) cap).cp st = cap := upd_same _ _ _
              rw [hwl]
              refine .sl nm st i.size 0 _ cap ad (.inl rfl) hroom (by rw [ec]; omega) (fun hp => ?_)
              rw [em, ha hp]; simp
          · -- there is none
            have hol : ((cur.toList.drop ((E.m st0).2 + off * i.size)).take (len * i.size)).length = len * i.size := by
              have : len * i.size ≤ cap * i.size := Nat.mul_le_mul_right _ hcap
              simp only [List.length_take, List.length_drop, Array.length_toList]
              omega
            have hog : ∀ j, j < len * i.size → ((cur.toList.drop ((E.m st0).2 + off * i.size)).take (len * i.size))[j]? = cur[(E.m st0).2 + off * i.size + j]? := by
              intro j hj
              simp only [List.getElem?_take, if_pos hj, List.getElem?_drop, Array.getElem?_toList]
            have hold : (Builtin.firstCells i.size len (.slice ad len cap)).run P w.drew = .ok ((cur.toList.drop ((E.m st0).2 + off * i.size)).take (len * i.size)).toArray w.drew := by
              by_cases hc0 : cap = 0
              · have hl0 : len = 0 := by omega
                subst hl0
                simp only [Nat.zero_mul, List.take_zero]
                cases ad <;> simp [Builtin.firstCells, loadCells, loadCellsFrom]
              · rw [ha (by omega)]
                refine run_firstCells_some w.drew i.size len _ len cap _ hol ?_
                intro j v hv
                have hjl : j < len * i.size := by rw [← hol]; exact (List.getElem?_eq_some_iff.1 hv).1
                rw [hog j hjl] at hv
                show w.cell? _ = _
                rw [Addr.add_mk, cell_of_row w _ _ cur e' (0, 0) hg]
                exact hv
            refine grow (h.setB nm0 none) ad cap ((es.drop off).take len) ((cur.toList.drop ((E.m st0).2 + off * i.size)).take (len * i.size)) (H.dropB nm0) rfl (by rw [hwl]) (by rw [hwl]; exact hol) hwel ?_ (by rw [hwl]; exact hold) (by rw [hwl]; omega)
            intro k x hx j y hy
            obtain ⟨u, hu, hrel⟩ := hwin k x hx j y hy
            have hk : k < len := by have := (List.getElem?_eq_some_iff.1 hx).1; omega
            have hj : j < i.size := by rw [← (hwel x (List.mem_of_getElem? hx)).1]; exact (List.getElem?_eq_some_iff.1 hy).1
            refine ⟨u, ?_, hrel⟩
            rw [hog _ (mul_lt hk hj), ← hu]
            congr 1; omega
      · cases hb
    · cases hb
  | _ => simp [appwBase] at hb

end Go.Gv
