/- Texts of this proof, one behind the other. What is proved, and on which conditions, stands ahead of each. -/
import Derived.Test.YtpaeffcpdpblcaaM2912d07
import Derived.Deep.AppendSrc
import Derived.Carry
import Derived.MapKept

/- Each abstract operation is done by the model's own operation: appends to, and copies into, blocks that may be written; shifts; comparisons with nil. No condition beyond those that each law names. -/
set_option linter.unusedVariables false
set_option linter.unusedSimpArgs false
namespace Go.Gv
open Go.RowKit

theorem seg_get' {α : Type} (l vs : List α) (k p : Nat) (h : k ≤ l.length) :
    (l.take k ++ vs ++ l.drop (k + vs.length))[p]? = if p < k then l[p]? else if p < k + vs.length then vs[p - k]? else l[p]? := by
  have hk : (l.take k).length = k := by simp; omega
  by_cases h1 : p < k
  · rw [if_pos h1, List.append_assoc, List.getElem?_append_left (by omega), List.getElem?_take, if_pos h1]
  · rw [if_neg h1]
    by_cases h2 : p < k + vs.length
    · rw [if_pos h2, List.append_assoc, List.getElem?_append_right (by omega), hk, List.getElem?_append_left (by omega)]
    · rw [if_neg h2, List.getElem?_append_right (by simp; omega), List.getElem?_drop]
      congr 1
      simp
      omega

/-- Cells of a row that hold elements. -/
def RowAt (E : Env) (sz o : Nat) (es : List AV) (cur : Array Value) : Prop :=
  ∀ (i : Nat) (x : AV), es[i]? = some x → ∀ (j : Nat) (y : AV), x.cells[j]? = some y → ∃ u, cur[o + i * sz + j]? = some u ∧ Rel E y u

theorem RowAt.splice {E : Env} {sz o : Nat} {es ys : List AV} {cur : Array Value} {news : List Value} (hr : RowAt E sz o es cur) (p : Nat) (hp : p ≤ es.length) (hel : ∀ x ∈ es, ElemOk sz x) (hyel : ∀ y ∈ ys, ElemOk sz y)
    (hn : news.length = ys.length * sz) (hy : ∀ (i : Nat) (y : AV), ys[i]? = some y → ∀ (j : Nat) (z : AV), y.cells[j]? = some z → ∃ v, news[i * sz + j]? = some v ∧ Rel E z v)
    (hfit : o + p * sz + news.length ≤ cur.size) :
    (cur.toList.take (o + p * sz) ++ news ++ cur.toList.drop (o + p * sz + news.length)).toArray.size = cur.size ∧
    RowAt E sz o (es.take p ++ ys ++ es.drop (p + ys.length)) (cur.toList.take (o + p * sz) ++ news ++ cur.toList.drop (o + p * sz + news.length)).toArray := by
  refine ⟨by simp only [List.size_toArray, List.length_append, List.length_take, List.length_drop, Array.length_toList]; omega, ?_⟩
  intro i x hx j y hyj
  have hjsz : ∀ x, ElemOk sz x → x.cells[j]? = some y → j < sz := fun x hx hy => by rw [← hx.1]; exact (List.getElem?_eq_some_iff.1 hy).1
  rw [seg_get' es ys p i hp] at hx
  rw [List.getElem?_toArray, seg_get' cur.toList news (o + p * sz) _ (by simp only [Array.length_toList]; omega), hn]
  by_cases h1 : i < p
  · rw [if_pos h1] at hx
    have hj := hjsz x (hel x (List.mem_of_getElem? hx)) hyj
    have : (i + 1) * sz ≤ p * sz := Nat.mul_le_mul_right _ h1
    rw [Nat.add_mul] at this
    rw [if_pos (by omega)]
    simpa using hr i x hx j y hyj
  · rw [if_neg h1] at hx
    have e1 : p * sz ≤ i * sz := Nat.mul_le_mul_right _ (by omega)
    by_cases h2 : i < p + ys.length
    · rw [if_pos h2] at hx
      have hj := hjsz x (hyel x (List.mem_of_getElem? hx)) hyj
      have e2 : (i + 1) * sz ≤ (p + ys.length) * sz := Nat.mul_le_mul_right _ h2
      rw [Nat.add_mul, Nat.add_mul] at e2
      rw [if_neg (by omega), if_pos (by omega)]
      obtain ⟨v, hv, hrel⟩ := hy _ x hx j y hyj
      refine ⟨v, ?_, hrel⟩
      rw [← hv]
      congr 1
      rw [Nat.sub_mul]
      omega
    · rw [if_neg h2] at hx
      have e2 : (p + ys.length) * sz ≤ i * sz := Nat.mul_le_mul_right _ (by omega)
      rw [Nat.add_mul] at e2
      rw [if_neg (by omega), if_neg (by omega)]
      simpa using hr i x hx j y hyj

/-- A slice whose elements are these, in cells that can be read; what they hold may change later. -/
def SrcM (E : Env) (w : World) (sz : Nat) (ys : List AV) (u : Value) : Prop :=
  ∃ (a : Option Addr) (c : Nat) (news : List Value), u = .slice a ys.length c ∧ news.length = ys.length * sz ∧ (∀ y ∈ ys, ElemOk sz y) ∧ (∀ v ∈ news, v.oneCell' = true) ∧
    ((a = none ∧ ys = []) ∨ ∃ ad : Addr, a = some ad ∧ ∀ (j : Nat) (v : Value), news[j]? = some v → w.cell? (ad.add j) = some v) ∧
    ∀ (i : Nat) (y : AV), ys[i]? = some y → ∀ (j : Nat) (z : AV), y.cells[j]? = some z → ∃ v, news[i * sz + j]? = some v ∧ Rel E z v

theorem srcM_of {E : Env} {B : Nat} {h : Hp} {w : World} (H : HConc E B h w) {x : AV} {u : Value} (hu : Rel E x u) {sz : Nat} {ys : List AV} (hx : listM h.blk sz x = some ys) :
    SrcM E w sz ys u := by
  have weak : listOf h.blk sz x = some ys → SrcM E w sz ys u := fun hl => by
    obtain ⟨a, c, news, h1, _, h3, h4, h5, h6, h7⟩ := src_of H hu hl
    exact ⟨a, c, news, h1, h3, h4, h5, h6, fun i y hy j z hz => let ⟨v, hv, hr⟩ := h7 i y hy j z hz; ⟨v, hv, hr.mono E.cl_le⟩⟩
  cases x with
  | nils => exact weak hx
  | lst s xs => exact weak hx
  | acc nm st s xs => exact weak hx
  | sl nm st s off len =>
    simp only [listM] at hx
    split at hx
    · rename_i e
      subst e
      simp only [Option.bind_eq_some_iff] at hx
      obtain ⟨es, hes, hx⟩ := hx
      split at hx
      · rename_i hle
        cases hx
        have hb := getB_some hes
        have hbk := (H.bk nm _ hb).r (getB_pos hes)
        obtain ⟨cur, e, hg, hsz, hr⟩ := hbk.row
        simp only at hg hsz hr
        cases hu with
        | sl _ _ _ _ _ cap a hus hcap hc ha =>
          have hlen : ((es.drop off).take len).length = len := by simp; omega
          by_cases hl0 : len = 0
          · subst hl0
            refine ⟨a, cap, [], by simp, by simp, by simp, by simp, ?_, by simp⟩
            cases a with
            | none => exact .inl ⟨rfl, by simp⟩
            | some ad => exact .inr ⟨ad, rfl, by simp⟩
          · have ea := ha (by omega)
            subst ea
            have hmem : ∀ y ∈ (es.drop off).take len, y ∈ es := fun y hy => List.mem_of_mem_drop (List.mem_of_mem_take hy)
            have hel' : ∀ y ∈ (es.drop off).take len, ElemOk s y := fun y hy => hbk.el y (hmem y hy)
            have hfit : (E.m st).2 + (off + len) * s ≤ cur.size := by
              have : (off + len) * s ≤ E.cp st * s := Nat.mul_le_mul_right _ (by have := hbk.len; simp only at this; omega)
              omega
            have hidx : ∀ (i : Nat) (y : AV), ((es.drop off).take len)[i]? = some y → i < len ∧ es[off + i]? = some y := by
              intro i y hy
              have hi : i < len := by have := (List.getElem?_eq_some_iff.1 hy).1; omega
              rw [List.getElem?_take, if_pos hi, List.getElem?_drop] at hy
              exact ⟨hi, hy⟩
            have parts : ∀ k, k < len * s → k / s < len ∧ k % s < s ∧ k / s * s + k % s = k := by
              intro k hk
              have hs : 0 < s := by
                rcases Nat.eq_zero_or_pos s with e | e
                · subst e; simp at hk
                · exact e
              exact ⟨Nat.div_lt_of_lt_mul (by rw [Nat.mul_comm]; exact hk), Nat.mod_lt _ hs, by have := Nat.div_add_mod k s; rw [Nat.mul_comm] at this; exact this⟩
            let news : List Value := (cur.toList.drop ((E.m st).2 + off * s)).take (len * s)
            have hnl : news.length = len * s := by
              simp only [news, List.length_take, List.length_drop, Array.length_toList]
              rw [Nat.add_mul] at hfit
              omega
            have hng : ∀ j, j < len * s → news[j]? = cur[(E.m st).2 + off * s + j]? := by
              intro j hj
              simp only [news, List.getElem?_take, if_pos hj, List.getElem?_drop, Array.getElem?_toList]
            refine ⟨some _, cap, news, by rw [hlen], by rw [hlen]; exact hnl, hel', ?_, .inr ⟨_, rfl, ?_⟩, ?_⟩
            · intro v hv
              obtain ⟨k, hk⟩ := List.getElem?_of_mem hv
              have hkl : k < len * s := by rw [← hnl]; exact (List.getElem?_eq_some_iff.1 hk).1
              obtain ⟨p1, p2, p3⟩ := parts k hkl
              obtain ⟨y, hy⟩ : ∃ y, ((es.drop off).take len)[k / s]? = some y := ⟨_, List.getElem?_eq_getElem (by rw [hlen]; exact p1)⟩
              have hym := hel' y (List.mem_of_getElem? hy)
              obtain ⟨z, hz⟩ : ∃ z, y.cells[k % s]? = some z := ⟨_, List.getElem?_eq_getElem (by rw [hym.1]; exact p2)⟩
              obtain ⟨v', hv', hrel⟩ := hr (off + k / s) y (hidx _ y hy).2 _ z hz
              rw [hng k hkl] at hk
              rw [show (E.m st).2 + (off + k / s) * s + k % s = (E.m st).2 + off * s + k by rw [Nat.add_mul]; omega, hk] at hv'
              cases hv'
              exact hrel.one (hym.2 z (List.mem_of_getElem? hz))
            · intro j v hv
              have hjl : j < len * s := by rw [← hnl]; exact (List.getElem?_eq_some_iff.1 hv).1
              rw [Addr.add_mk, cell_of_row w _ _ cur e (0, 0) hg, ← hng j hjl]
              exact hv
            · intro i y hy j z hz
              obtain ⟨hi, hy'⟩ := hidx i y hy
              have hj : j < s := by rw [← (hel' y (List.mem_of_getElem? hy)).1]; exact (List.getElem?_eq_some_iff.1 hz).1
              obtain ⟨v, hv, hrel⟩ := hr (off + i) y hy' j z hz
              refine ⟨v, ?_, hrel⟩
              rw [hng _ (mul_lt hi hj), ← hv]
              congr 1
              rw [Nat.add_mul]; omega
      · cases hx
    · cases hx
  | _ => simp [listM] at hx

/-- A block's row as a window of it. -/
theorem row_window {E : Env} {sz o off len : Nat} {es : List AV} {cur : Array Value} (h : RowAt E sz o es cur) : RowAt E sz (o + off * sz) ((es.drop off).take len) cur := by
  intro i x hx j y hy
  rw [List.getElem?_take] at hx
  split at hx
  · rw [List.getElem?_drop] at hx
    have := h (off + i) x hx j y hy
    rwa [show o + off * sz + i * sz + j = o + (off + i) * sz + j by rw [Nat.add_mul]; omega]
  · cases hx

/-- A block that lies where another one lay. -/
theorem HConc.reBlk {E : Env} {B : Nat} {h : Hp} {w w' : World} (H : HConc E B h w) {nm0 : Nat} {b0 : Blk} (hb0 : h.blk nm0 = some b0) (nm st sz off c : Nat) (hst : ¬ E.u st) (es : List AV) (cur' : Array Value) (e : TypeId)
    (hsz : sz = b0.sz) (hw' : w' = w.setRow (E.m b0.st).1 cur') (hold : ∃ cur, w.heap[(E.m b0.st).1]? = some (.cells cur e (0, 0)))
    (hel : ∀ x ∈ es, ElemOk sz x) (hcl : es.length ≤ c) (hfit : (E.m b0.st).2 + off * sz + c * sz ≤ cur'.size)
    (hr : RowAt E sz ((E.m b0.st).2 + off * sz) es cur') :
    HConc (E.withM st ((E.m b0.st).1, (E.m b0.st).2 + off * sz) c) B ((h.setB nm0 none).setB nm (some ⟨st, sz, es⟩)) w' := by
  obtain ⟨cur, hg⟩ := hold
  have hbk := (H.bk nm0 b0 hb0).rc hg
  have hs0 : sz ≠ 0 := by rw [hsz]; exact hbk.1
  replace hbk := hbk.2
  have hE := Env.le_withM hst ((E.m b0.st).1, (E.m b0.st).2 + off * sz) c
  have em : (E.withM st ((E.m b0.st).1, (E.m b0.st).2 + off * sz) c).m st = ((E.m b0.st).1, (E.m b0.st).2 + off * sz) := upd_same _ _ _
  have ec : (E.withM st ((E.m b0.st).1, (E.m b0.st).2 + off * sz) c).cp st = c := upd_same _ _ _
  have H1 : HConc E B (h.setB nm0 none) w' := by
    subst hw'
    refine (H.dropB nm0).change ?_ ?_ ?_
    · intro b o v hk
      have hne : b ≠ (E.m b0.st).1 := fun q => by rw [q, hbk.noK o] at hk; cases hk
      rw [cell_setRow_other w _ _ _ hne]
      exact H.K b o v hk
    · intro n b hb'
      have : n ≠ nm0 ∧ h.blk n = some b := by
        simp only [Hp.setB, upd] at hb'
        split at hb'
        · simp at hb'
        · rename_i hne; exact ⟨hne, hb'⟩
      exact setRow_other w _ _ _ (H.bb n nm0 b _ this.1 this.2 hb0)
    · intro n t' g ht' hg'
      exact setRow_other w _ _ _ (fun q => H.bt nm0 n _ t' hb0 ht' (by rw [hg', q]))
  have H2 := H1.env hE H1.K (fun n b x j => (H1.bk n b x).noK j) (fun _ _ _ _ _ _ => rfl)
  refine (H2.dropB nm).putB ⟨st, sz, es⟩ (.inl rfl) (.row hs0 ⟨by rw [em]; exact hbk.base, hel, by rw [ec]; exact hcl, ?_, by rw [em]; exact hbk.noK⟩) ?_ ?_
  · rw [em, ec]
    refine ⟨cur', e, by rw [hw']; exact setRow_heap w _ cur _ e _ hg, hfit, fun i x hx j y hy => ?_⟩
    obtain ⟨u, hu, hrel⟩ := hr i x hx j y hy
    exact ⟨u, hu, hrel.mono hE⟩
  · intro n b' hn hb'
    have : n ≠ nm0 ∧ h.blk n = some b' := by
      simp only [Hp.setB, upd] at hb'
      split at hb'
      · simp at hb'
      · rename_i hne; exact ⟨hne, hb'⟩
    rw [hE.m _ (H.bu n b' this.2), em]
    exact H.bb n nm0 b' b0 this.1 this.2 hb0
  · intro n t ht
    rw [hE.hd _ (H.tu n t ht), em]
    exact H.bt nm0 n b0 t hb0 ht

theorem hp_app_two (h : Hp) (v : AV) (n0 : Option Nat) (nm : Nat) (b : Blk) :
    h.app { v := v, wb := (match n0 with | some n => [(n, none)] | none => []) ++ [(nm, some b)] } = (match n0 with | some n => h.setB n none | none => h).setB nm (some b) := by
  cases n0 <;> rfl

/-- An append to a list in a block of its own. -/
theorem appw_done {P : Program} {B : Nat} {W : World} {E : Env} {h : Hp} {w : World} (H : HConc E B h w) (hW : Below B W w) (hB : B ≤ w.heap.size) (nm st sz : Nat) (t ty e : TypeId) (i : TypeInfo) (z : Value)
    (hst : ¬ E.u st) (ht : P.underlying t = some (.slice e)) (hi : P.info? e = some i) (hz : i.zero = some z) (hsz : i.size = sz) (hzs : z.cells.size = sz) (h0 : 0 < sz) (hb1 : 0 < i.bytes)
    (s x : AV) (vs vx : Value) (hs : Rel E s vs) (hx : Rel E x vx) (b : List AV × Option Nat) (hb : appwBase h.blk sz s = some b) (ys : List AV) (hys : listM h.blk sz x = some ys)
    (hne : b.2 = none → ys ≠ []) (hby : (b.1.length + ys.length) * i.bytes ≤ 140737488355328) :
    ∃ v' w' E', (Builtin.append_ #[t, t] ty #[vs, vx]).run P w = .ok v' w' ∧ E.le E' ∧ (∀ x, E'.u x → E.u x ∨ x = st) ∧ (∀ b o, b < B → E'.K b o = E.K b o) ∧
      HConc E' B (h.app { v := .sl nm st sz 0 (b.1.length + ys.length), wb := (match b.2 with | some n => [(n, none)] | none => []) ++ [(nm, some ⟨st, sz, b.1 ++ ys⟩)] }) w' ∧ Below B W w' ∧ Rel E' (.sl nm st sz 0 (b.1.length + ys.length)) v' := by
  subst hsz
  obtain ⟨a, c, news, rfl, hnl, hyel, hn1, hspot, hyr⟩ := srcM_of H hx hys
  have hsrc : Go.Src P i.size t (.slice a ys.length c) ys.length news w := by
    rcases hspot with ⟨rfl, rfl⟩ | ⟨ad, rfl, hc⟩
    · have : news = [] := List.eq_nil_of_length_eq_zero (by simpa using hnl)
      subst this
      exact Go.Src.ofNil w ht c
    · exact Go.Src.ofSlice w ht ad ys.length c news hnl hc hn1
  have hby63 : b.1.length + ys.length ≤ 140737488355328 := Nat.le_trans (Nat.le_mul_of_pos_right _ hb1) hby
  -- a new row
  have grow : ∀ (h1 : Hp) (base : Option Addr) (cap : Nat) (xs : List AV) (olds : List Value), HConc E B h1 w → xs = b.1 → vs = .slice base xs.length cap → olds.length = xs.length * i.size → (∀ x ∈ xs, ElemOk i.size x) →
      (∀ (k : Nat) (x : AV), xs[k]? = some x → ∀ (j : Nat) (y : AV), x.cells[j]? = some y → ∃ u, olds[k * i.size + j]? = some u ∧ Rel E y u) →
      (Builtin.firstCells i.size xs.length (.slice base xs.length cap)).run P w.drew = .ok olds.toArray w.drew → cap < xs.length + ys.length →
      ∃ v' w' E', (Builtin.append_ #[t, t] ty #[vs, .slice a ys.length c]).run P w = .ok v' w' ∧ E.le E' ∧ (∀ x, E'.u x → E.u x ∨ x = st) ∧ (∀ b o, b < B → E'.K b o = E.K b o) ∧
        HConc E' B (h1.setB nm (some ⟨st, i.size, b.1 ++ ys⟩)) w' ∧ Below B W w' ∧ Rel E' (.sl nm st i.size 0 (b.1.length + ys.length)) v' := by
    intro h1 base cap xs olds H1 hxs hvs hol hxel hor hold hcap
    subst hvs
    rw [← hxs] at hby63 hby ⊢
    have hrun := run_append_grow_src (P := P) w t t ty e i z ht hi hz base xs.length cap olds hold (.slice a ys.length c) ys.length news hsrc hcap (by omega) (growslice_fits (by omega) hby)
    have hge := grownCap_ge w (xs.length + ys.length) cap e
    have Hd : HConc E B h1 w.drew := H1.change H1.K (fun _ _ _ => rfl) (fun _ _ _ _ _ => rfl)
    have hsize : ((olds ++ news).toArray ++ Builtin.zeroCells z.cells (grownCap w (xs.length + ys.length) cap e - (xs.length + ys.length))).size = grownCap w (xs.length + ys.length) cap e * i.size := by
      simp only [Array.size_append, List.size_toArray, List.length_append, size_zeroCells, hzs, hol, hnl, ← Nat.add_mul]
      congr 1; omega
    refine ⟨_, _, E.withM st (w.heap.size, 0) (grownCap w (xs.length + ys.length) cap e), hrun, Env.le_withM hst _ _, fun s hs => hs.elim .inr .inl, fun _ _ _ => rfl, ?_, (hW.drew).alloc hB _, ?_⟩
    · refine Hd.newRow hB nm st i.size (by omega) hst (xs ++ ys) _ e (fun x hx => (List.mem_append.1 hx).elim (hxel x) (hyel x)) _ (by rw [List.length_append]; exact hge) (by rw [hsize]; exact Nat.le_refl _) ?_
      intro k x hx j y hy
      have key : ∃ u, (olds ++ news)[k * i.size + j]? = some u ∧ Rel E y u := by
        by_cases hk : k < xs.length
        · rw [List.getElem?_append_left hk] at hx
          obtain ⟨u, hu, hrel⟩ := hor k x hx j y hy
          exact ⟨u, by rw [List.getElem?_append_left (List.getElem?_eq_some_iff.1 hu).1]; exact hu, hrel⟩
        · rw [List.getElem?_append_right (by omega)] at hx
          obtain ⟨u, hu, hrel⟩ := hyr _ x hx j y hy
          have e1 : k * i.size = xs.length * i.size + (k - xs.length) * i.size := by rw [← Nat.add_mul]; congr 1; omega
          refine ⟨u, ?_, hrel⟩
          rw [List.getElem?_append_right (by omega), hol, e1, show xs.length * i.size + (k - xs.length) * i.size + j - xs.length * i.size = (k - xs.length) * i.size + j by omega]
          exact hu
      obtain ⟨u, hu, hrel⟩ := key
      refine ⟨u, ?_, hrel⟩
      have hlt : k * i.size + j < (olds ++ news).toArray.size := by simpa using (List.getElem?_eq_some_iff.1 hu).1
      rw [Array.getElem?_append_left hlt]
      simpa using hu
    · have em : (E.withM st (w.heap.size, 0) (grownCap w (xs.length + ys.length) cap e)).m st = (w.heap.size, 0) := upd_same _ _ _
      have ec : (E.withM st (w.heap.size, 0) (grownCap w (xs.length + ys.length) cap e)).cp st = grownCap w (xs.length + ys.length) cap e := upd_same _ _ _
      refine .sl nm st i.size 0 _ _ _ (.inl rfl) hge (by rw [ec]; omega) (fun _ => ?_)
      rw [em]; simp
  rw [hp_app_two]
  cases s with
  | nils =>
    have hb' : b = ([], none) := by simpa [appwBase] using hb.symm
    subst hb'
    have hyne : ys ≠ [] := hne rfl
    have hpos : 0 < ys.length := List.length_pos_iff.2 hyne
    exact grow h none 0 [] [] H rfl (by rw [hs.nils_inv]; rfl) (by simp) (by simp) (by simp) (by exact run_firstCells_none w.drew i.size 0 0 0) (by simp; omega)
  | sl nm0 st0 s0 off len =>
    simp only [appwBase] at hb
    split at hb
    · rename_i es0
      subst es0
      simp only [Option.bind_eq_some_iff] at hb
      obtain ⟨es, hes, hb⟩ := hb
      split at hb
      · rename_i hle
        cases hb
        have hbs := getB_some hes
        have hbk := (H.bk nm0 _ hbs).r (getB_pos hes)
        obtain ⟨cur, e', hg, hszr, hr⟩ := hbk.row
        simp only at hg hszr hr
        have hcpl : es.length ≤ E.cp st0 := hbk.len
        have hwl : ((es.drop off).take len).length = len := by simp; omega
        have hwel : ∀ x ∈ (es.drop off).take len, ElemOk i.size x := fun x hx => hbk.el x (List.mem_of_mem_drop (List.mem_of_mem_take hx))
        have hrow0 : RowAt E i.size (E.m st0).2 es cur := hr
        have hwin := row_window (off := off) (len := len) hrow0
        cases hs with
        | sl _ _ _ _ _ cap ad hu hcap hc ha =>
          have hcapfit : (E.m st0).2 + off * i.size + cap * i.size ≤ cur.size := by
            have : (off + cap) * i.size ≤ E.cp st0 * i.size := Nat.mul_le_mul_right _ hc
            rw [Nat.add_mul] at this; omega
          by_cases hroom : len + ys.length ≤ cap
          · -- there is room
            have hfit : (E.m st0).2 + off * i.size + len * i.size + news.length ≤ cur.size := by
              have : (len + ys.length) * i.size ≤ cap * i.size := Nat.mul_le_mul_right _ hroom
              rw [Nat.add_mul] at this; omega
            obtain ⟨q1, q2⟩ := hwin.splice len (by omega) hwel hyel hnl hyr hfit
            have t1 : ((es.drop off).take len).take len = (es.drop off).take len := List.take_of_length_le (by omega)
            have t2 : ((es.drop off).take len).drop (len + ys.length) = [] := List.drop_of_length_le (by omega)
            rw [t1, t2, List.append_nil] at q2
            have hrun : (Builtin.append_ #[t, t] ty #[.slice ad len cap, .slice a ys.length c]).run P w =
                .ok (.slice ad (len + ys.length) cap) (w.setRow (E.m st0).1 (cur.toList.take ((E.m st0).2 + off * i.size + len * i.size) ++ news ++ cur.toList.drop ((E.m st0).2 + off * i.size + len * i.size + news.length)).toArray) := by
              by_cases hc0 : cap = 0
              · have hy0 : ys = [] := List.eq_nil_of_length_eq_zero (by omega)
                have hn0 : news = [] := List.eq_nil_of_length_eq_zero (by rw [hnl, hy0]; simp)
                have hl0 : len = 0 := by omega
                have hself : w.setRow (E.m st0).1 (cur.toList.take ((E.m st0).2 + off * i.size + len * i.size) ++ news ++ cur.toList.drop ((E.m st0).2 + off * i.size + len * i.size + news.length)).toArray = w := by
                  rw [hn0]
                  simp only [List.append_nil, List.length_nil, Nat.add_zero, List.take_append_drop, Array.toArray_toList]
                  exact setRow_self w _ cur e' (0, 0) hg
                rw [hself]
                subst hc0 hl0 hy0 hn0
                cases ad <;> cases a <;> simp [Builtin.append_, run_underlying ht, sizeOf, typeInfo, hi, Builtin.lenOf, Builtin.firstCells, loadCells, loadCellsFrom, storeCells]
              · rw [ha (by omega)]
                have hst := run_storeCells_at P (E.m st0).1 ((E.m st0).2 + off * i.size + len * i.size) e' news 0 cur w hg (by simpa using hfit) hn1
                simp only [Nat.add_zero] at hst
                simp [Builtin.append_, run_underlying ht, sizeOf, typeInfo, hi, hsrc.len, hroom, hsrc.cells, Addr.add_lit, hst]
            have H' := H.reBlk hbs nm st i.size off cap hst ((es.drop off).take len ++ ys) _ e' rfl rfl ⟨cur, hg⟩ (fun x hx => (List.mem_append.1 hx).elim (hwel x) (hyel x)) (by rw [List.length_append, hwl]; exact hroom)
              (by rw [q1]; exact hcapfit) q2
            refine ⟨_, _, _, hrun, Env.le_withM hst _ _, fun s hs => hs.elim .inr .inl, fun _ _ _ => rfl, H', ?_, ?_⟩
            · refine hW.trans ⟨rfl, rfl, rfl, by simp, fun k hk => setRow_other w _ _ _ (fun q => ?_)⟩
              have := hbk.base
              simp only at this
              omega
            · have em : (E.withM st ((E.m st0).1, (E.m st0).2 + off * i.size) cap).m st = ((E.m st0).1, (E.m st0).2 + off * i.size) := upd_same _ _ _
              have ec : (E.withM st ((E.m st0).1, (E.m st0).2 + off * i.size) cap).cp st = cap := upd_same _ _ _
              rw [hwl]
              refine .sl nm st i.size 0 _ cap ad (.inl rfl) hroom (by rw [ec]; omega) (fun hp => ?_)
              rw [em, ha hp]; simp
          · -- there is none
            have hol : ((cur.toList.drop ((E.m st0).2 + off * i.size)).take (len * i.size)).length = len * i.size := by
              have : len * i.size ≤ cap * i.size := Nat.mul_le_mul_right _ hcap
              simp only [List.length_take, List.length_drop, Array.length_toList]
              omega
            have hog : ∀ j, j < len * i.size → ((cur.toList.drop ((E.m st0).2 + off * i.size)).take (len * i.size))[j]? = cur[(E.m st0).2 + off * i.size + j]? := by
              intro j hj
              simp only [List.getElem?_take, if_pos hj, List.getElem?_drop, Array.getElem?_toList]
            have hold : (Builtin.firstCells i.size len (.slice ad len cap)).run P w.drew = .ok ((cur.toList.drop ((E.m st0).2 + off * i.size)).take (len * i.size)).toArray w.drew := by
              by_cases hc0 : cap = 0
              · have hl0 : len = 0 := by omega
                subst hl0
                simp only [Nat.zero_mul, List.take_zero]
                cases ad <;> simp [Builtin.firstCells, loadCells, loadCellsFrom]
              · rw [ha (by omega)]
                refine run_firstCells_some w.drew i.size len _ len cap _ hol ?_
                intro j v hv
                have hjl : j < len * i.size := by rw [← hol]; exact (List.getElem?_eq_some_iff.1 hv).1
                rw [hog j hjl] at hv
                show w.cell? _ = _
                rw [Addr.add_mk, cell_of_row w _ _ cur e' (0, 0) hg]
                exact hv
            refine grow (h.setB nm0 none) ad cap ((es.drop off).take len) ((cur.toList.drop ((E.m st0).2 + off * i.size)).take (len * i.size)) (H.dropB nm0) rfl (by rw [hwl]) (by rw [hwl]; exact hol) hwel ?_ (by rw [hwl]; exact hold) (by rw [hwl]; omega)
            intro k x hx j y hy
            obtain ⟨u, hu, hrel⟩ := hwin k x hx j y hy
            have hk : k < len := by have := (List.getElem?_eq_some_iff.1 hx).1; omega
            have hj : j < i.size := by rw [← (hwel x (List.mem_of_getElem? hx)).1]; exact (List.getElem?_eq_some_iff.1 hy).1
            refine ⟨u, ?_, hrel⟩
            rw [hog _ (mul_lt hk hj), ← hu]
            congr 1; omega
      · cases hb
    · cases hb
  | _ => simp [appwBase] at hb

end Go.Gv

/- Each abstract operation is done by the model's own operation: copies into blocks that may be written; shifts; comparisons with nil. No condition beyond those that each law names. -/
set_option linter.unusedVariables false
set_option linter.unusedSimpArgs false
namespace Go.Gv
open Go.RowKit

/-- A block whose cells have been written. -/
theorem HConc.inBlk {E : Env} {B : Nat} {h : Hp} {w : World} (H : HConc E B h w) {nm : Nat} {b : Blk} (hb : h.blk nm = some b) (es : List AV) (cur cur' : Array Value) (e : TypeId)
    (hg : w.heap[(E.m b.st).1]? = some (.cells cur e (0, 0))) (hel : ∀ x ∈ es, ElemOk b.sz x) (hlen : es.length = b.es.length) (hsz : cur'.size = cur.size) (hr : RowAt E b.sz (E.m b.st).2 es cur') :
    HConc E B (h.setB nm (some ⟨b.st, b.sz, es⟩)) (w.setRow (E.m b.st).1 cur') := by
  obtain ⟨hs0, hbk⟩ := (H.bk nm b hb).rc hg
  have hbu := H.bu nm b hb
  have H1 : HConc E B (h.setB nm none) (w.setRow (E.m b.st).1 cur') := by
    refine (H.dropB nm).change ?_ ?_ ?_
    · intro b' o v hk
      have hne : b' ≠ (E.m b.st).1 := fun q => by rw [q, hbk.noK o] at hk; cases hk
      rw [cell_setRow_other w _ _ _ hne]
      exact H.K b' o v hk
    · intro n b' hb'
      have : n ≠ nm ∧ h.blk n = some b' := by
        simp only [Hp.setB, upd] at hb'
        split at hb'
        · simp at hb'
        · rename_i hne; exact ⟨hne, hb'⟩
      exact setRow_other w _ _ _ (H.bb n nm b' _ this.1 this.2 hb)
    · intro n t' g ht' hg'
      exact setRow_other w _ _ _ (fun q => H.bt nm n _ t' hb ht' (by rw [hg', q]))
  refine H1.putB ⟨b.st, b.sz, es⟩ hbu (.row hs0 ⟨hbk.base, hel, by rw [hlen]; exact hbk.len, ?_, hbk.noK⟩) (fun n b' hn hb' => by have := H.bb n nm b' _ hn hb' hb; exact this) (fun n t' ht' => by have := H.bt nm n _ t' hb ht'; exact this)
  obtain ⟨cur0, e0, hg0, hs0, _⟩ := hbk.row
  rw [hg] at hg0
  cases hg0
  exact ⟨cur', e, setRow_heap w _ cur _ e _ hg, by rw [hsz]; exact hs0, hr⟩

theorem Below.row {B : Nat} {W w : World} (hW : Below B W w) {g : Nat} (hg : B ≤ g) (cur' : Array Value) : Below B W (w.setRow g cur') :=
  hW.trans ⟨rfl, rfl, rfl, by simp, fun k hk => setRow_other w _ _ _ (fun q => by omega)⟩

section
variable {P : Program} {B : Nat} {W : World} {E : Env} {h : Hp} {w : World} {a : Act} {f : Nat → AV} {n nm st : Nat}

/-- A copy. -/
theorem cpy_done (H : HConc E B h w) (hW : Below B W w) (o : Oper) (x y : Operand) (t t' e e' : TypeId) (ho : o.op = .call { callee := .builtin .copy, args := #[x, y], argTypes := #[t, t'] }) (i : TypeInfo)
    (ht : P.underlying t = some (.slice e)) (hi : P.info? e = some i) (X' Y' : X) (hx : Rel E (X'.ev f) (a.eval x)) (hy : Rel E (Y'.ev f) (a.eval y)) (ef : Eff)
    (hex : ex f h.blk h.tok st (.cpy i.size X' Y') = some ef) :
    Done B W E st ((execOp a.eval o).run P w) ef h := by
  have fin : ∀ (v : Value) (w' : World), (Builtin.copy_ #[t, t'] o.type #[a.eval x, a.eval y]).run P w = .ok v w' → (execOp a.eval o).run P w = .ok (.value v) w' := by
    intro v w' hrun
    simp [execOp, ho, resolve, invoke, builtin, hrun]
  simp only [ex] at hex
  generalize X'.ev f = X at hx hex
  generalize Y'.ev f = Y at hy hex
  cases X with
  | nils =>
    simp only [Option.map_eq_some_iff] at hex
    obtain ⟨ys, hys, rfl⟩ := hex
    obtain ⟨ad, c, news, hu, _⟩ := srcM_of H hy hys
    refine Done.pure H hW (v := goInt 0) (fin _ _ ?_) (.int _ _)
    rw [hx.nils_inv, hu]
    cases ad <;> simp [Builtin.copy_, run_underlying ht, sizeOf, typeInfo, hi, Builtin.lenOf, Builtin.firstCells, loadCells, loadCellsFrom]
  | sl nm s sz' off len =>
    simp only at hex
    split at hex
    · rename_i es'
      subst es'
      simp only [Option.bind_eq_some_iff] at hex
      obtain ⟨es, hes, ys, hys, hex⟩ := hex
      split at hex
      · rename_i hle
        cases hex
        have hbs := getB_some hes
        have hbk := (H.bk nm _ hbs).r (getB_pos hes)
        obtain ⟨cur, e0, hg, hszr, hr⟩ := hbk.row
        simp only at hg hszr hr
        have hcpl : es.length ≤ E.cp s := hbk.len
        obtain ⟨ad', c', news, hu, hnl, hyel, hn1, hspot, hyr⟩ := srcM_of H hy hys
        generalize hk : min ys.length len = k
        have hky : k ≤ ys.length := by omega
        have hkl : k ≤ len := by omega
        have hkn : k * i.size ≤ news.length := by rw [hnl]; exact Nat.mul_le_mul_right _ hky
        have hnl' : (news.take (k * i.size)).length = (ys.take k).length * i.size := by simp only [List.length_take]; rw [Nat.min_eq_left hky, Nat.min_eq_left hkn]
        have hn1' : ∀ v ∈ news.take (k * i.size), v.oneCell' = true := fun v hv => hn1 v (List.mem_of_mem_take hv)
        have hyel' : ∀ z ∈ ys.take k, ElemOk i.size z := fun z hz => hyel z (List.mem_of_mem_take hz)
        have hyr' : ∀ (m : Nat) (z : AV), (ys.take k)[m]? = some z → ∀ (j : Nat) (q : AV), z.cells[j]? = some q → ∃ v, (news.take (k * i.size))[m * i.size + j]? = some v ∧ Rel E q v := by
          intro m z hz j q hq
          have hm : m < k := by have := (List.getElem?_eq_some_iff.1 hz).1; simp at this; omega
          have hj : j < i.size := by rw [← (hyel' z (List.mem_of_getElem? hz)).1]; exact (List.getElem?_eq_some_iff.1 hq).1
          rw [List.getElem?_take, if_pos hm] at hz
          obtain ⟨v, hv, hrel⟩ := hyr m z hz j q hq
          exact ⟨v, by rw [List.getElem?_take, if_pos (mul_lt hm hj)]; exact hv, hrel⟩
        have hfit : (E.m s).2 + off * i.size + (news.take (k * i.size)).length ≤ cur.size := by
          have : (off + k) * i.size ≤ E.cp s * i.size := Nat.mul_le_mul_right _ (by omega)
          rw [Nat.add_mul] at this
          rw [List.length_take, Nat.min_eq_left hkn]; omega
        have hrow0 : RowAt E i.size (E.m s).2 es cur := hr
        obtain ⟨q1, q2⟩ := hrow0.splice off (by omega) hbk.el hyel' hnl' hyr' hfit
        have hlen2 : (ys.take k).length = k := by simp; omega
        rw [hlen2] at q2
        have H' := H.inBlk hbs (es.take off ++ ys.take k ++ es.drop (off + k)) cur _ e0 hg (fun z hz => by
            simp only [List.mem_append] at hz
            rcases hz with (hz | hz) | hz
            · exact hbk.el z (List.mem_of_mem_take hz)
            · exact hyel' z hz
            · exact hbk.el z (List.mem_of_mem_drop hz)) (by simp only [List.length_append, List.length_take, List.length_drop]; omega) q1 q2
        generalize hX : a.eval x = vx at hx
        cases hx with
        | sl _ _ _ _ _ cap ad hus hcap hc ha =>
          have hcells : (Builtin.firstCells i.size k (a.eval y)).run P w = .ok (news.take (k * i.size)).toArray w := by
            rw [hu]
            rcases hspot with ⟨rfl, hy0⟩ | ⟨ad2, rfl, hcell⟩
            · have hk0 : k = 0 := by rw [hy0] at hky; simpa using hky
              subst hk0
              simp [Builtin.firstCells]
            · refine run_firstCells_some w i.size k ad2 _ c' _ (by rw [hnl', hlen2]) (fun j v hv => hcell j v ?_)
              rw [List.getElem?_take] at hv
              split at hv
              · exact hv
              · cases hv
          have hlo : (Builtin.lenOf (a.eval y)).run P w = .ok ys.length w := by rw [hu]; rfl
          have hmin : Nat.min ys.length len = k := hk
          have hrun : (Builtin.copy_ #[t, t'] o.type #[.slice ad len cap, a.eval y]).run P w = .ok (goInt k) (w.setRow (E.m s).1 (cur.toList.take ((E.m s).2 + off * i.size) ++ news.take (k * i.size) ++ cur.toList.drop ((E.m s).2 + off * i.size + (news.take (k * i.size)).length)).toArray) := by
            by_cases hk0 : k = 0
            · subst hk0
              have hself : w.setRow (E.m s).1 (cur.toList.take ((E.m s).2 + off * i.size) ++ news.take (0 * i.size) ++ cur.toList.drop ((E.m s).2 + off * i.size + (news.take (0 * i.size)).length)).toArray = w := by
                simp only [Nat.zero_mul, List.take_zero, List.append_nil, List.length_nil, Nat.add_zero, List.take_append_drop, Array.toArray_toList]
                exact setRow_self w _ cur e0 (0, 0) hg
              rw [hself]
              have hcells0 : (Builtin.firstCells i.size 0 (a.eval y)).run P w = .ok #[] w := by simpa using hcells
              cases ad <;> simp [Builtin.copy_, run_underlying ht, sizeOf, typeInfo, hi, hlo, hmin, hcells0, storeCells]
            · rw [ha (by omega)]
              have hst := run_storeCells_at P (E.m s).1 ((E.m s).2 + off * i.size) e0 (news.take (k * i.size)) 0 cur w hg (by simpa using hfit) hn1'
              simp only [Nat.add_zero] at hst
              simp [Builtin.copy_, run_underlying ht, sizeOf, typeInfo, hi, hlo, hmin, hcells, hst]
          refine ⟨goInt k, _, E, .inl (fin _ _ (by rw [hX]; exact hrun)), .refl E, fun _ q => .inl q, fun _ _ _ => rfl, H', Below.row hW hbk.base _, .int _ _⟩
      · cases hex
    · cases hex
  | _ => cases hex

theorem shift_done (H : HConc E B h w) (hW : Below B W w) (o : Oper) (l : Bool) (t ty : TypeId) (x y : Operand) (ho : o.op = .binOp (if l = true then .shl else .shr) t x y ty) (k k' : IntKind) (p q : Int) (hx : Rel E (.int k p) (a.eval x)) (hy : Rel E (.int k' q) (a.eval y)) (hq : ¬ q < 0) :
    Done B W E st ((execOp a.eval o).run P w) { v := .int k (shiftI l k p q) } h := by
  unfold shiftI
  have ex := hx.int_inv
  have ey := hy.int_inv
  have hg : ∀ x y : Operand, (eqGuard (if l = true then .shl else .shr) t x y (.int k p) (.int k' q)).run P w = .ok () w := by
    intro x y; cases l <;> simp [eqGuard]
  refine Done.pure H hW (v := .int k (if l = true then k.wrap (p * 2 ^ (min q.toNat k.bits)) else p.fdiv (2 ^ (min q.toNat k.bits)))) ?_ (.int _ _)
  have hg' := hg x y
  cases l
  · simp only [Bool.false_eq_true, if_false] at ho hg' ⊢
    simp [execOp, ho, ex, ey, hg', binOp, Op.shift, hq]
  · simp only [if_true] at ho hg' ⊢
    simp [execOp, ho, ex, ey, hg', binOp, Op.shift, hq]

theorem nilck_done (H : HConc E B h w) (hW : Below B W w) (o : Oper) (x : Operand) (ho : o.op = .nilCheck x) (v : AV) (hv : Rel E v (a.eval x)) (hp : (∃ nm s sz i o, v = .ptr nm s sz i o) ∨ ∃ cs o, v = .kp cs o) :
    Done B W E st ((execOp a.eval o).run P w) { v := v } h := by
  refine Done.pure H hW (v := a.eval x) ?_ hv
  have : ∃ ad, a.eval x = .pointer (some ad) := by
    generalize a.eval x = u at hv
    rcases hp with ⟨_, _, _, _, _, rfl⟩ | ⟨_, _, rfl⟩ <;> cases hv <;> exact ⟨_, rfl⟩
  obtain ⟨ad, he⟩ := this
  simp [execOp, ho, he]

theorem nilOp_spec {P : Program} {t : TypeId} {y : Operand} {kd : Nat} (h : nilOp P t y = some kd) :
    (kd = 0 ∧ y = .const (.slice none 0 0) ∧ ∃ e, P.underlying t = some (.slice e)) ∨ (kd = 1 ∧ y = .const (.pointer none) ∧ ∃ e, P.underlying t = some (.pointer e)) ∨ (kd = 2 ∧ y = .const .nilFunc ∧ ∃ p q r, P.underlying t = some (.func p q r)) := by
  unfold nilOp at h
  split at h
  · split at h
    · rename_i e he; cases h; exact .inl ⟨rfl, rfl, e, he⟩
    · cases h
  · split at h
    · rename_i e he; cases h; exact .inr (.inl ⟨rfl, rfl, e, he⟩)
    · cases h
  · split at h
    · rename_i p q r he; cases h; exact .inr (.inr ⟨rfl, rfl, p, q, r, he⟩)
    · cases h
  · cases h

theorem nil_slice (d : Nat) (t e : TypeId) (ht : P.underlying t = some (.slice e)) (ad : Option Addr) (l c : Nat) : (Op.equalIn (d + 1) t (.slice ad l c) (.slice none 0 0)).run P w = .ok ad.isNone w := by
  cases ad <;> simp [Op.equalIn, run_underlying ht]
theorem nil_ptr (d : Nat) (t e : TypeId) (ht : P.underlying t = some (.pointer e)) (ad : Option Addr) : (Op.equalIn (d + 1) t (.pointer ad) (.pointer none)).run P w = .ok ad.isNone w := by
  cases ad <;> simp [Op.equalIn, run_underlying ht]
theorem nil_fn (d : Nat) (t : TypeId) (p q r) (ht : P.underlying t = some (.func p q r)) : (Op.equalIn (d + 1) t .nilFunc .nilFunc).run P w = .ok true w := by
  simp [Op.equalIn, run_underlying ht]
theorem nil_fn' (d : Nat) (t : TypeId) (p q r) (ht : P.underlying t = some (.func p q r)) (x y z) : (Op.equalIn (d + 1) t (.func x y z) .nilFunc).run P w = .ok false w := by
  simp [Op.equalIn, run_underlying ht]

/-- A comparison with nil. -/
theorem nilq_done (H : HConc E B h w) (hW : Below B W w) (o : Oper) (op : BinOp) (neg : Bool) (t ty : TypeId) (x y : Operand) (ho : o.op = .binOp op t x y ty) (hop : op = if neg = true then .neq else .eql)
    (v : AV) (hx : Rel E v (a.eval x)) (kd : Nat) (b : Bool) (hb : nilA kd v = some b) (hy : nilOp P t y = some kd) :
    Done B W E st ((execOp a.eval o).run P w) { v := .bool (if neg = true then !b else b) } h := by
  have main : ∀ (u z : Value), a.eval x = u → a.eval y = z → (Op.equal t u z).run P w = .ok b w → (∀ x' y' : Operand, (eqGuard op t x' y' u z).run P w = .ok () w) →
      ((∀ s : Bool, (binOp (if s = true then .neq else .eql) t u z).run P w = ((do let q ← Op.equal t u z; pure (Value.bool (if s = true then !q else q))) : Sem Value).run P w)) →
      Done B W E st ((execOp a.eval o).run P w) { v := .bool (if neg = true then !b else b) } h := by
    intro u z hu hz he hg hbin
    refine Done.pure H hW (v := .bool (if neg = true then !b else b)) ?_ (.bool _)
    have hb2 := hbin neg
    rw [← hop] at hb2
    simp only [execOp, ho, hu, hz, Sem.run_bind, hg, Result.andThen_ok, hb2, he, Sem.run_pure]
  rcases nilOp_spec hy with ⟨rfl, rfl, e, ht⟩ | ⟨rfl, rfl, e, ht⟩ | ⟨rfl, rfl, p, q, r, ht⟩
  · have hk : ∃ ad l c, a.eval x = .slice ad l c ∧ ad.isNone = b := by
      generalize a.eval x = u at hx
      cases v <;> simp only [nilA] at hb <;> (try (cases hb; done))
      case nils => cases hb; exact ⟨none, 0, 0, hx.nils_inv, rfl⟩
      case lst s xs =>
        cases xs with
        | nil => cases hb
        | cons q xs => cases hb; cases hx; exact ⟨_, _, _, rfl, rfl⟩
      case acc nm st s xs =>
        cases xs with
        | nil => cases hb
        | cons q xs =>
          cases hb
          cases hx with
          | acc _ _ _ _ _ _ _ hl => cases hl; exact ⟨_, _, _, rfl, rfl⟩
      case sl nm st s off len =>
        split at hb
        · cases hb
          cases hx with
          | sl _ _ _ _ _ cap ad hu hcap hc ha => exact ⟨_, _, _, rfl, by rw [ha (by omega)]; rfl⟩
        · cases hb
    obtain ⟨ad, l, c, e1, e3⟩ := hk
    refine main _ _ e1 rfl ?_ ?_ ?_
    · have := nil_slice (P := P) (w := w) 9999 t e ht ad l c
      rw [e3] at this; exact this
    · intro x' y'; cases op <;> simp [eqGuard]
    · intro s; cases s <;> simp [binOp]
  · have hk : ∃ ad, a.eval x = .pointer ad ∧ ad.isNone = b := by
      generalize a.eval x = u at hx
      cases v <;> simp only [nilA] at hb <;> (try (cases hb; done)) <;> cases hb <;> cases hx <;> exact ⟨_, rfl, rfl⟩
    obtain ⟨ad, e1, e3⟩ := hk
    refine main _ _ e1 rfl ?_ ?_ ?_
    · have := nil_ptr (P := P) (w := w) 9999 t e ht ad
      rw [e3] at this; exact this
    · intro x' y'; cases op <;> simp [eqGuard]
    · intro s; cases s <;> simp [binOp]
  · have hk : (a.eval x = .nilFunc ∧ b = true) ∨ ((∃ p q r, a.eval x = .func p q r) ∧ b = false) := by
      generalize a.eval x = u at hx
      cases v <;> simp only [nilA] at hb <;> (try (cases hb; done)) <;> cases hb <;> cases hx
      · exact .inl ⟨rfl, rfl⟩
      · exact .inr ⟨⟨_, _, _, rfl⟩, rfl⟩
    rcases hk with ⟨e1, e3⟩ | ⟨⟨p', q', r', e1⟩, e3⟩
    · refine main _ _ e1 rfl ?_ ?_ ?_
      · rw [e3]; exact nil_fn (P := P) (w := w) 9999 t p q r ht
      · intro x' y'; cases op <;> simp [eqGuard]
      · intro s; cases s <;> simp [binOp]
    · refine main _ _ e1 rfl ?_ ?_ ?_
      · rw [e3]; exact nil_fn' (P := P) (w := w) 9999 t p q r ht p' q' r'
      · intro x' y'; cases op <;> simp [eqGuard]
      · intro s; cases s <;> simp [binOp]

theorem nilCmp_spec {op : Op} {kd : Nat} {neg : Bool} {x : X} (h : nilCmp P n op = some (kd, neg, x)) :
    ∃ o t y ty x0, op = .binOp o t x0 y ty ∧ o = (if neg = true then BinOp.neq else .eql) ∧ nilOp P t y = some kd ∧ cX n x0 = some x := by
  cases op with
  | binOp op t x0 y ty =>
    simp only [nilCmp, Option.bind_eq_some_iff] at h
    obtain ⟨k, hk, x1, h1, h2⟩ := h
    split at h2
    · cases h2; exact ⟨_, _, _, _, _, rfl, rfl, hk, h1⟩
    · cases h2; exact ⟨_, _, _, _, _, rfl, rfl, hk, h1⟩
    · cases h2
  | _ => cases h

theorem nq_done (H : HConc E B h w) (hW : Below B W w) (hf : ∀ t, t < n → Rel E (f t) (a.tmps.getD t undef)) (o : Oper) {kd : Nat} {neg : Bool} {x : X} (hc : nilCmp P n o.op = some (kd, neg, x)) (e : Eff)
    (he : ex f h.blk h.tok st (.nilq kd neg x) = some e) : Done B W E st ((execOp a.eval o).run P w) e h := by
  obtain ⟨op, t, y, ty, x0, h1, h2, h3, h4⟩ := nilCmp_spec hc
  simp only [ex, Option.map_eq_some_iff] at he
  obtain ⟨b, hb, rfl⟩ := he
  exact nilq_done H hW o op neg t ty x0 y h1 h2 _ (cX_ok hf h4) kd b hb h3

/-- A comparison of an empty list with nil. -/
theorem nilq_und (H : HConc E B h w) (o : Oper) (op : BinOp) (neg : Bool) (t ty : TypeId) (x y : Operand) (ho : o.op = .binOp op t x y ty) (hop : op = if neg = true then .neq else .eql)
    (v : AV) (hx : Rel E v (a.eval x)) (hv : undV v = true) (hy : nilOp P t y = some 0) : ∃ b : Bool, (execOp a.eval o).run P w = .ok (.value (.bool b)) w := by
  rcases nilOp_spec hy with ⟨_, rfl, e, ht⟩ | ⟨q, _⟩ | ⟨q, _⟩
  · have hk : ∃ ad l c, a.eval x = .slice ad l c := by
      generalize a.eval x = u at hx
      cases v <;> simp only [undV] at hv <;> (try (cases hv; done))
      case lst s xs => cases hx <;> exact ⟨_, _, _, rfl⟩
      case acc nm st s xs =>
        cases hx with
        | acc _ _ _ _ _ _ _ hl => cases hl <;> exact ⟨_, _, _, rfl⟩
      case sl nm st s off len => cases hx; exact ⟨_, _, _, rfl⟩
    obtain ⟨ad, l, c, e1⟩ := hk
    have he : (Op.equal t (.slice ad l c) (.slice none 0 0)).run P w = .ok ad.isNone w := nil_slice (P := P) (w := w) 9999 t e ht ad l c
    refine ⟨if neg = true then !ad.isNone else ad.isNone, ?_⟩
    have hg : ∀ x' y' : Operand, (eqGuard op t x' y' (.slice ad l c) (.slice none 0 0)).run P w = .ok () w := by
      intro x' y'; cases op <;> simp [eqGuard]
    have hb2 : (binOp op t (.slice ad l c) (.slice none 0 0)).run P w = .ok (.bool (if neg = true then !ad.isNone else ad.isNone)) w := by
      subst hop
      cases neg <;> simp [binOp, he]
    have e2 : a.eval (.const (.slice none 0 0)) = .slice none 0 0 := rfl
    simp only [execOp, ho, e1, e2, Sem.run_bind, hg, Result.andThen_ok, hb2, Sem.run_pure]
  · cases q
  · cases q

end
end Go.Gv

/- Maps whose keys are numbers: made, read, written. No condition beyond those that each law names. -/
set_option linter.unusedVariables false
set_option linter.unusedSimpArgs false
namespace Go.Gv
open Go.RowKit

theorem getM_some {blk : Nat → Option Blk} {nm st : Nat} {es : List AV} (h : getM blk nm st = some es) : blk nm = some ⟨st, 0, es⟩ := by
  unfold getM at h
  split at h
  · rename_i b hb
    split at h
    · rename_i hc; cases h; rw [hb, ← hc.1, ← hc.2]
    · cases h
  · cases h

theorem findM_ok {E : Env} (q k : IntKind) (a : Int) : ∀ (es : List AV) (ms : List MapEntry) (i : Nat) (r : Option AV), EntsRel E es ms → findM k a es = some r →
    (r = none ∧ Instr.findNow (.int q) (.int k a) ms i = some none) ∨ ∃ z j v, r = some z ∧ Instr.findNow (.int q) (.int k a) ms i = some (some (j, v)) ∧ Rel E z v
  | [], [], i, r, _, h => by cases h; exact .inl ⟨rfl, rfl⟩
  | [], _ :: _, _, _, h, _ => h.elim
  | _ :: _, [], _, _, h, _ => h.elim
  | x :: es, m :: ms, i, r, ⟨⟨k', b, z, h1, h2, h3, h4⟩, h5⟩, h => by
    subst h1
    simp only [findM] at h
    split at h
    · rename_i ek; subst ek
      simp only [Instr.findNow, h2, Instr.sameNow, if_true]
      split at h
      · rename_i ea; subst ea
        cases h
        exact .inr ⟨z, i, m.val, rfl, by simp, h4⟩
      · rename_i ea
        have : (a == b) = false := by simp [ea]
        rw [this]
        exact findM_ok q _ a es ms (i + 1) r h5 h
    · cases h

section
variable {P : Program} {B : Nat} {W : World} {E : Env} {h : Hp} {w : World} {a : Act} {f : Nat → AV} {n nm st : Nat}

theorem mkm_done (H : HConc E B h w) (hW : Below B W w) (hB : B ≤ w.heap.size) (hst : ¬ E.u st) (o : Oper) (t : TypeId) (ho : o.op = .makeMap t none) :
    Done B W E st ((execOp a.eval o).run P w) { v := .mp nm st, wb := [(nm, some ⟨st, 0, []⟩)] } h := by
  have hE := Env.le_withM hst (w.heap.size, 0) 0
  have em : (E.withM st (w.heap.size, 0) 0).m st = (w.heap.size, 0) := upd_same _ _ _
  refine ⟨.map (some w.heap.size), w.alloc (.map #[] 0), E.withM st (w.heap.size, 0) 0, .inl ?_, hE, fun s hs => hs.elim .inr .inl, fun _ _ _ => rfl, ?_, hW.alloc hB _, ?_⟩
  · simp [execOp, ho, run_makeMap]
  · have h1 := H.grow (w' := w.alloc (.map #[] 0)) (fun k hk => heap_alloc_old w _ k hk)
    have h2 := h1.env hE h1.K (fun n b x j => (h1.bk n b x).noK j) (fun _ _ _ _ _ _ => rfl)
    refine (h2.dropB nm).putB ⟨st, 0, []⟩ (.inl rfl) (.map rfl ⟨by rw [em]; exact hB, ⟨#[], 0, by rw [em]; exact heap_alloc_new w _, trivial⟩, by rw [em]; exact fun j => K_none H (Nat.le_refl _) j⟩) ?_ ?_
    · intro n b' hn hb'
      rw [hE.m _ (H.bu n b' hb'), em]
      exact fun q => by have := (H.bk n b' hb').lt; rw [q] at this; exact Nat.lt_irrefl _ this
    · intro n t ht q
      rw [hE.hd _ (H.tu n t ht), em] at q
      exact Nat.lt_irrefl _ ((H.tk n t ht).lt q).2
  · have := Rel.mp (E := E.withM st (w.heap.size, 0) 0) nm st (.inl rfl)
    rw [em] at this
    exact this

theorem checkKey_int {key : TypeId} {q : IntKind} (hk : P.underlying key = some (.int q)) (b : Bool) (m : Nat) (k : IntKind) (a0 : Int) (w : World) : (Instr.checkKey b (m + 1) key (.int k a0)).run P w = .ok () w := by
  simp [Instr.checkKey, run_underlying hk]
theorem findKey_int {key : TypeId} {q : IntKind} (hk : P.underlying key = some (.int q)) (u : Value) (es : List MapEntry) (r : Option (Nat × Value)) (h : Instr.findNow (.int q) u es 0 = some r) (w : World) : (Instr.findKey key u es).run P w = .ok r w := by
  simp [Instr.findKey, run_underlying hk, h]

theorem mget_done (H : HConc E B h w) (hW : Below B W w) (o : Oper) (t : TypeId) (x i : Operand) (key elem : TypeId) (q : IntKind) (ho : o.op = .lookup t x i false) (ht : P.underlying t = some (.map key elem)) (hk : P.underlying key = some (.int q))
    (inf : TypeInfo) (hi : P.info? elem = some inf) (z : Value) (hz : inf.zero = some z) (nm' s : Nat) (hm : Rel E (.mp nm' s) (a.eval x)) (k : IntKind) (a0 : Int) (hx : Rel E (.int k a0) (a.eval i))
    (es : List AV) (hes : getM h.blk nm' s = some es) (r : Option AV) (hr : findM k a0 es = some r) : Done B W E st ((execOp a.eval o).run P w) { v := r.getD (ofC z) } h := by
  have hb := getM_some hes
  obtain ⟨arr, c, hg, hents⟩ := (H.bk nm' _ hb).mp.mp
  simp only at hg
  have e1 : a.eval x = .map (some (E.m s).1) := by generalize a.eval x = u at hm; cases hm; rfl
  have e2 := hx.int_inv
  have hck : ∀ b, (Instr.checkKey b 10000 key (.int k a0)).run P w = .ok () w := fun b => checkKey_int (m := 9999) hk b k a0 w
  rcases findM_ok q k a0 es arr.toList 0 r hents hr with ⟨rfl, hf⟩ | ⟨y, j, v, rfl, hf, hv⟩
  · refine Done.pure H hW (v := z) ?_ (Rel_ofC E z)
    simp [execOp, ho, e1, e2, Instr.lookup, run_underlying ht, MapKept.run_getObj_map hg, hck, findKey_int hk _ _ _ hf, zeroValue, typeInfo, hi, hz]
  · refine Done.pure H hW (v := v) ?_ hv
    simp [execOp, ho, e1, e2, Instr.lookup, run_underlying ht, MapKept.run_getObj_map hg, hck, findKey_int hk _ _ _ hf]

theorem EntsRel.push {E : Env} (k : IntKind) (a : Int) (z : AV) (v : Value) (c : Nat) (h1 : z.one = true) (hv : Rel E z v) : ∀ (es : List AV) (ms : List MapEntry), EntsRel E es ms → EntsRel E (es ++ [.agg [.int k a, z]]) (ms ++ [⟨.int k a, v, c⟩])
  | [], [], _ => ⟨⟨k, a, z, rfl, rfl, h1, hv⟩, trivial⟩
  | [], _ :: _, h => h.elim
  | _ :: _, [], h => h.elim
  | x :: es, m :: ms, ⟨h2, h3⟩ => ⟨h2, EntsRel.push k a z v c h1 hv es ms h3⟩

theorem mput_done (H : HConc E B h w) (hW : Below B W w) (o : Oper) (t : TypeId) (m x v : Operand) (key elem : TypeId) (q : IntKind) (ho : o.op = .mapUpdate t m x v) (ht : P.underlying t = some (.map key elem)) (hk : P.underlying key = some (.int q))
    (nm' s : Nat) (hm : Rel E (.mp nm' s) (a.eval m)) (k : IntKind) (a0 : Int) (hx : Rel E (.int k a0) (a.eval x)) (y : AV) (hv : Rel E y (a.eval v)) (h1 : y.one = true)
    (es : List AV) (hes : getM h.blk nm' s = some es) (hr : findM k a0 es = some none) : Done B W E st ((execOp a.eval o).run P w) { v := .junk, wb := [(nm', some ⟨s, 0, es ++ [.agg [.int k a0, y]]⟩)] } h := by
  have hb := getM_some hes
  have hbk := (H.bk nm' _ hb)
  have hbu : E.u s := H.bu nm' _ hb
  obtain ⟨arr, c, hg, hents⟩ := hbk.mp.mp
  simp only at hg
  have hlt : (E.m s).1 < w.heap.size := (Array.getElem?_eq_some_iff.1 hg).1
  have e1 : a.eval m = .map (some (E.m s).1) := by generalize a.eval m = u at hm; cases hm; rfl
  have e2 := hx.int_inv
  have hf : Instr.findNow (.int q) (.int k a0) arr.toList 0 = some none := by
    rcases findM_ok q k a0 es arr.toList 0 none hents hr with ⟨_, hf⟩ | ⟨y, j, v, h, _⟩
    · exact hf
    · cases h
  let w' : World := { w with heap := w.heap.setIfInBounds (E.m s).1 (.map (arr.push ⟨.int k a0, a.eval v, c⟩) (c + 1)) }
  have hck : ∀ b, (Instr.checkKey b 10000 key (.int k a0)).run P w = .ok () w := fun b => checkKey_int (m := 9999) hk b k a0 w
  have hsame : w'.heap[(E.m s).1]? = some (.map (arr.push ⟨.int k a0, a.eval v, c⟩) (c + 1)) := by simp [w', hlt]
  have hother : ∀ g, g ≠ (E.m s).1 → w'.heap[g]? = w.heap[g]? := fun g hne => by simp [w', Array.getElem?_setIfInBounds, Ne.symm hne]
  refine ⟨undef, w', E, .inr ⟨?_, rfl⟩, .refl E, fun _ q => .inl q, fun _ _ _ => rfl, ?_, ?_, .junk _⟩
  · simp [execOp, ho, e1, e2, Instr.mapUpdate, run_underlying ht, MapKept.run_getObj_map hg, hck, findKey_int hk _ _ _ hf, MapKept.run_setObj_map _ hg, w']
  · have H1 : HConc E B (h.setB nm' none) w' := by
      refine (H.dropB nm').change ?_ ?_ ?_
      · intro b o v hk'
        have hne : b ≠ (E.m s).1 := fun q => by rw [q, hbk.noK o] at hk'; cases hk'
        rw [World.cell?_of_block (w := w) (hother b hne)]
        exact H.K b o v hk'
      · intro n b hb'
        have : n ≠ nm' ∧ h.blk n = some b := by
          simp only [Hp.setB, upd] at hb'
          split at hb'
          · simp at hb'
          · rename_i hne; exact ⟨hne, hb'⟩
        exact hother _ (H.bb n nm' b _ this.1 this.2 hb)
      · intro n t' g ht' hg'
        exact hother _ (fun q => H.bt nm' n _ t' hb ht' (by rw [hg', q]))
    refine H1.putB ⟨s, 0, _⟩ hbu (.map rfl ⟨hbk.base, ⟨_, _, hsame, ?_⟩, hbk.noK⟩) (fun n b' hn hb' => by have := H.bb n nm' b' _ hn hb' hb; exact this) (fun n t' ht' => by have := H.bt nm' n _ t' hb ht'; exact this)
    rw [Array.toList_push]
    exact EntsRel.push k a0 y _ c h1 hv es _ hents
  · exact hW.trans ⟨rfl, rfl, rfl, by simp [w'], fun g hg' => hother g (fun q => by have := hbk.base; simp only at this; omega)⟩
end
end Go.Gv

/- Every abstract operation other than a call is done by the model's operation that it was turned from: the law over all operations. No condition beyond those that it names. -/
set_option linter.unusedVariables false
set_option linter.unusedSimpArgs false
namespace Go.Gv
open Go.RowKit

section
variable {P : Program} {B : Nat} {W : World} {E : Env} {h : Hp} {w : World} {a : Act} {f : Nat → AV} {n nm st : Nat}

theorem optNat_ok (hf : ∀ t, t < n → Rel E (f t) (a.tmps.getD t undef)) {lo : Option Operand} {lx : Option X} (hc : cOptX n lo = some lx) {l : Option Nat} (hl : optNat f lx = some l) :
    (l = none ∧ lo.map a.eval = none) ∨ ∃ k m, l = some m ∧ lo.map a.eval = some (.int k m) := by
  cases lo with
  | none => cases hc; cases hl; exact .inl ⟨rfl, rfl⟩
  | some x =>
    simp only [cOptX, Option.map_eq_some_iff] at hc
    obtain ⟨y, hy, rfl⟩ := hc
    simp only [optNat, Option.map_eq_some_iff] at hl
    obtain ⟨m, hm, rfl⟩ := hl
    have hr := cX_ok hf hy
    generalize y.ev f = v at hm hr
    cases v <;> simp only [asNat] at hm <;> (try (cases hm; done))
    rename_i k p
    split at hm
    · rename_i h0
      cases hm
      refine .inr ⟨k, p.toNat, rfl, ?_⟩
      rw [Option.map_some, hr.int_inv, Int.toNat_of_nonneg h0]
    · cases hm

theorem asNat_int {v : AV} {m : Nat} (h : asNat v = some m) : ∃ k, v = .int k m := by
  cases v <;> simp only [asNat] at h <;> (try (cases h; done))
  split at h
  · rename_i k p h0; cases h; exact ⟨k, by rw [Int.toNat_of_nonneg h0]⟩
  · cases h

theorem op_done (H : HConc E B h w) (hW : Below B W w) (hB : B ≤ w.heap.size) (hst : ¬ E.u st) (hf : ∀ t, t < n → Rel E (f t) (a.tmps.getD t undef)) (o : Oper) (ao : AOp) (hc : cOp P n nm o.op = some ao) (e : Eff)
    (he : ex f h.blk h.tok st ao = some e) : Done B W E st ((execOp a.eval o).run P w) e h := by
  generalize ho : o.op = op at hc
  cases op with
  | move x =>
    simp only [cOp, Option.map_eq_some_iff] at hc
    obtain ⟨y, hy, rfl⟩ := hc
    cases he
    exact mv_done H hW hf o x (.inl ho) y hy
  | assign x =>
    simp only [cOp, Option.map_eq_some_iff] at hc
    obtain ⟨y, hy, rfl⟩ := hc
    cases he
    exact mv_done H hW hf o x (.inr ho) y hy
  | pick c x y =>
    simp only [cOp, Option.map_eq_some_iff, Option.bind_eq_some_iff] at hc
    obtain ⟨c', hc', x', hx', y', hy', rfl⟩ := hc
    simp only [ex] at he
    split at he
    · rename_i t ht
      cases he
      exact pick_done H hW o c x y ho t (by rw [← ht]; exact cX_ok hf hc') _ _ (cX_ok hf hx') (cX_ok hf hy')
    · cases he
  | alloc t =>
    simp only [cOp, Option.bind_eq_some_iff] at hc
    obtain ⟨i, hi, z, hz, hc⟩ := hc
    split at hc
    · rename_i h0; cases hc
      simp only [ex] at he
      split at he
      · rename_i hq; cases he; exact new_done H hW hB hst o t ho i z hi hz h0 hq.1 hq.2
      · cases he
    · cases hc
  | box t x =>
    simp only [cOp, Option.bind_eq_some_iff] at hc
    obtain ⟨x', hx', i, hi, hc⟩ := hc
    split at hc
    · rename_i h0; cases hc
      simp only [ex] at he
      split at he
      · rename_i hq; cases he; exact box_done H hW hB hst o t x ho _ (cX_ok hf hx') i.size h0 hq.1 hq.2
      · cases he
    · cases hc
  | build t parts =>
    simp only [cOp] at hc
    split at hc
    · rename_i fs ht
      simp only [Option.map_eq_some_iff, Option.bind_eq_some_iff] at hc
      obtain ⟨i, hi, z, hz, places, hp, ps, hps, rfl⟩ := hc
      simp only [ex] at he
      split at he
      · rename_i h1
        simp only [Option.bind_eq_some_iff] at he
        obtain ⟨cs, hcs, he⟩ := he
        split at he
        · rename_i hall; cases he
          exact build_done H hW hf o t parts ho fs ht i hi z hz places hp ps hps h1 cs hcs hall
        · cases he
      · cases he
    · cases hc
  | buildSlice t len parts =>
    simp only [cOp] at hc
    split at hc
    · rename_i e' ht
      simp only [Option.bind_eq_some_iff] at hc
      obtain ⟨i, hi, z, hz, hc⟩ := hc
      split at hc
      · rename_i hq
        simp only [Option.map_eq_some_iff] at hc
        obtain ⟨ps, hps, hc⟩ := hc
        split at hc
        · subst hc
          simp only [ex] at he
          split at he
          · rename_i hok; cases he
            exact bsl_done H hW hB hst hf o t e' len parts ho ht i hi z hz hq.1 hq.2.1 hq.2.2 ps hps hok.1 hok.2.1 hok.2.2
          · cases he
        · subst hc
          simp only [ex] at he
          split at he
          · rename_i hok; cases he
            exact bslm_done H hW hB hst hf o t e' len parts ho ht i hi z hz hq.1 hq.2.1 hq.2.2 ps hps hok.1 hok.2.1 hok.2.2
          · cases he
      · cases hc
    · cases hc
  | load t x =>
    simp only [cOp, Option.bind_eq_some_iff] at hc
    obtain ⟨x', hx', d, hd, hc⟩ := hc
    split at hc
    · rename_i hagg
      simp only [Option.map_eq_some_iff] at hc
      obtain ⟨i, hi, rfl⟩ := hc
      simp only [ex, Option.map_eq_some_iff] at he
      obtain ⟨v, hv, rfl⟩ := he
      exact load_done H hW o t x ho _ v (cX_ok hf hx') d hd (.inr ⟨hagg, i, hi, hv⟩)
    · rename_i hagg
      cases hc
      simp only [ex, Option.map_eq_some_iff] at he
      obtain ⟨v, hv, rfl⟩ := he
      exact load_done H hW o t x ho _ v (cX_ok hf hx') d hd (.inl ⟨by simpa using hagg, hv⟩)
  | store t x y =>
    simp only [cOp, Option.bind_eq_some_iff] at hc
    obtain ⟨x', hx', y', hy', i, hi, hc⟩ := hc
    split at hc
    · rename_i h0
      cases hc
      simp only [ex] at he
      split at he
      · rename_i nm' s sz k off hp
        simp only [Option.bind_eq_some_iff] at he
        obtain ⟨es, hes, e1, he1, he⟩ := he
        split at he
        · rename_i hq; cases he
          obtain ⟨w', hrun, h1, h2⟩ := store_done (P := P) H hW t i hi (by rw [← hp]; exact cX_ok hf hx') (cX_ok hf hy') hes he1 hq.1 hq.2.1 hq.2.2 h0
          exact ⟨undef, w', E, .inr ⟨by simp [execOp, ho, hrun], rfl⟩, .refl E, fun _ q => .inl q, fun _ _ _ => rfl, h1, h2, .junk _⟩
        · cases he
      · cases he
    · cases hc
  | nilCheck x =>
    simp only [cOp, Option.map_eq_some_iff] at hc
    obtain ⟨y, hy, rfl⟩ := hc
    simp only [ex] at he
    split at he
    · rename_i nm' s sz i o' hp; cases he
      rw [← hp]
      exact nilck_done H hW o x ho _ (cX_ok hf hy) (.inl ⟨_, _, _, _, _, hp⟩)
    · rename_i cs o' hp; cases he
      rw [← hp]
      exact nilck_done H hW o x ho _ (cX_ok hf hy) (.inr ⟨_, _, hp⟩)
    · cases he
  | binOp op t x y ty =>
    simp only [cOp, Option.bind_eq_some_iff] at hc
    obtain ⟨x', hx', y', hy', hc⟩ := hc
    split at hc
    · have hsh : ∀ l : Bool, op = (if l = true then BinOp.shl else .shr) → ao = .shift l x' y' → Done B W E st ((execOp a.eval o).run P w) e h := by
        intro l hop hao
        subst hao hop
        simp only [ex] at he
        split at he
        · rename_i k p k' q hp hq
          split at he
          · cases he
          · rename_i hq0; cases he
            exact shift_done H hW o l t ty x y ho k k' p q (by rw [← hp]; exact cX_ok hf hx') (by rw [← hq]; exact cX_ok hf hy') hq0
        · cases he
      have hin : ao = .ibin op x' y' → Done B W E st ((execOp a.eval o).run P w) e h := by
        intro hao
        subst hao
        simp only [ex] at he
        split at he
        · rename_i k p k' q hp hq
          split at he
          · rename_i ek; subst ek
            simp only [Option.map_eq_some_iff] at he
            obtain ⟨r, hr, rfl⟩ := he
            exact int_done H hW o op t ty x y ho k p q (by rw [← hp]; exact cX_ok hf hx') (by rw [← hq]; exact cX_ok hf hy') r hr
          · cases he
        · cases he
      split at hc
      · cases hc; exact hsh true rfl rfl
      · cases hc; exact hsh false rfl rfl
      · cases hc; exact hin rfl
    · rename_i ht
      have main : ∀ neg, op = (if neg = true then BinOp.neq else .eql) → ao = .eqv neg x' y' → Done B W E st ((execOp a.eval o).run P w) e h := by
        intro neg hop hao
        subst hao
        simp only [ex] at he
        split at he
        · rename_i p q hp hq
          cases he
          exact eqv_done H hW o op neg t ty x y ho hop ht p q (by rw [← hp]; exact cX_ok hf hx') (by rw [← hq]; exact cX_ok hf hy')
        · cases he
      split at hc
      · cases hc; exact main false rfl rfl
      · cases hc; exact main true rfl rfl
      · cases hc
    · rename_i fs ht
      simp only [Option.bind_eq_some_iff] at hc
      obtain ⟨ks, hks, hc⟩ := hc
      split at hc
      · rename_i hq
        have main : ∀ neg, op = (if neg = true then BinOp.neq else .eql) → ao = .eqs ks neg x' y' → Done B W E st ((execOp a.eval o).run P w) e h := by
          intro neg hop hao
          subst hao
          simp only [ex] at he
          split at he
          · rename_i xs ys hp hp'
            simp only [Option.map_eq_some_iff] at he
            obtain ⟨r, hr, rfl⟩ := he
            exact eqs_done H hW o op neg t ty x y ho hop fs ht ks hks hq.1 hq.2 xs ys (by rw [← hp]; exact cX_ok hf hx') (by rw [← hp']; exact cX_ok hf hy') r hr
          · cases he
        split at hc
        · cases hc; exact main false rfl rfl
        · cases hc; exact main true rfl rfl
        · cases hc
      · cases hc
    · cases hc
  | unOp op t x =>
    cases op <;> simp only [cOp, Option.map_eq_some_iff] at hc <;> (try (cases hc; done))
    · obtain ⟨x', hx', rfl⟩ := hc
      simp only [ex] at he
      split at he
      · rename_i k p hp; cases he; exact neg_done H hW o t x ho k p (by rw [← hp]; exact cX_ok hf hx')
      · cases he
    · obtain ⟨x', hx', rfl⟩ := hc
      simp only [ex] at he
      split at he
      · rename_i b hp; cases he; exact not_done H hW o t x ho b (by rw [← hp]; exact cX_ok hf hx')
      · cases he
  | convert src dst x =>
    simp only [cOp, Option.bind_eq_some_iff] at hc
    obtain ⟨x', hx', hc⟩ := hc
    split at hc
    · rename_i d k hs hd
      cases hc
      simp only [ex] at he
      split at he
      · rename_i k' p hp; cases he; exact conv_done H hW o src dst x ho k d hs hd k' p (by rw [← hp]; exact cX_ok hf hx')
      · cases he
    · cases hc
  | makeFunc fn first caps =>
    cases fn with
    | func g =>
      simp only [cOp] at hc
      split at hc
      · rename_i h0
        simp only [Option.map_eq_some_iff] at hc
        obtain ⟨l, hl, rfl⟩ := hc
        cases he
        obtain ⟨e1, e2⟩ := cXs_ok hf _ _ hl
        refine mkf_done H hW o g first caps h0 ho _ (by simp only [List.length_map]; exact e1) ?_
        intro j y z hy hz
        rw [List.getElem?_map] at hy
        cases hx : l[j]? with
        | none => simp [hx] at hy
        | some x => simp only [hx, Option.map_some, Option.some.injEq] at hy; rw [← hy]; exact e2 j x z hx hz
      · cases hc
    | _ => simp [cOp] at hc
  | makeSlice t l c =>
    cases l <;> cases c <;> simp only [cOp] at hc <;> (try (cases hc; done))
    rename_i l c
    split at hc
    · rename_i el; subst el
      split at hc
      · rename_i e' ht
        simp only [Option.bind_eq_some_iff] at hc
        obtain ⟨i, hi, z, hz, hc⟩ := hc
        split at hc
        · rename_i hq
          simp only [Option.map_eq_some_iff] at hc
          obtain ⟨x, hx, rfl⟩ := hc
          simp only [ex, Option.bind_eq_some_iff] at he
          obtain ⟨m, hm, he⟩ := he
          split at he
          · rename_i hk; cases he
            obtain ⟨k, hk'⟩ := asNat_int hm
            exact msl_done H hW hB hst o t e' (.tmp l) ho ht i hi z hz hq.1 hq.2.1 hq.2.2 k m (by rw [← hk']; exact cX_ok hf hx) hk.1 hk.2.1 hk.2.2
          · cases he
        · cases hc
      · cases hc
    · cases hc
  | slice t x lo hi mx =>
    cases mx with
    | some m => simp [cOp] at hc
    | none =>
      simp only [cOp, Option.bind_eq_some_iff] at hc
      obtain ⟨x', hx', lx, hlx, hx2, hhx, hc⟩ := hc
      have main : ∀ so : Option Nat, ao = .slice so x' lx hx2 → ((so = none ∧ P.underlying t = some .string) ∨ ∃ e ti, so = some ti.size ∧ P.underlying t = some (.slice e) ∧ P.info? e = some ti) → Done B W E st ((execOp a.eval o).run P w) e h := by
        intro so hao hty
        subst hao
        simp only [ex, Option.bind_eq_some_iff, Option.map_eq_some_iff] at he
        obtain ⟨l, hl, hh, hhh, v, hv, rfl⟩ := he
        obtain ⟨u, hu, hrel⟩ := slice_done (P := P) H (cX_ok hf hx') so l hh hv t hty _ _ (optNat_ok hf hlx hl) (optNat_ok hf hhx hhh)
        exact Done.pure H hW (v := u) (by simp [execOp, ho, hu]) hrel
      split at hc
      · rename_i e' ht
        simp only [Option.map_eq_some_iff] at hc
        obtain ⟨i, hi, rfl⟩ := hc
        exact main _ rfl (.inr ⟨e', i, rfl, ht, hi⟩)
      · rename_i ht; cases hc; exact main _ rfl (.inl ⟨rfl, ht⟩)
      · cases hc
  | fieldAddr s x g =>
    simp only [cOp, Option.bind_eq_some_iff] at hc
    obtain ⟨x', hx', hc⟩ := hc
    split at hc
    · rename_i fs hs
      simp only [Option.bind_eq_some_iff] at hc
      obtain ⟨fd, hfd, i, hi, hc⟩ := hc
      split at hc
      · cases hc
      · rename_i h0
        cases hc
        simp only [ex] at he
        split at he
        · rename_i nm' s' sz k off hp; cases he
          exact fld_done H hW o s x g ho fs hs fd hfd i hi h0 _ _ (cX_ok hf hx') (.inl ⟨nm', s', sz, k, off, hp, rfl⟩)
        · rename_i cs off hp; cases he
          exact fld_done H hW o s x g ho fs hs fd hfd i hi h0 _ _ (cX_ok hf hx') (.inr ⟨cs, off, hp, rfl⟩)
        · cases he
    · cases hc
  | field t x g =>
    simp only [cOp, Option.bind_eq_some_iff] at hc
    obtain ⟨x', hx', hc⟩ := hc
    split at hc
    · rename_i fs ht
      simp only [Option.bind_eq_some_iff, Option.map_eq_some_iff] at hc
      obtain ⟨fd, hfd, d, hd, i, hi, rfl⟩ := hc
      by_cases hagg : isAggD d = true
      · rw [if_pos hagg] at he
        simp only [ex] at he
        split at he
        · rename_i cs hp
          split at he
          · rename_i hle; cases he
            exact getf_done H hW o t x g ho fs ht fd hfd d hd i hi cs (by rw [← hp]; exact cX_ok hf hx') _ (.inr ⟨hagg, hle, rfl⟩)
          · cases he
        · cases he
      · rw [if_neg hagg] at he
        simp only [ex] at he
        split at he
        · rename_i cs hp
          simp only [Option.map_eq_some_iff] at he
          obtain ⟨v, hv, rfl⟩ := he
          exact getf_done H hW o t x g ho fs ht fd hfd d hd i hi cs (by rw [← hp]; exact cX_ok hf hx') _ (.inl ⟨by simpa using hagg, hv⟩)
        · cases he
    · cases hc
  | indexAddr t x i =>
    simp only [cOp, Option.bind_eq_some_iff] at hc
    obtain ⟨x', hx', i', hi', hc⟩ := hc
    split at hc
    · rename_i e' ht
      simp only [Option.map_eq_some_iff] at hc
      obtain ⟨ti, hti, rfl⟩ := hc
      simp only [ex, Option.bind_eq_some_iff, Option.map_eq_some_iff] at he
      obtain ⟨j, hj, v, hv, rfl⟩ := he
      obtain ⟨k, hk⟩ := asNat_int hj
      have hki := (cX_ok hf hi')
      rw [hk] at hki
      obtain ⟨u, hu, hrel⟩ := idx_done (P := P) H (cX_ok hf hx') j ti.size hv t e' ti ht hti rfl k
      exact Done.pure H hW (v := u) (by simp [execOp, ho, hki.int_inv, hu]) hrel
    · cases hc
  | makeMap t r =>
    cases r with
    | some r => simp [cOp] at hc
    | none =>
      simp only [cOp, Option.some.injEq] at hc
      subst hc
      simp only [ex, Option.some.injEq] at he
      subst he
      exact mkm_done H hW hB hst o t ho
  | lookup t x i ok =>
    cases ok with
    | true => simp [cOp] at hc
    | false =>
      simp only [cOp, Option.bind_eq_some_iff] at hc
      obtain ⟨x', hx', i', hi', hc⟩ := hc
      split at hc
      · rename_i key elem ht
        split at hc
        · rename_i q hk
          simp only [Option.bind_eq_some_iff, Option.map_eq_some_iff] at hc
          obtain ⟨inf, hinf, z, hz, rfl⟩ := hc
          simp only [ex] at he
          split at he
          · rename_i nm' s k a0 hm hx
            split at he
            · simp only [Option.bind_eq_some_iff, Option.map_eq_some_iff] at he
              obtain ⟨es, hes, r, hr, rfl⟩ := he
              rename_i ek; subst ek
              exact mget_done H hW o t x i key elem _ ho ht hk inf hinf z hz nm' s (by rw [← hm]; exact cX_ok hf hx') _ a0 (by rw [← hx]; exact cX_ok hf hi') es hes r hr
            · cases he
          · cases he
        · cases hc
      · cases hc
  | mapUpdate t m x v =>
    simp only [cOp, Option.bind_eq_some_iff] at hc
    obtain ⟨m', hm', x', hx', v', hv', hc⟩ := hc
    split at hc
    · rename_i key elem ht
      split at hc
      · rename_i q hk
        cases hc
        simp only [ex] at he
        split at he
        · rename_i nm' s k a0 hm hx
          simp only [Option.bind_eq_some_iff] at he
          obtain ⟨es, hes, he⟩ := he
          split at he
          · rename_i hfn
            split at he
            · rename_i h1; cases he
              exact mput_done H hW o t m x v key elem q ho ht hk nm' s (by rw [← hm]; exact cX_ok hf hm') k a0 (by rw [← hx]; exact cX_ok hf hx') _ (cX_ok hf hv') h1 es hes hfn
            · cases he
          · cases he
        · cases he
      · cases hc
    · cases hc
  | extract x i =>
    simp only [cOp, Option.map_eq_some_iff] at hc
    obtain ⟨x', hx', rfl⟩ := hc
    simp only [ex] at he
    split at he
    · rename_i vs hp
      simp only [Option.map_eq_some_iff] at he
      obtain ⟨v, hv, rfl⟩ := he
      exact ext_done H hW o x i ho vs (by rw [← hp]; exact cX_ok hf hx') v hv
    · cases he
  | call c =>
    obtain ⟨callee, args, tys⟩ := c
    cases callee with
    | value g => simp [cOp] at hc
    | invoke r m => simp [cOp] at hc
    | builtin b =>
      have mm : ∀ mx : Bool, b = (if mx = true then .max else .min) → (∀ x l, args.toList = x :: l → ((cX n x).bind fun x => (cXs n l).map fun l => .mm mx x l) = some ao → Done B W E st ((execOp a.eval o).run P w) e h) := by
        intro mx hb x l hargs hc2
        subst hb
        simp only [Option.bind_eq_some_iff, Option.map_eq_some_iff] at hc2
        obtain ⟨x', hx', l', hl', rfl⟩ := hc2
        obtain ⟨e1, e2⟩ := cXs_ok hf _ _ hl'
        simp only [ex] at he
        split at he
        · rename_i k p hp
          simp only [Option.map_eq_some_iff] at he
          obtain ⟨r, hr, rfl⟩ := he
          refine mm_done H hW o mx x l tys args hargs ho k p r (by rw [← hp]; exact cX_ok hf hx') (l'.map fun y => y.ev f) (by simp [e1]) ?_ hr
          intro j y z hy hz
          rw [List.getElem?_map] at hy
          cases hx : l'[j]? with
          | none => simp [hx] at hy
          | some x => simp only [hx, Option.map_some, Option.some.injEq] at hy; rw [← hy]; exact e2 j x z hx hz
        · cases he
      cases b <;> simp only [cOp] at hc <;> (try (cases hc; done))
      case len =>
        split at hc
        · rename_i x t hargs htys
          simp only [Option.bind_eq_some_iff] at hc
          obtain ⟨x', hx', hc⟩ := hc
          have ea : args = #[x] := by cases args; simp_all
          have et : tys = #[t] := by cases tys; simp_all
          subst ea et
          split at hc
          · rename_i e1 ht; cases hc
            simp only [ex, Option.map_eq_some_iff] at he
            obtain ⟨k, hk, rfl⟩ := he
            exact len_done H hW o x t ho _ (cX_ok hf hx') k hk e1 ht
          · rename_i ht; cases hc
            simp only [ex] at he
            split at he
            · rename_i s hs; cases he
              exact slen_done H hW o x t ho s (by rw [← hs]; exact cX_ok hf hx') ht
            · cases he
          · cases hc
        · cases hc
      case append =>
        split at hc
        · rename_i s x t t' hargs htys
          split at hc
          · rename_i et'
            subst et'
            simp only [Option.bind_eq_some_iff] at hc
            obtain ⟨s', hs', x', hx', hc⟩ := hc
            split at hc
            · rename_i e' ht
              simp only [Option.bind_eq_some_iff] at hc
              obtain ⟨i, hi, z, hz, hc⟩ := hc
              split at hc
              · rename_i hq
                have ea : args = #[s, x] := by cases args; simp_all
                have et : tys = #[t, t] := by cases tys; simp_all
                subst ea et
                split at hc
                rotate_left
                · cases hc
                  simp only [ex, Option.bind_eq_some_iff] at he
                  obtain ⟨b, hb, ys, hys, he⟩ := he
                  split at he
                  · rename_i hby
                    split at he
                    · rename_i hem; cases he
                      have hb1 : b.2 = none := by simp at hem; exact hem.1
                      have hys0 : ys = [] := by simp at hem; exact hem.2
                      have hs0 : s'.ev f = .nils := by
                        generalize s'.ev f = v at hb
                        cases v <;> simp only [appwBase] at hb <;> (try (cases hb; done))
                        · rfl
                        · split at hb
                          · simp only [Option.bind_eq_some_iff] at hb
                            obtain ⟨es, _, hb⟩ := hb
                            split at hb <;> cases hb
                            cases hb1
                          · cases hb
                      subst hys0
                      obtain ⟨ad, c, news, hu, _⟩ := srcM_of H (cX_ok hf hx') hys
                      have hsv := cX_ok hf hs'
                      rw [hs0] at hsv
                      have hrun : (Builtin.append_ #[t, t] o.type #[a.eval s, a.eval x]).run P w = .ok (.slice none 0 0) w := by
                        rw [hsv.nils_inv, hu]
                        cases ad <;> simp [Builtin.append_, run_underlying ht, sizeOf, typeInfo, hi, Builtin.lenOf, Builtin.firstCells, loadCells, loadCellsFrom]
                      exact Done.pure H hW (v := .slice none 0 0) (by simp [execOp, ho, resolve, invoke, builtin, hrun]) .nils
                    · rename_i hem; cases he
                      obtain ⟨v', w', E', hrun, h1, h2, hEB, h3, h4, h5⟩ := appw_done (P := P) H hW hB nm st i.size t o.type e' i z hst ht hi hz rfl hq.2.1 hq.2.2 hq.1 _ _ _ _ (cX_ok hf hs') (cX_ok hf hx') b hb ys hys
                        (fun hb1 hys0 => hem (by rw [hb1, hys0]; rfl)) hby
                      exact ⟨v', w', E', .inl (by simp [execOp, ho, resolve, invoke, builtin, hrun]), h1, h2, hEB, h3, h4, h5⟩
                  · cases he
                cases hc
                simp only [ex, Option.bind_eq_some_iff] at he
                obtain ⟨b, hb, ys, hys, he⟩ := he
                split at he
                · rename_i hby; cases he
                  obtain ⟨v', w', E', hrun, h1, h2, hEB, h3, h4, h5⟩ := app_done (P := P) H hW hB nm st i.size t o.type e' i z hst ht hi hz rfl hq.2.1 hq.2.2 hq.1 _ _ _ _ (cX_ok hf hs') (cX_ok hf hx') b hb ys hys hby
                  exact ⟨v', w', E', .inl (by simp [execOp, ho, resolve, invoke, builtin, hrun]), h1, h2, hEB, h3, h4, h5⟩
                · cases he
              · cases hc
            · cases hc
          · cases hc
        · cases hc
      case copy =>
        split at hc
        · rename_i x y t t' hargs htys
          simp only [Option.bind_eq_some_iff] at hc
          obtain ⟨x', hx', y', hy', hc⟩ := hc
          split at hc
          · rename_i e1 e2 ht ht'
            simp only [Option.map_eq_some_iff] at hc
            obtain ⟨i, hi, rfl⟩ := hc
            have ea : args = #[x, y] := by cases args; simp_all
            have et : tys = #[t, t'] := by cases tys; simp_all
            subst ea et
            exact cpy_done H hW o x y t t' e1 e2 ho i ht hi x' y' (cX_ok hf hx') (cX_ok hf hy') e he
          · cases hc
        · cases hc
      case max =>
        split at hc
        · rename_i x l hargs; exact mm true rfl x l hargs hc
        · cases hc
      case min =>
        split at hc
        · rename_i x l hargs; exact mm false rfl x l hargs hc
        · cases hc
  | _ => simp [cOp] at hc

end
end Go.Gv
