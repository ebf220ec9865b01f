/- A state told in another way: blocks that are written no more become known, names are changed, blocks are forgotten. No condition beyond those that each law names. -/
import Derived.Test.YthhgjncefjnogaaGv23
import Derived.Test.YthhgjncefjnogaaGv24
set_option linter.unusedVariables false
set_option linter.unusedSimpArgs false
namespace Go.Gv
open Go.RowKit

/-- A heap told in another way; values are told by φ. -/
def Wkh (c c' : Nat) (h h' : Hp) (φ : AV → AV) : Prop :=
  c ≤ c' ∧ ∀ (E : Env) (B : Nat) (w : World), HConc E B h w → (∀ s, E.u s → s < c) →
    ∃ E', E.le E' ∧ HConc E' B h' w ∧ (∀ b o, b < B → E'.K b o = E.K b o) ∧ (∀ s, E'.u s → E.u s) ∧ ∀ (x : AV) (v : Value), Rel E x v → Rel E' (φ x) v

theorem Wkh.refl (c : Nat) (h : Hp) : Wkh c c h h id := ⟨Nat.le_refl _, fun E B w H hu => ⟨E, .refl E, H, fun _ _ _ => rfl, fun _ h => h, fun _ _ h => h⟩⟩
theorem Wkh.trans {c c' c'' : Nat} {h h' h'' : Hp} {φ ψ : AV → AV} (a : Wkh c c' h h' φ) (b : Wkh c' c'' h' h'' ψ) : Wkh c c'' h h'' (fun x => ψ (φ x)) := by
  refine ⟨Nat.le_trans a.1 b.1, fun E B w H hu => ?_⟩
  obtain ⟨E', a1, a2, a3, a4, a5⟩ := a.2 E B w H hu
  obtain ⟨E'', b1, b2, b3, b4, b5⟩ := b.2 E' B w a2 (fun s hs => Nat.lt_of_lt_of_le (hu s (a4 s hs)) a.1)
  exact ⟨E'', a1.trans b1, b2, fun b o hb => (b3 b o hb).trans (a3 b o hb), fun s hs => a4 s (b4 s hs), fun x v hv => b5 _ v (a5 x v hv)⟩

/-- All slots by φ. -/
theorem Wk.of {S S' : St} {φ : AV → AV} (h : Wkh S.clk S'.clk S.h S'.h φ) (ht : ∀ t, S'.t t = φ (S.t t)) : Wk S S' :=
  ⟨h.1, fun E B w H hu => let ⟨E', a1, a2, a3, a4, a5⟩ := h.2 E B w H hu; ⟨E', a1, a2, a3, a4, fun t v hv => by rw [ht]; exact a5 _ v hv⟩⟩
/-- No slot. -/
theorem Wk.of' {S S' : St} {φ : AV → AV} (h : Wkh S.clk S'.clk S.h S'.h φ) (ht : S'.t = S.t) : Wk S S' :=
  ⟨h.1, fun E B w H hu => let ⟨E', a1, a2, a3, a4, a5⟩ := h.2 E B w H hu; ⟨E', a1, a2, a3, a4, fun t v hv => by rw [ht]; exact hv.mono a1⟩⟩
/-- Some slots, each as it likes. -/
theorem Wk.some {S S' : St} {φ : AV → AV} (h : Wkh S.clk S'.clk S.h S'.h φ) (ht : ∀ t, S'.t t = S.t t ∨ S'.t t = φ (S.t t) ∨ S'.t t = .junk) : Wk S S' :=
  ⟨h.1, fun E B w H hu => let ⟨E', a1, a2, a3, a4, a5⟩ := h.2 E B w H hu; ⟨E', a1, a2, a3, a4, fun t v hv => by
    rcases ht t with e | e | e
    · rw [e]; exact hv.mono a1
    · rw [e]; exact a5 _ v hv
    · rw [e]; exact .junk v⟩⟩

/-- A call's end told in another way. -/
theorem CallP.told {P : Program} {fv : AV} {vals : List AV} {S : St} {k k' : AV → St → Prop} (h : CallP P fv vals S k')
    (hk : ∀ r S', k' r S' → ∃ S'' φ, Wkh S'.clk S''.clk S'.h S''.h φ ∧ S''.t = S'.t ∧ k (φ r) S'') : CallP P fv vals S k := by
  obtain ⟨f, caps, h1, h2, h3⟩ := h
  refine ⟨f, caps, h1, h2, fun E B W w args H hW hB hu hsz hr => (h3 E B W w args H hW hB hu hsz hr).mono ?_⟩
  rintro e w' ⟨v, E', r, S', a1, a2, a3, a4, a5, a6, a7, a8, a9, a10⟩
  obtain ⟨S'', φ, b1, b2, b3⟩ := hk r S' a10
  obtain ⟨E'', c1, c2, c3, c4, c5⟩ := b1.2 E' B w' a3 (fun s hs => (a6 s hs).2)
  exact ⟨v, E'', φ r, S'', a1, a2.trans c1, c2, a4, fun b o hb => (c3 b o hb).trans (a5 b o hb), fun s hs => ⟨(a6 s (c4 s hs)).1, Nat.lt_of_lt_of_le (a6 s (c4 s hs)).2 b1.1⟩, Nat.le_trans a7 b1.1, b2.trans a8, c5 r v a9, b3⟩

/-! ### Forgetting -/

theorem Wkh.sub {c c' : Nat} (hc : c ≤ c') {h h' : Hp} (hb : ∀ n b, h'.blk n = some b → h.blk n = some b) (ht : ∀ n t, h'.tok n = some t → h.tok n = some t) : Wkh c c' h h' id :=
  ⟨hc, fun E B w H hu => ⟨E, .refl E, H.sub hb ht, fun _ _ _ => rfl, fun _ h => h, fun _ _ h => h⟩⟩

/-! ### Mapping values -/

/-- A block's elements, each told by φ cell by cell. -/
def mapE (φ : AV → AV) : AV → AV
  | .agg cs => .agg (cs.map φ)
  | v => φ v
def mapV (φ : AV → AV) : AV → AV
  | .tup vs => .tup (vs.map (mapE φ))
  | v => mapE φ v

structure CellMap (E E' : Env) (φ : AV → AV) : Prop where
  rel : ∀ (x : AV) (v : Value), x.one = true → Rel E x v → Rel E' (φ x) v
  one : ∀ x : AV, x.one = true → (φ x).one = true
  other : ∀ x : AV, x.one = false → φ x = x
  le : E.le E'

theorem CellMap.relE {E E' : Env} {φ : AV → AV} (h : CellMap E E' φ) {x : AV} {v : Value} (hr : Rel E x v) : Rel E' (mapE φ x) v := by
  by_cases hx : ∃ cs, x = .agg cs
  · obtain ⟨cs, rfl⟩ := hx
    cases hr with
    | agg _ vs hs h1 hr =>
      refine .agg _ vs (by simpa using hs) ?_ ?_
      · intro j y hy
        rw [List.getElem?_map] at hy
        cases hc : cs[j]? with
        | none => simp [hc] at hy
        | some z => simp only [hc, Option.map_some, Option.some.injEq] at hy; rw [← hy]; exact h.one z (h1 j z hc)
      · intro j y u hy hu
        rw [List.getElem?_map] at hy
        cases hc : cs[j]? with
        | none => simp [hc] at hy
        | some z => simp only [hc, Option.map_some, Option.some.injEq] at hy; rw [← hy]; exact h.rel z u (h1 j z hc) (hr j z u hc hu)
  · have e : mapE φ x = φ x := by cases x <;> first | rfl | exact absurd ⟨_, rfl⟩ hx
    rw [e]
    cases h1 : x.one with
    | true => exact h.rel x v h1 hr
    | false => rw [h.other x h1]; exact hr.mono h.le

theorem CellMap.relV {E E' : Env} {φ : AV → AV} (h : CellMap E E' φ) {x : AV} {v : Value} (hr : Rel E x v) : Rel E' (mapV φ x) v := by
  by_cases hx : ∃ cs, x = .tup cs
  · obtain ⟨cs, rfl⟩ := hx
    cases hr with
    | tup _ vs hs hr =>
      refine .tup _ vs (by simpa using hs) ?_
      intro j y u hy hu
      rw [List.getElem?_map] at hy
      cases hc : cs[j]? with
      | none => simp [hc] at hy
      | some z => simp only [hc, Option.map_some, Option.some.injEq] at hy; rw [← hy]; exact h.relE (hr j z u hc hu)
  · have e : mapV φ x = mapE φ x := by cases x <;> first | rfl | exact absurd ⟨_, rfl⟩ hx
    rw [e]; exact h.relE hr

theorem CellMap.cells {E E' : Env} {φ : AV → AV} (h : CellMap E E' φ) {x : AV} (h1 : ∀ y ∈ x.cells, y.one = true) : (mapE φ x).cells = x.cells.map φ := by
  by_cases hx : ∃ cs, x = .agg cs
  · obtain ⟨cs, rfl⟩ := hx; rfl
  · have e : mapE φ x = φ x := by cases x <;> first | rfl | exact absurd ⟨_, rfl⟩ hx
    have hc : x.cells = [x] := by cases x <;> first | rfl | exact absurd ⟨_, rfl⟩ hx
    rw [e, hc]
    have := h1 x (by rw [hc]; simp)
    rw [AV.cells_one (h.one x this)]; rfl

theorem CellMap.elemOk {E E' : Env} {φ : AV → AV} (h : CellMap E E' φ) {sz : Nat} {x : AV} (hx : ElemOk sz x) : ElemOk sz (mapE φ x) := by
  refine ⟨by rw [h.cells hx.2, List.length_map]; exact hx.1, ?_⟩
  rw [h.cells hx.2]
  intro y hy
  rw [List.mem_map] at hy
  obtain ⟨z, hz, rfl⟩ := hy
  exact h.one z (hx.2 z hz)

def mapB (φ : AV → AV) (b : Blk) : Blk := ⟨b.st, b.sz, b.es.map (mapE φ)⟩

theorem CellMap.blkOk {E E' : Env} {φ : AV → AV} (h : CellMap E E' φ) {B : Nat} {w : World} {st sz : Nat} {es : List AV} (hu : E.u st) (hb : BlkOk E B w st sz es) (hk : ∀ j, E'.K (E.m st).1 j = none) : BlkOk E' B w st sz (es.map (mapE φ)) := by
  have em := h.le.m st hu
  have ec := h.le.cp st hu
  refine ⟨by rw [em]; exact hb.base, ?_, by rw [ec, List.length_map]; exact hb.len, ?_, by rw [em]; exact hk⟩
  · intro x hx
    rw [List.mem_map] at hx
    obtain ⟨y, hy, rfl⟩ := hx
    exact h.elemOk (hb.el y hy)
  · rw [em, ec]
    obtain ⟨cur, e, h1, h2, h3⟩ := hb.row
    refine ⟨cur, e, h1, h2, ?_⟩
    intro i x hx j y hy
    rw [List.getElem?_map] at hx
    cases hc : es[i]? with
    | none => simp [hc] at hx
    | some z =>
      simp only [hc, Option.map_some, Option.some.injEq] at hx
      subst hx
      have hz := hb.el z (List.mem_of_getElem? hc)
      rw [h.cells hz.2, List.getElem?_map] at hy
      cases hq : z.cells[j]? with
      | none => simp [hq] at hy
      | some q =>
        simp only [hq, Option.map_some, Option.some.injEq] at hy
        obtain ⟨u, hu, hr⟩ := h3 i z hc j q hq
        exact ⟨u, hu, by rw [← hy]; exact h.rel q u (hz.2 q (List.mem_of_getElem? hq)) hr⟩

/-! ### Freezing a block -/

def fz0 (nm st sz : Nat) (es : List AV) : AV → AV
  | .sl nm' st' sz' off len => if nm' = nm ∧ st' = st ∧ sz' = sz ∧ off + len ≤ es.length then .lst sz ((es.drop off).take len) else .sl nm' st' sz' off len
  | .ptr nm' st' sz' i off => if nm' = nm ∧ st' = st ∧ sz' = sz then (match es[i]? with | some x => .kp x.cells off | none => .ptr nm' st' sz' i off) else .ptr nm' st' sz' i off
  | v => v
def fzc (nm st sz : Nat) (es : List AV) : AV → AV
  | .fn f caps => .fn f (caps.map (fz0 nm st sz es))
  | v => fz0 nm st sz es v

/-- Are all cells closed? -/
def closedL (es : List AV) : Prop := ∀ x ∈ es, ∀ y ∈ x.cells, y.cl1 = true

def knowAt (E : Env) (g o k : Nat) (cur : Array Value) : Nat → Nat → Option Value := fun b j => if b = g ∧ o ≤ j ∧ j < o + k then cur[j]? else E.K b j

theorem frz_ok {E : Env} {B : Nat} {h : Hp} {w : World} (H : HConc E B h w) {nm st sz : Nat} {es : List AV} (hb : h.blk nm = some ⟨st, sz, es⟩) (hcl : closedL es) :
    ∃ E', CellMap E E' (fzc nm st sz es) ∧ (∀ b o, b < B → E'.K b o = E.K b o) ∧ (∀ s, E'.u s → E.u s) ∧ (∀ b o v, E'.K b o = some v → w.cell? ⟨b, o, none⟩ = some v) ∧ (∀ b o, b ≠ (E.m st).1 → E'.K b o = E.K b o) := by
  have hbk := H.bk nm _ hb
  have hbu : E.u st := H.bu nm _ hb
  obtain ⟨cur, e, hg, hsz, hr⟩ := hbk.row
  simp only at hg hsz hr
  have hbase : B ≤ (E.m st).1 := hbk.base
  have hnoK : ∀ j, E.K (E.m st).1 j = none := hbk.noK
  have hel : ∀ x ∈ es, ElemOk sz x := hbk.el
  have hcell : ∀ j, w.cell? ⟨(E.m st).1, j, none⟩ = cur[j]? := fun j => cell_of_row w _ j cur e (0, 0) hg
  have hlen : es.length ≤ E.cp st := hbk.len
  have hfit : (E.m st).2 + es.length * sz ≤ cur.size := by have := Nat.mul_le_mul_right sz hlen; omega
  let E' : Env := E.withK (knowAt E (E.m st).1 (E.m st).2 (es.length * sz) cur)
  have hE : E.le E' := Env.le_withK (fun b o u hu => by
    unfold knowAt
    split
    · rename_i hc; rw [hc.1, hnoK] at hu; cases hu
    · exact hu)
  have know : ∀ i j, i < es.length → j < sz → E'.K (E.m st).1 ((E.m st).2 + i * sz + j) = cur[(E.m st).2 + i * sz + j]? := by
    intro i j hi hj
    have := mul_lt hi hj
    show knowAt E _ _ _ cur _ _ = _
    unfold knowAt
    rw [if_pos ⟨rfl, by omega, by omega⟩]
  have inb : ∀ i j, i < es.length → j < sz → (E.m st).2 + i * sz + j < cur.size := by
    intro i j hi hj; have := mul_lt hi hj; omega
  have cellRel : ∀ (i : Nat) (x : AV), es[i]? = some x → ∀ (j : Nat) (y : AV), x.cells[j]? = some y → i < es.length ∧ j < sz ∧ Rel E'.cl y ((cur[(E.m st).2 + i * sz + j]?).getD .nilFunc) := by
    intro i x hx j y hy
    have hi := (List.getElem?_eq_some_iff.1 hx).1
    have hxm := List.mem_of_getElem? hx
    have hj : j < sz := by rw [← (hel x hxm).1]; exact (List.getElem?_eq_some_iff.1 hy).1
    obtain ⟨u, hu, hrel⟩ := hr i x hx j y hy
    refine ⟨hi, hj, ?_⟩
    rw [hu]
    exact Rel.of_cl1 (E := E) (E' := E'.cl) hE.K hrel (hcl x hxm y (List.mem_of_getElem? hy))
  have f0 : ∀ (x : AV) (v : Value), Rel E x v → Rel E' (fz0 nm st sz es x) v := by
    intro x v hrel
    cases x with
    | sl nm' st' sz' off len =>
      simp only [fz0]
      split
      · rename_i hc
        obtain ⟨c1, c2, c3, c4⟩ := hc
        subst c2 c3
        cases hrel with
        | sl _ _ _ _ _ cap a hu hcap hcp ha =>
          by_cases hl0 : len = 0
          · subst hl0; rw [List.take_zero]; exact .lst0 _ _ _
          · rw [ha (by omega)]
            have hwl : ((es.drop off).take len).length = len := by simp; omega
            have hidx : ∀ (i : Nat) (z : AV), ((es.drop off).take len)[i]? = some z → i < len ∧ es[off + i]? = some z := by
              intro i z hz
              rw [List.getElem?_take] at hz
              split at hz
              · rename_i hi; rw [List.getElem?_drop] at hz; exact ⟨hi, hz⟩
              · cases hz
            have := Rel.lst (E := E') ((es.drop off).take len) (E.m st').1 ((E.m st').2 + off * sz') sz' cap (fun i j => (cur[(E.m st').2 + (off + i) * sz' + j]?).getD .nilFunc)
              (by rw [hwl]; exact hcap) (fun z hz => (hel z (List.mem_of_mem_drop (List.mem_of_mem_take hz))).1) ?_ ?_ ?_
            · rw [hwl] at this; exact this
            · intro i j hi hj
              rw [hwl] at hi
              rw [show (E.m st').2 + off * sz' + i * sz' + j = (E.m st').2 + (off + i) * sz' + j by rw [Nat.add_mul]; omega, know (off + i) j (by omega) hj]
              have := inb (off + i) j (by omega) hj
              simp [this]
            · intro i z hz j q hq
              exact (hel z (List.mem_of_mem_drop (List.mem_of_mem_take (List.mem_of_getElem? hz)))).2 q (List.mem_of_getElem? hq)
            · intro i z hz j q hq
              exact (cellRel (off + i) z (hidx i z hz).2 j q hq).2.2
      · exact hrel.mono hE
    | ptr nm' st' sz' i off =>
      simp only [fz0]
      split
      · rename_i hc
        obtain ⟨c1, c2, c3⟩ := hc
        subst c2 c3
        cases hx : es[i]? with
        | none => exact hrel.mono hE
        | some x =>
          cases hrel with
          | ptr _ _ _ _ _ hu =>
            have hi := (List.getElem?_eq_some_iff.1 hx).1
            have hxm := List.mem_of_getElem? hx
            exact Rel.kp (E := E') x.cells off (E.m st').1 ((E.m st').2 + i * sz') (fun j => (cur[(E.m st').2 + i * sz' + j]?).getD .nilFunc)
              (fun j hj => by
                have hj' : j < sz' := by rw [← (hel x hxm).1]; exact hj
                rw [know i j hi hj']
                have := inb i j hi hj'
                simp [this])
              (fun j y hy => (hel x hxm).2 y (List.mem_of_getElem? hy)) (fun j y hy => (cellRel i x hx j y hy).2.2)
      · exact hrel.mono hE
    | _ => exact hrel.mono hE
  refine ⟨E', ⟨?_, ?_, ?_, hE⟩, ?_, fun _ h => h, ?_, ?_⟩
  · intro x v h1 hrel
    cases x with
    | fn f caps =>
      cases hrel with
      | fn _ _ vs hs hr' =>
        refine .fn f _ vs (by simpa using hs) ?_
        intro j y u hy hu
        rw [List.getElem?_map] at hy
        cases hc : caps[j]? with
        | none => simp [hc] at hy
        | some z => simp only [hc, Option.map_some, Option.some.injEq] at hy; rw [← hy]; exact f0 z u (hr' j z u hc hu)
    | _ => exact f0 _ v hrel
  · intro x h1
    cases x with
    | fn f caps => rfl
    | sl nm' st' sz' off len => show (fz0 nm st sz es (.sl nm' st' sz' off len)).one = true; simp only [fz0]; split <;> rfl
    | ptr nm' st' sz' i off =>
      show (fz0 nm st sz es (.ptr nm' st' sz' i off)).one = true
      simp only [fz0]
      split
      · split <;> rfl
      · rfl
    | _ => exact h1
  · intro x h1
    cases x <;> first | rfl | (simp [AV.one] at h1)
  · intro b o hb
    show knowAt E _ _ _ cur b o = _
    unfold knowAt
    rw [if_neg (by omega)]
  · intro b o v hv
    have hv : knowAt E (E.m st).1 (E.m st).2 (es.length * sz) cur b o = some v := hv
    unfold knowAt at hv
    split at hv
    · rename_i hc; rw [hc.1, hcell]; exact hv
    · exact H.K b o v hv
  · intro b o hb
    show knowAt E _ _ _ cur b o = _
    unfold knowAt
    rw [if_neg (fun q => hb q.1)]

def Hp.frz (h : Hp) (nm st sz : Nat) (es : List AV) : Hp := ⟨fun n => if n = nm then none else (h.blk n).map (mapB (fzc nm st sz es)), h.tok⟩

theorem Wkh.frz {c : Nat} {h : Hp} {nm st sz : Nat} {es : List AV} (hb : h.blk nm = some ⟨st, sz, es⟩) (hcl : closedL es) : Wkh c c h (h.frz nm st sz es) (mapV (fzc nm st sz es)) := by
  refine ⟨Nat.le_refl _, fun E B w H hu => ?_⟩
  obtain ⟨E', hM, hB, hu', hK, hother⟩ := frz_ok H hb hcl
  have get : ∀ n b, (h.frz nm st sz es).blk n = some b → n ≠ nm ∧ ∃ b0, h.blk n = some b0 ∧ b = mapB (fzc nm st sz es) b0 := by
    intro n b hn
    simp only [Hp.frz] at hn
    split at hn
    · cases hn
    · rename_i hne
      simp only [Option.map_eq_some_iff] at hn
      obtain ⟨b0, h1, h2⟩ := hn
      exact ⟨hne, b0, h1, h2.symm⟩
  have hne1 : ∀ n b0, n ≠ nm → h.blk n = some b0 → (E.m b0.st).1 ≠ (E.m st).1 := fun n b0 hn h0 => H.bb n nm b0 _ hn h0 hb
  refine ⟨E', hM.le, ⟨hK, ?_, ?_, fun n t ht => hM.le.u _ (H.tu n t ht), ?_, ?_, ?_, ?_⟩, hB, hu', fun x v hv => hM.relV hv⟩
  · intro n b hn
    obtain ⟨hne, b0, h0, rfl⟩ := get n b hn
    exact hM.le.u _ (H.bu n b0 h0)
  · intro n b hn
    obtain ⟨hne, b0, h0, rfl⟩ := get n b hn
    refine hM.blkOk (H.bu n b0 h0) (H.bk n b0 h0) (fun j => ?_)
    show E'.K (E.m b0.st).1 j = none
    rw [hother _ _ (hne1 n b0 hne h0)]
    exact (H.bk n b0 h0).noK j
  · intro n t ht
    have ht : h.tok n = some t := ht
    rw [hM.le.hd _ (H.tu n t ht)]
    obtain ⟨m, cs, h1, h2⟩ := H.tk n t ht
    refine ⟨m, cs, h1, fun g j hg hj => ?_⟩
    rw [hother _ _ (fun q => H.bt nm n _ t hb ht (by rw [hg, q]))]
    exact h2 g j hg hj
  · intro n n' b b' hn hb1 hb2
    obtain ⟨_, b0, h0, rfl⟩ := get n b hb1
    obtain ⟨_, b0', h0', rfl⟩ := get n' b' hb2
    show (E'.m b0.st).1 ≠ (E'.m b0'.st).1
    rw [hM.le.m _ (H.bu n b0 h0), hM.le.m _ (H.bu n' b0' h0')]
    exact H.bb n n' b0 b0' hn h0 h0'
  · intro n n' b t hb1 ht
    have ht : h.tok n' = some t := ht
    obtain ⟨_, b0, h0, rfl⟩ := get n b hb1
    show (E'.hd t.st).ownBlock ≠ some (E'.m b0.st).1
    rw [hM.le.m _ (H.bu n b0 h0), hM.le.hd _ (H.tu n' t ht)]
    exact H.bt n n' b0 t h0 ht
  · intro n n' t t' g hn ht ht'
    have ht : h.tok n = some t := ht
    have ht' : h.tok n' = some t' := ht'
    rw [hM.le.hd _ (H.tu n t ht), hM.le.hd _ (H.tu n' t' ht')]
    exact H.tt n n' t t' g hn ht ht'

/-! ### Other names -/

def rn0 (a b : Nat) : AV → AV
  | .sl nm st sz off len => .sl (if nm = a then b else nm) st sz off len
  | .ptr nm st sz i off => .ptr (if nm = a then b else nm) st sz i off
  | v => v
def rnc (a b : Nat) : AV → AV
  | .fn f caps => .fn f (caps.map (rn0 a b))
  | v => rn0 a b v

theorem rn_map (E : Env) (a b : Nat) : CellMap E E (rnc a b) := by
  have f0 : ∀ (x : AV) (v : Value), Rel E x v → Rel E (rn0 a b x) v := by
    intro x v h
    cases x with
    | sl nm st sz off len => cases h with | sl _ _ _ _ _ cap ad hu hcap hc ha => exact .sl _ st sz off len cap ad hu hcap hc ha
    | ptr nm st sz i off => cases h with | ptr _ _ _ _ _ hu => exact .ptr _ st sz i off hu
    | _ => exact h
  refine ⟨?_, ?_, ?_, .refl E⟩
  · intro x v h1 hrel
    cases x with
    | fn f caps =>
      cases hrel with
      | fn _ _ vs hs hr' =>
        refine .fn f _ vs (by simpa using hs) ?_
        intro j y u hy hu
        rw [List.getElem?_map] at hy
        cases hc : caps[j]? with
        | none => simp [hc] at hy
        | some z => simp only [hc, Option.map_some, Option.some.injEq] at hy; rw [← hy]; exact f0 z u (hr' j z u hc hu)
    | _ => exact f0 _ v hrel
  · intro x h1
    cases x <;> first | rfl | exact h1
  · intro x h1
    cases x <;> first | rfl | (simp [AV.one] at h1)

def Hp.ren (h : Hp) (a b : Nat) : Hp := ⟨fun n => if n = b then (h.blk a).map (mapB (rnc a b)) else if n = a then none else (h.blk n).map (mapB (rnc a b)), h.tok⟩

theorem Wkh.ren {c : Nat} {h : Hp} (a b : Nat) (hab : a ≠ b) : Wkh c c h (h.ren a b) (mapV (rnc a b)) := by
  refine ⟨Nat.le_refl _, fun E B w H hu => ?_⟩
  have hM := rn_map E a b
  have get : ∀ n bl, (h.ren a b).blk n = some bl → ∃ m b0, h.blk m = some b0 ∧ bl = mapB (rnc a b) b0 ∧ m = (if n = b then a else n) ∧ (n ≠ a) := by
    intro n bl hn
    simp only [Hp.ren] at hn
    split at hn
    · rename_i e
      simp only [Option.map_eq_some_iff] at hn
      obtain ⟨b0, h1, h2⟩ := hn
      exact ⟨a, b0, h1, h2.symm, by rw [if_pos e], fun q => hab (q.symm.trans e)⟩
    · rename_i e
      split at hn
      · cases hn
      · rename_i e2
        simp only [Option.map_eq_some_iff] at hn
        obtain ⟨b0, h1, h2⟩ := hn
        exact ⟨n, b0, h1, h2.symm, by rw [if_neg e], e2⟩
  refine ⟨E, .refl E, ⟨H.K, ?_, ?_, H.tu, H.tk, ?_, ?_, H.tt⟩, fun _ _ _ => rfl, fun _ h => h, fun x v hv => hM.relV hv⟩
  · intro n bl hn
    obtain ⟨m, b0, h0, rfl, _⟩ := get n bl hn
    exact H.bu m b0 h0
  · intro n bl hn
    obtain ⟨m, b0, h0, rfl, _⟩ := get n bl hn
    exact hM.blkOk (H.bu m b0 h0) (H.bk m b0 h0) (H.bk m b0 h0).noK
  · intro n n' bl bl' hn hb1 hb2
    obtain ⟨m, b0, h0, rfl, e, e'⟩ := get n bl hb1
    obtain ⟨m', b0', h0', rfl, e2, e2'⟩ := get n' bl' hb2
    refine H.bb m m' b0 b0' ?_ h0 h0'
    rw [e, e2]
    intro q
    split at q <;> split at q
    · rename_i q1 q2; exact hn (q1.trans q2.symm)
    · exact e2' q.symm
    · exact e' q
    · exact hn q
  · intro n n' bl t hb1 ht
    obtain ⟨m, b0, h0, rfl, _⟩ := get n bl hb1
    exact H.bt m n' b0 t h0 ht

end Go.Gv
