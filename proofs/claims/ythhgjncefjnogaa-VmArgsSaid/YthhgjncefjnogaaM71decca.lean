/- Texts of this proof, one behind the other. What is proved, and on which conditions, stands ahead of each. -/
import Derived.Test.YthhgjncefjnogaaM6eedefe
import Derived.Test.YthhgjncefjnogaaProg

/- A state told in another way: blocks that are written no more become known, names are changed, blocks are forgotten. No condition beyond those that each law names. -/
set_option linter.unusedVariables false
set_option linter.unusedSimpArgs false
namespace Go.Gv
open Go.RowKit

/-- A heap told in another way; values are told by φ. -/
def Wkh (c c' : Nat) (h h' : Hp) (φ : AV → AV) : Prop :=
  c ≤ c' ∧ ∀ (E : Env) (B : Nat) (w : World), HConc E B h w → (∀ s, E.u s → s < c) →
    ∃ E', E.le E' ∧ HConc E' B h' w ∧ (∀ b o, b < B → E'.K b o = E.K b o) ∧ (∀ s, E'.u s → E.u s) ∧ ∀ (x : AV) (v : Value), Rel E x v → Rel E' (φ x) v

theorem Wkh.refl (c : Nat) (h : Hp) : Wkh c c h h id := ⟨Nat.le_refl _, fun E B w H hu => ⟨E, .refl E, H, fun _ _ _ => rfl, fun _ h => h, fun _ _ h => h⟩⟩
theorem Wkh.trans {c c' c'' : Nat} {h h' h'' : Hp} {φ ψ : AV → AV} (a : Wkh c c' h h' φ) (b : Wkh c' c'' h' h'' ψ) : Wkh c c'' h h'' (fun x => ψ (φ x)) := by
  refine ⟨Nat.le_trans a.1 b.1, fun E B w H hu => ?_⟩
  obtain ⟨E', a1, a2, a3, a4, a5⟩ := a.2 E B w H hu
  obtain ⟨E'', b1, b2, b3, b4, b5⟩ := b.2 E' B w a2 (fun s hs => Nat.lt_of_lt_of_le (hu s (a4 s hs)) a.1)
  exact ⟨E'', a1.trans b1, b2, fun b o hb => (b3 b o hb).trans (a3 b o hb), fun s hs => a4 s (b4 s hs), fun x v hv => b5 _ v (a5 x v hv)⟩

/-- All slots by φ. -/
theorem Wk.of {S S' : St} {φ : AV → AV} (h : Wkh S.clk S'.clk S.h S'.h φ) (ht : ∀ t, S'.t t = φ (S.t t)) : Wk S S' :=
  ⟨h.1, fun E B w H hu => let ⟨E', a1, a2, a3, a4, a5⟩ := h.2 E B w H hu; ⟨E', a1, a2, a3, a4, fun t v hv => by rw [ht]; exact a5 _ v hv⟩⟩
/-- No slot. -/
theorem Wk.of' {S S' : St} {φ : AV → AV} (h : Wkh S.clk S'.clk S.h S'.h φ) (ht : S'.t = S.t) : Wk S S' :=
  ⟨h.1, fun E B w H hu => let ⟨E', a1, a2, a3, a4, a5⟩ := h.2 E B w H hu; ⟨E', a1, a2, a3, a4, fun t v hv => by rw [ht]; exact hv.mono a1⟩⟩
/-- Some slots, each as it likes. -/
theorem Wk.some {S S' : St} {φ : AV → AV} (h : Wkh S.clk S'.clk S.h S'.h φ) (ht : ∀ t, S'.t t = S.t t ∨ S'.t t = φ (S.t t) ∨ S'.t t = .junk) : Wk S S' :=
  ⟨h.1, fun E B w H hu => let ⟨E', a1, a2, a3, a4, a5⟩ := h.2 E B w H hu; ⟨E', a1, a2, a3, a4, fun t v hv => by
    rcases ht t with e | e | e
    · rw [e]; exact hv.mono a1
    · rw [e]; exact a5 _ v hv
    · rw [e]; exact .junk v⟩⟩

/-- A call's end told in another way. -/
theorem CallP.told {P : Program} {fv : AV} {vals : List AV} {S : St} {k k' : AV → St → Prop} (h : CallP P fv vals S k')
    (hk : ∀ r S', k' r S' → ∃ S'' φ, Wkh S'.clk S''.clk S'.h S''.h φ ∧ S''.t = S'.t ∧ k (φ r) S'') : CallP P fv vals S k := by
  obtain ⟨f, caps, h1, h2, h3⟩ := h
  refine ⟨f, caps, h1, h2, fun E B W w args H hW hB hu hsz hr => (h3 E B W w args H hW hB hu hsz hr).mono ?_⟩
  rintro e w' ⟨v, E', r, S', a1, a2, a3, a4, a5, a6, a7, a8, a9, a10⟩
  obtain ⟨S'', φ, b1, b2, b3⟩ := hk r S' a10
  obtain ⟨E'', c1, c2, c3, c4, c5⟩ := b1.2 E' B w' a3 (fun s hs => (a6 s hs).2)
  exact ⟨v, E'', φ r, S'', a1, a2.trans c1, c2, a4, fun b o hb => (c3 b o hb).trans (a5 b o hb), fun s hs => ⟨(a6 s (c4 s hs)).1, Nat.lt_of_lt_of_le (a6 s (c4 s hs)).2 b1.1⟩, Nat.le_trans a7 b1.1, b2.trans a8, c5 r v a9, b3⟩

/-! ### Forgetting -/

theorem Wkh.sub {c c' : Nat} (hc : c ≤ c') {h h' : Hp} (hb : ∀ n b, h'.blk n = some b → h.blk n = some b) (ht : ∀ n t, h'.tok n = some t → h.tok n = some t) : Wkh c c' h h' id :=
  ⟨hc, fun E B w H hu => ⟨E, .refl E, H.sub hb ht, fun _ _ _ => rfl, fun _ h => h, fun _ _ h => h⟩⟩

/-! ### Mapping values -/

/-- A block's elements, each told by φ cell by cell. -/
def mapE (φ : AV → AV) : AV → AV
  | .agg cs => .agg (cs.map φ)
  | v => φ v
def mapV (φ : AV → AV) : AV → AV
  | .tup vs => .tup (vs.map (mapE φ))
  | v => mapE φ v

structure CellMap (E E' : Env) (φ : AV → AV) : Prop where
  rel : ∀ (x : AV) (v : Value), x.one = true → Rel E x v → Rel E' (φ x) v
  one : ∀ x : AV, x.one = true → (φ x).one = true
  other : ∀ x : AV, x.one = false → φ x = x
  le : E.le E'

theorem CellMap.relE {E E' : Env} {φ : AV → AV} (h : CellMap E E' φ) {x : AV} {v : Value} (hr : Rel E x v) : Rel E' (mapE φ x) v := by
  by_cases hx : ∃ cs, x = .agg cs
  · obtain ⟨cs, rfl⟩ := hx
    cases hr with
    | agg _ vs hs h1 hr =>
      refine .agg _ vs (by simpa using hs) ?_ ?_
      · intro j y hy
        rw [List.getElem?_map] at hy
        cases hc : cs[j]? with
        | none => simp [hc] at hy
        | some z => simp only [hc, Option.map_some, Option.some.injEq] at hy; rw [← hy]; exact h.one z (h1 j z hc)
      · intro j y u hy hu
        rw [List.getElem?_map] at hy
        cases hc : cs[j]? with
        | none => simp [hc] at hy
        | some z => simp only [hc, Option.map_some, Option.some.injEq] at hy; rw [← hy]; exact h.rel z u (h1 j z hc) (hr j z u hc hu)
  · have e : mapE φ x = φ x := by cases x <;> first | rfl | exact absurd ⟨_, rfl⟩ hx
    rw [e]
    cases h1 : x.one with
    | true => exact h.rel x v h1 hr
    | false => rw [h.other x h1]; exact hr.mono h.le

theorem CellMap.relV {E E' : Env} {φ : AV → AV} (h : CellMap E E' φ) {x : AV} {v : Value} (hr : Rel E x v) : Rel E' (mapV φ x) v := by
  by_cases hx : ∃ cs, x = .tup cs
  · obtain ⟨cs, rfl⟩ := hx
    cases hr with
    | tup _ vs hs hr =>
      refine .tup _ vs (by simpa using hs) ?_
      intro j y u hy hu
      rw [List.getElem?_map] at hy
      cases hc : cs[j]? with
      | none => simp [hc] at hy
      | some z => simp only [hc, Option.map_some, Option.some.injEq] at hy; rw [← hy]; exact h.relE (hr j z u hc hu)
  · have e : mapV φ x = mapE φ x := by cases x <;> first | rfl | exact absurd ⟨_, rfl⟩ hx
    rw [e]; exact h.relE hr

theorem CellMap.cells {E E' : Env} {φ : AV → AV} (h : CellMap E E' φ) {x : AV} (h1 : ∀ y ∈ x.cells, y.one = true) : (mapE φ x).cells = x.cells.map φ := by
  by_cases hx : ∃ cs, x = .agg cs
  · obtain ⟨cs, rfl⟩ := hx; rfl
  · have e : mapE φ x = φ x := by cases x <;> first | rfl | exact absurd ⟨_, rfl⟩ hx
    have hc : x.cells = [x] := by cases x <;> first | rfl | exact absurd ⟨_, rfl⟩ hx
    rw [e, hc]
    have := h1 x (by rw [hc]; simp)
    rw [AV.cells_one (h.one x this)]; rfl

theorem CellMap.elemOk {E E' : Env} {φ : AV → AV} (h : CellMap E E' φ) {sz : Nat} {x : AV} (hx : ElemOk sz x) : ElemOk sz (mapE φ x) := by
  refine ⟨by rw [h.cells hx.2, List.length_map]; exact hx.1, ?_⟩
  rw [h.cells hx.2]
  intro y hy
  rw [List.mem_map] at hy
  obtain ⟨z, hz, rfl⟩ := hy
  exact h.one z (hx.2 z hz)

def mapB (φ : AV → AV) (b : Blk) : Blk := ⟨b.st, b.sz, b.es.map (mapE φ)⟩

theorem CellMap.blkOk {E E' : Env} {φ : AV → AV} (h : CellMap E E' φ) {B : Nat} {w : World} {st sz : Nat} {es : List AV} (hu : E.u st) (hb : BlkOk E B w st sz es) (hk : ∀ j, E'.K (E.m st).1 j = none) : BlkOk E' B w st sz (es.map (mapE φ)) := by
  have em := h.le.m st hu
  have ec := h.le.cp st hu
  refine ⟨by rw [em]; exact hb.base, ?_, by rw [ec, List.length_map]; exact hb.len, ?_, by rw [em]; exact hk⟩
  · intro x hx
    rw [List.mem_map] at hx
    obtain ⟨y, hy, rfl⟩ := hx
    exact h.elemOk (hb.el y hy)
  · rw [em, ec]
    obtain ⟨cur, e, h1, h2, h3⟩ := hb.row
    refine ⟨cur, e, h1, h2, ?_⟩
    intro i x hx j y hy
    rw [List.getElem?_map] at hx
    cases hc : es[i]? with
    | none => simp [hc] at hx
    | some z =>
      simp only [hc, Option.map_some, Option.some.injEq] at hx
      subst hx
      have hz := hb.el z (List.mem_of_getElem? hc)
      rw [h.cells hz.2, List.getElem?_map] at hy
      cases hq : z.cells[j]? with
      | none => simp [hq] at hy
      | some q =>
        simp only [hq, Option.map_some, Option.some.injEq] at hy
        obtain ⟨u, hu, hr⟩ := h3 i z hc j q hq
        exact ⟨u, hu, by rw [← hy]; exact h.rel q u (hz.2 q (List.mem_of_getElem? hq)) hr⟩

/-! ### Freezing a block -/

def fz0 (nm st sz : Nat) (es : List AV) : AV → AV
  | .sl nm' st' sz' off len => if nm' = nm ∧ st' = st ∧ sz' = sz ∧ off + len ≤ es.length then .lst sz ((es.drop off).take len) else .sl nm' st' sz' off len
  | .ptr nm' st' sz' i off => if nm' = nm ∧ st' = st ∧ sz' = sz then (match es[i]? with | some x => .kp x.cells off | none => .ptr nm' st' sz' i off) else .ptr nm' st' sz' i off
  | v => v
def fzc (nm st sz : Nat) (es : List AV) : AV → AV
  | .fn f caps => .fn f (caps.map (fz0 nm st sz es))
  | v => fz0 nm st sz es v

/-- Are all cells closed? -/
def closedL (es : List AV) : Prop := ∀ x ∈ es, ∀ y ∈ x.cells, y.cl1 = true

def knowAt (E : Env) (g o k : Nat) (cur : Array Value) : Nat → Nat → Option Value := fun b j => if b = g ∧ o ≤ j ∧ j < o + k then cur[j]? else E.K b j

theorem frz_ok {E : Env} {B : Nat} {h : Hp} {w : World} (H : HConc E B h w) {nm st sz : Nat} {es : List AV} (hb : h.blk nm = some ⟨st, sz, es⟩) (hcl : closedL es) :
    ∃ E', CellMap E E' (fzc nm st sz es) ∧ (∀ b o, b < B → E'.K b o = E.K b o) ∧ (∀ s, E'.u s → E.u s) ∧ (∀ b o v, E'.K b o = some v → w.cell? ⟨b, o, none⟩ = some v) ∧ (∀ b o, b ≠ (E.m st).1 → E'.K b o = E.K b o) := by
  have hbk := H.bk nm _ hb
  have hbu : E.u st := H.bu nm _ hb
  obtain ⟨cur, e, hg, hsz, hr⟩ := hbk.row
  simp only at hg hsz hr
  have hbase : B ≤ (E.m st).1 := hbk.base
  have hnoK : ∀ j, E.K (E.m st).1 j = none := hbk.noK
  have hel : ∀ x ∈ es, ElemOk sz x := hbk.el
  have hcell : ∀ j, w.cell? ⟨(E.m st).1, j, none⟩ = cur[j]? := fun j => cell_of_row w _ j cur e (0, 0) hg
  have hlen : es.length ≤ E.cp st := hbk.len
  have hfit : (E.m st).2 + es.length * sz ≤ cur.size := by have := Nat.mul_le_mul_right sz hlen; omega
  let E' : Env := E.withK (knowAt E (E.m st).1 (E.m st).2 (es.length * sz) cur)
  have hE : E.le E' := Env.le_withK (fun b o u hu => by
    unfold knowAt
    split
    · rename_i hc; rw [hc.1, hnoK] at hu; cases hu
    · exact hu)
  have know : ∀ i j, i < es.length → j < sz → E'.K (E.m st).1 ((E.m st).2 + i * sz + j) = cur[(E.m st).2 + i * sz + j]? := by
    intro i j hi hj
    have := mul_lt hi hj
    show knowAt E _ _ _ cur _ _ = _
    unfold knowAt
    rw [if_pos ⟨rfl, by omega, by omega⟩]
  have inb : ∀ i j, i < es.length → j < sz → (E.m st).2 + i * sz + j < cur.size := by
    intro i j hi hj; have := mul_lt hi hj; omega
  have cellRel : ∀ (i : Nat) (x : AV), es[i]? = some x → ∀ (j : Nat) (y : AV), x.cells[j]? = some y → i < es.length ∧ j < sz ∧ Rel E'.cl y ((cur[(E.m st).2 + i * sz + j]?).getD .nilFunc) := by
    intro i x hx j y hy
    have hi := (List.getElem?_eq_some_iff.1 hx).1
    have hxm := List.mem_of_getElem? hx
    have hj : j < sz := by rw [← (hel x hxm).1]; exact (List.getElem?_eq_some_iff.1 hy).1
    obtain ⟨u, hu, hrel⟩ := hr i x hx j y hy
    refine ⟨hi, hj, ?_⟩
    rw [hu]
    exact Rel.of_cl1 (E := E) (E' := E'.cl) hE.K hrel (hcl x hxm y (List.mem_of_getElem? hy))
  have f0 : ∀ (x : AV) (v : Value), Rel E x v → Rel E' (fz0 nm st sz es x) v := by
    intro x v hrel
    cases x with
    | sl nm' st' sz' off len =>
      simp only [fz0]
      split
      · rename_i hc
        obtain ⟨c1, c2, c3, c4⟩ := hc
        subst c2 c3
        cases hrel with
        | sl _ _ _ _ _ cap a hu hcap hcp ha =>
          by_cases hl0 : len = 0
          · subst hl0; rw [List.take_zero]; exact .lst0 _ _ _
          · rw [ha (by omega)]
            have hwl : ((es.drop off).take len).length = len := by simp; omega
            have hidx : ∀ (i : Nat) (z : AV), ((es.drop off).take len)[i]? = some z → i < len ∧ es[off + i]? = some z := by
              intro i z hz
              rw [List.getElem?_take] at hz
              split at hz
              · rename_i hi; rw [List.getElem?_drop] at hz; exact ⟨hi, hz⟩
              · cases hz
            have := Rel.lst (E := E') ((es.drop off).take len) (E.m st').1 ((E.m st').2 + off * sz') sz' cap (fun i j => (cur[(E.m st').2 + (off + i) * sz' + j]?).getD .nilFunc)
              (by rw [hwl]; exact hcap) (fun z hz => (hel z (List.mem_of_mem_drop (List.mem_of_mem_take hz))).1) ?_ ?_ ?_
            · rw [hwl] at this; exact this
            · intro i j hi hj
              rw [hwl] at hi
              rw [show (E.m st').2 + off * sz' + i * sz' + j = (E.m st').2 + (off + i) * sz' + j by rw [Nat.add_mul]; omega, know (off + i) j (by omega) hj]
              have := inb (off + i) j (by omega) hj
              simp [this]
            · intro i z hz j q hq
              exact (hel z (List.mem_of_mem_drop (List.mem_of_mem_take (List.mem_of_getElem? hz)))).2 q (List.mem_of_getElem? hq)
            · intro i z hz j q hq
              exact (cellRel (off + i) z (hidx i z hz).2 j q hq).2.2
      · exact hrel.mono hE
    | ptr nm' st' sz' i off =>
      simp only [fz0]
      split
      · rename_i hc
        obtain ⟨c1, c2, c3⟩ := hc
        subst c2 c3
        cases hx : es[i]? with
        | none => exact hrel.mono hE
        | some x =>
          cases hrel with
          | ptr _ _ _ _ _ hu =>
            have hi := (List.getElem?_eq_some_iff.1 hx).1
            have hxm := List.mem_of_getElem? hx
            exact Rel.kp (E := E') x.cells off (E.m st').1 ((E.m st').2 + i * sz') (fun j => (cur[(E.m st').2 + i * sz' + j]?).getD .nilFunc)
              (fun j hj => by
                have hj' : j < sz' := by rw [← (hel x hxm).1]; exact hj
                rw [know i j hi hj']
                have := inb i j hi hj'
                simp [this])
              (fun j y hy => (hel x hxm).2 y (List.mem_of_getElem? hy)) (fun j y hy => (cellRel i x hx j y hy).2.2)
      · exact hrel.mono hE
    | _ => exact hrel.mono hE
  refine ⟨E', ⟨?_, ?_, ?_, hE⟩, ?_, fun _ h => h, ?_, ?_⟩
  · intro x v h1 hrel
    cases x with
    | fn f caps =>
      cases hrel with
      | fn _ _ vs hs hr' =>
        refine .fn f _ vs (by simpa using hs) ?_
        intro j y u hy hu
        rw [List.getElem?_map] at hy
        cases hc : caps[j]? with
        | none => simp [hc] at hy
        | some z => simp only [hc, Option.map_some, Option.some.injEq] at hy; rw [← hy]; exact f0 z u (hr' j z u hc hu)
    | _ => exact f0 _ v hrel
  · intro x h1
    cases x with
    | fn f caps => rfl
    | sl nm' st' sz' off len => show (fz0 nm st sz es (.sl nm' st' sz' off len)).one = true; simp only [fz0]; split <;> rfl
    | ptr nm' st' sz' i off =>
      show (fz0 nm st sz es (.ptr nm' st' sz' i off)).one = true
      simp only [fz0]
      split
      · split <;> rfl
      · rfl
    | _ => exact h1
  · intro x h1
    cases x <;> first | rfl | (simp [AV.one] at h1)
  · intro b o hb
    show knowAt E _ _ _ cur b o = _
    unfold knowAt
    rw [if_neg (by omega)]
  · intro b o v hv
    have hv : knowAt E (E.m st).1 (E.m st).2 (es.length * sz) cur b o = some v := hv
    unfold knowAt at hv
    split at hv
    · rename_i hc; rw [hc.1, hcell]; exact hv
    · exact H.K b o v hv
  · intro b o hb
    show knowAt E _ _ _ cur b o = _
    unfold knowAt
    rw [if_neg (fun q => hb q.1)]

def Hp.frz (h : Hp) (nm st sz : Nat) (es : List AV) : Hp := ⟨fun n => if n = nm then none else (h.blk n).map (mapB (fzc nm st sz es)), h.tok⟩

theorem Wkh.frz {c : Nat} {h : Hp} {nm st sz : Nat} {es : List AV} (hb : h.blk nm = some ⟨st, sz, es⟩) (hcl : closedL es) : Wkh c c h (h.frz nm st sz es) (mapV (fzc nm st sz es)) := by
  refine ⟨Nat.le_refl _, fun E B w H hu => ?_⟩
  obtain ⟨E', hM, hB, hu', hK, hother⟩ := frz_ok H hb hcl
  have get : ∀ n b, (h.frz nm st sz es).blk n = some b → n ≠ nm ∧ ∃ b0, h.blk n = some b0 ∧ b = mapB (fzc nm st sz es) b0 := by
    intro n b hn
    simp only [Hp.frz] at hn
    split at hn
    · cases hn
    · rename_i hne
      simp only [Option.map_eq_some_iff] at hn
      obtain ⟨b0, h1, h2⟩ := hn
      exact ⟨hne, b0, h1, h2.symm⟩
  have hne1 : ∀ n b0, n ≠ nm → h.blk n = some b0 → (E.m b0.st).1 ≠ (E.m st).1 := fun n b0 hn h0 => H.bb n nm b0 _ hn h0 hb
  refine ⟨E', hM.le, ⟨hK, ?_, ?_, fun n t ht => hM.le.u _ (H.tu n t ht), ?_, ?_, ?_, ?_⟩, hB, hu', fun x v hv => hM.relV hv⟩
  · intro n b hn
    obtain ⟨hne, b0, h0, rfl⟩ := get n b hn
    exact hM.le.u _ (H.bu n b0 h0)
  · intro n b hn
    obtain ⟨hne, b0, h0, rfl⟩ := get n b hn
    refine hM.blkOk (H.bu n b0 h0) (H.bk n b0 h0) (fun j => ?_)
    show E'.K (E.m b0.st).1 j = none
    rw [hother _ _ (hne1 n b0 hne h0)]
    exact (H.bk n b0 h0).noK j
  · intro n t ht
    have ht : h.tok n = some t := ht
    rw [hM.le.hd _ (H.tu n t ht)]
    obtain ⟨m, cs, h1, h2⟩ := H.tk n t ht
    refine ⟨m, cs, h1, fun g j hg hj => ?_⟩
    rw [hother _ _ (fun q => H.bt nm n _ t hb ht (by rw [hg, q]))]
    exact h2 g j hg hj
  · intro n n' b b' hn hb1 hb2
    obtain ⟨_, b0, h0, rfl⟩ := get n b hb1
    obtain ⟨_, b0', h0', rfl⟩ := get n' b' hb2
    show (E'.m b0.st).1 ≠ (E'.m b0'.st).1
    rw [hM.le.m _ (H.bu n b0 h0), hM.le.m _ (H.bu n' b0' h0')]
    exact H.bb n n' b0 b0' hn h0 h0'
  · intro n n' b t hb1 ht
    have ht : h.tok n' = some t := ht
    obtain ⟨_, b0, h0, rfl⟩ := get n b hb1
    show (E'.hd t.st).ownBlock ≠ some (E'.m b0.st).1
    rw [hM.le.m _ (H.bu n b0 h0), hM.le.hd _ (H.tu n' t ht)]
    exact H.bt n n' b0 t h0 ht
  · intro n n' t t' g hn ht ht'
    have ht : h.tok n = some t := ht
    have ht' : h.tok n' = some t' := ht'
    rw [hM.le.hd _ (H.tu n t ht), hM.le.hd _ (H.tu n' t' ht')]
    exact H.tt n n' t t' g hn ht ht'

/-! ### Other names -/

def rn0 (a b : Nat) : AV → AV
  | .sl nm st sz off len => .sl (if nm = a then b else nm) st sz off len
  | .ptr nm st sz i off => .ptr (if nm = a then b else nm) st sz i off
  | v => v
def rnc (a b : Nat) : AV → AV
  | .fn f caps => .fn f (caps.map (rn0 a b))
  | v => rn0 a b v

theorem rn_map (E : Env) (a b : Nat) : CellMap E E (rnc a b) := by
  have f0 : ∀ (x : AV) (v : Value), Rel E x v → Rel E (rn0 a b x) v := by
    intro x v h
    cases x with
    | sl nm st sz off len => cases h with | sl _ _ _ _ _ cap ad hu hcap hc ha => exact .sl _ st sz off len cap ad hu hcap hc ha
    | ptr nm st sz i off => cases h with | ptr _ _ _ _ _ hu => exact .ptr _ st sz i off hu
    | _ => exact h
  refine ⟨?_, ?_, ?_, .refl E⟩
  · intro x v h1 hrel
    cases x with
    | fn f caps =>
      cases hrel with
      | fn _ _ vs hs hr' =>
        refine .fn f _ vs (by simpa using hs) ?_
        intro j y u hy hu
        rw [List.getElem?_map] at hy
        cases hc : caps[j]? with
        | none => simp [hc] at hy
        | some z => simp only [hc, Option.map_some, Option.some.injEq] at hy; rw [← hy]; exact f0 z u (hr' j z u hc hu)
    | _ => exact f0 _ v hrel
  · intro x h1
    cases x <;> first | rfl | exact h1
  · intro x h1
    cases x <;> first | rfl | (simp [AV.one] at h1)

def Hp.ren (h : Hp) (a b : Nat) : Hp := ⟨fun n => if n = b then (h.blk a).map (mapB (rnc a b)) else if n = a then none else (h.blk n).map (mapB (rnc a b)), h.tok⟩

theorem Wkh.ren {c : Nat} {h : Hp} (a b : Nat) (hab : a ≠ b) : Wkh c c h (h.ren a b) (mapV (rnc a b)) := by
  refine ⟨Nat.le_refl _, fun E B w H hu => ?_⟩
  have hM := rn_map E a b
  have get : ∀ n bl, (h.ren a b).blk n = some bl → ∃ m b0, h.blk m = some b0 ∧ bl = mapB (rnc a b) b0 ∧ m = (if n = b then a else n) ∧ (n ≠ a) := by
    intro n bl hn
    simp only [Hp.ren] at hn
    split at hn
    · rename_i e
      simp only [Option.map_eq_some_iff] at hn
      obtain ⟨b0, h1, h2⟩ := hn
      exact ⟨a, b0, h1, h2.symm, by rw [if_pos e], fun q => hab (q.symm.trans e)⟩
    · rename_i e
      split at hn
      · cases hn
      · rename_i e2
        simp only [Option.map_eq_some_iff] at hn
        obtain ⟨b0, h1, h2⟩ := hn
        exact ⟨n, b0, h1, h2.symm, by rw [if_neg e], e2⟩
  refine ⟨E, .refl E, ⟨H.K, ?_, ?_, H.tu, H.tk, ?_, ?_, H.tt⟩, fun _ _ _ => rfl, fun _ h => h, fun x v hv => hM.relV hv⟩
  · intro n bl hn
    obtain ⟨m, b0, h0, rfl, _⟩ := get n bl hn
    exact H.bu m b0 h0
  · intro n bl hn
    obtain ⟨m, b0, h0, rfl, _⟩ := get n bl hn
    exact hM.blkOk (H.bu m b0 h0) (H.bk m b0 h0) (H.bk m b0 h0).noK
  · intro n n' bl bl' hn hb1 hb2
    obtain ⟨m, b0, h0, rfl, e, e'⟩ := get n bl hb1
    obtain ⟨m', b0', h0', rfl, e2, e2'⟩ := get n' bl' hb2
    refine H.bb m m' b0 b0' ?_ h0 h0'
    rw [e, e2]
    intro q
    split at q <;> split at q
    · rename_i q1 q2; exact hn (q1.trans q2.symm)
    · exact e2' q.symm
    · exact e' q
    · exact hn q
  · intro n n' bl t hb1 ht
    obtain ⟨m, b0, h0, rfl, _⟩ := get n bl hb1
    exact H.bt m n' b0 t h0 ht

end Go.Gv

/- Contracts of functions that change memory: what stays. No condition beyond those that each law names. -/
set_option linter.unusedVariables false
set_option linter.unusedSimpArgs false
namespace Go.Gv

/-- But for the names L all is as it was. -/
structure Fr (L : Nat → Bool) (S S' : St) : Prop where
  t : S'.t = S.t
  b : ∀ n, L n = false → S'.blk n = S.blk n
  k : ∀ n, L n = false → S'.tok n = S.tok n
  c : S.clk ≤ S'.clk
theorem Fr.refl (L : Nat → Bool) (S : St) : Fr L S S := ⟨rfl, fun _ _ => rfl, fun _ _ => rfl, Nat.le_refl _⟩
theorem Fr.trans {L : Nat → Bool} {S S' S'' : St} (h : Fr L S S') (k : Fr L S' S'') : Fr L S S'' :=
  ⟨k.t.trans h.t, fun n hn => (k.b n hn).trans (h.b n hn), fun n hn => (k.k n hn).trans (h.k n hn), Nat.le_trans h.c k.c⟩
theorem Fr.mono {L L' : Nat → Bool} (hl : ∀ n, L' n = false → L n = false) {S S' : St} (h : Fr L S S') : Fr L' S S' :=
  ⟨h.t, fun n hn => h.b n (hl n hn), fun n hn => h.k n (hl n hn), h.c⟩

/-- The blocks, tokens and the clock but for the names L (the slots are not looked at). -/
structure Fh (L : Nat → Bool) (S S' : St) : Prop where
  b : ∀ n, L n = false → S'.blk n = S.blk n
  k : ∀ n, L n = false → S'.tok n = S.tok n
  c : S.clk ≤ S'.clk
theorem Fh.refl (L : Nat → Bool) (S : St) : Fh L S S := ⟨fun _ _ => rfl, fun _ _ => rfl, Nat.le_refl _⟩
theorem Fh.trans {L : Nat → Bool} {S S' S'' : St} (h : Fh L S S') (k : Fh L S' S'') : Fh L S S'' :=
  ⟨fun n hn => (k.b n hn).trans (h.b n hn), fun n hn => (k.k n hn).trans (h.k n hn), Nat.le_trans h.c k.c⟩
theorem Fr.h {L : Nat → Bool} {S S' : St} (h : Fr L S S') : Fh L S S' := ⟨h.b, h.k, h.c⟩
theorem Fh.r {L : Nat → Bool} {S S' : St} (h : Fh L S S') (ht : S'.t = S.t) : Fr L S S' := ⟨ht, h.b, h.k, h.c⟩

theorem upd_out {α : Type} {L : Nat → Bool} {n : Nat} (hn : L n = false) {f : Nat → α} {i : Nat} {v : α} (hi : L i = true) : upd f i v n = f n :=
  upd_ne _ _ _ _ (fun e => by subst e; rw [hn] at hi; cases hi)
theorem Fh.step {L : Nat → Bool} {S S' : St} (h : Fh L S S') {t : Nat → AV} {b : Nat → Option Blk} {k : Nat → Option Tok} {c : Nat} (hb : ∀ n, L n = false → b n = S'.blk n) (hk : ∀ n, L n = false → k n = S'.tok n) (hc : S'.clk ≤ c) :
    Fh L S ⟨t, b, k, c⟩ := ⟨fun n hn => (hb n hn).trans (h.b n hn), fun n hn => (hk n hn).trans (h.k n hn), Nat.le_trans h.c hc⟩
theorem Fh.here {L : Nat → Bool} {S : St} {t : Nat → AV} {b : Nat → Option Blk} {k : Nat → Option Tok} {c : Nat} (hb : ∀ n, L n = false → b n = S.blk n) (hk : ∀ n, L n = false → k n = S.tok n) (hc : S.clk ≤ c) :
    Fh L S ⟨t, b, k, c⟩ := (Fh.refl L S).step hb hk hc

section
variable {k : IntKind} {n : Int} {b : Bool} {cs xs : List AV} {s : ByteArray} {nm st sz i off len o : Nat} {f : FuncId} {v : AV}
@[simp] theorem setCells_int : setCells (.int k n) o [v] = v := rfl
@[simp] theorem setCells_bool : setCells (.bool b) o [v] = v := rfl
@[simp] theorem setCells_str : setCells (.str s) o [v] = v := rfl
@[simp] theorem setCells_nils : setCells .nils o [v] = v := rfl
@[simp] theorem setCells_nilp : setCells .nilp o [v] = v := rfl
@[simp] theorem setCells_nilf : setCells .nilf o [v] = v := rfl
@[simp] theorem setCells_lst : setCells (.lst sz xs) o [v] = v := rfl
@[simp] theorem setCells_acc : setCells (.acc nm st sz xs) o [v] = v := rfl
@[simp] theorem setCells_sl : setCells (.sl nm st sz off len) o [v] = v := rfl
@[simp] theorem setCells_ptr : setCells (.ptr nm st sz i off) o [v] = v := rfl
@[simp] theorem setCells_kp : setCells (.kp cs off) o [v] = v := rfl
@[simp] theorem setCells_fn : setCells (.fn f cs) o [v] = v := rfl
end

theorem max_if (p q : Int) : (if q > p then q else p) = max p q := by rw [Int.max_def]; split <;> split <;> omega
theorem min_if (p q : Int) : (if q < p then q else p) = min p q := by rw [Int.min_def]; split <;> split <;> omega
@[simp] theorem mmI_nil (mx : Bool) (k : IntKind) (p : Int) : mmI mx k p [] = some p := rfl
@[simp] theorem mmI_max (k : IntKind) (p q : Int) (l : List AV) : mmI true k p (.int k q :: l) = mmI true k (max p q) l := by simp only [mmI, if_true, max_if]
@[simp] theorem mmI_min (k : IntKind) (p q : Int) (l : List AV) : mmI false k p (.int k q :: l) = mmI false k (min p q) l := by simp only [mmI, if_true, Bool.false_eq_true, if_false, min_if]

/-- The names of one function (or of some that follow one another). -/
def rng (a b : Nat) (n : Nat) : Bool := decide (a ≤ n) && decide (n < b)
end Go.Gv

/- Calls whose arguments are closed but for a coercion in depth (nil for an empty list in a list). -/
namespace Go.Gv
section
variable {E : Env} {B : Nat} {h : Hp} {w : World}
theorem dcl_list {K : Nat → Nat → Option Value} {blk : Nat → Option Blk} {d : Nat} (ih : ∀ (x y : AV) (v : Value), dco blk d x y → Rel E x v → Rel (envK (K)) y v)
    {xs ys : List AV} {b o sz cap : Nat} (f : Nat → Nat → Value) (hcap : xs.length ≤ cap) (hsz : ∀ x ∈ xs, x.cells.length = sz)
    (hk : ∀ i j : Nat, i < xs.length → j < sz → K b (o + i * sz + j) = some (f i j))
    (h1 : ∀ (i : Nat) (x : AV), xs[i]? = some x → ∀ (j : Nat) (y : AV), x.cells[j]? = some y → y.one = true)
    (hr : ∀ (i : Nat) (x : AV), xs[i]? = some x → ∀ (j : Nat) (y : AV), x.cells[j]? = some y → Rel E y (f i j))
    (hc : coL (elemR (dco blk d)) xs ys) : Rel (envK (K)) (.lst sz ys) (.slice (some ⟨b, o, none⟩) xs.length cap) := by
  obtain ⟨e1, e2⟩ := coL_get hc
  have pair : ∀ (i : Nat) (y : AV), ys[i]? = some y → ∃ x, xs[i]? = some x ∧ elemR (dco blk d) x y := by
    intro i y hy
    obtain ⟨x, hx⟩ : ∃ x, xs[i]? = some x := ⟨_, List.getElem?_eq_getElem (by rw [e1]; exact (List.getElem?_eq_some_iff.1 hy).1)⟩
    exact ⟨x, hx, e2 i x y hx hy⟩
  have ones : ∀ (i : Nat) (x : AV), xs[i]? = some x → ∀ z ∈ x.cells, z.one = true := by
    intro i x hx z hz
    obtain ⟨j, hj⟩ := List.getElem?_of_mem hz
    exact h1 i x hx j z hj
  have cell : ∀ (i : Nat) (y : AV), ys[i]? = some y → ∀ (j : Nat) (q : AV), y.cells[j]? = some q → ∃ p x, xs[i]? = some x ∧ x.cells[j]? = some p ∧ dco blk d p q := by
    intro i y hy j q hq
    obtain ⟨x, hx, hxy⟩ := pair i y hy
    obtain ⟨c1, c2⟩ := elemR_cells hxy (ones i x hx)
    obtain ⟨p, hp⟩ : ∃ p, x.cells[j]? = some p := ⟨_, List.getElem?_eq_getElem (by rw [c1]; exact (List.getElem?_eq_some_iff.1 hq).1)⟩
    exact ⟨p, x, hx, hp, c2 j p q hp hq⟩
  rw [e1]
  refine Rel.lst ys b o sz cap f (by rw [← e1]; exact hcap) ?_ ?_ ?_ ?_
  · intro y hy
    obtain ⟨i, hi⟩ := List.getElem?_of_mem hy
    obtain ⟨x, hx, hxy⟩ := pair i y hi
    rw [← (elemR_cells hxy (ones i x hx)).1]
    exact hsz x (List.mem_of_getElem? hx)
  · intro i j hi hj
    exact hk i j (by rw [e1]; exact hi) hj
  · intro i y hy j q hq
    obtain ⟨p, x, hx, hp, hpq⟩ := cell i y hy j q hq
    exact dco_one d hpq (h1 i x hx j p hp)
  · intro i y hy j q hq
    obtain ⟨p, x, hx, hp, hpq⟩ := cell i y hy j q hq
    exact ih p q _ hpq (hr i x hx j p hp)


theorem dcc_rel : ∀ (d : Nat) (x y : AV) (v : Value), dco (fun _ => none) d x y → (∀ b o u, E.K b o = some u → w.cell? ⟨b, o, none⟩ = some u) → Rel E x v → Rel (envK E.K) y v := by
  have base : ∀ (x y : AV) (v : Value), co1 none x y → (∀ b o u, E.K b o = some u → w.cell? ⟨b, o, none⟩ = some u) → Rel E x v → Rel (envK E.K) y v := by
    intro x y v hc hK hr
    have H : HConc E w.heap.size ⟨fun _ => none, fun _ => none⟩ w := ⟨hK, by simp, by simp, by simp, by simp, by simp, by simp, by simp⟩
    exact co1_rel H (K := E.K) ⟨fun _ _ _ q => q, by simp⟩ (by simp) hc hr
  have lsts : ∀ (d : Nat), (∀ (x y : AV) (v : Value), dco (fun _ => none) d x y → Rel E x v → Rel (envK E.K) y v) → ∀ (s : Nat) (xs ys : List AV) (v : Value), Rel E (.lst s xs) v → (xs = ys ∨ coL (elemR (dco (fun _ => none) d)) xs ys) → Rel (envK E.K) (.lst s ys) v := by
    intro d ih s xs ys v hr hc
    rcases hc with rfl | hc
    · exact lst_envK (K := E.K) (fun _ _ _ q => q) hr
    · cases hr with
      | lst0 _ a cap =>
        cases ys with
        | nil => exact .lst0 _ _ _
        | cons y ys => exact hc.elim
      | lst _ b o _ cap f hcap hsz hk h1 hr =>
        exact dcl_list ih f hcap hsz hk h1 (fun i x hx j y hy => (hr i x hx j y hy).mono (Env.cl_le E)) hc
  intro d
  induction d with
  | zero => exact base
  | succ d ih =>
    intro x y v hc hK hr
    have ih' := fun (x y : AV) (v : Value) q r => ih x y v q hK r
    unfold dco at hc
    split at hc
    · subst hc; rw [hr.nils_inv]; exact .lst0 _ _ _
    · obtain ⟨rfl, hc⟩ := hc
      exact lsts d ih' _ _ _ v hr hc
    · obtain ⟨rfl, hc⟩ := hc
      cases hr with
      | acc _ _ _ _ _ _ _ hl => exact lsts d ih' _ _ _ v hl hc
    · obtain ⟨_, es, hes, _⟩ := hc
      exact absurd hes (by simp [getB])
    · exact base x y v hc hK hr
theorem dccE_rel (d : Nat) (x y : AV) (v : Value) (hc : elemR (dco (fun _ => none) d) x y) (hK : ∀ b o u, E.K b o = some u → w.cell? ⟨b, o, none⟩ = some u) (hr : Rel E x v) : Rel (envK E.K) y v := by
  unfold elemR at hc
  split at hc
  · rename_i xs ys
    obtain ⟨e1, e2⟩ := coL_get hc
    cases hr with
    | agg _ vs hs h1 hr =>
      have pair : ∀ (j : Nat) (y : AV), ys[j]? = some y → ∃ x, xs[j]? = some x ∧ dco (fun _ => none) d x y := by
        intro j y hy
        obtain ⟨x, hx⟩ : ∃ x, xs[j]? = some x := ⟨_, List.getElem?_eq_getElem (by rw [e1]; exact (List.getElem?_eq_some_iff.1 hy).1)⟩
        exact ⟨x, hx, e2 j x y hx hy⟩
      refine .agg ys vs (by rw [← e1]; exact hs) (fun j y hy => ?_) (fun j y u hy hu => ?_)
      · obtain ⟨x, hx, hxy⟩ := pair j y hy
        exact dco_one d hxy (h1 j x hx)
      · obtain ⟨x, hx, hxy⟩ := pair j y hy
        exact dcc_rel d x y u hxy hK (hr j x u hx hu)
  · exact dcc_rel d _ _ v hc hK hr
end
theorem pcall_deep {P : Program} {f : FuncId} {cargs : List AV} {r : AV} (h : PC P f cargs r) (d : Nat) {caps vals : List AV} (hco : coL (elemR (dco (fun _ => none) d)) (vals ++ caps) cargs) : PCallP P (.fn f caps) vals r := by
  obtain ⟨hent, hc⟩ := h
  refine ⟨f, caps, rfl, hent, fun E w args hK hsz hrel => ?_⟩
  obtain ⟨e1, e2⟩ := coL_get hco
  refine hc E.K w args hK (by rw [hsz, e1]) ?_
  intro j y u hy hu
  obtain ⟨x, hx⟩ : ∃ x, (vals ++ caps)[j]? = some x := ⟨_, List.getElem?_eq_getElem (by rw [e1]; exact (List.getElem?_eq_some_iff.1 hy).1)⟩
  exact dccE_rel (w := w) d x y u (e2 j x y hx hy) hK (hrel j x u hx hu)
/-- A call whose arguments fit in depth d. -/
theorem callC {P : Program} {f : FuncId} {cargs : List AV} {r : AV} (h : PC P f cargs r) (d : Nat) {caps vals : List AV} {S : St} {k : AV → St → Prop} {u : Dep k} (hco : coL (elemR (dco (fun _ => none) d)) (vals ++ caps) cargs) (hk : k r S) : CallG P (.fn f caps) vals S k u :=
  CallP_of_PCallP (pcall_deep h d hco) hk
theorem calldC {P : Program} {f : FuncId} {cargs : List AV} {r : AV} (h : PC P f cargs r) (d : Nat) {caps vals : List AV} {k : AV → Prop} {u : Dep k} (hco : coL (elemR (dco (fun _ => none) d)) (vals ++ caps) cargs) (hk : k r) : callD P (.fn f caps) vals k u :=
  ⟨r, pcall_deep h d hco, hk⟩
end Go.Gv

/- What sums.One and sums.Two answer, and the reference's. No condition. -/
set_option linter.unusedVariables false
set_option linter.unusedSimpArgs false
namespace Go.Gv
open Go.Proofs

def struth_r0 : List AI := [⟨(some 2), none, (.op (.mv (.c (.int .i64 0))))⟩]
def struth_r1 : List AI := [⟨(some 3), none, (.op (.mv (.t 0)))⟩]
def struth_r2 : List AI := [⟨(some 2), none, (.op (.mv (.c (.int .i64 1))))⟩]
def struth_r3 : List AI := [⟨(some 2), none, (.op (.mv (.c (.int .i64 0))))⟩]
def struth_c : AC := (.seq (.reg struth_r0) (.seq (.seq (.reg struth_r1) (.cond (.t 3) (.seq (.reg struth_r2) .ret) .skip)) (.seq (.reg struth_r3) .ret)))
def struth_res : List ARes := [(.tmp 2)]
set_option maxRecDepth 100000 in
theorem struth_get : getF Try.prog 133 133000 [] = some ("gavotte/sums.Truth", 4, struth_c, struth_res) := by kernel_rfl
def sparts_r0 : List AI := [⟨(some 6), none, (.op (.mv (.c (.int .i64 0))))⟩, ⟨(some 7), none, (.op (.mv (.c (.int .i64 0))))⟩]
def sparts_r1 : List AI := [⟨(some 9), none, (.op (.mv (.t 2)))⟩, ⟨(some 10), none, (.op (.ibin .eql (.t 9) (.c (.int .i64 0))))⟩, ⟨(some 8), none, (.op (.mv (.t 10)))⟩]
def sparts_r2 : List AI := [⟨(some 6), none, (.op (.mv (.c (.int .i64 0))))⟩, ⟨(some 7), none, (.op (.mv (.c (.int .i64 3))))⟩]
def sparts_r3 : List AI := [⟨(some 12), none, (.op (.mv (.t 0)))⟩, ⟨(some 13), none, (.op (.ibin .eql (.t 12) (.c (.int .i64 12))))⟩, ⟨(some 11), none, (.op (.mv (.t 13)))⟩]
def sparts_r4 : List AI := [⟨(some 14), none, (.op (.mv (.t 1)))⟩, ⟨(some 15), none, (.op (.mv (.t 2)))⟩, ⟨(some 16), none, (.op (.ibin .quo (.t 14) (.t 15)))⟩, ⟨(some 6), none, (.op (.mv (.t 16)))⟩, ⟨(some 7), none, (.op (.mv (.c (.int .i64 0))))⟩]
def sparts_r5 : List AI := [⟨(some 17), none, (.op (.mv (.t 1)))⟩, ⟨(some 18), none, (.op (.mv (.t 2)))⟩, ⟨(some 19), none, (.op (.ibin .rem (.t 17) (.t 18)))⟩, ⟨(some 6), none, (.op (.mv (.t 19)))⟩, ⟨(some 7), none, (.op (.mv (.c (.int .i64 0))))⟩]
def sparts_c : AC := (.seq (.reg sparts_r0) (.seq (.block 0 (.seq (.reg sparts_r1) (.cond (.t 8) (.seq (.reg sparts_r2) .ret) (.seq (.reg sparts_r3) (.cond (.t 11) (.seq (.reg sparts_r4) .ret) .skip))))) (.seq (.reg sparts_r5) .ret)))
def sparts_res : List ARes := [(.tmp 6), (.tmp 7)]
set_option maxRecDepth 100000 in
theorem sparts_get : getF Try.prog 134 134000 [] = some ("gavotte/sums.parts", 20, sparts_c, sparts_res) := by kernel_rfl
def sone_r0 : List AI := [⟨(some 4), none, (.op (.mv (.c (.int .i64 0))))⟩, ⟨(some 5), none, (.op (.mv (.c (.bool false))))⟩]
def sone_r1 : List AI := [⟨(some 6), none, (.op (.mv (.t 0)))⟩]
def sone_r2 : List AI := [⟨(some 8), none, (.op (.ibin .eql (.t 6) (.c (.int .i64 14))))⟩, ⟨(some 7), none, (.op (.mv (.t 8)))⟩]
def sone_r3 : List AI := [⟨(some 9), none, (.op (.mv (.t 1)))⟩, ⟨(some 10), none, (.op (.neg (.t 9)))⟩, ⟨(some 4), none, (.op (.mv (.t 10)))⟩, ⟨(some 5), none, (.op (.mv (.c (.bool true))))⟩]
def sone_r4 : List AI := [⟨(some 12), none, (.op (.ibin .eql (.t 6) (.c (.int .i64 19))))⟩, ⟨(some 11), none, (.op (.mv (.t 12)))⟩]
def sone_r5 : List AI := [⟨(some 13), none, (.op (.mv (.t 1)))⟩, ⟨(some 14), none, (.op (.ibin .eql (.t 13) (.c (.int .i64 0))))⟩, ⟨(some 15), none, (.call (.c (.fn 133 [])) [(.t 14)])⟩, ⟨(some 4), none, (.op (.mv (.t 15)))⟩, ⟨(some 5), none, (.op (.mv (.c (.bool true))))⟩]
def sone_r6 : List AI := [⟨(some 4), none, (.op (.mv (.c (.int .i64 0))))⟩, ⟨(some 5), none, (.op (.mv (.c (.bool false))))⟩]
def sone_c : AC := (.seq (.reg sone_r0) (.seq (.seq (.reg sone_r1) (.block 0 (.seq (.reg sone_r2) (.cond (.t 7) (.seq (.reg sone_r3) .ret) (.seq (.reg sone_r4) (.cond (.t 11) (.seq (.reg sone_r5) .ret) .skip)))))) (.seq (.reg sone_r6) .ret)))
def sone_res : List ARes := [(.tmp 4), (.tmp 5)]
set_option maxRecDepth 100000 in
theorem sone_get : getF Try.prog 121 121000 [] = some ("gavotte/sums.One", 16, sone_c, sone_res) := by kernel_rfl
def stwo_r0 : List AI := [⟨(some 6), none, (.op (.mv (.c (.int .i64 0))))⟩, ⟨(some 7), none, (.op (.mv (.c (.int .i64 0))))⟩]
def stwo_r1 : List AI := [⟨(some 8), none, (.op (.mv (.t 0)))⟩]
def stwo_r2 : List AI := [⟨(some 10), none, (.op (.ibin .eql (.t 8) (.c (.int .i64 9))))⟩, ⟨(some 9), none, (.op (.mv (.t 10)))⟩]
def stwo_r3 : List AI := [⟨(some 11), none, (.op (.mv (.t 1)))⟩, ⟨(some 12), none, (.op (.mv (.t 2)))⟩, ⟨(some 13), none, (.op (.ibin .add (.t 11) (.t 12)))⟩, ⟨(some 6), none, (.op (.mv (.t 13)))⟩, ⟨(some 7), none, (.op (.mv (.c (.int .i64 0))))⟩]
def stwo_r4 : List AI := [⟨(some 15), none, (.op (.ibin .eql (.t 8) (.c (.int .i64 10))))⟩, ⟨(some 14), none, (.op (.mv (.t 15)))⟩]
def stwo_r5 : List AI := [⟨(some 16), none, (.op (.mv (.t 1)))⟩, ⟨(some 17), none, (.op (.mv (.t 2)))⟩, ⟨(some 18), none, (.op (.ibin .sub (.t 16) (.t 17)))⟩, ⟨(some 6), none, (.op (.mv (.t 18)))⟩, ⟨(some 7), none, (.op (.mv (.c (.int .i64 0))))⟩]
def stwo_r6 : List AI := [⟨(some 20), none, (.op (.ibin .eql (.t 8) (.c (.int .i64 11))))⟩, ⟨(some 19), none, (.op (.mv (.t 20)))⟩]
def stwo_r7 : List AI := [⟨(some 21), none, (.op (.mv (.t 1)))⟩, ⟨(some 22), none, (.op (.mv (.t 2)))⟩, ⟨(some 23), none, (.op (.ibin .mul (.t 21) (.t 22)))⟩, ⟨(some 6), none, (.op (.mv (.t 23)))⟩, ⟨(some 7), none, (.op (.mv (.c (.int .i64 0))))⟩]
def stwo_r8 : List AI := [⟨(some 25), none, (.op (.ibin .eql (.t 8) (.c (.int .i64 15))))⟩, ⟨(some 24), none, (.op (.mv (.t 25)))⟩]
def stwo_r9 : List AI := [⟨(some 26), none, (.op (.mv (.t 1)))⟩, ⟨(some 27), none, (.op (.mv (.t 2)))⟩, ⟨(some 28), none, (.op (.ibin .eql (.t 26) (.t 27)))⟩, ⟨(some 29), none, (.call (.c (.fn 133 [])) [(.t 28)])⟩, ⟨(some 6), none, (.op (.mv (.t 29)))⟩, ⟨(some 7), none, (.op (.mv (.c (.int .i64 0))))⟩]
def stwo_r10 : List AI := [⟨(some 31), none, (.op (.ibin .eql (.t 8) (.c (.int .i64 16))))⟩, ⟨(some 30), none, (.op (.mv (.t 31)))⟩]
def stwo_r11 : List AI := [⟨(some 32), none, (.op (.mv (.t 1)))⟩, ⟨(some 33), none, (.op (.mv (.t 2)))⟩, ⟨(some 34), none, (.op (.ibin .lss (.t 32) (.t 33)))⟩, ⟨(some 35), none, (.call (.c (.fn 133 [])) [(.t 34)])⟩, ⟨(some 6), none, (.op (.mv (.t 35)))⟩, ⟨(some 7), none, (.op (.mv (.c (.int .i64 0))))⟩]
def stwo_r12 : List AI := [⟨(some 37), none, (.op (.ibin .eql (.t 8) (.c (.int .i64 17))))⟩, ⟨(some 36), none, (.op (.mv (.t 37)))⟩]
def stwo_r13 : List AI := [⟨(some 38), none, (.op (.mv (.t 1)))⟩, ⟨(some 39), none, (.op (.ibin .neq (.t 38) (.c (.int .i64 0))))⟩, ⟨(some 40), none, (.op (.mv (.t 39)))⟩, ⟨(some 41), (some (40, true)), (.op (.mv (.t 2)))⟩, ⟨(some 42), (some (40, true)), (.op (.ibin .neq (.t 41) (.c (.int .i64 0))))⟩, ⟨(some 43), none, (.op (.pick (.t 40) (.t 42) (.c (.bool false))))⟩, ⟨(some 44), none, (.call (.c (.fn 133 [])) [(.t 43)])⟩, ⟨(some 6), none, (.op (.mv (.t 44)))⟩, ⟨(some 7), none, (.op (.mv (.c (.int .i64 0))))⟩]
def stwo_r14 : List AI := [⟨(some 46), none, (.op (.ibin .eql (.t 8) (.c (.int .i64 18))))⟩, ⟨(some 45), none, (.op (.mv (.t 46)))⟩]
def stwo_r15 : List AI := [⟨(some 47), none, (.op (.mv (.t 1)))⟩, ⟨(some 48), none, (.op (.ibin .neq (.t 47) (.c (.int .i64 0))))⟩, ⟨(some 49), none, (.op (.mv (.t 48)))⟩, ⟨(some 50), (some (49, false)), (.op (.mv (.t 2)))⟩, ⟨(some 51), (some (49, false)), (.op (.ibin .neq (.t 50) (.c (.int .i64 0))))⟩, ⟨(some 52), none, (.op (.pick (.t 49) (.c (.bool true)) (.t 51)))⟩, ⟨(some 53), none, (.call (.c (.fn 133 [])) [(.t 52)])⟩, ⟨(some 6), none, (.op (.mv (.t 53)))⟩, ⟨(some 7), none, (.op (.mv (.c (.int .i64 0))))⟩]
def stwo_r16 : List AI := [⟨(some 55), none, (.op (.ibin .eql (.t 8) (.c (.int .i64 12))))⟩, ⟨(some 54), none, (.op (.mv (.t 55)))⟩]
def stwo_r17 : List AI := [⟨(some 56), none, (.op (.ibin .eql (.t 8) (.c (.int .i64 13))))⟩, ⟨(some 54), none, (.op (.mv (.t 56)))⟩]
def stwo_r18 : List AI := [⟨(some 57), none, (.op (.mv (.t 0)))⟩, ⟨(some 58), none, (.op (.mv (.t 1)))⟩, ⟨(some 59), none, (.op (.mv (.t 2)))⟩, ⟨(some 60), none, (.call (.c (.fn 134 [])) [(.t 57), (.t 58), (.t 59)])⟩, ⟨(some 61), none, (.op (.ext (.t 60) 0))⟩, ⟨(some 62), none, (.op (.ext (.t 60) 1))⟩, ⟨(some 6), none, (.op (.mv (.t 61)))⟩, ⟨(some 7), none, (.op (.mv (.t 62)))⟩]
def stwo_r19 : List AI := [⟨(some 6), none, (.op (.mv (.c (.int .i64 0))))⟩, ⟨(some 7), none, (.op (.mv (.c (.int .i64 0))))⟩]
def stwo_c : AC := (.seq (.reg stwo_r0) (.seq (.seq (.reg stwo_r1) (.block 0 (.seq (.reg stwo_r2) (.cond (.t 9) (.seq (.reg stwo_r3) .ret) (.seq (.reg stwo_r4) (.cond (.t 14) (.seq (.reg stwo_r5) .ret) (.seq (.reg stwo_r6) (.cond (.t 19) (.seq (.reg stwo_r7) .ret) (.seq (.reg stwo_r8) (.cond (.t 24) (.seq (.reg stwo_r9) .ret) (.seq (.reg stwo_r10) (.cond (.t 30) (.seq (.reg stwo_r11) .ret) (.seq (.reg stwo_r12) (.cond (.t 36) (.seq (.reg stwo_r13) .ret) (.seq (.reg stwo_r14) (.cond (.t 45) (.seq (.reg stwo_r15) .ret) (.seq (.seq (.reg stwo_r16) (.cond (.t 54) .skip (.reg stwo_r17))) (.cond (.t 54) (.seq (.reg stwo_r18) .ret) .skip)))))))))))))))))) (.seq (.reg stwo_r19) .ret)))
def stwo_res : List ARes := [(.tmp 6), (.tmp 7)]
set_option maxRecDepth 100000 in
theorem stwo_get : getF Try.prog 122 122000 [] = some ("gavotte/sums.Two", 63, stwo_c, stwo_res) := by kernel_rfl
def rtruth_r0 : List AI := [⟨(some 2), none, (.op (.mv (.c (.int .i64 0))))⟩]
def rtruth_r1 : List AI := [⟨(some 3), none, (.op (.mv (.t 0)))⟩]
def rtruth_r2 : List AI := [⟨(some 2), none, (.op (.mv (.c (.int .i64 1))))⟩]
def rtruth_r3 : List AI := [⟨(some 2), none, (.op (.mv (.c (.int .i64 0))))⟩]
def rtruth_c : AC := (.seq (.reg rtruth_r0) (.seq (.seq (.reg rtruth_r1) (.cond (.t 3) (.seq (.reg rtruth_r2) .ret) .skip)) (.seq (.reg rtruth_r3) .ret)))
def rtruth_res : List ARes := [(.tmp 2)]
set_option maxRecDepth 100000 in
theorem rtruth_get : getF Try.prog 99 135000 [] = some ("gavotte/gavotteref1.Truth", 4, rtruth_c, rtruth_res) := by kernel_rfl
def rone_r0 : List AI := [⟨(some 4), none, (.op (.mv (.c (.int .i64 0))))⟩, ⟨(some 5), none, (.op (.mv (.c (.bool false))))⟩]
def rone_r1 : List AI := [⟨(some 6), none, (.op (.mv (.t 0)))⟩]
def rone_r2 : List AI := [⟨(some 8), none, (.op (.ibin .eql (.t 6) (.c (.int .i64 14))))⟩, ⟨(some 7), none, (.op (.mv (.t 8)))⟩]
def rone_r3 : List AI := [⟨(some 9), none, (.op (.mv (.t 1)))⟩, ⟨(some 10), none, (.op (.ibin .sub (.c (.int .i64 0)) (.t 9)))⟩, ⟨(some 4), none, (.op (.mv (.t 10)))⟩, ⟨(some 5), none, (.op (.mv (.c (.bool true))))⟩]
def rone_r4 : List AI := [⟨(some 12), none, (.op (.ibin .eql (.t 6) (.c (.int .i64 19))))⟩, ⟨(some 11), none, (.op (.mv (.t 12)))⟩]
def rone_r5 : List AI := [⟨(some 13), none, (.op (.mv (.t 1)))⟩, ⟨(some 14), none, (.op (.ibin .eql (.t 13) (.c (.int .i64 0))))⟩, ⟨(some 15), none, (.call (.c (.fn 99 [])) [(.t 14)])⟩, ⟨(some 4), none, (.op (.mv (.t 15)))⟩, ⟨(some 5), none, (.op (.mv (.c (.bool true))))⟩]
def rone_r6 : List AI := [⟨(some 4), none, (.op (.mv (.c (.int .i64 0))))⟩, ⟨(some 5), none, (.op (.mv (.c (.bool false))))⟩]
def rone_c : AC := (.seq (.reg rone_r0) (.seq (.seq (.reg rone_r1) (.block 0 (.seq (.reg rone_r2) (.cond (.t 7) (.seq (.reg rone_r3) .ret) (.seq (.reg rone_r4) (.cond (.t 11) (.seq (.reg rone_r5) .ret) .skip)))))) (.seq (.reg rone_r6) .ret)))
def rone_res : List ARes := [(.tmp 4), (.tmp 5)]
set_option maxRecDepth 100000 in
theorem rone_get : getF Try.prog 85 136000 [] = some ("gavotte/gavotteref1.One", 16, rone_c, rone_res) := by kernel_rfl
def rtwo_r0 : List AI := [⟨(some 6), none, (.op (.mv (.c (.int .i64 0))))⟩, ⟨(some 7), none, (.op (.mv (.c (.int .i64 0))))⟩]
def rtwo_r1 : List AI := [⟨(some 8), none, (.op (.mv (.t 0)))⟩]
def rtwo_r2 : List AI := [⟨(some 10), none, (.op (.ibin .eql (.t 8) (.c (.int .i64 9))))⟩, ⟨(some 9), none, (.op (.mv (.t 10)))⟩]
def rtwo_r3 : List AI := [⟨(some 11), none, (.op (.mv (.t 1)))⟩, ⟨(some 12), none, (.op (.mv (.t 2)))⟩, ⟨(some 13), none, (.op (.ibin .add (.t 11) (.t 12)))⟩, ⟨(some 6), none, (.op (.mv (.t 13)))⟩, ⟨(some 7), none, (.op (.mv (.c (.int .i64 0))))⟩]
def rtwo_r4 : List AI := [⟨(some 15), none, (.op (.ibin .eql (.t 8) (.c (.int .i64 10))))⟩, ⟨(some 14), none, (.op (.mv (.t 15)))⟩]
def rtwo_r5 : List AI := [⟨(some 16), none, (.op (.mv (.t 1)))⟩, ⟨(some 17), none, (.op (.mv (.t 2)))⟩, ⟨(some 18), none, (.op (.ibin .sub (.t 16) (.t 17)))⟩, ⟨(some 6), none, (.op (.mv (.t 18)))⟩, ⟨(some 7), none, (.op (.mv (.c (.int .i64 0))))⟩]
def rtwo_r6 : List AI := [⟨(some 20), none, (.op (.ibin .eql (.t 8) (.c (.int .i64 11))))⟩, ⟨(some 19), none, (.op (.mv (.t 20)))⟩]
def rtwo_r7 : List AI := [⟨(some 21), none, (.op (.mv (.t 1)))⟩, ⟨(some 22), none, (.op (.mv (.t 2)))⟩, ⟨(some 23), none, (.op (.ibin .mul (.t 21) (.t 22)))⟩, ⟨(some 6), none, (.op (.mv (.t 23)))⟩, ⟨(some 7), none, (.op (.mv (.c (.int .i64 0))))⟩]
def rtwo_r8 : List AI := [⟨(some 25), none, (.op (.ibin .eql (.t 8) (.c (.int .i64 12))))⟩, ⟨(some 24), none, (.op (.mv (.t 25)))⟩]
def rtwo_r9 : List AI := [⟨(some 26), none, (.op (.ibin .eql (.t 8) (.c (.int .i64 13))))⟩, ⟨(some 24), none, (.op (.mv (.t 26)))⟩]
def rtwo_r10 : List AI := [⟨(some 27), none, (.op (.mv (.t 2)))⟩, ⟨(some 28), none, (.op (.ibin .eql (.t 27) (.c (.int .i64 0))))⟩]
def rtwo_r11 : List AI := [⟨(some 6), none, (.op (.mv (.c (.int .i64 0))))⟩, ⟨(some 7), none, (.op (.mv (.c (.int .i64 3))))⟩]
def rtwo_r12 : List AI := [⟨(some 29), none, (.op (.mv (.t 2)))⟩, ⟨(some 30), none, (.op (.ibin .eql (.t 29) (.c (.int .i64 (-1)))))⟩]
def rtwo_r13 : List AI := [⟨(some 31), none, (.op (.mv (.t 0)))⟩, ⟨(some 32), none, (.op (.ibin .eql (.t 31) (.c (.int .i64 12))))⟩]
def rtwo_r14 : List AI := [⟨(some 33), none, (.op (.mv (.t 1)))⟩, ⟨(some 34), none, (.op (.ibin .sub (.c (.int .i64 0)) (.t 33)))⟩, ⟨(some 6), none, (.op (.mv (.t 34)))⟩, ⟨(some 7), none, (.op (.mv (.c (.int .i64 0))))⟩]
def rtwo_r15 : List AI := [⟨(some 6), none, (.op (.mv (.c (.int .i64 0))))⟩, ⟨(some 7), none, (.op (.mv (.c (.int .i64 0))))⟩]
def rtwo_r16 : List AI := [⟨(some 35), none, (.op (.mv (.t 0)))⟩, ⟨(some 36), none, (.op (.ibin .eql (.t 35) (.c (.int .i64 12))))⟩]
def rtwo_r17 : List AI := [⟨(some 37), none, (.op (.mv (.t 1)))⟩, ⟨(some 38), none, (.op (.mv (.t 2)))⟩, ⟨(some 39), none, (.op (.ibin .quo (.t 37) (.t 38)))⟩, ⟨(some 6), none, (.op (.mv (.t 39)))⟩, ⟨(some 7), none, (.op (.mv (.c (.int .i64 0))))⟩]
def rtwo_r18 : List AI := [⟨(some 40), none, (.op (.mv (.t 1)))⟩, ⟨(some 41), none, (.op (.mv (.t 2)))⟩, ⟨(some 42), none, (.op (.ibin .rem (.t 40) (.t 41)))⟩, ⟨(some 6), none, (.op (.mv (.t 42)))⟩, ⟨(some 7), none, (.op (.mv (.c (.int .i64 0))))⟩]
def rtwo_r19 : List AI := [⟨(some 44), none, (.op (.ibin .eql (.t 8) (.c (.int .i64 15))))⟩, ⟨(some 43), none, (.op (.mv (.t 44)))⟩]
def rtwo_r20 : List AI := [⟨(some 45), none, (.op (.mv (.t 1)))⟩, ⟨(some 46), none, (.op (.mv (.t 2)))⟩, ⟨(some 47), none, (.op (.ibin .eql (.t 45) (.t 46)))⟩, ⟨(some 48), none, (.call (.c (.fn 99 [])) [(.t 47)])⟩, ⟨(some 6), none, (.op (.mv (.t 48)))⟩, ⟨(some 7), none, (.op (.mv (.c (.int .i64 0))))⟩]
def rtwo_r21 : List AI := [⟨(some 50), none, (.op (.ibin .eql (.t 8) (.c (.int .i64 16))))⟩, ⟨(some 49), none, (.op (.mv (.t 50)))⟩]
def rtwo_r22 : List AI := [⟨(some 51), none, (.op (.mv (.t 1)))⟩, ⟨(some 52), none, (.op (.mv (.t 2)))⟩, ⟨(some 53), none, (.op (.ibin .lss (.t 51) (.t 52)))⟩, ⟨(some 54), none, (.call (.c (.fn 99 [])) [(.t 53)])⟩, ⟨(some 6), none, (.op (.mv (.t 54)))⟩, ⟨(some 7), none, (.op (.mv (.c (.int .i64 0))))⟩]
def rtwo_r23 : List AI := [⟨(some 56), none, (.op (.ibin .eql (.t 8) (.c (.int .i64 17))))⟩, ⟨(some 55), none, (.op (.mv (.t 56)))⟩]
def rtwo_r24 : List AI := [⟨(some 57), none, (.op (.mv (.t 1)))⟩, ⟨(some 58), none, (.op (.ibin .neq (.t 57) (.c (.int .i64 0))))⟩, ⟨(some 59), none, (.op (.mv (.t 58)))⟩, ⟨(some 60), (some (59, true)), (.op (.mv (.t 2)))⟩, ⟨(some 61), (some (59, true)), (.op (.ibin .neq (.t 60) (.c (.int .i64 0))))⟩, ⟨(some 62), none, (.op (.pick (.t 59) (.t 61) (.c (.bool false))))⟩, ⟨(some 63), none, (.call (.c (.fn 99 [])) [(.t 62)])⟩, ⟨(some 6), none, (.op (.mv (.t 63)))⟩, ⟨(some 7), none, (.op (.mv (.c (.int .i64 0))))⟩]
def rtwo_r25 : List AI := [⟨(some 65), none, (.op (.ibin .eql (.t 8) (.c (.int .i64 18))))⟩, ⟨(some 64), none, (.op (.mv (.t 65)))⟩]
def rtwo_r26 : List AI := [⟨(some 66), none, (.op (.mv (.t 1)))⟩, ⟨(some 67), none, (.op (.ibin .neq (.t 66) (.c (.int .i64 0))))⟩, ⟨(some 68), none, (.op (.mv (.t 67)))⟩, ⟨(some 69), (some (68, false)), (.op (.mv (.t 2)))⟩, ⟨(some 70), (some (68, false)), (.op (.ibin .neq (.t 69) (.c (.int .i64 0))))⟩, ⟨(some 71), none, (.op (.pick (.t 68) (.c (.bool true)) (.t 70)))⟩, ⟨(some 72), none, (.call (.c (.fn 99 [])) [(.t 71)])⟩, ⟨(some 6), none, (.op (.mv (.t 72)))⟩, ⟨(some 7), none, (.op (.mv (.c (.int .i64 0))))⟩]
def rtwo_r27 : List AI := [⟨(some 6), none, (.op (.mv (.c (.int .i64 0))))⟩, ⟨(some 7), none, (.op (.mv (.c (.int .i64 0))))⟩]
def rtwo_c : AC := (.seq (.reg rtwo_r0) (.seq (.seq (.reg rtwo_r1) (.block 0 (.seq (.reg rtwo_r2) (.cond (.t 9) (.seq (.reg rtwo_r3) .ret) (.seq (.reg rtwo_r4) (.cond (.t 14) (.seq (.reg rtwo_r5) .ret) (.seq (.reg rtwo_r6) (.cond (.t 19) (.seq (.reg rtwo_r7) .ret) (.seq (.seq (.reg rtwo_r8) (.cond (.t 24) .skip (.reg rtwo_r9))) (.cond (.t 24) (.seq (.seq (.reg rtwo_r10) (.cond (.t 28) (.seq (.reg rtwo_r11) .ret) .skip)) (.seq (.seq (.reg rtwo_r12) (.cond (.t 30) (.seq (.seq (.reg rtwo_r13) (.cond (.t 32) (.seq (.reg rtwo_r14) .ret) .skip)) (.seq (.reg rtwo_r15) .ret)) .skip)) (.seq (.seq (.reg rtwo_r16) (.cond (.t 36) (.seq (.reg rtwo_r17) .ret) .skip)) (.seq (.reg rtwo_r18) .ret)))) (.seq (.reg rtwo_r19) (.cond (.t 43) (.seq (.reg rtwo_r20) .ret) (.seq (.reg rtwo_r21) (.cond (.t 49) (.seq (.reg rtwo_r22) .ret) (.seq (.reg rtwo_r23) (.cond (.t 55) (.seq (.reg rtwo_r24) .ret) (.seq (.reg rtwo_r25) (.cond (.t 64) (.seq (.reg rtwo_r26) .ret) .skip)))))))))))))))))) (.seq (.reg rtwo_r27) .ret)))
def rtwo_res : List ARes := [(.tmp 6), (.tmp 7)]
set_option maxRecDepth 100000 in
theorem rtwo_get : getF Try.prog 86 137000 [] = some ("gavotte/gavotteref1.Two", 73, rtwo_c, rtwo_res) := by kernel_rfl
attribute [simp] struth_r0 struth_r1 struth_r2 struth_r3 struth_res sparts_r0 sparts_r1 sparts_r2 sparts_r3 sparts_r4 sparts_r5 sparts_res sone_r0 sone_r1 sone_r2 sone_r3 sone_r4 sone_r5 sone_r6 sone_res stwo_r0 stwo_r1 stwo_r2 stwo_r3 stwo_r4 stwo_r5 stwo_r6 stwo_r7 stwo_r8 stwo_r9 stwo_r10 stwo_r11 stwo_r12 stwo_r13 stwo_r14 stwo_r15 stwo_r16 stwo_r17 stwo_r18 stwo_r19 stwo_res rtruth_r0 rtruth_r1 rtruth_r2 rtruth_r3 rtruth_res rone_r0 rone_r1 rone_r2 rone_r3 rone_r4 rone_r5 rone_r6 rone_res rtwo_r0 rtwo_r1 rtwo_r2 rtwo_r3 rtwo_r4 rtwo_r5 rtwo_r6 rtwo_r7 rtwo_r8 rtwo_r9 rtwo_r10 rtwo_r11 rtwo_r12 rtwo_r13 rtwo_r14 rtwo_r15 rtwo_r16 rtwo_r17 rtwo_r18 rtwo_r19 rtwo_r20 rtwo_r21 rtwo_r22 rtwo_r23 rtwo_r24 rtwo_r25 rtwo_r26 rtwo_r27 rtwo_res

def tv (b : Bool) : Int := if b = true then 1 else 0
abbrev w64 (n : Int) : Int := IntKind.i64.wrap n
def oneV (op a : Int) : Int × Bool := if op = 14 then (w64 (0 - a), true) else if op = 19 then (tv (decide (a = 0)), true) else (0, false)
def twoV (op a b : Int) : Int × Int :=
  if op = 9 then (w64 (a + b), 0) else if op = 10 then (w64 (a - b), 0) else if op = 11 then (w64 (a * b), 0)
  else if op = 15 then (tv (decide (a = b)), 0) else if op = 16 then (tv (decide (a < b)), 0) else if op = 17 then (tv (decide (a ≠ 0 ∧ b ≠ 0)), 0) else if op = 18 then (tv (decide (a ≠ 0 ∨ b ≠ 0)), 0)
  else if op = 12 ∨ op = 13 then (if b = 0 then (0, 3) else if op = 12 then (w64 (a.tdiv b), 0) else (a.tmod b, 0)) else (0, 0)
theorem struth_pc (b : Bool) : PC Try.prog 133 [.bool b] (iv (tv b)) := by
  refine pc_of_get struth_get (by simp) _ (by simp) _ ?_
  unfold struth_c
  cases b <;> simp [tv]
theorem rtruth_pc (b : Bool) : PC Try.prog 99 [.bool b] (iv (tv b)) := by
  refine pc_of_get rtruth_get (by simp) _ (by simp) _ ?_
  unfold rtruth_c
  cases b <;> simp [tv]
theorem sparts_pc (op a b : Int) : PC Try.prog 134 [iv op, iv a, iv b] (.tup [iv (if b = 0 then (0, 3) else if op = 12 then (w64 (a.tdiv b), 0) else (a.tmod b, 0)).1, iv (if b = 0 then (0, 3) else if op = 12 then (w64 (a.tdiv b), 0) else (a.tmod b, 0)).2]) := by
  refine pc_of_get sparts_get (by simp) _ (by simp) _ ?_
  unfold sparts_c
  by_cases hb : b = 0
  · simp [hb]
  · by_cases h : op = 12 <;> simp [hb, h]
theorem sone_pc (op a : Int) : PC Try.prog 121 [iv op, iv a] (.tup [iv (oneV op a).1, .bool (oneV op a).2]) := by
  refine pc_of_get sone_get (by simp) _ (by simp) _ ?_
  unfold sone_c oneV
  by_cases h1 : op = 14
  · simp [h1]
  by_cases h2 : op = 19
  · subst h2
    simp
    refine call (struth_pc (decide (a = 0))) (by simp) ?_
    simp
  simp [h1, h2]
theorem stwo_pc (op a b : Int) : PC Try.prog 122 [iv op, iv a, iv b] (.tup [iv (twoV op a b).1, iv (twoV op a b).2]) := by
  refine pc_of_get stwo_get (by simp) _ (by simp) _ ?_
  unfold stwo_c twoV
  by_cases h1 : op = 9
  · simp [h1]
  by_cases h2 : op = 10
  · simp [h2]
  by_cases h3 : op = 11
  · simp [h3]
  by_cases h4 : op = 15
  · subst h4
    simp
    refine call (struth_pc (decide (a = b))) (by simp) ?_
    simp
  by_cases h5 : op = 16
  · subst h5
    simp
    refine call (struth_pc (decide (a < b))) (by simp) ?_
    simp
  by_cases h6 : op = 17
  · subst h6
    by_cases ha : a = 0
    · simp [ha]
      refine call (struth_pc false) (by simp) ?_
      simp [ha]
    · simp [ha]
      refine call (struth_pc (!decide (b = 0))) (by simp) ?_
      simp [ha]
  by_cases h7 : op = 18
  · subst h7
    by_cases ha : a = 0
    · simp [ha]
      refine call (struth_pc (!decide (b = 0))) (by simp) ?_
      simp [ha]
    · simp [ha]
      refine call (struth_pc true) (by simp) ?_
      simp [ha]
  by_cases h8 : op = 12
  · subst h8
    simp
    refine call (sparts_pc 12 a b) (by simp) ?_
    by_cases hb : b = 0 <;> simp [hb]
  by_cases h9 : op = 13
  · subst h9
    simp
    refine call (sparts_pc 13 a b) (by simp) ?_
    by_cases hb : b = 0 <;> simp [hb]
  simp [h1, h2, h3, h4, h5, h6, h7, h8, h9]
theorem rone_pc (op a : Int) : PC Try.prog 85 [iv op, iv a] (.tup [iv (oneV op a).1, .bool (oneV op a).2]) := by
  refine pc_of_get rone_get (by simp) _ (by simp) _ ?_
  unfold rone_c oneV
  by_cases h1 : op = 14
  · simp [h1]
  by_cases h2 : op = 19
  · subst h2
    simp
    refine call (rtruth_pc (decide (a = 0))) (by simp) ?_
    simp
  simp [h1, h2]
theorem rtwo_pc (op a b : Int) : PC Try.prog 86 [iv op, iv a, iv b] (.tup [iv (twoV op a b).1, iv (twoV op a b).2]) := by
  refine pc_of_get rtwo_get (by simp) _ (by simp) _ ?_
  unfold rtwo_c twoV
  by_cases h1 : op = 9
  · simp [h1]
  by_cases h2 : op = 10
  · simp [h2]
  by_cases h3 : op = 11
  · simp [h3]
  by_cases h4 : op = 15
  · subst h4
    simp
    refine call (rtruth_pc (decide (a = b))) (by simp) ?_
    simp
  by_cases h5 : op = 16
  · subst h5
    simp
    refine call (rtruth_pc (decide (a < b))) (by simp) ?_
    simp
  by_cases h6 : op = 17
  · subst h6
    by_cases ha : a = 0
    · simp [ha]
      refine call (rtruth_pc false) (by simp) ?_
      simp [ha]
    · simp [ha]
      refine call (rtruth_pc (!decide (b = 0))) (by simp) ?_
      simp [ha]
  by_cases h7 : op = 18
  · subst h7
    by_cases ha : a = 0
    · simp [ha]
      refine call (rtruth_pc (!decide (b = 0))) (by simp) ?_
      simp [ha]
    · simp [ha]
      refine call (rtruth_pc true) (by simp) ?_
      simp [ha]
  by_cases h8 : op = 12
  · subst h8
    by_cases hb : b = 0
    · simp [hb]
    by_cases hb2 : b = -1
    · subst hb2; simp [w64]
    simp [hb, hb2]
  by_cases h9 : op = 13
  · subst h9
    by_cases hb : b = 0
    · simp [hb]
    by_cases hb2 : b = -1
    · subst hb2; simp
    simp [hb, hb2]
  simp [h1, h2, h3, h4, h5, h6, h7, h8, h9]

end Go.Gv

/- What prog.Check answers, and the parts of the document's answer. No condition. -/
set_option linter.unusedVariables false
set_option linter.unusedSimpArgs false
namespace Go.Gv
open Go.Proofs

def check_r0 : List AI := [⟨(some 1), none, (.op (.box 21001 4 (.t 0)))⟩, ⟨(some 2), none, (.op (.mv (.c (.int .i64 0))))⟩]
def check_r1 : List AI := [⟨(some 6), none, (.op (.fld 0 (.t 1)))⟩, ⟨(some 7), none, (.op (.load none (.t 6)))⟩, ⟨(some 8), none, (.op (.len (.t 7)))⟩, ⟨(some 9), none, (.op (.ibin .gtr (.t 8) (.c (.int .i64 16))))⟩, ⟨(some 5), none, (.op (.mv (.t 9)))⟩]
def check_r2 : List AI := [⟨(some 10), none, (.op (.fld 1 (.t 1)))⟩, ⟨(some 11), none, (.op (.load none (.t 10)))⟩, ⟨(some 12), none, (.op (.len (.t 11)))⟩, ⟨(some 13), none, (.op (.ibin .gtr (.t 12) (.c (.int .i64 8))))⟩, ⟨(some 5), none, (.op (.mv (.t 13)))⟩]
def check_r3 : List AI := [⟨(some 14), none, (.op (.fld 2 (.t 1)))⟩, ⟨(some 15), none, (.op (.load none (.t 14)))⟩, ⟨(some 16), none, (.op (.len (.t 15)))⟩, ⟨(some 17), none, (.op (.ibin .gtr (.t 16) (.c (.int .i64 16))))⟩, ⟨(some 5), none, (.op (.mv (.t 17)))⟩]
def check_r4 : List AI := [⟨(some 2), none, (.op (.mv (.c (.int .i64 3))))⟩]
def check_r5 : List AI := [⟨(some 19), none, (.op (.fld 1 (.t 1)))⟩, ⟨(some 20), none, (.op (.load none (.t 19)))⟩, ⟨(some 21), none, (.op (.len (.t 20)))⟩, ⟨(some 22), none, (.op (.ibin .eql (.t 21) (.c (.int .i64 0))))⟩, ⟨(some 18), none, (.op (.mv (.t 22)))⟩]
def check_r6 : List AI := [⟨(some 23), none, (.op (.fld 3 (.t 1)))⟩, ⟨(some 24), none, (.op (.load none (.t 23)))⟩, ⟨(some 25), none, (.op (.ibin .lss (.t 24) (.c (.int .i64 1))))⟩, ⟨(some 18), none, (.op (.mv (.t 25)))⟩]
def check_r7 : List AI := [⟨(some 26), none, (.op (.fld 3 (.t 1)))⟩, ⟨(some 27), none, (.op (.load none (.t 26)))⟩, ⟨(some 28), none, (.op (.ibin .gtr (.t 27) (.c (.int .i64 256))))⟩, ⟨(some 18), none, (.op (.mv (.t 28)))⟩]
def check_r8 : List AI := [⟨(some 2), none, (.op (.mv (.c (.int .i64 1))))⟩]
def check_r9 : List AI := [⟨(some 29), none, (.op (.load (some 4) (.t 1)))⟩, ⟨(some 30), none, (.op (.fld 0 (.t 1)))⟩, ⟨(some 31), none, (.op (.load none (.t 30)))⟩, ⟨(some 32), none, (.call (.c (.fn 73 [])) [(.t 29), (.t 31), (.c (.fn 74 []))])⟩, ⟨(some 3), none, (.op (.mv (.t 32)))⟩]
def check_r10 : List AI := [⟨(some 33), none, (.op (.mv (.t 3)))⟩, ⟨(some 34), none, (.op (.ibin .neq (.t 33) (.c (.int .i64 0))))⟩]
def check_r11 : List AI := [⟨(some 35), none, (.op (.mv (.t 3)))⟩, ⟨(some 2), none, (.op (.mv (.t 35)))⟩]
def check_r12 : List AI := [⟨(some 36), none, (.op (.load (some 4) (.t 1)))⟩, ⟨(some 37), none, (.op (.fld 1 (.t 1)))⟩, ⟨(some 38), none, (.op (.load none (.t 37)))⟩, ⟨(some 39), none, (.call (.c (.fn 75 [])) [(.t 36), (.t 38), (.c (.fn 76 []))])⟩, ⟨(some 4), none, (.op (.mv (.t 39)))⟩]
def check_r13 : List AI := [⟨(some 40), none, (.op (.mv (.t 4)))⟩, ⟨(some 41), none, (.op (.ibin .neq (.t 40) (.c (.int .i64 0))))⟩]
def check_r14 : List AI := [⟨(some 42), none, (.op (.mv (.t 4)))⟩, ⟨(some 2), none, (.op (.mv (.t 42)))⟩]
def check_r15 : List AI := [⟨(some 43), none, (.op (.load (some 4) (.t 1)))⟩, ⟨(some 44), none, (.op (.fld 2 (.t 1)))⟩, ⟨(some 45), none, (.op (.load none (.t 44)))⟩, ⟨(some 46), none, (.call (.c (.fn 77 [])) [(.t 43), (.t 45), (.c (.fn 78 []))])⟩, ⟨(some 2), none, (.op (.mv (.t 46)))⟩]
def check_c : AC := (.seq (.reg check_r0) (.seq (.block 0 (.seq (.seq (.reg check_r1) (.cond (.t 5) .skip (.seq (.reg check_r2) (.cond (.t 5) .skip (.reg check_r3))))) (.cond (.t 5) (.seq (.reg check_r4) .ret) (.seq (.seq (.reg check_r5) (.cond (.t 18) .skip (.seq (.reg check_r6) (.cond (.t 18) .skip (.reg check_r7))))) (.cond (.t 18) (.seq (.reg check_r8) .ret) .skip))))) (.seq (.seq (.reg check_r9) (.seq (.reg check_r10) (.cond (.t 34) (.seq (.reg check_r11) .ret) .skip))) (.seq (.seq (.reg check_r12) (.seq (.reg check_r13) (.cond (.t 41) (.seq (.reg check_r14) .ret) .skip))) (.seq (.reg check_r15) .ret)))))
def check_res : List ARes := [(.tmp 2)]
set_option maxRecDepth 100000 in
theorem check_get : getF Try.prog 31 21000 [] = some ("gavotte/prog.Check", 47, check_c, check_res) := by kernel_rfl
def rvalid_r0 : List AI := [⟨(some 2), none, (.op (.mv (.c (.bool false))))⟩]
def rvalid_r1 : List AI := [⟨(some 3), none, (.op (.mv (.t 0)))⟩, ⟨(some 4), none, (.op (.ibin .geq (.t 3) (.c (.int .i64 1))))⟩, ⟨(some 5), none, (.op (.mv (.t 4)))⟩, ⟨(some 6), (some (5, true)), (.op (.mv (.t 0)))⟩, ⟨(some 7), (some (5, true)), (.op (.ibin .leq (.t 6) (.c (.int .i64 25))))⟩, ⟨(some 8), none, (.op (.pick (.t 5) (.t 7) (.c (.bool false))))⟩, ⟨(some 2), none, (.op (.mv (.t 8)))⟩]
def rvalid_c : AC := (.seq (.reg rvalid_r0) (.seq (.reg rvalid_r1) .ret))
def rvalid_res : List ARes := [(.tmp 2)]
set_option maxRecDepth 100000 in
theorem rvalid_get : getF Try.prog 96 54000 [] = some ("gavotte/gavotteref1.Valid", 9, rvalid_c, rvalid_res) := by kernel_rfl
def roperand_r0 : List AI := [⟨(some 2), none, (.op (.mv (.c (.int .i64 0))))⟩]
def roperand_r1 : List AI := [⟨(some 3), none, (.op (.mv (.t 0)))⟩]
def roperand_r2 : List AI := [⟨(some 5), none, (.op (.ibin .eql (.t 3) (.c (.int .i64 1))))⟩, ⟨(some 4), none, (.op (.mv (.t 5)))⟩]
def roperand_r3 : List AI := [⟨(some 2), none, (.op (.mv (.c (.int .i64 1))))⟩]
def roperand_r4 : List AI := [⟨(some 7), none, (.op (.ibin .eql (.t 3) (.c (.int .i64 5))))⟩, ⟨(some 6), none, (.op (.mv (.t 7)))⟩]
def roperand_r5 : List AI := [⟨(some 8), none, (.op (.ibin .eql (.t 3) (.c (.int .i64 6))))⟩, ⟨(some 6), none, (.op (.mv (.t 8)))⟩]
def roperand_r6 : List AI := [⟨(some 2), none, (.op (.mv (.c (.int .i64 2))))⟩]
def roperand_r7 : List AI := [⟨(some 10), none, (.op (.ibin .eql (.t 3) (.c (.int .i64 7))))⟩, ⟨(some 9), none, (.op (.mv (.t 10)))⟩]
def roperand_r8 : List AI := [⟨(some 2), none, (.op (.mv (.c (.int .i64 3))))⟩]
def roperand_r9 : List AI := [⟨(some 12), none, (.op (.ibin .eql (.t 3) (.c (.int .i64 20))))⟩, ⟨(some 11), none, (.op (.mv (.t 12)))⟩]
def roperand_r10 : List AI := [⟨(some 13), none, (.op (.ibin .eql (.t 3) (.c (.int .i64 21))))⟩, ⟨(some 11), none, (.op (.mv (.t 13)))⟩]
def roperand_r11 : List AI := [⟨(some 2), none, (.op (.mv (.c (.int .i64 4))))⟩]
def roperand_r12 : List AI := [⟨(some 15), none, (.op (.ibin .eql (.t 3) (.c (.int .i64 22))))⟩, ⟨(some 14), none, (.op (.mv (.t 15)))⟩]
def roperand_r13 : List AI := [⟨(some 2), none, (.op (.mv (.c (.int .i64 5))))⟩]
def roperand_r14 : List AI := [⟨(some 2), none, (.op (.mv (.c (.int .i64 0))))⟩]
def roperand_c : AC := (.seq (.reg roperand_r0) (.seq (.seq (.reg roperand_r1) (.block 0 (.seq (.reg roperand_r2) (.cond (.t 4) (.seq (.reg roperand_r3) .ret) (.seq (.seq (.reg roperand_r4) (.cond (.t 6) .skip (.reg roperand_r5))) (.cond (.t 6) (.seq (.reg roperand_r6) .ret) (.seq (.reg roperand_r7) (.cond (.t 9) (.seq (.reg roperand_r8) .ret) (.seq (.seq (.reg roperand_r9) (.cond (.t 11) .skip (.reg roperand_r10))) (.cond (.t 11) (.seq (.reg roperand_r11) .ret) (.seq (.reg roperand_r12) (.cond (.t 14) (.seq (.reg roperand_r13) .ret) .skip)))))))))))) (.seq (.reg roperand_r14) .ret)))
def roperand_res : List ARes := [(.tmp 2)]
set_option maxRecDepth 100000 in
theorem roperand_get : getF Try.prog 97 55000 [] = some ("gavotte/gavotteref1.Operand", 16, roperand_c, roperand_res) := by kernel_rfl
def rinstr_r0 : List AI := [⟨(some 4), none, (.op (.box 39004 2 (.t 0)))⟩, ⟨(some 8), none, (.op (.mv (.c (.int .i64 0))))⟩]
def rinstr_r1 : List AI := [⟨(some 9), none, (.op (.fld 0 (.t 4)))⟩, ⟨(some 10), none, (.op (.load none (.t 9)))⟩, ⟨(some 11), none, (.call (.c (.fn 96 [])) [(.t 10)])⟩, ⟨(some 12), none, (.op (.not (.t 11)))⟩]
def rinstr_r2 : List AI := [⟨(some 8), none, (.op (.mv (.c (.int .i64 1))))⟩]
def rinstr_r3 : List AI := [⟨(some 13), none, (.op (.fld 0 (.t 4)))⟩, ⟨(some 14), none, (.op (.load none (.t 13)))⟩, ⟨(some 15), none, (.call (.c (.fn 97 [])) [(.t 14)])⟩]
def rinstr_r4 : List AI := [⟨(some 17), none, (.op (.ibin .eql (.t 15) (.c (.int .i64 0))))⟩, ⟨(some 16), none, (.op (.mv (.t 17)))⟩]
def rinstr_r5 : List AI := [⟨(some 18), none, (.op (.fld 1 (.t 4)))⟩, ⟨(some 19), none, (.op (.load none (.t 18)))⟩, ⟨(some 20), none, (.op (.ibin .neq (.t 19) (.c (.int .i64 0))))⟩]
def rinstr_r6 : List AI := [⟨(some 8), none, (.op (.mv (.c (.int .i64 1))))⟩]
def rinstr_r7 : List AI := [⟨(some 22), none, (.op (.ibin .eql (.t 15) (.c (.int .i64 4))))⟩, ⟨(some 21), none, (.op (.mv (.t 22)))⟩]
def rinstr_r8 : List AI := [⟨(some 23), none, (.op (.fld 1 (.t 4)))⟩, ⟨(some 24), none, (.op (.load none (.t 23)))⟩, ⟨(some 25), none, (.op (.ibin .lss (.t 24) (.c (.int .i64 0))))⟩, ⟨(some 26), none, (.op (.mv (.t 25)))⟩, ⟨(some 27), (some (26, false)), (.op (.fld 1 (.t 4)))⟩, ⟨(some 28), (some (26, false)), (.op (.load none (.t 27)))⟩, ⟨(some 29), (some (26, false)), (.op (.mv (.t 1)))⟩, ⟨(some 30), (some (26, false)), (.op (.ibin .gtr (.t 28) (.t 29)))⟩, ⟨(some 31), none, (.op (.pick (.t 26) (.c (.bool true)) (.t 30)))⟩]
def rinstr_r9 : List AI := [⟨(some 8), none, (.op (.mv (.c (.int .i64 4))))⟩]
def rinstr_r10 : List AI := [⟨(some 33), none, (.op (.ibin .eql (.t 15) (.c (.int .i64 2))))⟩, ⟨(some 32), none, (.op (.mv (.t 33)))⟩]
def rinstr_r11 : List AI := [⟨(some 34), none, (.op (.fld 1 (.t 4)))⟩, ⟨(some 35), none, (.op (.load none (.t 34)))⟩, ⟨(some 36), none, (.op (.ibin .lss (.t 35) (.c (.int .i64 0))))⟩, ⟨(some 37), none, (.op (.mv (.t 36)))⟩, ⟨(some 38), (some (37, false)), (.op (.fld 1 (.t 4)))⟩, ⟨(some 39), (some (37, false)), (.op (.load none (.t 38)))⟩, ⟨(some 40), (some (37, false)), (.op (.ibin .geq (.t 39) (.c (.int .i64 8))))⟩, ⟨(some 41), none, (.op (.pick (.t 37) (.c (.bool true)) (.t 40)))⟩]
def rinstr_r12 : List AI := [⟨(some 8), none, (.op (.mv (.c (.int .i64 6))))⟩]
def rinstr_r13 : List AI := [⟨(some 43), none, (.op (.ibin .eql (.t 15) (.c (.int .i64 3))))⟩, ⟨(some 42), none, (.op (.mv (.t 43)))⟩]
def rinstr_r14 : List AI := [⟨(some 44), none, (.op (.fld 1 (.t 4)))⟩, ⟨(some 45), none, (.op (.load none (.t 44)))⟩, ⟨(some 46), none, (.op (.ibin .lss (.t 45) (.c (.int .i64 0))))⟩, ⟨(some 47), none, (.op (.mv (.t 46)))⟩, ⟨(some 48), (some (47, false)), (.op (.fld 1 (.t 4)))⟩, ⟨(some 49), (some (47, false)), (.op (.load none (.t 48)))⟩, ⟨(some 50), (some (47, false)), (.op (.mv (.t 2)))⟩, ⟨(some 51), (some (47, false)), (.op (.ibin .geq (.t 49) (.t 50)))⟩, ⟨(some 52), none, (.op (.pick (.t 47) (.c (.bool true)) (.t 51)))⟩]
def rinstr_r15 : List AI := [⟨(some 8), none, (.op (.mv (.c (.int .i64 6))))⟩]
def rinstr_r16 : List AI := [⟨(some 54), none, (.op (.ibin .eql (.t 15) (.c (.int .i64 5))))⟩, ⟨(some 53), none, (.op (.mv (.t 54)))⟩]
def rinstr_r17 : List AI := [⟨(some 55), none, (.op (.fld 1 (.t 4)))⟩, ⟨(some 56), none, (.op (.load none (.t 55)))⟩, ⟨(some 57), none, (.op (.ibin .lss (.t 56) (.c (.int .i64 0))))⟩, ⟨(some 58), none, (.op (.mv (.t 57)))⟩, ⟨(some 59), (some (58, false)), (.op (.fld 1 (.t 4)))⟩, ⟨(some 60), (some (58, false)), (.op (.load none (.t 59)))⟩, ⟨(some 61), (some (58, false)), (.op (.mv (.t 3)))⟩, ⟨(some 62), (some (58, false)), (.op (.ibin .geq (.t 60) (.t 61)))⟩, ⟨(some 63), none, (.op (.pick (.t 58) (.c (.bool true)) (.t 62)))⟩]
def rinstr_r18 : List AI := [⟨(some 8), none, (.op (.mv (.c (.int .i64 7))))⟩]
def rinstr_r19 : List AI := [⟨(some 8), none, (.op (.mv (.c (.int .i64 0))))⟩]
def rinstr_c : AC := (.seq (.reg rinstr_r0) (.seq (.seq (.reg rinstr_r1) (.cond (.t 12) (.seq (.reg rinstr_r2) .ret) .skip)) (.seq (.seq (.reg rinstr_r3) (.block 0 (.seq (.reg rinstr_r4) (.cond (.t 16) (.seq (.reg rinstr_r5) (.cond (.t 20) (.seq (.reg rinstr_r6) .ret) .skip)) (.seq (.reg rinstr_r7) (.cond (.t 21) (.seq (.reg rinstr_r8) (.cond (.t 31) (.seq (.reg rinstr_r9) .ret) .skip)) (.seq (.reg rinstr_r10) (.cond (.t 32) (.seq (.reg rinstr_r11) (.cond (.t 41) (.seq (.reg rinstr_r12) .ret) .skip)) (.seq (.reg rinstr_r13) (.cond (.t 42) (.seq (.reg rinstr_r14) (.cond (.t 52) (.seq (.reg rinstr_r15) .ret) .skip)) (.seq (.reg rinstr_r16) (.cond (.t 53) (.seq (.reg rinstr_r17) (.cond (.t 63) (.seq (.reg rinstr_r18) .ret) .skip)) .skip)))))))))))) (.seq (.reg rinstr_r19) .ret))))
def rinstr_res : List ARes := [(.tmp 8)]
set_option maxRecDepth 100000 in
theorem rinstr_get : getF Try.prog 80 39000 [] = some ("gavotte/gavotteref1.CheckInstr", 64, rinstr_c, rinstr_res) := by kernel_rfl
def rnote_r0 : List AI := [⟨(some 2), none, (.op (.box 40002 4 (.t 0)))⟩, ⟨(some 3), none, (.op (.box 40003 3 (.t 1)))⟩, ⟨(some 4), none, (.op (.mv (.c (.int .i64 0))))⟩]
def rnote_r1 : List AI := [⟨(some 6), none, (.op (.fld 0 (.t 3)))⟩, ⟨(some 7), none, (.op (.load none (.t 6)))⟩, ⟨(some 8), none, (.op (.ibin .lss (.t 7) (.c (.int .i64 0))))⟩, ⟨(some 9), none, (.op (.mv (.t 8)))⟩, ⟨(some 10), (some (9, false)), (.op (.fld 0 (.t 3)))⟩, ⟨(some 11), (some (9, false)), (.op (.load none (.t 10)))⟩, ⟨(some 12), (some (9, false)), (.op (.fld 1 (.t 2)))⟩, ⟨(some 13), (some (9, false)), (.op (.load none (.t 12)))⟩, ⟨(some 14), (some (9, false)), (.op (.len (.t 13)))⟩, ⟨(some 15), (some (9, false)), (.op (.ibin .geq (.t 11) (.t 14)))⟩, ⟨(some 16), none, (.op (.pick (.t 9) (.c (.bool true)) (.t 15)))⟩, ⟨(some 17), none, (.op (.mv (.t 16)))⟩, ⟨(some 18), (some (17, false)), (.op (.fld 1 (.t 3)))⟩, ⟨(some 19), (some (17, false)), (.op (.load none (.t 18)))⟩, ⟨(some 20), (some (17, false)), (.op (.ibin .lss (.t 19) (.c (.int .i64 0))))⟩, ⟨(some 21), none, (.op (.pick (.t 17) (.c (.bool true)) (.t 20)))⟩, ⟨(some 22), none, (.op (.mv (.t 21)))⟩, ⟨(some 23), (some (22, false)), (.op (.fld 1 (.t 3)))⟩, ⟨(some 24), (some (22, false)), (.op (.load none (.t 23)))⟩, ⟨(some 25), (some (22, false)), (.op (.fld 0 (.t 2)))⟩, ⟨(some 26), (some (22, false)), (.op (.load none (.t 25)))⟩, ⟨(some 27), (some (22, false)), (.op (.len (.t 26)))⟩, ⟨(some 28), (some (22, false)), (.op (.ibin .geq (.t 24) (.t 27)))⟩, ⟨(some 29), none, (.op (.pick (.t 22) (.c (.bool true)) (.t 28)))⟩, ⟨(some 5), none, (.op (.mv (.t 29)))⟩]
def rnote_r2 : List AI := [⟨(some 4), none, (.op (.mv (.c (.int .i64 7))))⟩]
def rnote_r3 : List AI := [⟨(some 31), none, (.op (.fld 2 (.t 3)))⟩, ⟨(some 32), none, (.op (.load none (.t 31)))⟩, ⟨(some 33), none, (.op (.len (.t 32)))⟩, ⟨(some 34), none, (.op (.fld 0 (.t 2)))⟩, ⟨(some 35), none, (.op (.load none (.t 34)))⟩, ⟨(some 36), none, (.op (.fld 1 (.t 3)))⟩, ⟨(some 37), none, (.op (.load none (.t 36)))⟩, ⟨(some 38), none, (.op (.idx 2 (.t 35) (.t 37)))⟩, ⟨(some 39), none, (.op (.fld 0 (.t 38)))⟩, ⟨(some 40), none, (.op (.load none (.t 39)))⟩, ⟨(some 41), none, (.op (.ibin .neq (.t 33) (.t 40)))⟩, ⟨(some 30), none, (.op (.mv (.t 41)))⟩]
def rnote_p3 : List (List Nat) := [[], [0], [1, 0], [], [3], [], [5], [4, 6, 3, 5], [7, 4, 6, 3, 5], [8, 7, 4, 6, 3, 5], [2, 9, 1, 0, 8, 7, 4, 6, 3, 5], [10, 2, 9, 1, 0, 8, 7, 4, 6, 3, 5]]
def rnote_r4 : List AI := [⟨(some 4), none, (.op (.mv (.c (.int .i64 1))))⟩]
def rnote_r5 : List AI := [⟨(some 4), none, (.op (.mv (.c (.int .i64 0))))⟩]
def rnote_c : AC := (.seq (.reg rnote_r0) (.seq (.block 0 (.seq (.reg rnote_r1) (.cond (.t 5) (.seq (.reg rnote_r2) .ret) (.seq (.regd rnote_r3 rnote_p3) (.cond (.t 30) (.seq (.reg rnote_r4) .ret) .skip))))) (.seq (.reg rnote_r5) .ret)))
def rnote_res : List ARes := [(.tmp 4)]
set_option maxRecDepth 100000 in
theorem rnote_get : getF Try.prog 81 40000 [] = some ("gavotte/gavotteref1.CheckNote", 42, rnote_c, rnote_res) := by kernel_rfl
attribute [simp] check_r0 check_r1 check_r2 check_r3 check_r4 check_r5 check_r6 check_r7 check_r8 check_r9 check_r10 check_r11 check_r12 check_r13 check_r14 check_r15 check_res rvalid_r0 rvalid_r1 rvalid_res roperand_r0 roperand_r1 roperand_r2 roperand_r3 roperand_r4 roperand_r5 roperand_r6 roperand_r7 roperand_r8 roperand_r9 roperand_r10 roperand_r11 roperand_r12 roperand_r13 roperand_r14 roperand_res rinstr_r0 rinstr_r1 rinstr_r2 rinstr_r3 rinstr_r4 rinstr_r5 rinstr_r6 rinstr_r7 rinstr_r8 rinstr_r9 rinstr_r10 rinstr_r11 rinstr_r12 rinstr_r13 rinstr_r14 rinstr_r15 rinstr_r16 rinstr_r17 rinstr_r18 rinstr_r19 rinstr_res rnote_r0 rnote_r1 rnote_r2 rnote_r3 rnote_p3 rnote_r4 rnote_r5 rnote_res

theorem check_pc (p : Prg) : PC Try.prog 31 [p.av] (iv (checkV p)) := by
  refine pc_of_get check_get (by simp) _ (by simp) _ ?_
  unfold check_c
  simp
  refine split (fun h1 => ?_) (fun h1 => ?_) <;> simp [h1]
  · grind [checkV]
  refine split (fun h2 => ?_) (fun h2 => ?_) <;> simp [h2]
  · grind [checkV]
  refine split (fun h3 => ?_) (fun h3 => ?_) <;> simp [h3]
  · grind [checkV]
  refine split (fun h4 => ?_) (fun h4 => ?_) <;> simp [h4]
  · grind [checkV]
  refine split (fun h5 => ?_) (fun h5 => ?_) <;> simp [h5]
  · grind [checkV]
  refine split (fun h6 => ?_) (fun h6 => ?_) <;> simp [h6]
  · grind [checkV]
  refine call (eachH_pc p p.hs 74 (handlerV p.hs.length) (fun h _ => handler_pc p h) (by omega)) (by simp) ?_
  simp
  refine split (fun h7 => ?_) (fun h7 => ?_) <;> simp [h7]
  rotate_left
  · grind [checkV]
  refine call (eachA_pc p p.as 76 (actorV p.hs) (fun h _ => actor_pc p h) (by omega)) (by simp) ?_
  simp
  refine split (fun h8 => ?_) (fun h8 => ?_) <;> simp [h8]
  rotate_left
  · grind [checkV]
  refine call (eachN_pc p p.boot 78 (noteV p.hs p.as.length) (fun h _ => note_pc p h) (by omega)) (by simp) ?_
  simp
  grind [checkV]
theorem rvalid_pc (n : Int) : PC Try.prog 96 [iv n] (.bool (decide (1 ≤ n) && decide (n ≤ 25))) := by
  refine pc_of_get rvalid_get (by simp) _ (by simp) _ ?_
  unfold rvalid_c
  simp
  repeat' (refine split (fun hc => ?_) (fun hc => ?_) <;> simp [*])
theorem roperand_pc (n : Int) : PC Try.prog 97 [iv n] (iv (operandV n)) := by
  refine pc_of_get roperand_get (by simp) _ (by simp) _ ?_
  unfold roperand_c
  simp
  repeat' (refine split (fun hc => ?_) (fun hc => ?_) <;> simp [*])
  all_goals grind [operandV]
theorem rinstr_pc (i : Ins) (n a k : Int) : PC Try.prog 80 [i.av, iv n, iv a, iv k] (iv (instrV k a n i)) := by
  refine pc_of_get rinstr_get (by simp) _ (by simp) _ ?_
  unfold rinstr_c
  simp
  refine call (rvalid_pc i.op) (by simp) ?_
  simp
  by_cases h1 : 1 ≤ i.op
  rotate_left
  · simp [h1]; grind [instrV]
  by_cases h2 : i.op ≤ 25
  rotate_left
  · simp [h1, h2]; grind [instrV]
  simp [h1, h2]
  refine call (roperand_pc i.op) (by simp) ?_
  have hk := operandV_cases i.op
  have hV : instrV k a n i = (if (operandV i.op = 0 ∧ i.a ≠ 0) then 1
    else if operandV i.op = 4 ∧ (i.a < 0 ∨ i.a > n) then 4
    else if (operandV i.op = 2 ∧ (i.a < 0 ∨ i.a ≥ 8)) ∨ (operandV i.op = 3 ∧ (i.a < 0 ∨ i.a ≥ a)) then 6
    else if operandV i.op = 5 ∧ (i.a < 0 ∨ i.a ≥ k) then 7 else 0) := by unfold instrV; grind
  rw [hV]
  generalize operandV i.op = o at hk
  simp
  rcases hk with rfl | rfl | rfl | rfl | rfl | rfl <;> simp
  all_goals
    repeat' (refine split (fun hc => ?_) (fun hc => ?_) <;> simp [*])
  all_goals grind
theorem rnote_pc (p : Prg) (n : Nt) : PC Try.prog 81 [p.av, n.av] (iv (noteV p.hs p.as.length n)) := by
  refine pc_of_get rnote_get (by simp) _ (by simp) _ ?_
  unfold rnote_c
  simp
  refine split (fun h1 => ?_) (fun h1 => ?_) <;> simp [h1]
  · grind [noteV]
  refine split (fun h2 => ?_) (fun h2 => ?_) <;> simp [h2]
  · grind [noteV]
  refine split (fun h3 => ?_) (fun h3 => ?_) <;> simp [h3]
  · grind [noteV]
  refine split (fun h4 => ?_) (fun h4 => ?_) <;> simp only [h4]
  · simp [h4]; grind [noteV]
  obtain ⟨to, hd, args⟩ := n
  obtain ⟨k, rfl⟩ := Int.eq_ofNat_of_zero_le (by simpa using h3 : 0 ≤ hd)
  have hk : k < p.hs.length := by simpa using h4
  simp [hk]
  refine split (fun h5 => ?_) (fun h5 => ?_) <;> simp <;> grind [noteV]


end Go.Gv
