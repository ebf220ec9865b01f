/- Texts of this proof, one behind the other. What is proved, and on which conditions, stands ahead of each. -/
import Derived.Test.YtpaeffcpdpblcaaM7f8051c
import Derived.Test.YtpaeffcpdpblcaaM6508f07
import Derived.Test.YtpaeffcpdpblcaaProg

/- A value of a state seen as a closed one, however deep its lists lie; calls of pure functions with such values. No condition beyond those that each law names. -/
set_option linter.unusedVariables false
set_option linter.unusedSimpArgs false
namespace Go.Gv
open Go.RowKit

def elemR (R : AV → AV → Prop) : AV → AV → Prop
  | .agg xs, .agg ys => coL R xs ys
  | x, y => R x y

/-- What stands for x may be taken for the closed y; 'd': so deep do lists lie in lists. -/
def dco (blk : Nat → Option Blk) : Nat → AV → AV → Prop
  | 0, x, y => co1 none x y
  | d + 1, x, y => match x, y with
    | .nils, .lst _ ys => ys = []
    | .lst s xs, .lst s' ys => s = s' ∧ (xs = ys ∨ coL (elemR (dco blk d)) xs ys)
    | .acc _ _ s xs, .lst s' ys => s = s' ∧ (xs = ys ∨ coL (elemR (dco blk d)) xs ys)
    | .sl nm st s off len, .lst s' ys => s = s' ∧ ∃ es, getB blk nm st s = some es ∧ off + len ≤ es.length ∧ coL (elemR (dco blk d)) ((es.drop off).take len) ys
    | x, y => co1 none x y

theorem dco_one {blk : Nat → Option Blk} : ∀ (d : Nat) {x y : AV}, dco blk d x y → x.one = true → y.one = true := by
  intro d x y h hx
  cases d with
  | zero => exact co1_one h hx
  | succ d =>
    unfold dco at h
    split at h <;> first | rfl | exact co1_one h hx

theorem elemR_cells {blk : Nat → Option Blk} {d : Nat} {x y : AV} (h : elemR (dco blk d) x y) (h1 : ∀ z ∈ x.cells, z.one = true) : x.cells.length = y.cells.length ∧ ∀ (j : Nat) (a b : AV), x.cells[j]? = some a → y.cells[j]? = some b → dco blk d a b := by
  by_cases hx : ∃ xs ys, x = .agg xs ∧ y = .agg ys
  · obtain ⟨xs, ys, rfl, rfl⟩ := hx
    exact coL_get h
  · have hd : dco blk d x y := by
      unfold elemR at h
      split at h
      · exact absurd ⟨_, _, rfl, rfl⟩ hx
      · exact h
    by_cases hxa : ∃ xs, x = .agg xs
    · obtain ⟨xs, rfl⟩ := hxa
      exfalso
      cases d with
      | zero => cases y <;> exact hd
      | succ d => unfold dco at hd; cases y <;> exact hd
    · have hxc : x.cells = [x] := by cases x <;> first | rfl | exact absurd ⟨_, rfl⟩ hxa
      have hx1 : x.one = true := h1 x (by rw [hxc]; simp)
      have hy1 := dco_one d hd hx1
      have hyc := AV.cells_one hy1
      rw [hxc, hyc]
      refine ⟨rfl, fun j a b ha hb => ?_⟩
      cases j with
      | zero => simp at ha hb; subst ha; subst hb; exact hd
      | succ j => simp at ha

section
variable {E : Env} {B : Nat} {h : Hp} {w : World}

/-- A list's elements, one by one. -/
theorem dco_list (K0 : ∀ b o u, E.K b o = some u → w.cell? ⟨b, o, none⟩ = some u) {blk : Nat → Option Blk} {d : Nat} (ih : ∀ (x y : AV) (v : Value), dco blk d x y → Rel E x v → Rel (envK (Kw w)) y v)
    {xs ys : List AV} {b o sz cap : Nat} (f : Nat → Nat → Value) (hcap : xs.length ≤ cap) (hsz : ∀ x ∈ xs, x.cells.length = sz)
    (hk : ∀ i j : Nat, i < xs.length → j < sz → w.cell? ⟨b, o + i * sz + j, none⟩ = some (f i j))
    (h1 : ∀ (i : Nat) (x : AV), xs[i]? = some x → ∀ (j : Nat) (y : AV), x.cells[j]? = some y → y.one = true)
    (hr : ∀ (i : Nat) (x : AV), xs[i]? = some x → ∀ (j : Nat) (y : AV), x.cells[j]? = some y → Rel E y (f i j))
    (hc : coL (elemR (dco blk d)) xs ys) : Rel (envK (Kw w)) (.lst sz ys) (.slice (some ⟨b, o, none⟩) xs.length cap) := by
  obtain ⟨e1, e2⟩ := coL_get hc
  have pair : ∀ (i : Nat) (y : AV), ys[i]? = some y → ∃ x, xs[i]? = some x ∧ elemR (dco blk d) x y := by
    intro i y hy
    obtain ⟨x, hx⟩ : ∃ x, xs[i]? = some x := ⟨_, List.getElem?_eq_getElem (by rw [e1]; exact (List.getElem?_eq_some_iff.1 hy).1)⟩
    exact ⟨x, hx, e2 i x y hx hy⟩
  have ones : ∀ (i : Nat) (x : AV), xs[i]? = some x → ∀ z ∈ x.cells, z.one = true := by
    intro i x hx z hz
    obtain ⟨j, hj⟩ := List.getElem?_of_mem hz
    exact h1 i x hx j z hj
  have cell : ∀ (i : Nat) (y : AV), ys[i]? = some y → ∀ (j : Nat) (q : AV), y.cells[j]? = some q → ∃ p x, xs[i]? = some x ∧ x.cells[j]? = some p ∧ dco blk d p q := by
    intro i y hy j q hq
    obtain ⟨x, hx, hxy⟩ := pair i y hy
    obtain ⟨c1, c2⟩ := elemR_cells hxy (ones i x hx)
    obtain ⟨p, hp⟩ : ∃ p, x.cells[j]? = some p := ⟨_, List.getElem?_eq_getElem (by rw [c1]; exact (List.getElem?_eq_some_iff.1 hq).1)⟩
    exact ⟨p, x, hx, hp, c2 j p q hp hq⟩
  rw [e1]
  refine Rel.lst ys b o sz cap f (by rw [← e1]; exact hcap) ?_ ?_ ?_ ?_
  · intro y hy
    obtain ⟨i, hi⟩ := List.getElem?_of_mem hy
    obtain ⟨x, hx, hxy⟩ := pair i y hi
    rw [← (elemR_cells hxy (ones i x hx)).1]
    exact hsz x (List.mem_of_getElem? hx)
  · intro i j hi hj
    exact hk i j (by rw [e1]; exact hi) hj
  · intro i y hy j q hq
    obtain ⟨p, x, hx, hp, hpq⟩ := cell i y hy j q hq
    exact dco_one d hpq (h1 i x hx j p hp)
  · intro i y hy j q hq
    obtain ⟨p, x, hx, hp, hpq⟩ := cell i y hy j q hq
    exact ih p q _ hpq (hr i x hx j p hp)

theorem dco_rel (H : HConc E B h w) : ∀ (d : Nat) (x y : AV) (v : Value), dco h.blk d x y → Rel E x v → Rel (envK (Kw w)) y v := by
  have kn : Knows E B w (Kw w) (none : Option (Nat → Option Blk)).isSome := ⟨H.K, by simp⟩
  have base : ∀ (x y : AV) (v : Value), co1 none x y → Rel E x v → Rel (envK (Kw w)) y v := fun x y v hc hr => co1_rel H kn (by simp) hc hr
  have lsts : ∀ (d : Nat), (∀ (x y : AV) (v : Value), dco h.blk d x y → Rel E x v → Rel (envK (Kw w)) y v) → ∀ (s : Nat) (xs ys : List AV) (v : Value), Rel E (.lst s xs) v → (xs = ys ∨ coL (elemR (dco h.blk d)) xs ys) → Rel (envK (Kw w)) (.lst s ys) v := by
    intro d ih s xs ys v hr hc
    rcases hc with rfl | hc
    · exact lst_envK (K := Kw w) H.K hr
    · cases hr with
      | lst0 _ a cap =>
        cases ys with
        | nil => exact .lst0 _ _ _
        | cons y ys => exact hc.elim
      | lst _ b o _ cap f hcap hsz hk h1 hr =>
        exact dco_list H.K ih f hcap hsz (fun i j hi hj => H.K _ _ _ (hk i j hi hj)) h1 (fun i x hx j y hy => (hr i x hx j y hy).mono (Env.cl_le E)) hc
  intro d
  induction d with
  | zero => exact base
  | succ d ih =>
    intro x y v hc hr
    unfold dco at hc
    split at hc
    · subst hc; rw [hr.nils_inv]; exact .lst0 _ _ _
    · obtain ⟨rfl, hc⟩ := hc
      exact lsts d ih _ _ _ v hr hc
    · obtain ⟨rfl, hc⟩ := hc
      cases hr with
      | acc _ _ _ _ _ _ _ hl => exact lsts d ih _ _ _ v hl hc
    · rename_i nm st s off len s' ys
      obtain ⟨rfl, es, hes, hle, hc⟩ := hc
      have hbs := getB_some hes
      have hbk := (H.bk nm _ hbs).r (getB_pos hes)
      obtain ⟨cur, e, hg, hsz, hrow⟩ := hbk.row
      simp only at hg hsz hrow
      cases hr with
      | sl _ _ _ _ _ cap a hu hcap hc' ha =>
        have hlen : ((es.drop off).take len).length = len := by simp; omega
        by_cases hl0 : len = 0
        · subst hl0
          rw [List.take_zero] at hc
          cases ys with
          | nil => exact .lst0 _ _ _
          | cons y ys => exact hc.elim
        · rw [ha (by omega)]
          have hidx : ∀ (i : Nat) (z : AV), ((es.drop off).take len)[i]? = some z → i < len ∧ es[off + i]? = some z := by
            intro i z hz
            rw [List.getElem?_take] at hz
            split at hz
            · rename_i hi; rw [List.getElem?_drop] at hz; exact ⟨hi, hz⟩
            · cases hz
          have hel : ∀ z ∈ (es.drop off).take len, ElemOk s z := fun z hz => hbk.el z (List.mem_of_mem_drop (List.mem_of_mem_take hz))
          have cell : ∀ (i : Nat) (z : AV), ((es.drop off).take len)[i]? = some z → ∀ (j : Nat) (q : AV), z.cells[j]? = some q →
              ∃ u, w.cell? ⟨(E.m st).1, (E.m st).2 + off * s + i * s + j, none⟩ = some u ∧ Rel E q u := by
            intro i z hz j q hq
            obtain ⟨hi, hz'⟩ := hidx i z hz
            obtain ⟨u, hu', hrel⟩ := hrow (off + i) z hz' j q hq
            refine ⟨u, ?_, hrel⟩
            rw [show (E.m st).2 + off * s + i * s + j = (E.m st).2 + (off + i) * s + j by rw [Nat.add_mul]; omega, cell_of_row w _ _ cur e (0, 0) hg]
            exact hu'
          have := dco_list (b := (E.m st).1) (o := (E.m st).2 + off * s) (sz := s) (cap := cap) H.K ih (fun i j => (w.cell? ⟨(E.m st).1, (E.m st).2 + off * s + i * s + j, none⟩).getD .nilFunc) (by rw [hlen]; exact hcap) (fun z hz => (hel z hz).1) ?_ ?_ ?_ hc
          · rw [hlen] at this; exact this
          · intro i j hi hj
            obtain ⟨z, hz⟩ : ∃ z, ((es.drop off).take len)[i]? = some z := ⟨_, List.getElem?_eq_getElem hi⟩
            obtain ⟨q, hq⟩ : ∃ q, z.cells[j]? = some q := ⟨_, List.getElem?_eq_getElem (by rw [(hel z (List.mem_of_getElem? hz)).1]; exact hj)⟩
            obtain ⟨u, hu', _⟩ := cell i z hz j q hq
            rw [hu']; rfl
          · intro i z hz j q hq
            exact (hel z (List.mem_of_getElem? hz)).2 q (List.mem_of_getElem? hq)
          · intro i z hz j q hq
            obtain ⟨u, hu', hrel⟩ := cell i z hz j q hq
            rw [hu']
            exact hrel
    · exact base x y v hc hr
theorem dcoE_rel (H : HConc E B h w) (d : Nat) (x y : AV) (v : Value) (hc : elemR (dco h.blk d) x y) (hr : Rel E x v) : Rel (envK (Kw w)) y v := by
  unfold elemR at hc
  split at hc
  · rename_i xs ys
    obtain ⟨e1, e2⟩ := coL_get hc
    cases hr with
    | agg _ vs hs h1 hr =>
      have pair : ∀ (j : Nat) (y : AV), ys[j]? = some y → ∃ x, xs[j]? = some x ∧ dco h.blk d x y := by
        intro j y hy
        obtain ⟨x, hx⟩ : ∃ x, xs[j]? = some x := ⟨_, List.getElem?_eq_getElem (by rw [e1]; exact (List.getElem?_eq_some_iff.1 hy).1)⟩
        exact ⟨x, hx, e2 j x y hx hy⟩
      refine .agg ys vs (by rw [← e1]; exact hs) (fun j y hy => ?_) (fun j y u hy hu => ?_)
      · obtain ⟨x, hx, hxy⟩ := pair j y hy
        exact dco_one d hxy (h1 j x hx)
      · obtain ⟨x, hx, hxy⟩ := pair j y hy
        exact dco_rel H d x y u hxy (hr j x u hx hu)
  · exact dco_rel H d _ _ v hc hr
end

/-- A call that reads lists in mutable blocks, however deep, and answers no list. -/
theorem callW {P : Program} {f : FuncId} {cargs : List AV} {r : AV} (h : PC P f cargs r) (d : Nat) {caps vals : List AV} {S : St} {k : AV → St → Prop} {u : Dep k} (hco : coL (elemR (dco S.blk d)) (vals ++ caps) cargs) (hflat : flat r = true) (hk : k r S) :
    CallG P (.fn f caps) vals S k u := by
  obtain ⟨hent, hc⟩ := h
  refine ⟨f, caps, rfl, hent, fun E B W w args H hW hB hu hsz hrel => ?_⟩
  obtain ⟨e1, e2⟩ := coL_get hco
  refine (hc (Kw w) w args (fun b o v q => q) (by rw [hsz, e1]) ?_).mono ?_
  · intro j y u hy hu
    obtain ⟨x, hx⟩ : ∃ x, (vals ++ caps)[j]? = some x := ⟨_, List.getElem?_eq_getElem (by rw [e1]; exact (List.getElem?_eq_some_iff.1 hy).1)⟩
    exact dcoE_rel H d x y u (e2 j x y hx hy) (hrel j x u hx hu)
  · rintro e w' ⟨v, rfl, hbel, hr⟩
    have hle : B ≤ w.heap.size := Nat.le_trans hB hW.size
    exact ⟨v, E, r, S, rfl, .refl E, H.grow (fun k hk => hbel.block k hk), hW.trans (hbel.mono hle), fun _ _ _ => rfl, fun s hs => ⟨.inl hs, hu s hs⟩, Nat.le_refl _, rfl, flat_rel hr hflat, hk⟩

end Go.Gv

/- A state told in another way: blocks that are written no more become known, names are changed, blocks are forgotten. No condition beyond those that each law names. -/
set_option linter.unusedVariables false
set_option linter.unusedSimpArgs false
namespace Go.Gv
open Go.RowKit

/-- A heap told in another way; values are told by φ. -/
def Wkh (c c' : Nat) (h h' : Hp) (φ : AV → AV) : Prop :=
  c ≤ c' ∧ ∀ (E : Env) (B : Nat) (w : World), HConc E B h w → (∀ s, E.u s → s < c) →
    ∃ E', E.le E' ∧ HConc E' B h' w ∧ (∀ b o, b < B → E'.K b o = E.K b o) ∧ (∀ s, E'.u s → E.u s) ∧ ∀ (x : AV) (v : Value), Rel E x v → Rel E' (φ x) v

theorem Wkh.refl (c : Nat) (h : Hp) : Wkh c c h h id := ⟨Nat.le_refl _, fun E B w H hu => ⟨E, .refl E, H, fun _ _ _ => rfl, fun _ h => h, fun _ _ h => h⟩⟩
theorem Wkh.trans {c c' c'' : Nat} {h h' h'' : Hp} {φ ψ : AV → AV} (a : Wkh c c' h h' φ) (b : Wkh c' c'' h' h'' ψ) : Wkh c c'' h h'' (fun x => ψ (φ x)) := by
  refine ⟨Nat.le_trans a.1 b.1, fun E B w H hu => ?_⟩
  obtain ⟨E', a1, a2, a3, a4, a5⟩ := a.2 E B w H hu
  obtain ⟨E'', b1, b2, b3, b4, b5⟩ := b.2 E' B w a2 (fun s hs => Nat.lt_of_lt_of_le (hu s (a4 s hs)) a.1)
  exact ⟨E'', a1.trans b1, b2, fun b o hb => (b3 b o hb).trans (a3 b o hb), fun s hs => a4 s (b4 s hs), fun x v hv => b5 _ v (a5 x v hv)⟩

/-- All slots by φ. -/
theorem Wk.of {S S' : St} {φ : AV → AV} (h : Wkh S.clk S'.clk S.h S'.h φ) (ht : ∀ t, S'.t t = φ (S.t t)) : Wk S S' :=
  ⟨h.1, fun E B w H hu => let ⟨E', a1, a2, a3, a4, a5⟩ := h.2 E B w H hu; ⟨E', a1, a2, a3, a4, fun t v hv => by rw [ht]; exact a5 _ v hv⟩⟩
/-- No slot. -/
theorem Wk.of' {S S' : St} {φ : AV → AV} (h : Wkh S.clk S'.clk S.h S'.h φ) (ht : S'.t = S.t) : Wk S S' :=
  ⟨h.1, fun E B w H hu => let ⟨E', a1, a2, a3, a4, a5⟩ := h.2 E B w H hu; ⟨E', a1, a2, a3, a4, fun t v hv => by rw [ht]; exact hv.mono a1⟩⟩
/-- Some slots, each as it likes. -/
theorem Wk.some {S S' : St} {φ : AV → AV} (h : Wkh S.clk S'.clk S.h S'.h φ) (ht : ∀ t, S'.t t = S.t t ∨ S'.t t = φ (S.t t) ∨ S'.t t = .junk) : Wk S S' :=
  ⟨h.1, fun E B w H hu => let ⟨E', a1, a2, a3, a4, a5⟩ := h.2 E B w H hu; ⟨E', a1, a2, a3, a4, fun t v hv => by
    rcases ht t with e | e | e
    · rw [e]; exact hv.mono a1
    · rw [e]; exact a5 _ v hv
    · rw [e]; exact .junk v⟩⟩

/-- A call's end told in another way. -/
theorem CallP.told {P : Program} {fv : AV} {vals : List AV} {S : St} {k k' : AV → St → Prop} (h : CallP P fv vals S k')
    (hk : ∀ r S', k' r S' → ∃ S'' φ, Wkh S'.clk S''.clk S'.h S''.h φ ∧ S''.t = S'.t ∧ k (φ r) S'') : CallP P fv vals S k := by
  obtain ⟨f, caps, h1, h2, h3⟩ := h
  refine ⟨f, caps, h1, h2, fun E B W w args H hW hB hu hsz hr => (h3 E B W w args H hW hB hu hsz hr).mono ?_⟩
  rintro e w' ⟨v, E', r, S', a1, a2, a3, a4, a5, a6, a7, a8, a9, a10⟩
  obtain ⟨S'', φ, b1, b2, b3⟩ := hk r S' a10
  obtain ⟨E'', c1, c2, c3, c4, c5⟩ := b1.2 E' B w' a3 (fun s hs => (a6 s hs).2)
  exact ⟨v, E'', φ r, S'', a1, a2.trans c1, c2, a4, fun b o hb => (c3 b o hb).trans (a5 b o hb), fun s hs => ⟨(a6 s (c4 s hs)).1, Nat.lt_of_lt_of_le (a6 s (c4 s hs)).2 b1.1⟩, Nat.le_trans a7 b1.1, b2.trans a8, c5 r v a9, b3⟩

/-! ### Forgetting -/

theorem Wkh.sub {c c' : Nat} (hc : c ≤ c') {h h' : Hp} (hb : ∀ n b, h'.blk n = some b → h.blk n = some b) (ht : ∀ n t, h'.tok n = some t → h.tok n = some t) : Wkh c c' h h' id :=
  ⟨hc, fun E B w H hu => ⟨E, .refl E, H.sub hb ht, fun _ _ _ => rfl, fun _ h => h, fun _ _ h => h⟩⟩

/-! ### Mapping values -/

/-- A block's elements, each told by φ cell by cell. -/
def mapE (φ : AV → AV) : AV → AV
  | .agg cs => .agg (cs.map φ)
  | v => φ v
def mapV (φ : AV → AV) : AV → AV
  | .tup vs => .tup (vs.map (mapE φ))
  | v => mapE φ v

structure CellMap (E E' : Env) (φ : AV → AV) : Prop where
  rel : ∀ (x : AV) (v : Value), x.one = true → Rel E x v → Rel E' (φ x) v
  one : ∀ x : AV, x.one = true → (φ x).one = true
  other : ∀ x : AV, x.one = false → φ x = x
  int : ∀ (k : IntKind) (a : Int), φ (.int k a) = .int k a
  le : E.le E'

theorem CellMap.relE {E E' : Env} {φ : AV → AV} (h : CellMap E E' φ) {x : AV} {v : Value} (hr : Rel E x v) : Rel E' (mapE φ x) v := by
  by_cases hx : ∃ cs, x = .agg cs
  · obtain ⟨cs, rfl⟩ := hx
    cases hr with
    | agg _ vs hs h1 hr =>
      refine .agg _ vs (by simpa using hs) ?_ ?_
      · intro j y hy
        rw [List.getElem?_map] at hy
        cases hc : cs[j]? with
        | none => simp [hc] at hy
        | some z => simp only [hc, Option.map_some, Option.some.injEq] at hy; rw [← hy]; exact h.one z (h1 j z hc)
      · intro j y u hy hu
        rw [List.getElem?_map] at hy
        cases hc : cs[j]? with
        | none => simp [hc] at hy
        | some z => simp only [hc, Option.map_some, Option.some.injEq] at hy; rw [← hy]; exact h.rel z u (h1 j z hc) (hr j z u hc hu)
  · have e : mapE φ x = φ x := by cases x <;> first | rfl | exact absurd ⟨_, rfl⟩ hx
    rw [e]
    cases h1 : x.one with
    | true => exact h.rel x v h1 hr
    | false => rw [h.other x h1]; exact hr.mono h.le

theorem CellMap.relV {E E' : Env} {φ : AV → AV} (h : CellMap E E' φ) {x : AV} {v : Value} (hr : Rel E x v) : Rel E' (mapV φ x) v := by
  by_cases hx : ∃ cs, x = .tup cs
  · obtain ⟨cs, rfl⟩ := hx
    cases hr with
    | tup _ vs hs hr =>
      refine .tup _ vs (by simpa using hs) ?_
      intro j y u hy hu
      rw [List.getElem?_map] at hy
      cases hc : cs[j]? with
      | none => simp [hc] at hy
      | some z => simp only [hc, Option.map_some, Option.some.injEq] at hy; rw [← hy]; exact h.relE (hr j z u hc hu)
  · have e : mapV φ x = mapE φ x := by cases x <;> first | rfl | exact absurd ⟨_, rfl⟩ hx
    rw [e]; exact h.relE hr

theorem CellMap.cells {E E' : Env} {φ : AV → AV} (h : CellMap E E' φ) {x : AV} (h1 : ∀ y ∈ x.cells, y.one = true) : (mapE φ x).cells = x.cells.map φ := by
  by_cases hx : ∃ cs, x = .agg cs
  · obtain ⟨cs, rfl⟩ := hx; rfl
  · have e : mapE φ x = φ x := by cases x <;> first | rfl | exact absurd ⟨_, rfl⟩ hx
    have hc : x.cells = [x] := by cases x <;> first | rfl | exact absurd ⟨_, rfl⟩ hx
    rw [e, hc]
    have := h1 x (by rw [hc]; simp)
    rw [AV.cells_one (h.one x this)]; rfl

theorem CellMap.elemOk {E E' : Env} {φ : AV → AV} (h : CellMap E E' φ) {sz : Nat} {x : AV} (hx : ElemOk sz x) : ElemOk sz (mapE φ x) := by
  refine ⟨by rw [h.cells hx.2, List.length_map]; exact hx.1, ?_⟩
  rw [h.cells hx.2]
  intro y hy
  rw [List.mem_map] at hy
  obtain ⟨z, hz, rfl⟩ := hy
  exact h.one z (hx.2 z hz)

def mapB (φ : AV → AV) (b : Blk) : Blk := ⟨b.st, b.sz, b.es.map (mapE φ)⟩

theorem CellMap.blkOk {E E' : Env} {φ : AV → AV} (h : CellMap E E' φ) {B : Nat} {w : World} {st sz : Nat} {es : List AV} (hu : E.u st) (hb : BlkOk E B w st sz es) (hk : ∀ j, E'.K (E.m st).1 j = none) : BlkOk E' B w st sz (es.map (mapE φ)) := by
  have em := h.le.m st hu
  have ec := h.le.cp st hu
  cases hb with
  | map h0 hb =>
    obtain ⟨arr, c, h1, h2⟩ := hb.mp
    refine .map h0 ⟨by rw [em]; exact hb.base, ⟨arr, c, by rw [em]; exact h1, ?_⟩, by rw [em]; exact hk⟩
    have key : ∀ (xs : List AV) (ms : List MapEntry), EntsRel E xs ms → EntsRel E' (xs.map (mapE φ)) ms := by
      intro xs
      induction xs with
      | nil => intro ms hms; cases ms with
        | nil => trivial
        | cons m ms => exact hms.elim
      | cons x xs ih => intro ms hms; cases ms with
        | nil => exact hms.elim
        | cons m ms =>
          obtain ⟨⟨k, a, z, q1, q2, q3, q4⟩, q5⟩ := hms
          exact ⟨⟨k, a, φ z, by rw [q1]; simp [mapE, h.int], q2, h.one z q3, h.rel z _ q3 q4⟩, ih ms q5⟩
    exact key _ _ h2
  | row h0 hb =>
  refine .row h0 ⟨by rw [em]; exact hb.base, ?_, by rw [ec, List.length_map]; exact hb.len, ?_, by rw [em]; exact hk⟩
  · intro x hx
    rw [List.mem_map] at hx
    obtain ⟨y, hy, rfl⟩ := hx
    exact h.elemOk (hb.el y hy)
  · rw [em, ec]
    obtain ⟨cur, e, h1, h2, h3⟩ := hb.row
    refine ⟨cur, e, h1, h2, ?_⟩
    intro i x hx j y hy
    rw [List.getElem?_map] at hx
    cases hc : es[i]? with
    | none => simp [hc] at hx
    | some z =>
      simp only [hc, Option.map_some, Option.some.injEq] at hx
      subst hx
      have hz := hb.el z (List.mem_of_getElem? hc)
      rw [h.cells hz.2, List.getElem?_map] at hy
      cases hq : z.cells[j]? with
      | none => simp [hq] at hy
      | some q =>
        simp only [hq, Option.map_some, Option.some.injEq] at hy
        obtain ⟨u, hu, hr⟩ := h3 i z hc j q hq
        exact ⟨u, hu, by rw [← hy]; exact h.rel q u (hz.2 q (List.mem_of_getElem? hq)) hr⟩

/-! ### Freezing a block -/

def fz0 (nm st sz : Nat) (es : List AV) : AV → AV
  | .sl nm' st' sz' off len => if nm' = nm ∧ st' = st ∧ sz' = sz ∧ off + len ≤ es.length then .lst sz ((es.drop off).take len) else .sl nm' st' sz' off len
  | .ptr nm' st' sz' i off => if nm' = nm ∧ st' = st ∧ sz' = sz then (match es[i]? with | some x => .kp x.cells off | none => .ptr nm' st' sz' i off) else .ptr nm' st' sz' i off
  | v => v
def fzc (nm st sz : Nat) (es : List AV) : AV → AV
  | .fn f caps => .fn f (caps.map (fz0 nm st sz es))
  | v => fz0 nm st sz es v

/-- Are all cells closed? -/
def closedL (es : List AV) : Prop := ∀ x ∈ es, ∀ y ∈ x.cells, y.cl1 = true

def knowAt (E : Env) (g o k : Nat) (cur : Array Value) : Nat → Nat → Option Value := fun b j => if b = g ∧ o ≤ j ∧ j < o + k then cur[j]? else E.K b j

theorem frz_ok {E : Env} {B : Nat} {h : Hp} {w : World} (H : HConc E B h w) {nm st sz : Nat} (hs0 : sz ≠ 0) {es : List AV} (hb : h.blk nm = some ⟨st, sz, es⟩) (hcl : closedL es) :
    ∃ E', CellMap E E' (fzc nm st sz es) ∧ (∀ b o, b < B → E'.K b o = E.K b o) ∧ (∀ s, E'.u s → E.u s) ∧ (∀ b o v, E'.K b o = some v → w.cell? ⟨b, o, none⟩ = some v) ∧ (∀ b o, b ≠ (E.m st).1 → E'.K b o = E.K b o) := by
  have hbk := (H.bk nm _ hb).r hs0
  have hbu : E.u st := H.bu nm _ hb
  obtain ⟨cur, e, hg, hsz, hr⟩ := hbk.row
  simp only at hg hsz hr
  have hbase : B ≤ (E.m st).1 := hbk.base
  have hnoK : ∀ j, E.K (E.m st).1 j = none := hbk.noK
  have hel : ∀ x ∈ es, ElemOk sz x := hbk.el
  have hcell : ∀ j, w.cell? ⟨(E.m st).1, j, none⟩ = cur[j]? := fun j => cell_of_row w _ j cur e (0, 0) hg
  have hlen : es.length ≤ E.cp st := hbk.len
  have hfit : (E.m st).2 + es.length * sz ≤ cur.size := by have := Nat.mul_le_mul_right sz hlen; omega
  let E' : Env := E.withK (knowAt E (E.m st).1 (E.m st).2 (es.length * sz) cur)
  have hE : E.le E' := Env.le_withK (fun b o u hu => by
    unfold knowAt
    split
    · rename_i hc; rw [hc.1, hnoK] at hu; cases hu
    · exact hu)
  have know : ∀ i j, i < es.length → j < sz → E'.K (E.m st).1 ((E.m st).2 + i * sz + j) = cur[(E.m st).2 + i * sz + j]? := by
    intro i j hi hj
    have := mul_lt hi hj
    show knowAt E _ _ _ cur _ _ = _
    unfold knowAt
    rw [if_pos ⟨rfl, by omega, by omega⟩]
  have inb : ∀ i j, i < es.length → j < sz → (E.m st).2 + i * sz + j < cur.size := by
    intro i j hi hj; have := mul_lt hi hj; omega
  have cellRel : ∀ (i : Nat) (x : AV), es[i]? = some x → ∀ (j : Nat) (y : AV), x.cells[j]? = some y → i < es.length ∧ j < sz ∧ Rel E'.cl y ((cur[(E.m st).2 + i * sz + j]?).getD .nilFunc) := by
    intro i x hx j y hy
    have hi := (List.getElem?_eq_some_iff.1 hx).1
    have hxm := List.mem_of_getElem? hx
    have hj : j < sz := by rw [← (hel x hxm).1]; exact (List.getElem?_eq_some_iff.1 hy).1
    obtain ⟨u, hu, hrel⟩ := hr i x hx j y hy
    refine ⟨hi, hj, ?_⟩
    rw [hu]
    exact Rel.of_cl1 (E := E) (E' := E'.cl) hE.K hrel (hcl x hxm y (List.mem_of_getElem? hy))
  have f0 : ∀ (x : AV) (v : Value), Rel E x v → Rel E' (fz0 nm st sz es x) v := by
    intro x v hrel
    cases x with
    | sl nm' st' sz' off len =>
      simp only [fz0]
      split
      · rename_i hc
        obtain ⟨c1, c2, c3, c4⟩ := hc
        subst c2 c3
        cases hrel with
        | sl _ _ _ _ _ cap a hu hcap hcp ha =>
          by_cases hl0 : len = 0
          · subst hl0; rw [List.take_zero]; exact .lst0 _ _ _
          · rw [ha (by omega)]
            have hwl : ((es.drop off).take len).length = len := by simp; omega
            have hidx : ∀ (i : Nat) (z : AV), ((es.drop off).take len)[i]? = some z → i < len ∧ es[off + i]? = some z := by
              intro i z hz
              rw [List.getElem?_take] at hz
              split at hz
              · rename_i hi; rw [List.getElem?_drop] at hz; exact ⟨hi, hz⟩
              · cases hz
            have := Rel.lst (E := E') ((es.drop off).take len) (E.m st').1 ((E.m st').2 + off * sz') sz' cap (fun i j => (cur[(E.m st').2 + (off + i) * sz' + j]?).getD .nilFunc)
              (by rw [hwl]; exact hcap) (fun z hz => (hel z (List.mem_of_mem_drop (List.mem_of_mem_take hz))).1) ?_ ?_ ?_
            · rw [hwl] at this; exact this
            · intro i j hi hj
              rw [hwl] at hi
              rw [show (E.m st').2 + off * sz' + i * sz' + j = (E.m st').2 + (off + i) * sz' + j by rw [Nat.add_mul]; omega, know (off + i) j (by omega) hj]
              have := inb (off + i) j (by omega) hj
              simp [this]
            · intro i z hz j q hq
              exact (hel z (List.mem_of_mem_drop (List.mem_of_mem_take (List.mem_of_getElem? hz)))).2 q (List.mem_of_getElem? hq)
            · intro i z hz j q hq
              exact (cellRel (off + i) z (hidx i z hz).2 j q hq).2.2
      · exact hrel.mono hE
    | ptr nm' st' sz' i off =>
      simp only [fz0]
      split
      · rename_i hc
        obtain ⟨c1, c2, c3⟩ := hc
        subst c2 c3
        cases hx : es[i]? with
        | none => exact hrel.mono hE
        | some x =>
          cases hrel with
          | ptr _ _ _ _ _ hu =>
            have hi := (List.getElem?_eq_some_iff.1 hx).1
            have hxm := List.mem_of_getElem? hx
            exact Rel.kp (E := E') x.cells off (E.m st').1 ((E.m st').2 + i * sz') (fun j => (cur[(E.m st').2 + i * sz' + j]?).getD .nilFunc)
              (fun j hj => by
                have hj' : j < sz' := by rw [← (hel x hxm).1]; exact hj
                rw [know i j hi hj']
                have := inb i j hi hj'
                simp [this])
              (fun j y hy => (hel x hxm).2 y (List.mem_of_getElem? hy)) (fun j y hy => (cellRel i x hx j y hy).2.2)
      · exact hrel.mono hE
    | _ => exact hrel.mono hE
  refine ⟨E', ⟨?_, ?_, ?_, fun _ _ => rfl, hE⟩, ?_, fun _ h => h, ?_, ?_⟩
  · intro x v h1 hrel
    cases x with
    | fn f caps =>
      cases hrel with
      | fn _ _ vs hs hr' =>
        refine .fn f _ vs (by simpa using hs) ?_
        intro j y u hy hu
        rw [List.getElem?_map] at hy
        cases hc : caps[j]? with
        | none => simp [hc] at hy
        | some z => simp only [hc, Option.map_some, Option.some.injEq] at hy; rw [← hy]; exact f0 z u (hr' j z u hc hu)
    | _ => exact f0 _ v hrel
  · intro x h1
    cases x with
    | fn f caps => rfl
    | sl nm' st' sz' off len => show (fz0 nm st sz es (.sl nm' st' sz' off len)).one = true; simp only [fz0]; split <;> rfl
    | ptr nm' st' sz' i off =>
      show (fz0 nm st sz es (.ptr nm' st' sz' i off)).one = true
      simp only [fz0]
      split
      · split <;> rfl
      · rfl
    | _ => exact h1
  · intro x h1
    cases x <;> first | rfl | (simp [AV.one] at h1)
  · intro b o hb
    show knowAt E _ _ _ cur b o = _
    unfold knowAt
    rw [if_neg (by omega)]
  · intro b o v hv
    have hv : knowAt E (E.m st).1 (E.m st).2 (es.length * sz) cur b o = some v := hv
    unfold knowAt at hv
    split at hv
    · rename_i hc; rw [hc.1, hcell]; exact hv
    · exact H.K b o v hv
  · intro b o hb
    show knowAt E _ _ _ cur b o = _
    unfold knowAt
    rw [if_neg (fun q => hb q.1)]

def Hp.frz (h : Hp) (nm st sz : Nat) (es : List AV) : Hp := ⟨fun n => if n = nm then none else (h.blk n).map (mapB (fzc nm st sz es)), h.tok⟩

theorem Wkh.frz {c : Nat} {h : Hp} {nm st sz : Nat} (hs0 : sz ≠ 0) {es : List AV} (hb : h.blk nm = some ⟨st, sz, es⟩) (hcl : closedL es) : Wkh c c h (h.frz nm st sz es) (mapV (fzc nm st sz es)) := by
  refine ⟨Nat.le_refl _, fun E B w H hu => ?_⟩
  obtain ⟨E', hM, hB, hu', hK, hother⟩ := frz_ok H hs0 hb hcl
  have get : ∀ n b, (h.frz nm st sz es).blk n = some b → n ≠ nm ∧ ∃ b0, h.blk n = some b0 ∧ b = mapB (fzc nm st sz es) b0 := by
    intro n b hn
    simp only [Hp.frz] at hn
    split at hn
    · cases hn
    · rename_i hne
      simp only [Option.map_eq_some_iff] at hn
      obtain ⟨b0, h1, h2⟩ := hn
      exact ⟨hne, b0, h1, h2.symm⟩
  have hne1 : ∀ n b0, n ≠ nm → h.blk n = some b0 → (E.m b0.st).1 ≠ (E.m st).1 := fun n b0 hn h0 => H.bb n nm b0 _ hn h0 hb
  refine ⟨E', hM.le, ⟨hK, ?_, ?_, fun n t ht => hM.le.u _ (H.tu n t ht), ?_, ?_, ?_, ?_⟩, hB, hu', fun x v hv => hM.relV hv⟩
  · intro n b hn
    obtain ⟨hne, b0, h0, rfl⟩ := get n b hn
    exact hM.le.u _ (H.bu n b0 h0)
  · intro n b hn
    obtain ⟨hne, b0, h0, rfl⟩ := get n b hn
    refine hM.blkOk (H.bu n b0 h0) (H.bk n b0 h0) (fun j => ?_)
    show E'.K (E.m b0.st).1 j = none
    rw [hother _ _ (hne1 n b0 hne h0)]
    exact (H.bk n b0 h0).noK j
  · intro n t ht
    have ht : h.tok n = some t := ht
    rw [hM.le.hd _ (H.tu n t ht)]
    obtain ⟨m, cs, h1, h2⟩ := H.tk n t ht
    refine ⟨m, cs, h1, fun g j hg hj => ?_⟩
    rw [hother _ _ (fun q => H.bt nm n _ t hb ht (by rw [hg, q]))]
    exact h2 g j hg hj
  · intro n n' b b' hn hb1 hb2
    obtain ⟨_, b0, h0, rfl⟩ := get n b hb1
    obtain ⟨_, b0', h0', rfl⟩ := get n' b' hb2
    show (E'.m b0.st).1 ≠ (E'.m b0'.st).1
    rw [hM.le.m _ (H.bu n b0 h0), hM.le.m _ (H.bu n' b0' h0')]
    exact H.bb n n' b0 b0' hn h0 h0'
  · intro n n' b t hb1 ht
    have ht : h.tok n' = some t := ht
    obtain ⟨_, b0, h0, rfl⟩ := get n b hb1
    show (E'.hd t.st).ownBlock ≠ some (E'.m b0.st).1
    rw [hM.le.m _ (H.bu n b0 h0), hM.le.hd _ (H.tu n' t ht)]
    exact H.bt n n' b0 t h0 ht
  · intro n n' t t' g hn ht ht'
    have ht : h.tok n = some t := ht
    have ht' : h.tok n' = some t' := ht'
    rw [hM.le.hd _ (H.tu n t ht), hM.le.hd _ (H.tu n' t' ht')]
    exact H.tt n n' t t' g hn ht ht'

/-! ### Other names -/

def rn0 (a b : Nat) : AV → AV
  | .sl nm st sz off len => .sl (if nm = a then b else nm) st sz off len
  | .ptr nm st sz i off => .ptr (if nm = a then b else nm) st sz i off
  | .mp nm st => .mp (if nm = a then b else nm) st
  | v => v
def rnc (a b : Nat) : AV → AV
  | .fn f caps => .fn f (caps.map (rn0 a b))
  | v => rn0 a b v

theorem rn_map (E : Env) (a b : Nat) : CellMap E E (rnc a b) := by
  have f0 : ∀ (x : AV) (v : Value), Rel E x v → Rel E (rn0 a b x) v := by
    intro x v h
    cases x with
    | sl nm st sz off len => cases h with | sl _ _ _ _ _ cap ad hu hcap hc ha => exact .sl _ st sz off len cap ad hu hcap hc ha
    | ptr nm st sz i off => cases h with | ptr _ _ _ _ _ hu => exact .ptr _ st sz i off hu
    | mp nm st => cases h with | mp _ _ hu => exact .mp _ st hu
    | _ => exact h
  refine ⟨?_, ?_, ?_, fun _ _ => rfl, .refl E⟩
  · intro x v h1 hrel
    cases x with
    | fn f caps =>
      cases hrel with
      | fn _ _ vs hs hr' =>
        refine .fn f _ vs (by simpa using hs) ?_
        intro j y u hy hu
        rw [List.getElem?_map] at hy
        cases hc : caps[j]? with
        | none => simp [hc] at hy
        | some z => simp only [hc, Option.map_some, Option.some.injEq] at hy; rw [← hy]; exact f0 z u (hr' j z u hc hu)
    | _ => exact f0 _ v hrel
  · intro x h1
    cases x <;> first | rfl | exact h1
  · intro x h1
    cases x <;> first | rfl | (simp [AV.one] at h1)

def Hp.ren (h : Hp) (a b : Nat) : Hp := ⟨fun n => if n = b then (h.blk a).map (mapB (rnc a b)) else if n = a then none else (h.blk n).map (mapB (rnc a b)), h.tok⟩

theorem Wkh.ren {c : Nat} {h : Hp} (a b : Nat) (hab : a ≠ b) : Wkh c c h (h.ren a b) (mapV (rnc a b)) := by
  refine ⟨Nat.le_refl _, fun E B w H hu => ?_⟩
  have hM := rn_map E a b
  have get : ∀ n bl, (h.ren a b).blk n = some bl → ∃ m b0, h.blk m = some b0 ∧ bl = mapB (rnc a b) b0 ∧ m = (if n = b then a else n) ∧ (n ≠ a) := by
    intro n bl hn
    simp only [Hp.ren] at hn
    split at hn
    · rename_i e
      simp only [Option.map_eq_some_iff] at hn
      obtain ⟨b0, h1, h2⟩ := hn
      exact ⟨a, b0, h1, h2.symm, by rw [if_pos e], fun q => hab (q.symm.trans e)⟩
    · rename_i e
      split at hn
      · cases hn
      · rename_i e2
        simp only [Option.map_eq_some_iff] at hn
        obtain ⟨b0, h1, h2⟩ := hn
        exact ⟨n, b0, h1, h2.symm, by rw [if_neg e], e2⟩
  refine ⟨E, .refl E, ⟨H.K, ?_, ?_, H.tu, H.tk, ?_, ?_, H.tt⟩, fun _ _ _ => rfl, fun _ h => h, fun x v hv => hM.relV hv⟩
  · intro n bl hn
    obtain ⟨m, b0, h0, rfl, _⟩ := get n bl hn
    exact H.bu m b0 h0
  · intro n bl hn
    obtain ⟨m, b0, h0, rfl, _⟩ := get n bl hn
    exact hM.blkOk (H.bu m b0 h0) (H.bk m b0 h0) (H.bk m b0 h0).noK
  · intro n n' bl bl' hn hb1 hb2
    obtain ⟨m, b0, h0, rfl, e, e'⟩ := get n bl hb1
    obtain ⟨m', b0', h0', rfl, e2, e2'⟩ := get n' bl' hb2
    refine H.bb m m' b0 b0' ?_ h0 h0'
    rw [e, e2]
    intro q
    split at q <;> split at q
    · rename_i q1 q2; exact hn (q1.trans q2.symm)
    · exact e2' q.symm
    · exact e' q
    · exact hn q
  · intro n n' bl t hb1 ht
    obtain ⟨m, b0, h0, rfl, _⟩ := get n bl hb1
    exact H.bt m n' b0 t h0 ht

end Go.Gv

/- What slices.Clone, prog.CopyNote and prog.Copy answer. Lists of at most 1000. -/
set_option linter.unusedVariables false
set_option linter.unusedSimpArgs false
namespace Go.Gv
open Go.Proofs

def cloneI_r0 : List AI := [⟨(some 2), none, (.op (.mv (.c .nils)))⟩]
def cloneI_r1 : List AI := [⟨(some 3), none, (.op (.mv (.t 0)))⟩, ⟨(some 4), none, (.nq 0 false (.t 3))⟩]
def cloneI_r2 : List AI := [⟨(some 2), none, (.op (.mv (.c .nils)))⟩]
def cloneI_r3 : List AI := [⟨(some 5), none, (.op (.bsl 63005 1 3 0 (.int .i64 0) []))⟩, ⟨(some 6), none, (.op (.mv (.t 0)))⟩, ⟨(some 7), none, (.op (.app 63007 1 3 8 (.t 5) (.t 6)))⟩, ⟨(some 2), none, (.op (.mv (.t 7)))⟩]
def cloneI_c : AC := (.seq (.reg cloneI_r0) (.seq (.seq (.reg cloneI_r1) (.cond (.t 4) (.seq (.reg cloneI_r2) .ret) .skip)) (.seq (.reg cloneI_r3) .ret)))
def cloneI_res : List ARes := [(.tmp 2)]
set_option maxRecDepth 100000 in
theorem cloneI_get : getF Try.prog 29 63000 [] = some ("slices.Clone[[]int,int]", 8, cloneI_c, cloneI_res) := by kernel_rfl
def cloneC_r0 : List AI := [⟨(some 2), none, (.op (.mv (.c .nils)))⟩]
def cloneC_r1 : List AI := [⟨(some 3), none, (.op (.mv (.t 0)))⟩, ⟨(some 4), none, (.nq 0 false (.t 3))⟩]
def cloneC_r2 : List AI := [⟨(some 2), none, (.op (.mv (.c .nils)))⟩]
def cloneC_r3 : List AI := [⟨(some 5), none, (.op (.bsl 62005 2 35 0 (.agg [(.int .i64 0), (.int .i64 0)]) []))⟩, ⟨(some 6), none, (.op (.mv (.t 0)))⟩, ⟨(some 7), none, (.op (.app 62007 2 35 16 (.t 5) (.t 6)))⟩, ⟨(some 2), none, (.op (.mv (.t 7)))⟩]
def cloneC_c : AC := (.seq (.reg cloneC_r0) (.seq (.seq (.reg cloneC_r1) (.cond (.t 4) (.seq (.reg cloneC_r2) .ret) .skip)) (.seq (.reg cloneC_r3) .ret)))
def cloneC_res : List ARes := [(.tmp 2)]
set_option maxRecDepth 100000 in
theorem cloneC_get : getF Try.prog 28 62000 [] = some ("slices.Clone[[]gavotte/api.Instr,gavotte/api.Instr]", 8, cloneC_c, cloneC_res) := by kernel_rfl
def copyNote_r0 : List AI := [⟨(some 1), none, (.op (.box 51001 3 (.t 0)))⟩, ⟨(some 2), none, (.op (.new 51002 3 (.agg [(.int .i64 0), (.int .i64 0), .nils])))⟩]
def copyNote_r1 : List AI := [⟨(some 3), none, (.op (.fld 2 (.t 1)))⟩, ⟨(some 4), none, (.op (.load none (.t 3)))⟩, ⟨(some 5), none, (.call (.c (.fn 29 [])) [(.t 4)])⟩, ⟨(some 6), none, (.op (.fld 2 (.t 1)))⟩, ⟨none, none, (.op (.store 1 (.t 6) (.t 5)))⟩]
def copyNote_r2 : List AI := [⟨(some 7), none, (.op (.load (some 3) (.t 1)))⟩, ⟨none, none, (.op (.store 3 (.t 2) (.t 7)))⟩]
def copyNote_c : AC := (.seq (.reg copyNote_r0) (.seq (.reg copyNote_r1) (.seq (.reg copyNote_r2) .ret)))
def copyNote_res : List ARes := [(.cell (some 3) 2)]
set_option maxRecDepth 100000 in
theorem copyNote_get : getF Try.prog 30 51000 [] = some ("gavotte/prog.CopyNote", 8, copyNote_c, copyNote_res) := by kernel_rfl
def copyP_r0 : List AI := [⟨(some 1), none, (.op (.box 26001 4 (.t 0)))⟩, ⟨(some 2), none, (.op (.new 26002 4 (.agg [.nils, .nils, .nils, (.int .i64 0)])))⟩]
def copyP_r1 : List AI := [⟨(some 10), none, (.op (.fld 3 (.t 1)))⟩, ⟨(some 11), none, (.op (.load none (.t 10)))⟩, ⟨(some 12), none, (.op (.build [.nils, .nils, .nils, (.int .i64 0)] [(3, (1, (.t 11)))]))⟩, ⟨(some 3), none, (.op (.new 26003 4 (.agg [.nils, .nils, .nils, (.int .i64 0)])))⟩, ⟨none, none, (.op (.store 4 (.t 3) (.t 12)))⟩]
def copyP_r2 : List AI := [⟨(some 13), none, (.op (.fld 0 (.t 1)))⟩, ⟨(some 14), none, (.op (.load none (.t 13)))⟩, ⟨(some 15), none, (.op (.len (.t 14)))⟩, ⟨(some 16), none, (.op (.mv (.c (.int .i64 0))))⟩]
def copyP_r3 : List AI := [⟨(some 17), none, (.op (.ibin .lss (.t 16) (.t 15)))⟩]
def copyP_r4 : List AI := [⟨(some 18), none, (.op (.idx 2 (.t 14) (.t 16)))⟩, ⟨(some 19), none, (.op (.load (some 2) (.t 18)))⟩, ⟨(some 5), none, (.op (.new 26005 2 (.agg [(.int .i64 0), .nils])))⟩, ⟨none, none, (.op (.store 2 (.t 5) (.t 19)))⟩]
def copyP_r5 : List AI := [⟨(some 20), none, (.op (.fld 0 (.t 3)))⟩, ⟨(some 21), none, (.op (.load none (.t 20)))⟩, ⟨(some 22), none, (.op (.fld 0 (.t 5)))⟩, ⟨(some 23), none, (.op (.load none (.t 22)))⟩, ⟨(some 24), none, (.op (.fld 1 (.t 5)))⟩, ⟨(some 25), none, (.op (.load none (.t 24)))⟩, ⟨(some 26), none, (.call (.c (.fn 28 [])) [(.t 25)])⟩, ⟨(some 27), none, (.op (.build [(.int .i64 0), .nils] [(0, (1, (.t 23))), (1, (1, (.t 26)))]))⟩, ⟨(some 28), none, (.op (.bsl 26028 2 33 1 (.agg [(.int .i64 0), .nils]) [(0, (.t 27))]))⟩, ⟨(some 29), none, (.op (.app 26029 2 33 32 (.t 21) (.t 28)))⟩, ⟨(some 30), none, (.op (.fld 0 (.t 3)))⟩, ⟨none, none, (.op (.store 1 (.t 30) (.t 29)))⟩]
def copyP_p5 : List (List Nat) := [[], [0], [], [2], [], [4], [5, 4], [3, 6, 2, 5, 4], [7, 3, 6, 2, 5, 4], [1, 8, 6, 0, 7, 3, 2, 5, 4], [0, 1, 2, 3, 4, 5, 6, 7, 8, 9], [10, 9, 0, 1, 2, 3, 4, 5, 6, 7, 8]]
def copyP_r6 : List AI := [⟨(some 31), none, (.op (.ibin .add (.t 16) (.c (.int .i64 1))))⟩, ⟨(some 16), none, (.op (.mv (.t 31)))⟩]
def copyP_l0 : AC := (.seq (.reg copyP_r3) (.seq (.cond (.t 17) .skip (.exit 0)) (.seq (.block 1 (.seq (.reg copyP_r4) (.regd copyP_r5 copyP_p5))) (.reg copyP_r6))))
def copyP_r7 : List AI := [⟨(some 32), none, (.op (.fld 1 (.t 1)))⟩, ⟨(some 33), none, (.op (.load none (.t 32)))⟩, ⟨(some 34), none, (.op (.len (.t 33)))⟩, ⟨(some 35), none, (.op (.mv (.c (.int .i64 0))))⟩]
def copyP_r8 : List AI := [⟨(some 36), none, (.op (.ibin .lss (.t 35) (.t 34)))⟩]
def copyP_r9 : List AI := [⟨(some 37), none, (.op (.idx 4 (.t 33) (.t 35)))⟩, ⟨(some 38), none, (.op (.load (some 4) (.t 37)))⟩, ⟨(some 7), none, (.op (.new 26007 4 (.agg [.nils, (.int .i64 0), (.int .i64 0), (.bool false)])))⟩, ⟨none, none, (.op (.store 4 (.t 7) (.t 38)))⟩]
def copyP_r10 : List AI := [⟨(some 39), none, (.op (.fld 0 (.t 7)))⟩, ⟨(some 40), none, (.op (.load none (.t 39)))⟩, ⟨(some 41), none, (.call (.c (.fn 29 [])) [(.t 40)])⟩, ⟨(some 42), none, (.op (.fld 0 (.t 7)))⟩, ⟨none, none, (.op (.store 1 (.t 42) (.t 41)))⟩]
def copyP_r11 : List AI := [⟨(some 43), none, (.op (.fld 1 (.t 3)))⟩, ⟨(some 44), none, (.op (.load none (.t 43)))⟩, ⟨(some 45), none, (.op (.load (some 4) (.t 7)))⟩, ⟨(some 46), none, (.op (.bsl 26046 4 38 1 (.agg [.nils, (.int .i64 0), (.int .i64 0), (.bool false)]) [(0, (.t 45))]))⟩, ⟨(some 47), none, (.op (.app 26047 4 38 48 (.t 44) (.t 46)))⟩, ⟨(some 48), none, (.op (.fld 1 (.t 3)))⟩, ⟨none, none, (.op (.store 1 (.t 48) (.t 47)))⟩]
def copyP_r12 : List AI := [⟨(some 49), none, (.op (.ibin .add (.t 35) (.c (.int .i64 1))))⟩, ⟨(some 35), none, (.op (.mv (.t 49)))⟩]
def copyP_l1 : AC := (.seq (.reg copyP_r8) (.seq (.cond (.t 36) .skip (.exit 2)) (.seq (.block 3 (.seq (.reg copyP_r9) (.seq (.reg copyP_r10) (.reg copyP_r11)))) (.reg copyP_r12))))
def copyP_r13 : List AI := [⟨(some 50), none, (.op (.fld 2 (.t 1)))⟩, ⟨(some 51), none, (.op (.load none (.t 50)))⟩, ⟨(some 52), none, (.op (.len (.t 51)))⟩, ⟨(some 53), none, (.op (.mv (.c (.int .i64 0))))⟩]
def copyP_r14 : List AI := [⟨(some 54), none, (.op (.ibin .lss (.t 53) (.t 52)))⟩]
def copyP_r15 : List AI := [⟨(some 55), none, (.op (.idx 3 (.t 51) (.t 53)))⟩, ⟨(some 56), none, (.op (.load (some 3) (.t 55)))⟩, ⟨(some 9), none, (.op (.new 26009 3 (.agg [(.int .i64 0), (.int .i64 0), .nils])))⟩, ⟨none, none, (.op (.store 3 (.t 9) (.t 56)))⟩]
def copyP_r16 : List AI := [⟨(some 57), none, (.op (.fld 2 (.t 3)))⟩, ⟨(some 58), none, (.op (.load none (.t 57)))⟩, ⟨(some 59), none, (.op (.load (some 3) (.t 9)))⟩, ⟨(some 60), none, (.call (.c (.fn 30 [])) [(.t 59)])⟩, ⟨(some 61), none, (.op (.bsl 26061 3 40 1 (.agg [(.int .i64 0), (.int .i64 0), .nils]) [(0, (.t 60))]))⟩, ⟨(some 62), none, (.op (.app 26062 3 40 40 (.t 58) (.t 61)))⟩, ⟨(some 63), none, (.op (.fld 2 (.t 3)))⟩, ⟨none, none, (.op (.store 1 (.t 63) (.t 62)))⟩]
def copyP_p16 : List (List Nat) := [[], [0], [], [2], [3, 2], [1, 4, 3, 0, 2], [0, 1, 2, 3, 4, 5], [6, 5, 0, 1, 2, 3, 4]]
def copyP_r17 : List AI := [⟨(some 64), none, (.op (.ibin .add (.t 53) (.c (.int .i64 1))))⟩, ⟨(some 53), none, (.op (.mv (.t 64)))⟩]
def copyP_l2 : AC := (.seq (.reg copyP_r14) (.seq (.cond (.t 54) .skip (.exit 4)) (.seq (.block 5 (.seq (.reg copyP_r15) (.regd copyP_r16 copyP_p16))) (.reg copyP_r17))))
def copyP_r18 : List AI := [⟨(some 65), none, (.op (.load (some 4) (.t 3)))⟩, ⟨none, none, (.op (.store 4 (.t 2) (.t 65)))⟩]
def copyP_c : AC := (.seq (.reg copyP_r0) (.seq (.reg copyP_r1) (.seq (.seq (.reg copyP_r2) (.block 0 (.loop copyP_l0))) (.seq (.seq (.reg copyP_r7) (.block 2 (.loop copyP_l1))) (.seq (.seq (.reg copyP_r13) (.block 4 (.loop copyP_l2))) (.seq (.reg copyP_r18) .ret))))))
def copyP_res : List ARes := [(.cell (some 4) 2)]
set_option maxRecDepth 100000 in
theorem copyP_get : getF Try.prog 9 26000 [] = some ("gavotte/prog.Copy", 66, copyP_c, copyP_res) := by kernel_rfl
attribute [simp] cloneI_r0 cloneI_r1 cloneI_r2 cloneI_r3 cloneI_res cloneC_r0 cloneC_r1 cloneC_r2 cloneC_r3 cloneC_res copyNote_r0 copyNote_r1 copyNote_r2 copyNote_res copyP_r0 copyP_r1 copyP_r2 copyP_r3 copyP_r4 copyP_r5 copyP_p5 copyP_r6 copyP_r7 copyP_r8 copyP_r9 copyP_r10 copyP_r11 copyP_r12 copyP_r13 copyP_r14 copyP_r15 copyP_r16 copyP_p16 copyP_r17 copyP_r18 copyP_res


theorem cloneIns_pc (l : List Ins) (h : l.length ≤ 1000) : PC Try.prog 28 [.lst 2 (l.map Ins.av)] (.lst 2 (l.map Ins.av)) := by
  refine pc_of_get cloneC_get (by simp) _ (by simp) _ ?_
  unfold cloneC_c
  cases l with
  | nil =>
    simp
    refine opG_none _ _ ?_ ?_ <;> simp
  | cons x l =>
    simp at h
    simp [ints]
    rw [if_pos (by omega)]
    simp
theorem cloneInts_pc (l : List Int) (h : l.length ≤ 1000) : PC Try.prog 29 [ints l] (ints l) := by
  refine pc_of_get cloneI_get (by simp) _ (by simp) _ ?_
  unfold cloneI_c
  cases l with
  | nil =>
    simp
    refine opG_none _ _ ?_ ?_ <;> simp
  | cons x l =>
    simp at h
    simp [ints]
    rw [if_pos (by omega)]
    simp
theorem copyNote_pc (n : Nt) (h : n.args.length ≤ 1000) : PC Try.prog 30 [n.av] n.av := by
  refine pc_of_get copyNote_get (by simp) _ (by simp) _ ?_
  unfold copyNote_c
  simp
  refine call (cloneInts_pc n.args h) (by simp) ?_
  simp
def fitP (p : Prg) : Prop := p.hs.length ≤ 1000 ∧ p.as.length ≤ 1000 ∧ p.boot.length ≤ 1000 ∧ (∀ h ∈ p.hs, h.code.length ≤ 1000) ∧ (∀ a ∈ p.as, a.regs.length ≤ 1000) ∧ (∀ n ∈ p.boot, n.args.length ≤ 1000)
def AccIs (S : St) (v : AV) (nm sz : Nat) (ty : TypeId) (xs : List AV) : Prop := (v = .nils ∧ xs = []) ∨ ∃ st, v = .acc nm st sz xs ∧ S.tok nm = some ⟨st, sz, ty⟩
theorem take_succ_map {α : Type} (f : α → AV) (l : List α) (i : Nat) (h : i < l.length) : (l.map f).take (i + 1) = (l.map f).take i ++ [f l[i]] := by
  rw [List.take_succ_eq_append_getElem (by simpa using h), List.getElem_map]
theorem AccIs.out {S : St} {v : AV} {nm sz : Nat} {ty : TypeId} {xs : List AV} (h : AccIs S v nm sz ty xs) : v.one = true ∧ v.cells = [v] ∧ ∀ B, co1 B v (.lst sz xs) := by
  rcases h with ⟨rfl, rfl⟩ | ⟨st, rfl, _⟩ <;> simp
theorem copy_pc (p : Prg) (hp : fitP p) : PC Try.prog 9 [p.av] p.av := by
  obtain ⟨q1, q2, q3, q4, q5, q6⟩ := hp
  refine pc_of_get copyP_get (by simp) _ (by simp) _ ?_
  unfold copyP_c
  simp
  refine loopN (fun i S => S.t 14 = .lst 2 (p.hs.map Hnd.av) ∧ S.t 15 = iv p.hs.length ∧ S.t 16 = iv i ∧ (∃ st, S.t 1 = .ptr 26001 st 4 0 0 ∧ S.blk 26001 = some ⟨st, 4, [p.av]⟩) ∧
    (∃ st, S.t 2 = .ptr 26002 st 4 0 0 ∧ S.blk 26002 = some ⟨st, 4, [.agg [.nils, .nils, .nils, iv 0]]⟩) ∧
    (∃ st v, S.t 3 = .ptr 26003 st 4 0 0 ∧ S.blk 26003 = some ⟨st, 4, [.agg [v, .nils, .nils, iv p.fuel]]⟩ ∧ AccIs S v 26029 2 33 ((p.hs.map Hnd.av).take i))) p.hs.length ?_ ?_
  · simp [AccIs]
  · rintro i S hi ⟨g1, g2, g3, ⟨s1, g4, g5⟩, ⟨s2, g6, g7⟩, ⟨s3, v, g8, g9, hv⟩⟩
    by_cases hlt : i < p.hs.length
    · simp [copyP_l0, g1, g2, g3, g4, g5, g6, g7, g8, g9, hlt]
      have ws := wrap_succ i _ hlt (by omega)
      have hb : (min i p.hs.length + 1) * 32 ≤ 140737488355328 := by omega
      have ht := take_succ_map Hnd.av p.hs i hlt
      rcases hv with ⟨rfl, hx⟩ | ⟨s4, rfl, hx⟩
      · refine calld (cloneIns_pc p.hs[i].code (q4 _ (List.getElem_mem hlt))) (by simp) ?_
        simp [g1, g2, g3, g4, g5, g6, g7, g8, g9, hlt, ws]
        simp [AccIs, ht, hx]
      · refine calld (cloneIns_pc p.hs[i].code (q4 _ (List.getElem_mem hlt))) (by simp) ?_
        simp [g1, g2, g3, g4, g5, g6, g7, g8, g9, hx, hlt, ws, hb]
        simp [AccIs, ht, hx]
    · have e1 : i = p.hs.length := by omega
      subst e1
      simp [copyP_l0, g1, g2, g3, g4, g5, g6, g7, g8, g9]
      rw [List.take_of_length_le (by simp)] at hv
      obtain ⟨o1, o2, o3⟩ := hv.out
      clear hv
      refine loopN (fun i S => S.t 33 = .lst 4 (p.as.map Actr.av) ∧ S.t 34 = iv p.as.length ∧ S.t 35 = iv i ∧ (∃ st, S.t 1 = .ptr 26001 st 4 0 0 ∧ S.blk 26001 = some ⟨st, 4, [p.av]⟩) ∧
        (∃ st, S.t 2 = .ptr 26002 st 4 0 0 ∧ S.blk 26002 = some ⟨st, 4, [.agg [.nils, .nils, .nils, iv 0]]⟩) ∧
        (∃ st v', S.t 3 = .ptr 26003 st 4 0 0 ∧ S.blk 26003 = some ⟨st, 4, [.agg [v, v', .nils, iv p.fuel]]⟩ ∧ AccIs S v' 26047 4 38 ((p.as.map Actr.av).take i))) p.as.length ?_ ?_
      · simp [AccIs, g4, g5, g6, g7, g8, g9]
      · clear g1 g2 g3 g4 g5 g6 g7 g8 g9 hi hlt S s1 s2 s3
        rintro i S hi ⟨g1, g2, g3, ⟨s1, g4, g5⟩, ⟨s2, g6, g7⟩, ⟨s3, v', g8, g9, hv⟩⟩
        by_cases hlt : i < p.as.length
        · simp [copyP_l1, g1, g2, g3, g4, g5, g6, g7, g8, g9, hlt]
          have ws := wrap_succ i _ hlt (by omega)
          have hb : (min i p.as.length + 1) * 48 ≤ 140737488355328 := by omega
          have ht := take_succ_map Actr.av p.as i hlt
          refine call (cloneInts_pc p.as[i].regs (q5 _ (List.getElem_mem hlt))) (by simp) ?_
          rcases hv with ⟨rfl, hx⟩ | ⟨s4, rfl, hx⟩
          · simp [g1, g2, g3, g4, g5, g6, g7, g8, g9, hlt, ws, o1, o2]
            simp [AccIs, ht, hx]
          · simp [g1, g2, g3, g4, g5, g6, g7, g8, g9, hx, hlt, ws, hb, o1, o2]
            simp [AccIs, ht, hx]
        · have e1 : i = p.as.length := by omega
          subst e1
          simp [copyP_l1, g1, g2, g3, g4, g5, g6, g7, g8, g9]
          rw [List.take_of_length_le (by simp)] at hv
          obtain ⟨r1, r2, r3⟩ := hv.out
          clear hv
          refine loopN (fun i S => S.t 51 = .lst 3 (p.boot.map Nt.av) ∧ S.t 52 = iv p.boot.length ∧ S.t 53 = iv i ∧
            (∃ st, S.t 2 = .ptr 26002 st 4 0 0 ∧ S.blk 26002 = some ⟨st, 4, [.agg [.nils, .nils, .nils, iv 0]]⟩) ∧
            (∃ st v'', S.t 3 = .ptr 26003 st 4 0 0 ∧ S.blk 26003 = some ⟨st, 4, [.agg [v, v', v'', iv p.fuel]]⟩ ∧ AccIs S v'' 26062 3 40 ((p.boot.map Nt.av).take i))) p.boot.length ?_ ?_
          · simp [AccIs, g4, g5, g6, g7, g8, g9]
          · clear g1 g2 g3 g4 g5 g6 g7 g8 g9 hi hlt S s1 s2 s3
            rintro i S hi ⟨g1, g2, g3, ⟨s2, g6, g7⟩, ⟨s3, v'', g8, g9, hv⟩⟩
            by_cases hlt : i < p.boot.length
            · simp [copyP_l2, g1, g2, g3, g6, g7, g8, g9, hlt]
              have ws := wrap_succ i _ hlt (by omega)
              have hb : (min i p.boot.length + 1) * 40 ≤ 140737488355328 := by omega
              have ht := take_succ_map Nt.av p.boot i hlt
              rcases hv with ⟨rfl, hx⟩ | ⟨s4, rfl, hx⟩
              · refine calld (copyNote_pc p.boot[i] (q6 _ (List.getElem_mem hlt))) (by simp) ?_
                simp [g1, g2, g3, g6, g7, g8, g9, hlt, ws, o1, o2, r1, r2]
                simp [AccIs, ht, hx]
              · refine calld (copyNote_pc p.boot[i] (q6 _ (List.getElem_mem hlt))) (by simp) ?_
                simp [g1, g2, g3, g6, g7, g8, g9, hx, hlt, ws, hb, o1, o2, r1, r2]
                simp [AccIs, ht, hx]
            · have e1 : i = p.boot.length := by omega
              subst e1
              rw [List.take_of_length_le (by simp)] at hv
              obtain ⟨t1, t2, t3⟩ := hv.out
              simp [copyP_l2, g1, g2, g3, g6, g7, g8, g9, o1, o2, o3, r1, r2, r3, t1, t2, t3]


end Go.Gv

/- The document's fixed examples of chapter 3. No condition. -/
set_option linter.unusedVariables false
set_option linter.unusedSimpArgs false
namespace Go.Gv
open Go.Proofs

def one_r0 : List AI := [⟨(some 0), none, (.op (.new 27000 4 (.agg [.nils, .nils, .nils, (.int .i64 0)])))⟩]
def one_r1 : List AI := [⟨(some 1), none, (.op (.build [(.int .i64 0), (.int .i64 0)] [(0, (1, (.c (.int .i64 7))))]))⟩, ⟨(some 2), none, (.op (.build [(.int .i64 0), (.int .i64 0)] [(0, (1, (.c (.int .i64 6))))]))⟩, ⟨(some 3), none, (.op (.bsl 27003 2 35 2 (.agg [(.int .i64 0), (.int .i64 0)]) [(0, (.t 1)), (1, (.t 2))]))⟩, ⟨(some 4), none, (.op (.build [(.int .i64 0), .nils] [(0, (1, (.c (.int .i64 1)))), (1, (1, (.t 3)))]))⟩, ⟨(some 5), none, (.op (.bsl 27005 2 33 1 (.agg [(.int .i64 0), .nils]) [(0, (.t 4))]))⟩, ⟨(some 6), none, (.op (.bsl 27006 1 3 1 (.int .i64 0) [(0, (.c (.int .i64 3)))]))⟩, ⟨(some 7), none, (.op (.build [.nils, (.int .i64 0), (.int .i64 0), (.bool false)] [(0, (1, (.t 6))), (1, (1, (.c (.int .i64 2)))), (2, (1, (.c (.int .i64 (-1)))))]))⟩, ⟨(some 8), none, (.op (.bsl 27008 4 38 1 (.agg [.nils, (.int .i64 0), (.int .i64 0), (.bool false)]) [(0, (.t 7))]))⟩, ⟨(some 9), none, (.op (.bsl 27009 1 3 1 (.int .i64 0) [(0, (.c (.int .i64 5)))]))⟩, ⟨(some 10), none, (.op (.build [(.int .i64 0), (.int .i64 0), .nils] [(2, (1, (.t 9)))]))⟩, ⟨(some 11), none, (.op (.bsl 27011 3 40 1 (.agg [(.int .i64 0), (.int .i64 0), .nils]) [(0, (.t 10))]))⟩, ⟨(some 12), none, (.op (.build [.nils, .nils, .nils, (.int .i64 0)] [(0, (1, (.t 5))), (1, (1, (.t 8))), (2, (1, (.t 11))), (3, (1, (.c (.int .i64 10))))]))⟩, ⟨none, none, (.op (.store 4 (.t 0) (.t 12)))⟩]
def one_c : AC := (.seq (.reg one_r0) (.seq (.reg one_r1) .ret))
def one_res : List ARes := [(.cell (some 4) 0)]
set_option maxRecDepth 100000 in
theorem one_get : getF Try.prog 24 27000 [] = some ("gavotte/gavottelaw3.one", 13, one_c, one_res) := by kernel_rfl
def awake_r0 : List AI := [⟨(some 0), none, (.op (.mv (.c (.bool false))))⟩]
def awake_r1 : List AI := [⟨(some 4), none, (.call (.c (.fn 24 [])) [])⟩, ⟨(some 1), none, (.op (.new 20001 4 (.agg [.nils, .nils, .nils, (.int .i64 0)])))⟩, ⟨none, none, (.op (.store 4 (.t 1) (.t 4)))⟩]
def awake_r2 : List AI := [⟨(some 5), none, (.op (.load (some 4) (.t 1)))⟩, ⟨(some 6), none, (.call (.c (.fn 9 [])) [(.t 5)])⟩, ⟨(some 2), none, (.op (.new 20002 4 (.agg [.nils, .nils, .nils, (.int .i64 0)])))⟩, ⟨none, none, (.op (.store 4 (.t 2) (.t 6)))⟩]
def awake_r3 : List AI := [⟨(some 7), none, (.call (.c (.fn 24 [])) [])⟩, ⟨(some 3), none, (.op (.new 20003 4 (.agg [.nils, .nils, .nils, (.int .i64 0)])))⟩, ⟨none, none, (.op (.store 4 (.t 3) (.t 7)))⟩]
def awake_r4 : List AI := [⟨(some 8), none, (.op (.fld 3 (.t 3)))⟩, ⟨none, none, (.op (.store 1 (.t 8) (.c (.int .i64 0))))⟩]
def awake_r5 : List AI := [⟨(some 9), none, (.op (.load (some 4) (.t 1)))⟩, ⟨(some 10), none, (.call (.c (.fn 25 [])) [(.t 9)])⟩, ⟨(some 11), none, (.op (.ibin .eql (.t 10) (.c (.int .i64 0))))⟩, ⟨(some 12), none, (.op (.mv (.t 11)))⟩, ⟨(some 13), (some (12, true)), (.op (.load (some 4) (.t 3)))⟩, ⟨(some 14), (some (12, true)), (.call (.c (.fn 25 [])) [(.t 13)])⟩, ⟨(some 15), (some (12, true)), (.op (.ibin .eql (.t 14) (.c (.int .i64 1))))⟩, ⟨(some 16), none, (.op (.pick (.t 12) (.t 15) (.c (.bool false))))⟩, ⟨(some 17), none, (.op (.mv (.t 16)))⟩, ⟨(some 18), (some (17, true)), (.op (.load (some 4) (.t 1)))⟩, ⟨(some 19), (some (17, true)), (.op (.load (some 4) (.t 2)))⟩, ⟨(some 20), (some (17, true)), (.call (.c (.fn 11 [])) [(.t 18), (.t 19)])⟩, ⟨(some 21), none, (.op (.pick (.t 17) (.t 20) (.c (.bool false))))⟩, ⟨(some 22), none, (.op (.mv (.t 21)))⟩, ⟨(some 23), (some (22, true)), (.op (.load (some 4) (.t 1)))⟩, ⟨(some 24), (some (22, true)), (.op (.load (some 4) (.t 3)))⟩, ⟨(some 25), (some (22, true)), (.call (.c (.fn 11 [])) [(.t 23), (.t 24)])⟩, ⟨(some 26), (some (22, true)), (.op (.not (.t 25)))⟩, ⟨(some 27), none, (.op (.pick (.t 22) (.t 26) (.c (.bool false))))⟩, ⟨(some 28), none, (.op (.mv (.t 27)))⟩, ⟨(some 29), (some (28, true)), (.op (.load (some 4) (.t 1)))⟩, ⟨(some 30), (some (28, true)), (.call (.c (.fn 26 [])) [(.t 29)])⟩, ⟨(some 31), (some (28, true)), (.op (.ibin .eql (.t 30) (.c (.int .i64 2))))⟩, ⟨(some 32), none, (.op (.pick (.t 28) (.t 31) (.c (.bool false))))⟩, ⟨(some 33), none, (.op (.mv (.t 32)))⟩, ⟨(some 34), (some (33, true)), (.op (.fld 2 (.t 1)))⟩, ⟨(some 35), (some (33, true)), (.op (.load none (.t 34)))⟩, ⟨(some 36), (some (33, true)), (.op (.idx 3 (.t 35) (.c (.int .i64 0))))⟩, ⟨(some 37), (some (33, true)), (.op (.load (some 3) (.t 36)))⟩, ⟨(some 38), (some (33, true)), (.op (.bsl 20038 1 3 1 (.int .i64 0) [(0, (.c (.int .i64 5)))]))⟩, ⟨(some 39), (some (33, true)), (.op (.build [(.int .i64 0), (.int .i64 0), .nils] [(2, (1, (.t 38)))]))⟩, ⟨(some 40), (some (33, true)), (.call (.c (.fn 27 [])) [(.t 37), (.t 39)])⟩, ⟨(some 41), none, (.op (.pick (.t 33) (.t 40) (.c (.bool false))))⟩, ⟨(some 42), none, (.op (.mv (.t 41)))⟩, ⟨(some 43), (some (42, true)), (.op (.fld 2 (.t 1)))⟩, ⟨(some 44), (some (42, true)), (.op (.load none (.t 43)))⟩, ⟨(some 45), (some (42, true)), (.op (.idx 3 (.t 44) (.c (.int .i64 0))))⟩, ⟨(some 46), (some (42, true)), (.op (.load (some 3) (.t 45)))⟩, ⟨(some 47), (some (42, true)), (.op (.build [(.int .i64 0), (.int .i64 0), .nils] []))⟩, ⟨(some 48), (some (42, true)), (.call (.c (.fn 27 [])) [(.t 46), (.t 47)])⟩, ⟨(some 49), (some (42, true)), (.op (.not (.t 48)))⟩, ⟨(some 50), none, (.op (.pick (.t 42) (.t 49) (.c (.bool false))))⟩, ⟨(some 51), none, (.op (.mv (.t 50)))⟩, ⟨(some 52), (some (51, true)), (.op (.build [.nils, .nils, .nils, (.int .i64 0)] []))⟩, ⟨(some 53), (some (51, true)), (.call (.c (.fn 25 [])) [(.t 52)])⟩, ⟨(some 54), (some (51, true)), (.op (.ibin .eql (.t 53) (.c (.int .i64 1))))⟩, ⟨(some 55), none, (.op (.pick (.t 51) (.t 54) (.c (.bool false))))⟩, ⟨(some 0), none, (.op (.mv (.t 55)))⟩]
def awake_c : AC := (.seq (.reg awake_r0) (.seq (.reg awake_r1) (.seq (.reg awake_r2) (.seq (.reg awake_r3) (.seq (.reg awake_r4) (.seq (.reg awake_r5) .ret))))))
def awake_res : List ARes := [(.tmp 0)]
set_option maxRecDepth 100000 in
theorem awake_get : getF Try.prog 8 20000 [] = some ("gavotte/gavottelaw3.awake", 56, awake_c, awake_res) := by kernel_rfl
attribute [simp] one_r0 one_r1 one_res awake_r0 awake_r1 awake_r2 awake_r3 awake_r4 awake_r5 awake_res


def oneP : Prg := ⟨[⟨1, [⟨7, 0⟩, ⟨6, 0⟩]⟩], [⟨[3], 2, -1, false⟩], [⟨0, 0, [5]⟩], 10⟩
def oneR : Prg := ⟨[⟨1, [⟨7, 0⟩, ⟨6, 0⟩]⟩], [⟨[3], 2, -1, false⟩], [⟨0, 0, [5]⟩], 0⟩
def noP : Prg := ⟨[], [], [], 0⟩
theorem one_pc : PC Try.prog 24 [] oneP.av := by
  refine pc_of_get one_get (by simp) _ (by simp) _ ?_
  unfold one_c
  simp [oneP]
theorem fitOne : fitP oneP := by simp [fitP, oneP]
theorem okOne : okP oneP := by simp [okP, oneP]
theorem awake_pc : PC Try.prog 8 [] (.bool true) := by
  refine pc_of_get awake_get (by simp) _ (by simp) _ ?_
  unfold awake_c
  simp
  refine call one_pc (by simp) ?_
  simp
  refine call (copy_pc oneP fitOne) (by simp) ?_
  simp
  refine call one_pc (by simp) ?_
  simp
  refine call (check_pc oneP) (by simp) ?_
  rw [show checkV oneP = 0 by decide]
  simp
  refine call (check_pc oneR) (by simp [oneP, oneR]) ?_
  rw [show checkV oneR = 1 by decide]
  simp
  refine call (same_pc oneP oneP okOne) (by simp) ?_
  simp
  refine call (same_pc oneP oneR okOne) (by simp [oneP, oneR]) ?_
  rw [show decide (oneP = oneR) = false by decide]
  simp
  refine call (size_pc oneP (by simp [oneP]) (by simp [oneP, sizeN])) (by simp) ?_
  rw [show sizeN oneP.hs = 2 by decide]
  simp [oneP]
  refine call (sameNote_pc ⟨0, 0, [5]⟩ ⟨0, 0, [5]⟩ (by simp)) (by simp) ?_
  simp
  refine call (sameNote_pc ⟨0, 0, [5]⟩ ⟨0, 0, []⟩ (by simp)) (by simp) ?_
  simp
  refine call (check_pc noP) (by simp [noP]) ?_
  rw [show checkV noP = 1 by decide]
  simp


end Go.Gv
