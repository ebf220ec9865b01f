/- Texts of this proof, one behind the other. What is proved, and on which conditions, stands ahead of each. -/
import Derived.Test.YtpaeffcpdpblcaaGreatM5cc55e4
import Derived.Test.YtpaeffcpdpblcaaGreatM6ef64fa

/- A call by the callee's own abstract code. No condition beyond those that the law names. -/
set_option linter.unusedVariables false
set_option linter.unusedSimpArgs false
namespace Go.Gv
open Go.RowKit

/-- How a callee's code ends: with a value and a state, the caller's slots as they were. -/
def EndsK (al : List ARes) (t : Nat → AV) (k : AV → St → Prop) : Ex → St → Prop
  | .exit _, _ => False
  | _, S => ∃ v, resOf S al = some v ∧ k v { S with t := t }
@[simp] theorem endsK_normal (al : List ARes) (t : Nat → AV) (k : AV → St → Prop) (S : St) : EndsK al t k .normal S = ∃ v, resOf S al = some v ∧ k v { S with t := t } := rfl
@[simp] theorem endsK_ret (al : List ARes) (t : Nat → AV) (k : AV → St → Prop) (S : St) : EndsK al t k .ret S = ∃ v, resOf S al = some v ∧ k v { S with t := t } := rfl
@[simp] theorem endsK_exit (al : List ARes) (t : Nat → AV) (k : AV → St → Prop) (S : St) (i : Nat) : EndsK al t k (.exit i) S = False := rfl

theorem callV {P : Program} {f base : Nat} {hint : List (Nat × Nat)} {name : String} {n : Nat} {ac : AC} {al : List ARes} (h : getF P f base hint = some (name, n, ac, al)) (hname : name ≠ "runtime.NumGoroutine")
    {caps vals : List AV} {S : St} {k : AV → St → Prop} {u : Dep k} (hn : (vals ++ caps).length ≤ n)
    (hV : V P ac (EndsK al S.t k) ⟨fun t => (vals ++ caps).getD t (.tup []), S.blk, S.tok, S.clk⟩) : CallG P (.fn f caps) vals S k u := by
  unfold getF at h
  rcases hf : P.funcs[f]? with _ | fn
  · rw [hf] at h; simp at h
  rw [hf] at h
  simp only [Option.bind_some] at h
  rcases hb : fn.body with _ | c
  · rw [hb] at h; simp at h
  rw [hb] at h
  simp only [Option.bind_some] at h
  rcases hc : cCode P fn.ntmps base hint c with _ | ac'
  · rw [hc] at h; simp at h
  rw [hc] at h
  simp only [Option.bind_some] at h
  rcases hal : cRes P fn.ntmps fn.results.toList with _ | al'
  · rw [hal] at h; simp at h
  rw [hal] at h
  simp only [Option.map_some, Option.some.injEq, Prod.mk.injEq] at h
  obtain ⟨h1, h2, h3, h4⟩ := h
  subst h1; subst h2; subst h3; subst h4
  refine ⟨f, caps, rfl, ⟨fn, hf, by simp [hb], hname⟩, fun E B W w args H hW hB hu hsz hrel => ?_⟩
  have C : Conc ⟨E.K, E, S.clk⟩ E B W fn.ntmps ⟨fun t => (vals ++ caps).getD t (.tup []), S.blk, S.tok, S.clk⟩ { tmps := args ++ Array.replicate (fn.ntmps - args.size) undef, defers := [] } w := by
    refine ⟨H, hW, hB, rfl, ?_, ?_, fun _ _ _ => rfl, .refl _, fun s hs => .inl hs, Nat.le_refl _⟩
    · simp; omega
    · intro t ht
      show Rel E ((vals ++ caps).getD t (.tup [])) _
      by_cases hta : t < (vals ++ caps).length
      · have e1 : (vals ++ caps)[t]? = some (vals ++ caps)[t] := List.getElem?_eq_getElem hta
        have e2 : args[t]? = some args[t] := Array.getElem?_eq_getElem (by omega)
        have : (args ++ Array.replicate (fn.ntmps - args.size) undef).getD t undef = args[t] := by
          rw [Array.getD_eq_getD_getElem?, Array.getElem?_append_left (by omega), e2]; rfl
        rw [this, List.getD_eq_getElem?_getD, e1]
        exact hrel t _ _ e1 e2
      · have e1 : (vals ++ caps).getD t (.tup []) = .tup [] := by rw [List.getD_eq_getElem?_getD, List.getElem?_eq_none (by omega)]; rfl
        have : (args ++ Array.replicate (fn.ntmps - args.size) undef).getD t undef = undef := by
          rw [Array.getD_eq_getD_getElem?, Array.getElem?_append_right (by omega), Array.getElem?_replicate]
          split <;> rfl
        rw [this, e1]
        exact .tup [] #[] rfl (by simp)
  refine calls_of_wp hf hb (wp_mono (V_sound base hint c ac' hc _ _ hV E _ w C (fun s hs => hu s hs)) ?_)
  rintro e a' w' ⟨E', S', C', hu', hk⟩
  have fin : (∃ v, resOf S' al' = some v ∧ k v { S' with t := S.t }) → a'.defers = [] ∧ ∃ v, (results fn a'.tmps).run P w' = .ok v w' ∧ ∃ v' E'' r S'', Ending.returned v = .returned v' ∧ E.le E'' ∧ HConc E'' B S''.h w' ∧ Below B W w' ∧ (∀ b o, b < B → E''.K b o = E.K b o) ∧
      (∀ s, E''.u s → (E.u s ∨ S.clk ≤ s) ∧ s < S''.clk) ∧ S.clk ≤ S''.clk ∧ S''.t = S.t ∧ Rel E'' r v' ∧ k r S'' := by
    rintro ⟨v, hv, hkv⟩
    obtain ⟨u, hu2, hru⟩ := results_ok C' fn al' hal v hv
    exact ⟨C'.df, u, hu2, u, E', v, { S' with t := S.t }, rfl, C'.le0, C'.H, C'.bel, C'.kb, fun s hs => ⟨C'.u0 s hs, hu' s hs⟩, C'.ck, rfl, hru, hkv⟩
  cases e with
  | normal => exact fin hk
  | ret => exact fin hk
  | exit i => exact hk.elim
  | goto l => exact hk.elim
  | panic ch => exact hk.elim
  | outgrown => exact hk.elim

end Go.Gv

/- A value of a state seen as a closed one, however deep its lists lie; calls of pure functions with such values. No condition beyond those that each law names. -/
set_option linter.unusedVariables false
set_option linter.unusedSimpArgs false
namespace Go.Gv
open Go.RowKit

def elemR (R : AV → AV → Prop) : AV → AV → Prop
  | .agg xs, .agg ys => coL R xs ys
  | x, y => R x y

/-- What stands for x may be taken for the closed y; 'd': so deep do lists lie in lists. -/
def dco (blk : Nat → Option Blk) : Nat → AV → AV → Prop
  | 0, x, y => co1 none x y
  | d + 1, x, y => match x, y with
    | .nils, .lst _ ys => ys = []
    | .lst s xs, .lst s' ys => s = s' ∧ (xs = ys ∨ coL (elemR (dco blk d)) xs ys)
    | .acc _ _ s xs, .lst s' ys => s = s' ∧ (xs = ys ∨ coL (elemR (dco blk d)) xs ys)
    | .sl nm st s off len, .lst s' ys => s = s' ∧ ∃ es, getB blk nm st s = some es ∧ off + len ≤ es.length ∧ coL (elemR (dco blk d)) ((es.drop off).take len) ys
    | x, y => co1 none x y

theorem dco_one {blk : Nat → Option Blk} : ∀ (d : Nat) {x y : AV}, dco blk d x y → x.one = true → y.one = true := by
  intro d x y h hx
  cases d with
  | zero => exact co1_one h hx
  | succ d =>
    unfold dco at h
    split at h <;> first | rfl | exact co1_one h hx

theorem elemR_cells {blk : Nat → Option Blk} {d : Nat} {x y : AV} (h : elemR (dco blk d) x y) (h1 : ∀ z ∈ x.cells, z.one = true) : x.cells.length = y.cells.length ∧ ∀ (j : Nat) (a b : AV), x.cells[j]? = some a → y.cells[j]? = some b → dco blk d a b := by
  by_cases hx : ∃ xs ys, x = .agg xs ∧ y = .agg ys
  · obtain ⟨xs, ys, rfl, rfl⟩ := hx
    exact coL_get h
  · have hd : dco blk d x y := by
      unfold elemR at h
      split at h
      · exact absurd ⟨_, _, rfl, rfl⟩ hx
      · exact h
    by_cases hxa : ∃ xs, x = .agg xs
    · obtain ⟨xs, rfl⟩ := hxa
      exfalso
      cases d with
      | zero => cases y <;> exact hd
      | succ d => unfold dco at hd; cases y <;> exact hd
    · have hxc : x.cells = [x] := by cases x <;> first | rfl | exact absurd ⟨_, rfl⟩ hxa
      have hx1 : x.one = true := h1 x (by rw [hxc]; simp)
      have hy1 := dco_one d hd hx1
      have hyc := AV.cells_one hy1
      rw [hxc, hyc]
      refine ⟨rfl, fun j a b ha hb => ?_⟩
      cases j with
      | zero => simp at ha hb; subst ha; subst hb; exact hd
      | succ j => simp at ha

section
variable {E : Env} {B : Nat} {h : Hp} {w : World}

/-- A list's elements, one by one. -/
theorem dco_list (K0 : ∀ b o u, E.K b o = some u → w.cell? ⟨b, o, none⟩ = some u) {blk : Nat → Option Blk} {d : Nat} (ih : ∀ (x y : AV) (v : Value), dco blk d x y → Rel E x v → Rel (envK (Kw w)) y v)
    {xs ys : List AV} {b o sz cap : Nat} (f : Nat → Nat → Value) (hcap : xs.length ≤ cap) (hsz : ∀ x ∈ xs, x.cells.length = sz)
    (hk : ∀ i j : Nat, i < xs.length → j < sz → w.cell? ⟨b, o + i * sz + j, none⟩ = some (f i j))
    (h1 : ∀ (i : Nat) (x : AV), xs[i]? = some x → ∀ (j : Nat) (y : AV), x.cells[j]? = some y → y.one = true)
    (hr : ∀ (i : Nat) (x : AV), xs[i]? = some x → ∀ (j : Nat) (y : AV), x.cells[j]? = some y → Rel E y (f i j))
    (hc : coL (elemR (dco blk d)) xs ys) : Rel (envK (Kw w)) (.lst sz ys) (.slice (some ⟨b, o, none⟩) xs.length cap) := by
  obtain ⟨e1, e2⟩ := coL_get hc
  have pair : ∀ (i : Nat) (y : AV), ys[i]? = some y → ∃ x, xs[i]? = some x ∧ elemR (dco blk d) x y := by
    intro i y hy
    obtain ⟨x, hx⟩ : ∃ x, xs[i]? = some x := ⟨_, List.getElem?_eq_getElem (by rw [e1]; exact (List.getElem?_eq_some_iff.1 hy).1)⟩
    exact ⟨x, hx, e2 i x y hx hy⟩
  have ones : ∀ (i : Nat) (x : AV), xs[i]? = some x → ∀ z ∈ x.cells, z.one = true := by
    intro i x hx z hz
    obtain ⟨j, hj⟩ := List.getElem?_of_mem hz
    exact h1 i x hx j z hj
  have cell : ∀ (i : Nat) (y : AV), ys[i]? = some y → ∀ (j : Nat) (q : AV), y.cells[j]? = some q → ∃ p x, xs[i]? = some x ∧ x.cells[j]? = some p ∧ dco blk d p q := by
    intro i y hy j q hq
    obtain ⟨x, hx, hxy⟩ := pair i y hy
    obtain ⟨c1, c2⟩ := elemR_cells hxy (ones i x hx)
    obtain ⟨p, hp⟩ : ∃ p, x.cells[j]? = some p := ⟨_, List.getElem?_eq_getElem (by rw [c1]; exact (List.getElem?_eq_some_iff.1 hq).1)⟩
    exact ⟨p, x, hx, hp, c2 j p q hp hq⟩
  rw [e1]
  refine Rel.lst ys b o sz cap f (by rw [← e1]; exact hcap) ?_ ?_ ?_ ?_
  · intro y hy
    obtain ⟨i, hi⟩ := List.getElem?_of_mem hy
    obtain ⟨x, hx, hxy⟩ := pair i y hi
    rw [← (elemR_cells hxy (ones i x hx)).1]
    exact hsz x (List.mem_of_getElem? hx)
  · intro i j hi hj
    exact hk i j (by rw [e1]; exact hi) hj
  · intro i y hy j q hq
    obtain ⟨p, x, hx, hp, hpq⟩ := cell i y hy j q hq
    exact dco_one d hpq (h1 i x hx j p hp)
  · intro i y hy j q hq
    obtain ⟨p, x, hx, hp, hpq⟩ := cell i y hy j q hq
    exact ih p q _ hpq (hr i x hx j p hp)

theorem dco_rel (H : HConc E B h w) : ∀ (d : Nat) (x y : AV) (v : Value), dco h.blk d x y → Rel E x v → Rel (envK (Kw w)) y v := by
  have kn : Knows E B w (Kw w) (none : Option (Nat → Option Blk)).isSome := ⟨H.K, by simp⟩
  have base : ∀ (x y : AV) (v : Value), co1 none x y → Rel E x v → Rel (envK (Kw w)) y v := fun x y v hc hr => co1_rel H kn (by simp) hc hr
  have lsts : ∀ (d : Nat), (∀ (x y : AV) (v : Value), dco h.blk d x y → Rel E x v → Rel (envK (Kw w)) y v) → ∀ (s : Nat) (xs ys : List AV) (v : Value), Rel E (.lst s xs) v → (xs = ys ∨ coL (elemR (dco h.blk d)) xs ys) → Rel (envK (Kw w)) (.lst s ys) v := by
    intro d ih s xs ys v hr hc
    rcases hc with rfl | hc
    · exact lst_envK (K := Kw w) H.K hr
    · cases hr with
      | lst0 _ a cap =>
        cases ys with
        | nil => exact .lst0 _ _ _
        | cons y ys => exact hc.elim
      | lst _ b o _ cap f hcap hsz hk h1 hr =>
        exact dco_list H.K ih f hcap hsz (fun i j hi hj => H.K _ _ _ (hk i j hi hj)) h1 (fun i x hx j y hy => (hr i x hx j y hy).mono (Env.cl_le E)) hc
  intro d
  induction d with
  | zero => exact base
  | succ d ih =>
    intro x y v hc hr
    unfold dco at hc
    split at hc
    · subst hc; rw [hr.nils_inv]; exact .lst0 _ _ _
    · obtain ⟨rfl, hc⟩ := hc
      exact lsts d ih _ _ _ v hr hc
    · obtain ⟨rfl, hc⟩ := hc
      cases hr with
      | acc _ _ _ _ _ _ _ hl => exact lsts d ih _ _ _ v hl hc
    · rename_i nm st s off len s' ys
      obtain ⟨rfl, es, hes, hle, hc⟩ := hc
      have hbs := getB_some hes
      have hbk := (H.bk nm _ hbs).r (getB_pos hes)
      obtain ⟨cur, e, hg, hsz, hrow⟩ := hbk.row
      simp only at hg hsz hrow
      cases hr with
      | sl _ _ _ _ _ cap a hu hcap hc' ha =>
        have hlen : ((es.drop off).take len).length = len := by simp; omega
        by_cases hl0 : len = 0
        · subst hl0
          rw [List.take_zero] at hc
          cases ys with
          | nil => exact .lst0 _ _ _
          | cons y ys => exact hc.elim
        · rw [ha (by omega)]
          have hidx : ∀ (i : Nat) (z : AV), ((es.drop off).take len)[i]? = some z → i < len ∧ es[off + i]? = some z := by
            intro i z hz
            rw [List.getElem?_take] at hz
            split at hz
            · rename_i hi; rw [List.getElem?_drop] at hz; exact ⟨hi, hz⟩
            · cases hz
          have hel : ∀ z ∈ (es.drop off).take len, ElemOk s z := fun z hz => hbk.el z (List.mem_of_mem_drop (List.mem_of_mem_take hz))
          have cell : ∀ (i : Nat) (z : AV), ((es.drop off).take len)[i]? = some z → ∀ (j : Nat) (q : AV), z.cells[j]? = some q →
              ∃ u, w.cell? ⟨(E.m st).1, (E.m st).2 + off * s + i * s + j, none⟩ = some u ∧ Rel E q u := by
            intro i z hz j q hq
            obtain ⟨hi, hz'⟩ := hidx i z hz
            obtain ⟨u, hu', hrel⟩ := hrow (off + i) z hz' j q hq
            refine ⟨u, ?_, hrel⟩
            rw [show (E.m st).2 + off * s + i * s + j = (E.m st).2 + (off + i) * s + j by rw [Nat.add_mul]; omega, cell_of_row w _ _ cur e (0, 0) hg]
            exact hu'
          have := dco_list (b := (E.m st).1) (o := (E.m st).2 + off * s) (sz := s) (cap := cap) H.K ih (fun i j => (w.cell? ⟨(E.m st).1, (E.m st).2 + off * s + i * s + j, none⟩).getD .nilFunc) (by rw [hlen]; exact hcap) (fun z hz => (hel z hz).1) ?_ ?_ ?_ hc
          · rw [hlen] at this; exact this
          · intro i j hi hj
            obtain ⟨z, hz⟩ : ∃ z, ((es.drop off).take len)[i]? = some z := ⟨_, List.getElem?_eq_getElem hi⟩
            obtain ⟨q, hq⟩ : ∃ q, z.cells[j]? = some q := ⟨_, List.getElem?_eq_getElem (by rw [(hel z (List.mem_of_getElem? hz)).1]; exact hj)⟩
            obtain ⟨u, hu', _⟩ := cell i z hz j q hq
            rw [hu']; rfl
          · intro i z hz j q hq
            exact (hel z (List.mem_of_getElem? hz)).2 q (List.mem_of_getElem? hq)
          · intro i z hz j q hq
            obtain ⟨u, hu', hrel⟩ := cell i z hz j q hq
            rw [hu']
            exact hrel
    · exact base x y v hc hr
theorem dcoE_rel (H : HConc E B h w) (d : Nat) (x y : AV) (v : Value) (hc : elemR (dco h.blk d) x y) (hr : Rel E x v) : Rel (envK (Kw w)) y v := by
  unfold elemR at hc
  split at hc
  · rename_i xs ys
    obtain ⟨e1, e2⟩ := coL_get hc
    cases hr with
    | agg _ vs hs h1 hr =>
      have pair : ∀ (j : Nat) (y : AV), ys[j]? = some y → ∃ x, xs[j]? = some x ∧ dco h.blk d x y := by
        intro j y hy
        obtain ⟨x, hx⟩ : ∃ x, xs[j]? = some x := ⟨_, List.getElem?_eq_getElem (by rw [e1]; exact (List.getElem?_eq_some_iff.1 hy).1)⟩
        exact ⟨x, hx, e2 j x y hx hy⟩
      refine .agg ys vs (by rw [← e1]; exact hs) (fun j y hy => ?_) (fun j y u hy hu => ?_)
      · obtain ⟨x, hx, hxy⟩ := pair j y hy
        exact dco_one d hxy (h1 j x hx)
      · obtain ⟨x, hx, hxy⟩ := pair j y hy
        exact dco_rel H d x y u hxy (hr j x u hx hu)
  · exact dco_rel H d _ _ v hc hr
end

/-- A call that reads lists in mutable blocks, however deep, and answers no list. -/
theorem callW {P : Program} {f : FuncId} {cargs : List AV} {r : AV} (h : PC P f cargs r) (d : Nat) {caps vals : List AV} {S : St} {k : AV → St → Prop} {u : Dep k} (hco : coL (elemR (dco S.blk d)) (vals ++ caps) cargs) (hflat : flat r = true) (hk : k r S) :
    CallG P (.fn f caps) vals S k u := by
  obtain ⟨hent, hc⟩ := h
  refine ⟨f, caps, rfl, hent, fun E B W w args H hW hB hu hsz hrel => ?_⟩
  obtain ⟨e1, e2⟩ := coL_get hco
  refine (hc (Kw w) w args (fun b o v q => q) (by rw [hsz, e1]) ?_).mono ?_
  · intro j y u hy hu
    obtain ⟨x, hx⟩ : ∃ x, (vals ++ caps)[j]? = some x := ⟨_, List.getElem?_eq_getElem (by rw [e1]; exact (List.getElem?_eq_some_iff.1 hy).1)⟩
    exact dcoE_rel H d x y u (e2 j x y hx hy) (hrel j x u hx hu)
  · rintro e w' ⟨v, rfl, hbel, hr⟩
    have hle : B ≤ w.heap.size := Nat.le_trans hB hW.size
    exact ⟨v, E, r, S, rfl, .refl E, H.grow (fun k hk => hbel.block k hk), hW.trans (hbel.mono hle), fun _ _ _ => rfl, fun s hs => ⟨.inl hs, hu s hs⟩, Nat.le_refl _, rfl, flat_rel hr hflat, hk⟩

end Go.Gv

/- A state told in another way: blocks that are written no more become known, names are changed, blocks are forgotten. No condition beyond those that each law names. -/
set_option linter.unusedVariables false
set_option linter.unusedSimpArgs false
namespace Go.Gv
open Go.RowKit

/-- A heap told in another way; values are told by φ. -/
def Wkh (c c' : Nat) (h h' : Hp) (φ : AV → AV) : Prop :=
  c ≤ c' ∧ ∀ (E : Env) (B : Nat) (w : World), HConc E B h w → (∀ s, E.u s → s < c) →
    ∃ E', E.le E' ∧ HConc E' B h' w ∧ (∀ b o, b < B → E'.K b o = E.K b o) ∧ (∀ s, E'.u s → E.u s) ∧ ∀ (x : AV) (v : Value), Rel E x v → Rel E' (φ x) v

theorem Wkh.refl (c : Nat) (h : Hp) : Wkh c c h h id := ⟨Nat.le_refl _, fun E B w H hu => ⟨E, .refl E, H, fun _ _ _ => rfl, fun _ h => h, fun _ _ h => h⟩⟩
theorem Wkh.trans {c c' c'' : Nat} {h h' h'' : Hp} {φ ψ : AV → AV} (a : Wkh c c' h h' φ) (b : Wkh c' c'' h' h'' ψ) : Wkh c c'' h h'' (fun x => ψ (φ x)) := by
  refine ⟨Nat.le_trans a.1 b.1, fun E B w H hu => ?_⟩
  obtain ⟨E', a1, a2, a3, a4, a5⟩ := a.2 E B w H hu
  obtain ⟨E'', b1, b2, b3, b4, b5⟩ := b.2 E' B w a2 (fun s hs => Nat.lt_of_lt_of_le (hu s (a4 s hs)) a.1)
  exact ⟨E'', a1.trans b1, b2, fun b o hb => (b3 b o hb).trans (a3 b o hb), fun s hs => a4 s (b4 s hs), fun x v hv => b5 _ v (a5 x v hv)⟩

/-- All slots by φ. -/
theorem Wk.of {S S' : St} {φ : AV → AV} (h : Wkh S.clk S'.clk S.h S'.h φ) (ht : ∀ t, S'.t t = φ (S.t t)) : Wk S S' :=
  ⟨h.1, fun E B w H hu => let ⟨E', a1, a2, a3, a4, a5⟩ := h.2 E B w H hu; ⟨E', a1, a2, a3, a4, fun t v hv => by rw [ht]; exact a5 _ v hv⟩⟩
/-- No slot. -/
theorem Wk.of' {S S' : St} {φ : AV → AV} (h : Wkh S.clk S'.clk S.h S'.h φ) (ht : S'.t = S.t) : Wk S S' :=
  ⟨h.1, fun E B w H hu => let ⟨E', a1, a2, a3, a4, a5⟩ := h.2 E B w H hu; ⟨E', a1, a2, a3, a4, fun t v hv => by rw [ht]; exact hv.mono a1⟩⟩
/-- Some slots, each as it likes. -/
theorem Wk.some {S S' : St} {φ : AV → AV} (h : Wkh S.clk S'.clk S.h S'.h φ) (ht : ∀ t, S'.t t = S.t t ∨ S'.t t = φ (S.t t) ∨ S'.t t = .junk) : Wk S S' :=
  ⟨h.1, fun E B w H hu => let ⟨E', a1, a2, a3, a4, a5⟩ := h.2 E B w H hu; ⟨E', a1, a2, a3, a4, fun t v hv => by
    rcases ht t with e | e | e
    · rw [e]; exact hv.mono a1
    · rw [e]; exact a5 _ v hv
    · rw [e]; exact .junk v⟩⟩

/-- A call's end told in another way. -/
theorem CallP.told {P : Program} {fv : AV} {vals : List AV} {S : St} {k k' : AV → St → Prop} (h : CallP P fv vals S k')
    (hk : ∀ r S', k' r S' → ∃ S'' φ, Wkh S'.clk S''.clk S'.h S''.h φ ∧ S''.t = S'.t ∧ k (φ r) S'') : CallP P fv vals S k := by
  obtain ⟨f, caps, h1, h2, h3⟩ := h
  refine ⟨f, caps, h1, h2, fun E B W w args H hW hB hu hsz hr => (h3 E B W w args H hW hB hu hsz hr).mono ?_⟩
  rintro e w' ⟨v, E', r, S', a1, a2, a3, a4, a5, a6, a7, a8, a9, a10⟩
  obtain ⟨S'', φ, b1, b2, b3⟩ := hk r S' a10
  obtain ⟨E'', c1, c2, c3, c4, c5⟩ := b1.2 E' B w' a3 (fun s hs => (a6 s hs).2)
  exact ⟨v, E'', φ r, S'', a1, a2.trans c1, c2, a4, fun b o hb => (c3 b o hb).trans (a5 b o hb), fun s hs => ⟨(a6 s (c4 s hs)).1, Nat.lt_of_lt_of_le (a6 s (c4 s hs)).2 b1.1⟩, Nat.le_trans a7 b1.1, b2.trans a8, c5 r v a9, b3⟩

/-! ### Forgetting -/

theorem Wkh.sub {c c' : Nat} (hc : c ≤ c') {h h' : Hp} (hb : ∀ n b, h'.blk n = some b → h.blk n = some b) (ht : ∀ n t, h'.tok n = some t → h.tok n = some t) : Wkh c c' h h' id :=
  ⟨hc, fun E B w H hu => ⟨E, .refl E, H.sub hb ht, fun _ _ _ => rfl, fun _ h => h, fun _ _ h => h⟩⟩

/-! ### Mapping values -/

/-- A block's elements, each told by φ cell by cell. -/
def mapE (φ : AV → AV) : AV → AV
  | .agg cs => .agg (cs.map φ)
  | v => φ v
def mapV (φ : AV → AV) : AV → AV
  | .tup vs => .tup (vs.map (mapE φ))
  | v => mapE φ v

structure CellMap (E E' : Env) (φ : AV → AV) : Prop where
  rel : ∀ (x : AV) (v : Value), x.one = true → Rel E x v → Rel E' (φ x) v
  one : ∀ x : AV, x.one = true → (φ x).one = true
  other : ∀ x : AV, x.one = false → φ x = x
  int : ∀ (k : IntKind) (a : Int), φ (.int k a) = .int k a
  le : E.le E'

theorem CellMap.relE {E E' : Env} {φ : AV → AV} (h : CellMap E E' φ) {x : AV} {v : Value} (hr : Rel E x v) : Rel E' (mapE φ x) v := by
  by_cases hx : ∃ cs, x = .agg cs
  · obtain ⟨cs, rfl⟩ := hx
    cases hr with
    | agg _ vs hs h1 hr =>
      refine .agg _ vs (by simpa using hs) ?_ ?_
      · intro j y hy
        rw [List.getElem?_map] at hy
        cases hc : cs[j]? with
        | none => simp [hc] at hy
        | some z => simp only [hc, Option.map_some, Option.some.injEq] at hy; rw [← hy]; exact h.one z (h1 j z hc)
      · intro j y u hy hu
        rw [List.getElem?_map] at hy
        cases hc : cs[j]? with
        | none => simp [hc] at hy
        | some z => simp only [hc, Option.map_some, Option.some.injEq] at hy; rw [← hy]; exact h.rel z u (h1 j z hc) (hr j z u hc hu)
  · have e : mapE φ x = φ x := by cases x <;> first | rfl | exact absurd ⟨_, rfl⟩ hx
    rw [e]
    cases h1 : x.one with
    | true => exact h.rel x v h1 hr
    | false => rw [h.other x h1]; exact hr.mono h.le

theorem CellMap.relV {E E' : Env} {φ : AV → AV} (h : CellMap E E' φ) {x : AV} {v : Value} (hr : Rel E x v) : Rel E' (mapV φ x) v := by
  by_cases hx : ∃ cs, x = .tup cs
  · obtain ⟨cs, rfl⟩ := hx
    cases hr with
    | tup _ vs hs hr =>
      refine .tup _ vs (by simpa using hs) ?_
      intro j y u hy hu
      rw [List.getElem?_map] at hy
      cases hc : cs[j]? with
      | none => simp [hc] at hy
      | some z => simp only [hc, Option.map_some, Option.some.injEq] at hy; rw [← hy]; exact h.relE (hr j z u hc hu)
  · have e : mapV φ x = mapE φ x := by cases x <;> first | rfl | exact absurd ⟨_, rfl⟩ hx
    rw [e]; exact h.relE hr

theorem CellMap.cells {E E' : Env} {φ : AV → AV} (h : CellMap E E' φ) {x : AV} (h1 : ∀ y ∈ x.cells, y.one = true) : (mapE φ x).cells = x.cells.map φ := by
  by_cases hx : ∃ cs, x = .agg cs
  · obtain ⟨cs, rfl⟩ := hx; rfl
  · have e : mapE φ x = φ x := by cases x <;> first | rfl | exact absurd ⟨_, rfl⟩ hx
    have hc : x.cells = [x] := by cases x <;> first | rfl | exact absurd ⟨_, rfl⟩ hx
    rw [e, hc]
    have := h1 x (by rw [hc]; simp)
    rw [AV.cells_one (h.one x this)]; rfl

theorem CellMap.elemOk {E E' : Env} {φ : AV → AV} (h : CellMap E E' φ) {sz : Nat} {x : AV} (hx : ElemOk sz x) : ElemOk sz (mapE φ x) := by
  refine ⟨by rw [h.cells hx.2, List.length_map]; exact hx.1, ?_⟩
  rw [h.cells hx.2]
  intro y hy
  rw [List.mem_map] at hy
  obtain ⟨z, hz, rfl⟩ := hy
  exact h.one z (hx.2 z hz)

def mapB (φ : AV → AV) (b : Blk) : Blk := ⟨b.st, b.sz, b.es.map (mapE φ)⟩

theorem CellMap.blkOk {E E' : Env} {φ : AV → AV} (h : CellMap E E' φ) {B : Nat} {w : World} {st sz : Nat} {es : List AV} (hu : E.u st) (hb : BlkOk E B w st sz es) (hk : ∀ j, E'.K (E.m st).1 j = none) : BlkOk E' B w st sz (es.map (mapE φ)) := by
  have em := h.le.m st hu
  have ec := h.le.cp st hu
  cases hb with
  | map h0 hb =>
    obtain ⟨arr, c, h1, h2⟩ := hb.mp
    refine .map h0 ⟨by rw [em]; exact hb.base, ⟨arr, c, by rw [em]; exact h1, ?_⟩, by rw [em]; exact hk⟩
    have key : ∀ (xs : List AV) (ms : List MapEntry), EntsRel E xs ms → EntsRel E' (xs.map (mapE φ)) ms := by
      intro xs
      induction xs with
      | nil => intro ms hms; cases ms with
        | nil => trivial
        | cons m ms => exact hms.elim
      | cons x xs ih => intro ms hms; cases ms with
        | nil => exact hms.elim
        | cons m ms =>
          obtain ⟨⟨k, a, z, q1, q2, q3, q4⟩, q5⟩ := hms
          exact ⟨⟨k, a, φ z, by rw [q1]; simp [mapE, h.int], q2, h.one z q3, h.rel z _ q3 q4⟩, ih ms q5⟩
    exact key _ _ h2
  | row h0 hb =>
  refine .row h0 ⟨by rw [em]; exact hb.base, ?_, by rw [ec, List.length_map]; exact hb.len, ?_, by rw [em]; exact hk⟩
  · intro x hx
    rw [List.mem_map] at hx
    obtain ⟨y, hy, rfl⟩ := hx
    exact h.elemOk (hb.el y hy)
  · rw [em, ec]
    obtain ⟨cur, e, h1, h2, h3⟩ := hb.row
    refine ⟨cur, e, h1, h2, ?_⟩
    intro i x hx j y hy
    rw [List.getElem?_map] at hx
    cases hc : es[i]? with
    | none => simp [hc] at hx
    | some z =>
      simp only [hc, Option.map_some, Option.some.injEq] at hx
      subst hx
      have hz := hb.el z (List.mem_of_getElem? hc)
      rw [h.cells hz.2, List.getElem?_map] at hy
      cases hq : z.cells[j]? with
      | none => simp [hq] at hy
      | some q =>
        simp only [hq, Option.map_some, Option.some.injEq] at hy
        obtain ⟨u, hu, hr⟩ := h3 i z hc j q hq
        exact ⟨u, hu, by rw [← hy]; exact h.rel q u (hz.2 q (List.mem_of_getElem? hq)) hr⟩

/-! ### Freezing a block -/

def fz0 (nm st sz : Nat) (es : List AV) : AV → AV
  | .sl nm' st' sz' off len => if nm' = nm ∧ st' = st ∧ sz' = sz ∧ off + len ≤ es.length then .lst sz ((es.drop off).take len) else .sl nm' st' sz' off len
  | .ptr nm' st' sz' i off => if nm' = nm ∧ st' = st ∧ sz' = sz then (match es[i]? with | some x => .kp x.cells off | none => .ptr nm' st' sz' i off) else .ptr nm' st' sz' i off
  | v => v
def fzc (nm st sz : Nat) (es : List AV) : AV → AV
  | .fn f caps => .fn f (caps.map (fz0 nm st sz es))
  | v => fz0 nm st sz es v

/-- Are all cells closed? -/
def closedL (es : List AV) : Prop := ∀ x ∈ es, ∀ y ∈ x.cells, y.cl1 = true

def knowAt (E : Env) (g o k : Nat) (cur : Array Value) : Nat → Nat → Option Value := fun b j => if b = g ∧ o ≤ j ∧ j < o + k then cur[j]? else E.K b j

theorem frz_ok {E : Env} {B : Nat} {h : Hp} {w : World} (H : HConc E B h w) {nm st sz : Nat} (hs0 : sz ≠ 0) {es : List AV} (hb : h.blk nm = some ⟨st, sz, es⟩) (hcl : closedL es) :
    ∃ E', CellMap E E' (fzc nm st sz es) ∧ (∀ b o, b < B → E'.K b o = E.K b o) ∧ (∀ s, E'.u s → E.u s) ∧ (∀ b o v, E'.K b o = some v → w.cell? ⟨b, o, none⟩ = some v) ∧ (∀ b o, b ≠ (E.m st).1 → E'.K b o = E.K b o) := by
  have hbk := (H.bk nm _ hb).r hs0
  have hbu : E.u st := H.bu nm _ hb
  obtain ⟨cur, e, hg, hsz, hr⟩ := hbk.row
  simp only at hg hsz hr
  have hbase : B ≤ (E.m st).1 := hbk.base
  have hnoK : ∀ j, E.K (E.m st).1 j = none := hbk.noK
  have hel : ∀ x ∈ es, ElemOk sz x := hbk.el
  have hcell : ∀ j, w.cell? ⟨(E.m st).1, j, none⟩ = cur[j]? := fun j => cell_of_row w _ j cur e (0, 0) hg
  have hlen : es.length ≤ E.cp st := hbk.len
  have hfit : (E.m st).2 + es.length * sz ≤ cur.size := by have := Nat.mul_le_mul_right sz hlen; omega
  let E' : Env := E.withK (knowAt E (E.m st).1 (E.m st).2 (es.length * sz) cur)
  have hE : E.le E' := Env.le_withK (fun b o u hu => by
    unfold knowAt
    split
    · rename_i hc; rw [hc.1, hnoK] at hu; cases hu
    · exact hu)
  have know : ∀ i j, i < es.length → j < sz → E'.K (E.m st).1 ((E.m st).2 + i * sz + j) = cur[(E.m st).2 + i * sz + j]? := by
    intro i j hi hj
    have := mul_lt hi hj
    show knowAt E _ _ _ cur _ _ = _
    unfold knowAt
    rw [if_pos ⟨rfl, by omega, by omega⟩]
  have inb : ∀ i j, i < es.length → j < sz → (E.m st).2 + i * sz + j < cur.size := by
    intro i j hi hj; have := mul_lt hi hj; omega
  have cellRel : ∀ (i : Nat) (x : AV), es[i]? = some x → ∀ (j : Nat) (y : AV), x.cells[j]? = some y → i < es.length ∧ j < sz ∧ Rel E'.cl y ((cur[(E.m st).2 + i * sz + j]?).getD .nilFunc) := by
    intro i x hx j y hy
    have hi := (List.getElem?_eq_some_iff.1 hx).1
    have hxm := List.mem_of_getElem? hx
    have hj : j < sz := by rw [← (hel x hxm).1]; exact (List.getElem?_eq_some_iff.1 hy).1
    obtain ⟨u, hu, hrel⟩ := hr i x hx j y hy
    refine ⟨hi, hj, ?_⟩
    rw [hu]
    exact Rel.of_cl1 (E := E) (E' := E'.cl) hE.K hrel (hcl x hxm y (List.mem_of_getElem? hy))
  have f0 : ∀ (x : AV) (v : Value), Rel E x v → Rel E' (fz0 nm st sz es x) v := by
    intro x v hrel
    cases x with
    | sl nm' st' sz' off len =>
      simp only [fz0]
      split
      · rename_i hc
        obtain ⟨c1, c2, c3, c4⟩ := hc
        subst c2 c3
        cases hrel with
        | sl _ _ _ _ _ cap a hu hcap hcp ha =>
          by_cases hl0 : len = 0
          · subst hl0; rw [List.take_zero]; exact .lst0 _ _ _
          · rw [ha (by omega)]
            have hwl : ((es.drop off).take len).length = len := by simp; omega
            have hidx : ∀ (i : Nat) (z : AV), ((es.drop off).take len)[i]? = some z → i < len ∧ es[off + i]? = some z := by
              intro i z hz
              rw [List.getElem?_take] at hz
              split at hz
              · rename_i hi; rw [List.getElem?_drop] at hz; exact ⟨hi, hz⟩
              · cases hz
            have := Rel.lst (E := E') ((es.drop off).take len) (E.m st').1 ((E.m st').2 + off * sz') sz' cap (fun i j => (cur[(E.m st').2 + (off + i) * sz' + j]?).getD .nilFunc)
              (by rw [hwl]; exact hcap) (fun z hz => (hel z (List.mem_of_mem_drop (List.mem_of_mem_take hz))).1) ?_ ?_ ?_
            · rw [hwl] at this; exact this
            · intro i j hi hj
              rw [hwl] at hi
              rw [show (E.m st').2 + off * sz' + i * sz' + j = (E.m st').2 + (off + i) * sz' + j by rw [Nat.add_mul]; omega, know (off + i) j (by omega) hj]
              have := inb (off + i) j (by omega) hj
              simp [this]
            · intro i z hz j q hq
              exact (hel z (List.mem_of_mem_drop (List.mem_of_mem_take (List.mem_of_getElem? hz)))).2 q (List.mem_of_getElem? hq)
            · intro i z hz j q hq
              exact (cellRel (off + i) z (hidx i z hz).2 j q hq).2.2
      · exact hrel.mono hE
    | ptr nm' st' sz' i off =>
      simp only [fz0]
      split
      · rename_i hc
        obtain ⟨c1, c2, c3⟩ := hc
        subst c2 c3
        cases hx : es[i]? with
        | none => exact hrel.mono hE
        | some x =>
          cases hrel with
          | ptr _ _ _ _ _ hu =>
            have hi := (List.getElem?_eq_some_iff.1 hx).1
            have hxm := List.mem_of_getElem? hx
            exact Rel.kp (E := E') x.cells off (E.m st').1 ((E.m st').2 + i * sz') (fun j => (cur[(E.m st').2 + i * sz' + j]?).getD .nilFunc)
              (fun j hj => by
                have hj' : j < sz' := by rw [← (hel x hxm).1]; exact hj
                rw [know i j hi hj']
                have := inb i j hi hj'
                simp [this])
              (fun j y hy => (hel x hxm).2 y (List.mem_of_getElem? hy)) (fun j y hy => (cellRel i x hx j y hy).2.2)
      · exact hrel.mono hE
    | _ => exact hrel.mono hE
  refine ⟨E', ⟨?_, ?_, ?_, fun _ _ => rfl, hE⟩, ?_, fun _ h => h, ?_, ?_⟩
  · intro x v h1 hrel
    cases x with
    | fn f caps =>
      cases hrel with
      | fn _ _ vs hs hr' =>
        refine .fn f _ vs (by simpa using hs) ?_
        intro j y u hy hu
        rw [List.getElem?_map] at hy
        cases hc : caps[j]? with
        | none => simp [hc] at hy
        | some z => simp only [hc, Option.map_some, Option.some.injEq] at hy; rw [← hy]; exact f0 z u (hr' j z u hc hu)
    | _ => exact f0 _ v hrel
  · intro x h1
    cases x with
    | fn f caps => rfl
    | sl nm' st' sz' off len => show (fz0 nm st sz es (.sl nm' st' sz' off len)).one = true; simp only [fz0]; split <;> rfl
    | ptr nm' st' sz' i off =>
      show (fz0 nm st sz es (.ptr nm' st' sz' i off)).one = true
      simp only [fz0]
      split
      · split <;> rfl
      · rfl
    | _ => exact h1
  · intro x h1
    cases x <;> first | rfl | (simp [AV.one] at h1)
  · intro b o hb
    show knowAt E _ _ _ cur b o = _
    unfold knowAt
    rw [if_neg (by omega)]
  · intro b o v hv
    have hv : knowAt E (E.m st).1 (E.m st).2 (es.length * sz) cur b o = some v := hv
    unfold knowAt at hv
    split at hv
    · rename_i hc; rw [hc.1, hcell]; exact hv
    · exact H.K b o v hv
  · intro b o hb
    show knowAt E _ _ _ cur b o = _
    unfold knowAt
    rw [if_neg (fun q => hb q.1)]

def Hp.frz (h : Hp) (nm st sz : Nat) (es : List AV) : Hp := ⟨fun n => if n = nm then none else (h.blk n).map (mapB (fzc nm st sz es)), h.tok⟩

theorem Wkh.frz {c : Nat} {h : Hp} {nm st sz : Nat} (hs0 : sz ≠ 0) {es : List AV} (hb : h.blk nm = some ⟨st, sz, es⟩) (hcl : closedL es) : Wkh c c h (h.frz nm st sz es) (mapV (fzc nm st sz es)) := by
  refine ⟨Nat.le_refl _, fun E B w H hu => ?_⟩
  obtain ⟨E', hM, hB, hu', hK, hother⟩ := frz_ok H hs0 hb hcl
  have get : ∀ n b, (h.frz nm st sz es).blk n = some b → n ≠ nm ∧ ∃ b0, h.blk n = some b0 ∧ b = mapB (fzc nm st sz es) b0 := by
    intro n b hn
    simp only [Hp.frz] at hn
    split at hn
    · cases hn
    · rename_i hne
      simp only [Option.map_eq_some_iff] at hn
      obtain ⟨b0, h1, h2⟩ := hn
      exact ⟨hne, b0, h1, h2.symm⟩
  have hne1 : ∀ n b0, n ≠ nm → h.blk n = some b0 → (E.m b0.st).1 ≠ (E.m st).1 := fun n b0 hn h0 => H.bb n nm b0 _ hn h0 hb
  refine ⟨E', hM.le, ⟨hK, ?_, ?_, fun n t ht => hM.le.u _ (H.tu n t ht), ?_, ?_, ?_, ?_⟩, hB, hu', fun x v hv => hM.relV hv⟩
  · intro n b hn
    obtain ⟨hne, b0, h0, rfl⟩ := get n b hn
    exact hM.le.u _ (H.bu n b0 h0)
  · intro n b hn
    obtain ⟨hne, b0, h0, rfl⟩ := get n b hn
    refine hM.blkOk (H.bu n b0 h0) (H.bk n b0 h0) (fun j => ?_)
    show E'.K (E.m b0.st).1 j = none
    rw [hother _ _ (hne1 n b0 hne h0)]
    exact (H.bk n b0 h0).noK j
  · intro n t ht
    have ht : h.tok n = some t := ht
    rw [hM.le.hd _ (H.tu n t ht)]
    obtain ⟨m, cs, h1, h2⟩ := H.tk n t ht
    refine ⟨m, cs, h1, fun g j hg hj => ?_⟩
    rw [hother _ _ (fun q => H.bt nm n _ t hb ht (by rw [hg, q]))]
    exact h2 g j hg hj
  · intro n n' b b' hn hb1 hb2
    obtain ⟨_, b0, h0, rfl⟩ := get n b hb1
    obtain ⟨_, b0', h0', rfl⟩ := get n' b' hb2
    show (E'.m b0.st).1 ≠ (E'.m b0'.st).1
    rw [hM.le.m _ (H.bu n b0 h0), hM.le.m _ (H.bu n' b0' h0')]
    exact H.bb n n' b0 b0' hn h0 h0'
  · intro n n' b t hb1 ht
    have ht : h.tok n' = some t := ht
    obtain ⟨_, b0, h0, rfl⟩ := get n b hb1
    show (E'.hd t.st).ownBlock ≠ some (E'.m b0.st).1
    rw [hM.le.m _ (H.bu n b0 h0), hM.le.hd _ (H.tu n' t ht)]
    exact H.bt n n' b0 t h0 ht
  · intro n n' t t' g hn ht ht'
    have ht : h.tok n = some t := ht
    have ht' : h.tok n' = some t' := ht'
    rw [hM.le.hd _ (H.tu n t ht), hM.le.hd _ (H.tu n' t' ht')]
    exact H.tt n n' t t' g hn ht ht'

/-! ### Other names -/

def rn0 (a b : Nat) : AV → AV
  | .sl nm st sz off len => .sl (if nm = a then b else nm) st sz off len
  | .ptr nm st sz i off => .ptr (if nm = a then b else nm) st sz i off
  | .mp nm st => .mp (if nm = a then b else nm) st
  | v => v
def rnc (a b : Nat) : AV → AV
  | .fn f caps => .fn f (caps.map (rn0 a b))
  | v => rn0 a b v

theorem rn_map (E : Env) (a b : Nat) : CellMap E E (rnc a b) := by
  have f0 : ∀ (x : AV) (v : Value), Rel E x v → Rel E (rn0 a b x) v := by
    intro x v h
    cases x with
    | sl nm st sz off len => cases h with | sl _ _ _ _ _ cap ad hu hcap hc ha => exact .sl _ st sz off len cap ad hu hcap hc ha
    | ptr nm st sz i off => cases h with | ptr _ _ _ _ _ hu => exact .ptr _ st sz i off hu
    | mp nm st => cases h with | mp _ _ hu => exact .mp _ st hu
    | _ => exact h
  refine ⟨?_, ?_, ?_, fun _ _ => rfl, .refl E⟩
  · intro x v h1 hrel
    cases x with
    | fn f caps =>
      cases hrel with
      | fn _ _ vs hs hr' =>
        refine .fn f _ vs (by simpa using hs) ?_
        intro j y u hy hu
        rw [List.getElem?_map] at hy
        cases hc : caps[j]? with
        | none => simp [hc] at hy
        | some z => simp only [hc, Option.map_some, Option.some.injEq] at hy; rw [← hy]; exact f0 z u (hr' j z u hc hu)
    | _ => exact f0 _ v hrel
  · intro x h1
    cases x <;> first | rfl | exact h1
  · intro x h1
    cases x <;> first | rfl | (simp [AV.one] at h1)

def Hp.ren (h : Hp) (a b : Nat) : Hp := ⟨fun n => if n = b then (h.blk a).map (mapB (rnc a b)) else if n = a then none else (h.blk n).map (mapB (rnc a b)), h.tok⟩

theorem Wkh.ren {c : Nat} {h : Hp} (a b : Nat) (hab : a ≠ b) : Wkh c c h (h.ren a b) (mapV (rnc a b)) := by
  refine ⟨Nat.le_refl _, fun E B w H hu => ?_⟩
  have hM := rn_map E a b
  have get : ∀ n bl, (h.ren a b).blk n = some bl → ∃ m b0, h.blk m = some b0 ∧ bl = mapB (rnc a b) b0 ∧ m = (if n = b then a else n) ∧ (n ≠ a) := by
    intro n bl hn
    simp only [Hp.ren] at hn
    split at hn
    · rename_i e
      simp only [Option.map_eq_some_iff] at hn
      obtain ⟨b0, h1, h2⟩ := hn
      exact ⟨a, b0, h1, h2.symm, by rw [if_pos e], fun q => hab (q.symm.trans e)⟩
    · rename_i e
      split at hn
      · cases hn
      · rename_i e2
        simp only [Option.map_eq_some_iff] at hn
        obtain ⟨b0, h1, h2⟩ := hn
        exact ⟨n, b0, h1, h2.symm, by rw [if_neg e], e2⟩
  refine ⟨E, .refl E, ⟨H.K, ?_, ?_, H.tu, H.tk, ?_, ?_, H.tt⟩, fun _ _ _ => rfl, fun _ h => h, fun x v hv => hM.relV hv⟩
  · intro n bl hn
    obtain ⟨m, b0, h0, rfl, _⟩ := get n bl hn
    exact H.bu m b0 h0
  · intro n bl hn
    obtain ⟨m, b0, h0, rfl, _⟩ := get n bl hn
    exact hM.blkOk (H.bu m b0 h0) (H.bk m b0 h0) (H.bk m b0 h0).noK
  · intro n n' bl bl' hn hb1 hb2
    obtain ⟨m, b0, h0, rfl, e, e'⟩ := get n bl hb1
    obtain ⟨m', b0', h0', rfl, e2, e2'⟩ := get n' bl' hb2
    refine H.bb m m' b0 b0' ?_ h0 h0'
    rw [e, e2]
    intro q
    split at q <;> split at q
    · rename_i q1 q2; exact hn (q1.trans q2.symm)
    · exact e2' q.symm
    · exact e' q
    · exact hn q
  · intro n n' bl t hb1 ht
    obtain ⟨m, b0, h0, rfl, _⟩ := get n bl hb1
    exact H.bt m n' b0 t h0 ht

end Go.Gv

/- Contracts of functions that change memory: what stays. No condition beyond those that each law names. -/
set_option linter.unusedVariables false
set_option linter.unusedSimpArgs false
namespace Go.Gv

/-- But for the names L all is as it was. -/
structure Fr (L : Nat → Bool) (S S' : St) : Prop where
  t : S'.t = S.t
  b : ∀ n, L n = false → S'.blk n = S.blk n
  k : ∀ n, L n = false → S'.tok n = S.tok n
  c : S.clk ≤ S'.clk
theorem Fr.refl (L : Nat → Bool) (S : St) : Fr L S S := ⟨rfl, fun _ _ => rfl, fun _ _ => rfl, Nat.le_refl _⟩
theorem Fr.trans {L : Nat → Bool} {S S' S'' : St} (h : Fr L S S') (k : Fr L S' S'') : Fr L S S'' :=
  ⟨k.t.trans h.t, fun n hn => (k.b n hn).trans (h.b n hn), fun n hn => (k.k n hn).trans (h.k n hn), Nat.le_trans h.c k.c⟩
theorem Fr.mono {L L' : Nat → Bool} (hl : ∀ n, L' n = false → L n = false) {S S' : St} (h : Fr L S S') : Fr L' S S' :=
  ⟨h.t, fun n hn => h.b n (hl n hn), fun n hn => h.k n (hl n hn), h.c⟩

/-- The blocks, tokens and the clock but for the names L (the slots are not looked at). -/
structure Fh (L : Nat → Bool) (S S' : St) : Prop where
  b : ∀ n, L n = false → S'.blk n = S.blk n
  k : ∀ n, L n = false → S'.tok n = S.tok n
  c : S.clk ≤ S'.clk
theorem Fh.refl (L : Nat → Bool) (S : St) : Fh L S S := ⟨fun _ _ => rfl, fun _ _ => rfl, Nat.le_refl _⟩
theorem Fh.trans {L : Nat → Bool} {S S' S'' : St} (h : Fh L S S') (k : Fh L S' S'') : Fh L S S'' :=
  ⟨fun n hn => (k.b n hn).trans (h.b n hn), fun n hn => (k.k n hn).trans (h.k n hn), Nat.le_trans h.c k.c⟩
theorem Fr.h {L : Nat → Bool} {S S' : St} (h : Fr L S S') : Fh L S S' := ⟨h.b, h.k, h.c⟩
theorem Fh.r {L : Nat → Bool} {S S' : St} (h : Fh L S S') (ht : S'.t = S.t) : Fr L S S' := ⟨ht, h.b, h.k, h.c⟩

theorem upd_out {α : Type} {L : Nat → Bool} {n : Nat} (hn : L n = false) {f : Nat → α} {i : Nat} {v : α} (hi : L i = true) : upd f i v n = f n :=
  upd_ne _ _ _ _ (fun e => by subst e; rw [hn] at hi; cases hi)
theorem Fh.step {L : Nat → Bool} {S S' : St} (h : Fh L S S') {t : Nat → AV} {b : Nat → Option Blk} {k : Nat → Option Tok} {c : Nat} (hb : ∀ n, L n = false → b n = S'.blk n) (hk : ∀ n, L n = false → k n = S'.tok n) (hc : S'.clk ≤ c) :
    Fh L S ⟨t, b, k, c⟩ := ⟨fun n hn => (hb n hn).trans (h.b n hn), fun n hn => (hk n hn).trans (h.k n hn), Nat.le_trans h.c hc⟩
theorem Fh.here {L : Nat → Bool} {S : St} {t : Nat → AV} {b : Nat → Option Blk} {k : Nat → Option Tok} {c : Nat} (hb : ∀ n, L n = false → b n = S.blk n) (hk : ∀ n, L n = false → k n = S.tok n) (hc : S.clk ≤ c) :
    Fh L S ⟨t, b, k, c⟩ := (Fh.refl L S).step hb hk hc

section
variable {k : IntKind} {n : Int} {b : Bool} {cs xs : List AV} {s : ByteArray} {nm st sz i off len o : Nat} {f : FuncId} {v : AV}
@[simp] theorem setCells_int : setCells (.int k n) o [v] = v := rfl
@[simp] theorem setCells_bool : setCells (.bool b) o [v] = v := rfl
@[simp] theorem setCells_str : setCells (.str s) o [v] = v := rfl
@[simp] theorem setCells_nils : setCells .nils o [v] = v := rfl
@[simp] theorem setCells_nilp : setCells .nilp o [v] = v := rfl
@[simp] theorem setCells_nilf : setCells .nilf o [v] = v := rfl
@[simp] theorem setCells_lst : setCells (.lst sz xs) o [v] = v := rfl
@[simp] theorem setCells_acc : setCells (.acc nm st sz xs) o [v] = v := rfl
@[simp] theorem setCells_sl : setCells (.sl nm st sz off len) o [v] = v := rfl
@[simp] theorem setCells_ptr : setCells (.ptr nm st sz i off) o [v] = v := rfl
@[simp] theorem setCells_kp : setCells (.kp cs off) o [v] = v := rfl
@[simp] theorem setCells_fn : setCells (.fn f cs) o [v] = v := rfl
end

theorem max_if (p q : Int) : (if q > p then q else p) = max p q := by rw [Int.max_def]; split <;> split <;> omega
theorem min_if (p q : Int) : (if q < p then q else p) = min p q := by rw [Int.min_def]; split <;> split <;> omega
@[simp] theorem mmI_nil (mx : Bool) (k : IntKind) (p : Int) : mmI mx k p [] = some p := rfl
@[simp] theorem mmI_max (k : IntKind) (p q : Int) (l : List AV) : mmI true k p (.int k q :: l) = mmI true k (max p q) l := by simp only [mmI, if_true, max_if]
@[simp] theorem mmI_min (k : IntKind) (p q : Int) (l : List AV) : mmI false k p (.int k q :: l) = mmI false k (min p q) l := by simp only [mmI, if_true, Bool.false_eq_true, if_false, min_if]

/-- The names of one function (or of some that follow one another). -/
def rng (a b : Nat) (n : Nat) : Bool := decide (a ≤ n) && decide (n < b)
end Go.Gv

/- Calls whose arguments are closed but for a coercion in depth (nil for an empty list in a list). -/
namespace Go.Gv
section
variable {E : Env} {B : Nat} {h : Hp} {w : World}
theorem dcl_list {K : Nat → Nat → Option Value} {blk : Nat → Option Blk} {d : Nat} (ih : ∀ (x y : AV) (v : Value), dco blk d x y → Rel E x v → Rel (envK (K)) y v)
    {xs ys : List AV} {b o sz cap : Nat} (f : Nat → Nat → Value) (hcap : xs.length ≤ cap) (hsz : ∀ x ∈ xs, x.cells.length = sz)
    (hk : ∀ i j : Nat, i < xs.length → j < sz → K b (o + i * sz + j) = some (f i j))
    (h1 : ∀ (i : Nat) (x : AV), xs[i]? = some x → ∀ (j : Nat) (y : AV), x.cells[j]? = some y → y.one = true)
    (hr : ∀ (i : Nat) (x : AV), xs[i]? = some x → ∀ (j : Nat) (y : AV), x.cells[j]? = some y → Rel E y (f i j))
    (hc : coL (elemR (dco blk d)) xs ys) : Rel (envK (K)) (.lst sz ys) (.slice (some ⟨b, o, none⟩) xs.length cap) := by
  obtain ⟨e1, e2⟩ := coL_get hc
  have pair : ∀ (i : Nat) (y : AV), ys[i]? = some y → ∃ x, xs[i]? = some x ∧ elemR (dco blk d) x y := by
    intro i y hy
    obtain ⟨x, hx⟩ : ∃ x, xs[i]? = some x := ⟨_, List.getElem?_eq_getElem (by rw [e1]; exact (List.getElem?_eq_some_iff.1 hy).1)⟩
    exact ⟨x, hx, e2 i x y hx hy⟩
  have ones : ∀ (i : Nat) (x : AV), xs[i]? = some x → ∀ z ∈ x.cells, z.one = true := by
    intro i x hx z hz
    obtain ⟨j, hj⟩ := List.getElem?_of_mem hz
    exact h1 i x hx j z hj
  have cell : ∀ (i : Nat) (y : AV), ys[i]? = some y → ∀ (j : Nat) (q : AV), y.cells[j]? = some q → ∃ p x, xs[i]? = some x ∧ x.cells[j]? = some p ∧ dco blk d p q := by
    intro i y hy j q hq
    obtain ⟨x, hx, hxy⟩ := pair i y hy
    obtain ⟨c1, c2⟩ := elemR_cells hxy (ones i x hx)
    obtain ⟨p, hp⟩ : ∃ p, x.cells[j]? = some p := ⟨_, List.getElem?_eq_getElem (by rw [c1]; exact (List.getElem?_eq_some_iff.1 hq).1)⟩
    exact ⟨p, x, hx, hp, c2 j p q hp hq⟩
  rw [e1]
  refine Rel.lst ys b o sz cap f (by rw [← e1]; exact hcap) ?_ ?_ ?_ ?_
  · intro y hy
    obtain ⟨i, hi⟩ := List.getElem?_of_mem hy
    obtain ⟨x, hx, hxy⟩ := pair i y hi
    rw [← (elemR_cells hxy (ones i x hx)).1]
    exact hsz x (List.mem_of_getElem? hx)
  · intro i j hi hj
    exact hk i j (by rw [e1]; exact hi) hj
  · intro i y hy j q hq
    obtain ⟨p, x, hx, hp, hpq⟩ := cell i y hy j q hq
    exact dco_one d hpq (h1 i x hx j p hp)
  · intro i y hy j q hq
    obtain ⟨p, x, hx, hp, hpq⟩ := cell i y hy j q hq
    exact ih p q _ hpq (hr i x hx j p hp)


theorem dcc_rel : ∀ (d : Nat) (x y : AV) (v : Value), dco (fun _ => none) d x y → (∀ b o u, E.K b o = some u → w.cell? ⟨b, o, none⟩ = some u) → Rel E x v → Rel (envK E.K) y v := by
  have base : ∀ (x y : AV) (v : Value), co1 none x y → (∀ b o u, E.K b o = some u → w.cell? ⟨b, o, none⟩ = some u) → Rel E x v → Rel (envK E.K) y v := by
    intro x y v hc hK hr
    have H : HConc E w.heap.size ⟨fun _ => none, fun _ => none⟩ w := ⟨hK, by simp, by simp, by simp, by simp, by simp, by simp, by simp⟩
    exact co1_rel H (K := E.K) ⟨fun _ _ _ q => q, by simp⟩ (by simp) hc hr
  have lsts : ∀ (d : Nat), (∀ (x y : AV) (v : Value), dco (fun _ => none) d x y → Rel E x v → Rel (envK E.K) y v) → ∀ (s : Nat) (xs ys : List AV) (v : Value), Rel E (.lst s xs) v → (xs = ys ∨ coL (elemR (dco (fun _ => none) d)) xs ys) → Rel (envK E.K) (.lst s ys) v := by
    intro d ih s xs ys v hr hc
    rcases hc with rfl | hc
    · exact lst_envK (K := E.K) (fun _ _ _ q => q) hr
    · cases hr with
      | lst0 _ a cap =>
        cases ys with
        | nil => exact .lst0 _ _ _
        | cons y ys => exact hc.elim
      | lst _ b o _ cap f hcap hsz hk h1 hr =>
        exact dcl_list ih f hcap hsz hk h1 (fun i x hx j y hy => (hr i x hx j y hy).mono (Env.cl_le E)) hc
  intro d
  induction d with
  | zero => exact base
  | succ d ih =>
    intro x y v hc hK hr
    have ih' := fun (x y : AV) (v : Value) q r => ih x y v q hK r
    unfold dco at hc
    split at hc
    · subst hc; rw [hr.nils_inv]; exact .lst0 _ _ _
    · obtain ⟨rfl, hc⟩ := hc
      exact lsts d ih' _ _ _ v hr hc
    · obtain ⟨rfl, hc⟩ := hc
      cases hr with
      | acc _ _ _ _ _ _ _ hl => exact lsts d ih' _ _ _ v hl hc
    · obtain ⟨_, es, hes, _⟩ := hc
      exact absurd hes (by simp [getB])
    · exact base x y v hc hK hr
theorem dccE_rel (d : Nat) (x y : AV) (v : Value) (hc : elemR (dco (fun _ => none) d) x y) (hK : ∀ b o u, E.K b o = some u → w.cell? ⟨b, o, none⟩ = some u) (hr : Rel E x v) : Rel (envK E.K) y v := by
  unfold elemR at hc
  split at hc
  · rename_i xs ys
    obtain ⟨e1, e2⟩ := coL_get hc
    cases hr with
    | agg _ vs hs h1 hr =>
      have pair : ∀ (j : Nat) (y : AV), ys[j]? = some y → ∃ x, xs[j]? = some x ∧ dco (fun _ => none) d x y := by
        intro j y hy
        obtain ⟨x, hx⟩ : ∃ x, xs[j]? = some x := ⟨_, List.getElem?_eq_getElem (by rw [e1]; exact (List.getElem?_eq_some_iff.1 hy).1)⟩
        exact ⟨x, hx, e2 j x y hx hy⟩
      refine .agg ys vs (by rw [← e1]; exact hs) (fun j y hy => ?_) (fun j y u hy hu => ?_)
      · obtain ⟨x, hx, hxy⟩ := pair j y hy
        exact dco_one d hxy (h1 j x hx)
      · obtain ⟨x, hx, hxy⟩ := pair j y hy
        exact dcc_rel d x y u hxy hK (hr j x u hx hu)
  · exact dcc_rel d _ _ v hc hK hr
end
theorem pcall_deep {P : Program} {f : FuncId} {cargs : List AV} {r : AV} (h : PC P f cargs r) (d : Nat) {caps vals : List AV} (hco : coL (elemR (dco (fun _ => none) d)) (vals ++ caps) cargs) : PCallP P (.fn f caps) vals r := by
  obtain ⟨hent, hc⟩ := h
  refine ⟨f, caps, rfl, hent, fun E w args hK hsz hrel => ?_⟩
  obtain ⟨e1, e2⟩ := coL_get hco
  refine hc E.K w args hK (by rw [hsz, e1]) ?_
  intro j y u hy hu
  obtain ⟨x, hx⟩ : ∃ x, (vals ++ caps)[j]? = some x := ⟨_, List.getElem?_eq_getElem (by rw [e1]; exact (List.getElem?_eq_some_iff.1 hy).1)⟩
  exact dccE_rel (w := w) d x y u (e2 j x y hx hy) hK (hrel j x u hx hu)
/-- A call whose arguments fit in depth d. -/
theorem callC {P : Program} {f : FuncId} {cargs : List AV} {r : AV} (h : PC P f cargs r) (d : Nat) {caps vals : List AV} {S : St} {k : AV → St → Prop} {u : Dep k} (hco : coL (elemR (dco (fun _ => none) d)) (vals ++ caps) cargs) (hk : k r S) : CallG P (.fn f caps) vals S k u :=
  CallP_of_PCallP (pcall_deep h d hco) hk
theorem calldC {P : Program} {f : FuncId} {cargs : List AV} {r : AV} (h : PC P f cargs r) (d : Nat) {caps vals : List AV} {blk : Nat → Option Blk} {k : Eff → Prop} {u : Dep k} (hco : coL (elemR (dco (fun _ => none) d)) (vals ++ caps) cargs) (hk : k ⟨r, [], []⟩) : callD P (.fn f caps) vals blk k u :=
  ⟨_, .pure (pcall_deep h d hco) blk, hk⟩
end Go.Gv

/- Drawn regions whose last operation waits for all others, and may change memory. No condition beyond those that each law names. -/
set_option linter.unusedVariables false
set_option linter.unusedSimpArgs false
namespace Go.Gv
theorem drawn_step {P : Program} {pre : List (List Nat)} {st0 : Nat} {ais : List AI} {es : List Eff} {S0 : St} {k : St → Prop} (hS : Shown P pre st0 ais es S0 k) (D : Nat → Bool)
    (hcl : ∀ i, D i = true → ∀ p ∈ pre.getD i [], D p = true) (j : Nat) (ai : AI) (hai : ais[j]? = some ai) (hjf : D j = false) (hpreD : ∀ p ∈ pre.getD j [], D p = true) :
    ∃ e : Eff, stepV P (st0 + j) ai (foldS D 0 (ais.zip es) S0) (fun S' => S' = foldS (fun i => (i == j) || D i) 0 (ais.zip es) S0) := by
  have hjl : j < ais.length := (List.getElem?_eq_some_iff.1 hai).1
  obtain ⟨e, he⟩ : ∃ e, es[j]? = some e := ⟨_, List.getElem?_eq_getElem (by rw [hS.len]; omega)⟩
  have hout := hS.out j ai e hai he
  have getz : ∀ (m : Nat) (p : AI × Eff), (ais.zip es)[m]? = some p → ais[m]? = some p.1 ∧ es[m]? = some p.2 := by
    intro m p hp
    rw [List.getElem?_zip_eq_some] at hp
    exact hp
  have apartAt : ∀ (m : Nat) (p : AI × Eff), (ais.zip es)[m]? = some p → m ≠ j → (D m ≠ decide (m < j)) →
      Apart p.1 ai (fpOf (foldS (fun i => decide (i < m)) 0 (ais.zip es) S0).t p.1 p.2) (fpOf (foldS (fun i => decide (i < j)) 0 (ais.zip es) S0).t ai e) ∨
      Apart ai p.1 (fpOf (foldS (fun i => decide (i < j)) 0 (ais.zip es) S0).t ai e) (fpOf (foldS (fun i => decide (i < m)) 0 (ais.zip es) S0).t p.1 p.2) := by
    intro m p hp hne hdiff
    obtain ⟨g1, g2⟩ := getz m p hp
    rcases Nat.lt_or_gt_of_ne hne with hlt | hgt
    · refine .inl (hS.apart m j p.1 ai p.2 e hlt g1 hai g2 he (fun q => ?_))
      rw [hpreD m q] at hdiff
      simp [hlt] at hdiff
    · refine .inr (hS.apart j m ai p.1 e p.2 hgt hai g1 he g2 (fun q => ?_))
      have hm : D m = true := by
        cases hx : D m with
        | true => rfl
        | false => rw [hx] at hdiff; simp at hdiff; omega
      have := hcl m hm j q
      rw [hjf] at this; cases this
  have hdif : ∀ m, m ≠ j → decide (decide (m < j) = D m) = false → D m ≠ decide (m < j) := by
    intro m _ hq
    simp only [decide_eq_false_iff_not] at hq; exact fun q => hq q.symm
  have hout' : Out P (foldS D 0 (ais.zip es) S0) (st0 + j) ai e := by
    refine hout.congr ?_ ?_ ?_
    · intro x hx
      refine agree_t x _ 0 _ _ rfl (fun m p hp hd => ?_)
      simp only [Nat.zero_add]
      by_cases hm : m = j
      · subst hm; rw [hjf]; simp
      · cases hq : decide (decide (m < j) = D m) with
        | true => simpa using hq
        | false =>
          rcases apartAt m p hp hm (hdif m hm hq) with q | q
          · exact absurd hx (q.s1 x hd)
          · exact absurd hx (q.s3 x hd)
    · intro x hx
      refine agree_b x _ 0 _ _ rfl (fun m p hp hd => ?_)
      simp only [Nat.zero_add]
      by_cases hm : m = j
      · subst hm; rw [hjf]; simp
      · cases hq : decide (decide (m < j) = D m) with
        | true => simpa using hq
        | false =>
          rcases apartAt m p hp hm (hdif m hm hq) with q | q
          · exact absurd hx (disj_mem q.b1 hd)
          · exact absurd hd (disj_mem q.b3 hx)
    · intro x hx
      refine agree_k x _ 0 _ _ rfl (fun m p hp hd => ?_)
      simp only [Nat.zero_add]
      by_cases hm : m = j
      · subst hm; rw [hjf]; simp
      · cases hq : decide (decide (m < j) = D m) with
        | true => simpa using hq
        | false =>
          rcases apartAt m p hp hm (hdif m hm hq) with q | q
          · exact absurd hx (disj_mem q.t1 hd)
          · exact absurd hd (disj_mem q.t3 hx)
  have hins : (foldS D 0 (ais.zip es) S0).app ai.dst e = foldS (fun i => (i == j) || D i) 0 (ais.zip es) S0 := by
    refine foldS_insert j ai e hjf (by simp) (fun i hi => by simp [hi]) _ 0 S0 (Nat.zero_le _) ?_ ?_
    · rw [Nat.sub_zero, List.getElem?_zip_eq_some]; exact ⟨hai, he⟩
    · intro m p hm hD hp
      rw [Nat.sub_zero] at hp
      obtain ⟨g1, g2⟩ := getz m p hp
      have hapm := hS.apart j m ai p.1 e p.2 hm hai g1 he g2 (fun q => by have := hcl m hD j q; rw [hjf] at this; cases this)
      exact ⟨hapm.s2, hapm.b2, hapm.t2⟩
  refine ⟨e, ?_⟩
  rw [← hins]
  unfold Out at hout'
  unfold stepV
  split at hout'
  · rename_i b hb
    simp only [hb]
    split at hout'
    · rename_i hbt
      rw [if_pos hbt]
      unfold runV
      cases hk : ai.k with
      | op ao => rw [hk] at hout'; simp only at hout' ⊢; rw [hout']
      | nq kd neg x => rw [hk] at hout'; simp only at hout' ⊢; rw [hout']
      | call fx l =>
        rw [hk] at hout'
        simp only at hout' ⊢
        refine (hout' _ (fun _ _ => rfl)).weaken ?_
        rintro r S' ⟨rfl, rfl⟩
        cases ai.dst <;> rfl
    · rename_i hbt
      rw [if_neg hbt, hout']
      cases ai.dst <;> rfl
  · exact hout'.elim

theorem regI_last {P : Program} {pre : List (List Nat)} {st0 : Nat} {ops : List AI} {last : AI} {k : St → Prop} {S0 : St} (hp : ((List.range ops.length).all fun i => (pre.getD ops.length []).contains i) = true)
    (h : regDV P pre st0 0 ops [] (fun S' => stepV P (st0 + ops.length) last S' k) S0) : regI P pre st0 (ops ++ [last]) k S0 := by
  obtain ⟨es, hS⟩ := shown_of P pre st0 S0 _ ops [] [] [] S0 rfl rfl rfl (by simp) (by simp) (by simp) (by simpa using h)
  simp only [List.nil_append] at hS
  have hpn : ∀ i, i < ops.length → i ∈ pre.getD ops.length [] := by
    intro i hi
    have := List.all_eq_true.1 hp i (List.mem_range.2 hi)
    simpa using this
  refine ⟨fun D S => (D ops.length = false ∧ S = foldS D 0 (ops.zip es) S0) ∨ (D ops.length = true ∧ k S), .inl ⟨rfl, (foldS_none _ _ _ (fun _ _ => rfl)).symm⟩, ?_, ?_⟩
  · intro D S' j ai hj hDj hpre hcl hI
    by_cases hjl : j < ops.length
    · rw [List.getElem?_append_left hjl] at hj
      rcases hI with ⟨h1, rfl⟩ | ⟨h1, h2⟩
      · obtain ⟨e, hs⟩ := drawn_step hS D hcl j ai hj hDj hpre
        refine stepV_mono ?_ hs
        rintro S'' rfl
        refine .inl ⟨?_, rfl⟩
        simp [h1]; omega
      · have := hcl _ h1 j (hpn j hjl)
        rw [hDj] at this; cases this
    · have hjn : j = ops.length := by
        have := (List.getElem?_eq_some_iff.1 hj).1
        simp at this; omega
      subst hjn
      rw [List.getElem?_append_right (Nat.le_refl _)] at hj
      simp at hj
      subst hj
      rcases hI with ⟨h1, rfl⟩ | ⟨h1, h2⟩
      · have e : foldS D 0 (ops.zip es) S0 = foldS (fun _ => true) 0 (ops.zip es) S0 := foldS_congr _ _ _ (fun i _ hi => by
          simp [hS.len] at hi
          exact hpre i (hpn i hi))
        rw [e]
        exact stepV_mono (fun S'' q => .inr ⟨by simp, q⟩) hS.fin
      · rw [hDj] at h1; cases h1
  · intro D S' hD hI
    rcases hI with ⟨h1, _⟩ | ⟨_, h2⟩
    · have := hD ops.length (by simp)
      rw [h1] at this; cases this
    · exact h2
/-- The rule, for a walk: the last operation by itself behind the others. -/
theorem regi_last {P : Program} {pre : List (List Nat)} {st0 : Nat} {all : List AI} {S0 : St} {k : St → Prop} {u : Dep k} (ops : List AI) (last : AI) (he : all = ops ++ [last])
    (hp : ((List.range ops.length).all fun i => (pre.getD ops.length []).contains i) = true) (h : regDG P pre st0 0 ops [] S0 (fun S' => regG P (st0 + ops.length) [last] S' k .mk) .mk) : regIG P pre st0 all S0 k u := by
  subst he
  exact regI_last hp h
theorem regi_end {P : Program} {pre : List (List Nat)} {st0 : Nat} {all : List AI} {S0 : St} {k : St → Prop} {u : Dep k} (hne : all ≠ [])
    (hp : ((List.range (all.length - 1)).all fun i => (pre.getD (all.length - 1) []).contains i) = true) (h : regDG P pre st0 0 all.dropLast [] S0 (fun S' => regG P (st0 + (all.length - 1)) [all.getLast hne] S' k .mk) .mk) : regIG P pre st0 all S0 k u :=
  regi_last all.dropLast (all.getLast hne) (List.dropLast_concat_getLast hne).symm (by rw [List.length_dropLast]; exact hp) (by rw [List.length_dropLast]; exact h)

/-! ### Regions by an invariant -/

/-- The slots that are written, each with what it comes to: those of the done ones hold it. -/
def SF (tbl : List (Nat × AV)) (D : Nat → Bool) (S : St) : Prop := ∀ (j d : Nat) (v : AV), tbl[j]? = some (d, v) → D j = true → S.t d = v
theorem SF.start (tbl : List (Nat × AV)) (S : St) : SF tbl (fun _ => false) S := fun _ _ _ _ h => by cases h
theorem SF.ins {tbl : List (Nat × AV)} {D : Nat → Bool} {S S' : St} (h : SF tbl D S) (hn : (tbl.map (·.1)).Nodup) {j d : Nat} {v : AV} (hj : tbl[j]? = some (d, v)) (hd : S'.t d = v) (ho : ∀ x, x ≠ d → S'.t x = S.t x) : SF tbl (fun i => (i == j) || D i) S' := by
  intro j' d' v' h' hD
  by_cases e : j' = j
  · subst e
    rw [hj] at h'; cases h'
    exact hd
  · have hD' : D j' = true := by simpa [e] using hD
    rw [ho d' ?_]
    · exact h j' d' v' h' hD'
    · rintro rfl
      have e1 : (tbl.map (·.1))[j]? = some d' := by rw [List.getElem?_map, hj]; rfl
      have e2 : (tbl.map (·.1))[j']? = some d' := by rw [List.getElem?_map, h']; rfl
      obtain ⟨l1, q1⟩ := List.getElem?_eq_some_iff.1 e1
      obtain ⟨l2, q2⟩ := List.getElem?_eq_some_iff.1 e2
      rcases Nat.lt_or_gt_of_ne e with hlt | hgt
      · exact List.pairwise_iff_getElem.1 hn j' j l2 l1 hlt (by rw [q1, q2])
      · exact List.pairwise_iff_getElem.1 hn j j' l1 l2 hgt (by rw [q1, q2])
theorem SF.keep {tbl : List (Nat × AV)} {D : Nat → Bool} {S S' : St} (h : SF tbl D S) {j : Nat} (hj : tbl[j]? = none) (ho : S'.t = S.t) : SF tbl (fun i => (i == j) || D i) S' := by
  intro j' d' v' h' hD
  by_cases e : j' = j
  · subst e; rw [hj] at h'; cases h'
  · rw [ho]; exact h j' d' v' h' (by simpa [e] using hD)
theorem stepV_op {P : Program} {st : Nat} {d : Option Nat} {op : AOp} {S : St} {k : St → Prop} (e : Eff) (h : ex S.t S.blk S.tok st op = some e) (hk : k (S.app d e)) : stepV P st ⟨d, none, .op op⟩ S k := by
  simp only [stepV, guardV, if_true, runV, h]
  exact hk
theorem stepV_call {P : Program} {st : Nat} {d : Option Nat} {fx : X} {l : List X} {S : St} {k : St → Prop} (h : CallG P (fx.ev S.t) (l.map (·.ev S.t)) S (fun r S' => k (S'.put d r)) .mk) : stepV P st ⟨d, none, .call fx l⟩ S k := by
  simp only [stepV, guardV, if_true, runV]
  exact h
end Go.Gv

/- All that is known at a point may be taken as fixed from there on: mutable blocks become plain lists. No condition beyond those that each law names. -/
set_option linter.unusedVariables false
set_option linter.unusedSimpArgs false
namespace Go.Gv
section
variable {E : Env} {B : Nat} {h : Hp} {w : World}

/-- A list's elements, one by one. -/
theorem dcoK_list {K : Nat → Nat → Option Value} {blk : Nat → Option Blk} {d : Nat} (ih : ∀ (x y : AV) (v : Value), dco blk d x y → Rel E x v → Rel (envK K) y v)
    {xs ys : List AV} {b o sz cap : Nat} (f : Nat → Nat → Value) (hcap : xs.length ≤ cap) (hsz : ∀ x ∈ xs, x.cells.length = sz)
    (hk : ∀ i j : Nat, i < xs.length → j < sz → K b (o + i * sz + j) = some (f i j))
    (h1 : ∀ (i : Nat) (x : AV), xs[i]? = some x → ∀ (j : Nat) (y : AV), x.cells[j]? = some y → y.one = true)
    (hr : ∀ (i : Nat) (x : AV), xs[i]? = some x → ∀ (j : Nat) (y : AV), x.cells[j]? = some y → Rel E y (f i j))
    (hc : coL (elemR (dco blk d)) xs ys) : Rel (envK K) (.lst sz ys) (.slice (some ⟨b, o, none⟩) xs.length cap) := by
  obtain ⟨e1, e2⟩ := coL_get hc
  have pair : ∀ (i : Nat) (y : AV), ys[i]? = some y → ∃ x, xs[i]? = some x ∧ elemR (dco blk d) x y := by
    intro i y hy
    obtain ⟨x, hx⟩ : ∃ x, xs[i]? = some x := ⟨_, List.getElem?_eq_getElem (by rw [e1]; exact (List.getElem?_eq_some_iff.1 hy).1)⟩
    exact ⟨x, hx, e2 i x y hx hy⟩
  have ones : ∀ (i : Nat) (x : AV), xs[i]? = some x → ∀ z ∈ x.cells, z.one = true := by
    intro i x hx z hz
    obtain ⟨j, hj⟩ := List.getElem?_of_mem hz
    exact h1 i x hx j z hj
  have cell : ∀ (i : Nat) (y : AV), ys[i]? = some y → ∀ (j : Nat) (q : AV), y.cells[j]? = some q → ∃ p x, xs[i]? = some x ∧ x.cells[j]? = some p ∧ dco blk d p q := by
    intro i y hy j q hq
    obtain ⟨x, hx, hxy⟩ := pair i y hy
    obtain ⟨c1, c2⟩ := elemR_cells hxy (ones i x hx)
    obtain ⟨p, hp⟩ : ∃ p, x.cells[j]? = some p := ⟨_, List.getElem?_eq_getElem (by rw [c1]; exact (List.getElem?_eq_some_iff.1 hq).1)⟩
    exact ⟨p, x, hx, hp, c2 j p q hp hq⟩
  rw [e1]
  refine Rel.lst ys b o sz cap f (by rw [← e1]; exact hcap) ?_ ?_ ?_ ?_
  · intro y hy
    obtain ⟨i, hi⟩ := List.getElem?_of_mem hy
    obtain ⟨x, hx, hxy⟩ := pair i y hi
    rw [← (elemR_cells hxy (ones i x hx)).1]
    exact hsz x (List.mem_of_getElem? hx)
  · intro i j hi hj
    exact hk i j (by rw [e1]; exact hi) hj
  · intro i y hy j q hq
    obtain ⟨p, x, hx, hp, hpq⟩ := cell i y hy j q hq
    exact dco_one d hpq (h1 i x hx j p hp)
  · intro i y hy j q hq
    obtain ⟨p, x, hx, hp, hpq⟩ := cell i y hy j q hq
    exact ih p q _ hpq (hr i x hx j p hp)

theorem dcoK_rel {K : Nat → Nat → Option Value} (H : HConc E B h w) (kn1 : Knows E B w K true) : ∀ (d : Nat) (x y : AV) (v : Value), dco h.blk d x y → Rel E x v → Rel (envK K) y v := by
  have kn : Knows E B w K (none : Option (Nat → Option Blk)).isSome := ⟨kn1.K, by simp⟩
  have base : ∀ (x y : AV) (v : Value), co1 none x y → Rel E x v → Rel (envK K) y v := fun x y v hc hr => co1_rel H kn (by simp) hc hr
  have lsts : ∀ (d : Nat), (∀ (x y : AV) (v : Value), dco h.blk d x y → Rel E x v → Rel (envK K) y v) → ∀ (s : Nat) (xs ys : List AV) (v : Value), Rel E (.lst s xs) v → (xs = ys ∨ coL (elemR (dco h.blk d)) xs ys) → Rel (envK K) (.lst s ys) v := by
    intro d ih s xs ys v hr hc
    rcases hc with rfl | hc
    · exact lst_envK (K := K) kn1.K hr
    · cases hr with
      | lst0 _ a cap =>
        cases ys with
        | nil => exact .lst0 _ _ _
        | cons y ys => exact hc.elim
      | lst _ b o _ cap f hcap hsz hk h1 hr =>
        exact dcoK_list ih f hcap hsz (fun i j hi hj => kn1.K _ _ _ (hk i j hi hj)) h1 (fun i x hx j y hy => (hr i x hx j y hy).mono (Env.cl_le E)) hc
  intro d
  induction d with
  | zero => exact base
  | succ d ih =>
    intro x y v hc hr
    unfold dco at hc
    split at hc
    · subst hc; rw [hr.nils_inv]; exact .lst0 _ _ _
    · obtain ⟨rfl, hc⟩ := hc
      exact lsts d ih _ _ _ v hr hc
    · obtain ⟨rfl, hc⟩ := hc
      cases hr with
      | acc _ _ _ _ _ _ _ hl => exact lsts d ih _ _ _ v hl hc
    · rename_i nm st s off len s' ys
      obtain ⟨rfl, es, hes, hle, hc⟩ := hc
      have hbs := getB_some hes
      have hbk := (H.bk nm _ hbs).r (getB_pos hes)
      obtain ⟨cur, e, hg, hsz, hrow⟩ := hbk.row
      simp only at hg hsz hrow
      cases hr with
      | sl _ _ _ _ _ cap a hu hcap hc' ha =>
        have hlen : ((es.drop off).take len).length = len := by simp; omega
        by_cases hl0 : len = 0
        · subst hl0
          rw [List.take_zero] at hc
          cases ys with
          | nil => exact .lst0 _ _ _
          | cons y ys => exact hc.elim
        · rw [ha (by omega)]
          have hidx : ∀ (i : Nat) (z : AV), ((es.drop off).take len)[i]? = some z → i < len ∧ es[off + i]? = some z := by
            intro i z hz
            rw [List.getElem?_take] at hz
            split at hz
            · rename_i hi; rw [List.getElem?_drop] at hz; exact ⟨hi, hz⟩
            · cases hz
          have hel : ∀ z ∈ (es.drop off).take len, ElemOk s z := fun z hz => hbk.el z (List.mem_of_mem_drop (List.mem_of_mem_take hz))
          have cell : ∀ (i : Nat) (z : AV), ((es.drop off).take len)[i]? = some z → ∀ (j : Nat) (q : AV), z.cells[j]? = some q →
              ∃ u, w.cell? ⟨(E.m st).1, (E.m st).2 + off * s + i * s + j, none⟩ = some u ∧ Rel E q u := by
            intro i z hz j q hq
            obtain ⟨hi, hz'⟩ := hidx i z hz
            obtain ⟨u, hu', hrel⟩ := hrow (off + i) z hz' j q hq
            refine ⟨u, ?_, hrel⟩
            rw [show (E.m st).2 + off * s + i * s + j = (E.m st).2 + (off + i) * s + j by rw [Nat.add_mul]; omega, cell_of_row w _ _ cur e (0, 0) hg]
            exact hu'
          have := dcoK_list (b := (E.m st).1) (o := (E.m st).2 + off * s) (sz := s) (cap := cap) ih (fun i j => (w.cell? ⟨(E.m st).1, (E.m st).2 + off * s + i * s + j, none⟩).getD .nilFunc) (by rw [hlen]; exact hcap) (fun z hz => (hel z hz).1) ?_ ?_ ?_ hc
          · rw [hlen] at this; exact this
          · intro i j hi hj
            obtain ⟨z, hz⟩ : ∃ z, ((es.drop off).take len)[i]? = some z := ⟨_, List.getElem?_eq_getElem hi⟩
            obtain ⟨q, hq⟩ : ∃ q, z.cells[j]? = some q := ⟨_, List.getElem?_eq_getElem (by rw [(hel z (List.mem_of_getElem? hz)).1]; exact hj)⟩
            obtain ⟨u, hu', _⟩ := cell i z hz j q hq
            rw [hu']; exact kn1.rest rfl _ _ _ hbk.base hu'
          · intro i z hz j q hq
            exact (hel z (List.mem_of_getElem? hz)).2 q (List.mem_of_getElem? hq)
          · intro i z hz j q hq
            obtain ⟨u, hu', hrel⟩ := cell i z hz j q hq
            rw [hu']
            exact hrel
    · exact base x y v hc hr
theorem dcoKE_rel {K : Nat → Nat → Option Value} (H : HConc E B h w) (kn1 : Knows E B w K true) (d : Nat) (x y : AV) (v : Value) (hc : elemR (dco h.blk d) x y) (hr : Rel E x v) : Rel (envK K) y v := by
  unfold elemR at hc
  split at hc
  · rename_i xs ys
    obtain ⟨e1, e2⟩ := coL_get hc
    cases hr with
    | agg _ vs hs h1 hr =>
      have pair : ∀ (j : Nat) (y : AV), ys[j]? = some y → ∃ x, xs[j]? = some x ∧ dco h.blk d x y := by
        intro j y hy
        obtain ⟨x, hx⟩ : ∃ x, xs[j]? = some x := ⟨_, List.getElem?_eq_getElem (by rw [e1]; exact (List.getElem?_eq_some_iff.1 hy).1)⟩
        exact ⟨x, hx, e2 j x y hx hy⟩
      refine .agg ys vs (by rw [← e1]; exact hs) (fun j y hy => ?_) (fun j y u hy hu => ?_)
      · obtain ⟨x, hx, hxy⟩ := pair j y hy
        exact dco_one d hxy (h1 j x hx)
      · obtain ⟨x, hx, hxy⟩ := pair j y hy
        exact dcoK_rel H kn1 d x y u hxy (hr j x u hx hu)
  · exact dcoK_rel H kn1 d _ _ v hc hr
end
/-- What a value becomes where all is fixed. -/
def Frz (blk : Nat → Option Blk) (d : Nat) (x y : AV) : Prop :=
  y = .junk ∨ elemR (dco blk d) x y ∨ ∃ nm st sz i off es e cs, x = .ptr nm st sz i off ∧ sz ≠ 0 ∧ blk nm = some ⟨st, sz, es⟩ ∧ es[i]? = some e ∧ coL (dco blk d) e.cells cs ∧ y = .kp cs off
theorem wk_freeze {S : St} (d : Nat) (T : Nat → AV) (hT : ∀ t, Frz S.blk d (S.t t) (T t)) : Wk S ⟨T, fun _ => none, fun _ => none, S.clk⟩ := by
  refine ⟨Nat.le_refl _, fun E B w H hu => ?_⟩
  let K : Nat → Nat → Option Value := fun b o => if b < B then E.K b o else w.cell? ⟨b, o, none⟩
  have hK : ∀ b o u, E.K b o = some u → K b o = some u := by
    intro b o u q
    show (if b < B then E.K b o else w.cell? ⟨b, o, none⟩) = some u
    split
    · exact q
    · exact H.K b o u q
  have hrest : ∀ b o u, B ≤ b → w.cell? ⟨b, o, none⟩ = some u → K b o = some u := by
    intro b o u hb q
    show (if b < B then E.K b o else w.cell? ⟨b, o, none⟩) = some u
    rw [if_neg (by omega)]; exact q
  have hin : ∀ b o u, K b o = some u → w.cell? ⟨b, o, none⟩ = some u := by
    intro b o u q
    have q' : (if b < B then E.K b o else w.cell? ⟨b, o, none⟩) = some u := q
    split at q'
    · exact H.K b o u q'
    · exact q'
  have kn : Knows E B w K true := ⟨hK, fun _ => hrest⟩
  refine ⟨{ E with K := K }, ⟨hK, fun _ _ => rfl, fun _ _ => rfl, fun _ _ => rfl, fun _ q => q⟩, ⟨hin, fun nm b q => (by cases q), fun nm b q => (by cases q), fun nm b q => (by cases q), fun nm b q => (by cases q), fun nm nm' b b' _ q => (by cases q), fun nm nm' b t q => (by cases q), fun nm nm' t t' g _ q => (by cases q)⟩, fun b o hb => ?_, fun _ q => q, fun t v hr => ?_⟩
  · show (if b < B then E.K b o else w.cell? ⟨b, o, none⟩) = E.K b o
    rw [if_pos hb]
  · show Rel { E with K := K } (T t) v
    rcases hT t with q | q | ⟨nm, st, sz, i, off, es, e, cs, hx, hs0, hb, he, hc, hy⟩
    · rw [q]; exact .junk v
    · exact Rel.of_envK (K := K) (dcoKE_rel H kn d _ _ v q hr) (fun _ _ _ q => q)
    · rw [hx] at hr
      rw [hy]
      have hbk := (H.bk nm _ hb).r hs0
      obtain ⟨cur, c, hg, hsz, hrow⟩ := hbk.row
      simp only at hg hsz hrow
      cases hr with
      | ptr _ _ _ _ _ hu' =>
        obtain ⟨e1, e2⟩ := coL_get hc
        have hel := hbk.el e (List.mem_of_getElem? he)
        have cell : ∀ (j : Nat) (p : AV), e.cells[j]? = some p → ∃ u, w.cell? ⟨(E.m st).1, (E.m st).2 + i * sz + j, none⟩ = some u ∧ Rel E p u := by
          intro j p hp
          obtain ⟨u, hu1, hu2⟩ := hrow i e he j p hp
          refine ⟨u, ?_, hu2⟩
          rw [cell_of_row w _ _ cur c (0, 0) hg]
          exact hu1
        have pair : ∀ (j : Nat) (y : AV), cs[j]? = some y → ∃ p, e.cells[j]? = some p ∧ dco S.h.blk d p y := by
          intro j y hy
          obtain ⟨p, hp⟩ : ∃ p, e.cells[j]? = some p := ⟨_, List.getElem?_eq_getElem (by rw [e1]; exact (List.getElem?_eq_some_iff.1 hy).1)⟩
          exact ⟨p, hp, e2 j p y hp hy⟩
        refine .kp cs off _ _ (fun j => (w.cell? ⟨(E.m st).1, (E.m st).2 + i * sz + j, none⟩).getD .nilFunc) (fun j hj => ?_) (fun j y hy => ?_) (fun j y hy => ?_)
        · obtain ⟨p, hp⟩ : ∃ p, e.cells[j]? = some p := ⟨_, List.getElem?_eq_getElem (by rw [e1]; exact hj)⟩
          obtain ⟨u, hu1, _⟩ := cell j p hp
          rw [hu1]
          exact hrest _ _ _ hbk.base hu1
        · obtain ⟨p, hp, hpy⟩ := pair j y hy
          exact dco_one d hpy (hel.2 p (List.mem_of_getElem? hp))
        · obtain ⟨p, hp, hpy⟩ := pair j y hy
          obtain ⟨u, hu1, hu2⟩ := cell j p hp
          rw [hu1]
          exact Rel.of_envK (K := K) (dcoK_rel H kn d p y u hpy hu2) (fun _ _ _ q => q)
end Go.Gv

/- One cell of a mutable block set. No condition beyond those that each law names. -/
set_option linter.unusedVariables false
set_option linter.unusedSimpArgs false
namespace Go.Gv
open Go.RowKit
theorem setCell_row {w : World} {b p : Nat} {cur : Array Value} {ty : TypeId} (hh : w.heap[b]? = some (.cells cur ty (0, 0))) (v : Value) : w.setCell ⟨b, p, none⟩ v = w.setRow b (cur.setIfInBounds p v) := by
  unfold World.setCell World.setRow
  congr 1
  apply Array.ext_getElem?
  intro k
  rw [Array.getElem?_modify, Array.getElem?_modify]
  by_cases hk : b = k
  · subst hk
    simp [hh]
  · simp [hk]
theorem blk_setCell {B : Nat} {W : World} {E : Env} {h : Hp} {w : World} (H : HConc E B h w) (hW : Below B W w) {nm st sz i off : Nat} {es : List AV} {e x : AV} {vx : Value}
    (hx : Rel E x vx) (hg : getB h.blk nm st sz = some es) (he : es[i]? = some e) (h1 : x.one = true) (hle : off < e.cells.length) :
    HConc E B (h.setB nm (some ⟨st, sz, es.set i (setCells e off [x])⟩)) (w.setCell ⟨(E.m st).1, (E.m st).2 + i * sz + off, none⟩ vx) ∧ Below B W (w.setCell ⟨(E.m st).1, (E.m st).2 + i * sz + off, none⟩ vx) := by
  have hb := getB_some hg
  have hs0 := getB_pos hg
  have hbk := (H.bk nm _ hb).r hs0
  have hbu := H.bu nm _ hb
  obtain ⟨cur, ty, hh, hsz, hr⟩ := hbk.row
  simp only at hh hsz hr hbu
  have hcpl : es.length ≤ E.cp st := hbk.len
  have hsz0 := hsz
  have hsz : (E.m st).2 + es.length * sz ≤ cur.size := by have := Nat.mul_le_mul_right sz hcpl; omega
  have hel : ElemOk sz e := hbk.el e (List.mem_of_getElem? he)
  have hil : i < es.length := (List.getElem?_eq_some_iff.1 he).1
  obtain ⟨q1, q2⟩ := setCells_get e off sz [x] hel (by simp [h1]) (by simp) (by simp; omega)
  simp only [List.length_cons, List.length_nil, Nat.zero_add] at q2
  have hmul : i * sz + e.cells.length ≤ es.length * sz := by
    have : (i + 1) * sz ≤ es.length * sz := Nat.mul_le_mul_right _ hil
    rw [Nat.add_mul] at this
    rw [hel.1]; omega
  rw [setCell_row hh]
  generalize hcur' : cur.setIfInBounds ((E.m st).2 + i * sz + off) vx = cur'
  have hsize : cur'.size = cur.size := by rw [← hcur']; simp
  have hget : ∀ p, cur'[p]? = if p < (E.m st).2 + i * sz + off then cur[p]? else if p < (E.m st).2 + i * sz + off + 1 then some vx else cur[p]? := by
    intro p
    rw [← hcur', Array.getElem?_setIfInBounds]
    by_cases hp : (E.m st).2 + i * sz + off = p
    · subst hp
      rw [if_pos rfl, if_pos (by omega), if_neg (by omega), if_pos (by omega)]
    · rw [if_neg hp]
      by_cases hp2 : p < (E.m st).2 + i * sz + off
      · rw [if_pos hp2]
      · rw [if_neg hp2, if_neg (by omega)]
  refine ⟨?_, ?_⟩
  · have H1 : HConc E B (h.setB nm none) (w.setRow (E.m st).1 cur') := by
      refine (H.dropB nm).change ?_ ?_ ?_
      · intro b o v hk
        have hne : b ≠ (E.m st).1 := fun q => by rw [q, hbk.noK o] at hk; cases hk
        rw [cell_setRow_other w _ _ _ hne]
        exact H.K b o v hk
      · intro n b hb'
        have : n ≠ nm ∧ h.blk n = some b := by
          simp only [Hp.setB, upd] at hb'
          split at hb'
          · simp at hb'
          · rename_i hne; exact ⟨hne, hb'⟩
        exact setRow_other w _ _ _ (H.bb n nm b _ this.1 this.2 hb)
      · intro n t' g ht' hg'
        exact setRow_other w _ _ _ (fun q => H.bt nm n _ t' hb ht' (by rw [hg', q]))
    refine H1.putB ⟨st, sz, _⟩ hbu (.row hs0 ⟨hbk.base, ?_, by simp only [List.length_set]; exact hbk.len, ?_, hbk.noK⟩) (fun n b' hn hb' => by have := H.bb n nm b' _ hn hb' hb; exact this) (fun n t' ht' => by have := H.bt nm n _ t' hb ht'; exact this)
    · intro y hy
      rcases List.mem_or_eq_of_mem_set hy with hy | hy
      · exact hbk.el y hy
      · rw [hy]; exact q1
    · refine ⟨cur', ty, setRow_heap w _ cur _ ty _ hh, by rw [hsize]; exact hsz0, ?_⟩
      intro i' y hy j z hz
      show ∃ u, cur'[(E.m st).2 + i' * sz + j]? = some u ∧ Rel E z u
      have hy : (es.set i (setCells e off [x]))[i']? = some y := hy
      rw [List.getElem?_set] at hy
      by_cases hii : i = i'
      · subst hii
        simp only [if_true, hil] at hy
        cases hy
        rw [q2] at hz
        have hjl : j < sz := by rw [← q1.1]; exact (List.getElem?_eq_some_iff.1 ((q2 j).trans hz)).1
        rw [hget]
        by_cases p1 : j < off
        · rw [if_pos p1] at hz
          rw [if_pos (by omega)]
          exact hr i e he j z hz
        · rw [if_neg p1] at hz
          rw [if_neg (by omega)]
          by_cases p2 : j < off + 1
          · rw [if_pos p2] at hz
            rw [if_pos (by omega)]
            have hjo : j = off := by omega
            subst hjo
            simp at hz
            subst hz
            exact ⟨vx, rfl, hx⟩
          · rw [if_neg p2] at hz
            rw [if_neg (by omega)]
            exact hr i e he j z hz
      · rw [if_neg hii] at hy
        obtain ⟨u, hu', hrel⟩ := hr i' y hy j z hz
        refine ⟨u, ?_, hrel⟩
        have hely : ElemOk sz y := hbk.el y (List.mem_of_getElem? hy)
        have hj : j < sz := by rw [← hely.1]; exact (List.getElem?_eq_some_iff.1 hz).1
        rw [hget]
        by_cases hlt : i' < i
        · have : (i' + 1) * sz ≤ i * sz := Nat.mul_le_mul_right _ hlt
          rw [Nat.add_mul] at this
          rw [if_pos (by omega)]
          exact hu'
        · have : (i + 1) * sz ≤ i' * sz := Nat.mul_le_mul_right _ (by omega)
          rw [Nat.add_mul] at this
          have hes := hel.1
          rw [if_neg (by omega), if_neg (by omega)]
          exact hu'
  · refine hW.trans ⟨rfl, rfl, rfl, by simp, fun k hk => setRow_other w _ _ _ (fun q => ?_)⟩
    have := hbk.base
    simp only at this
    omega
end Go.Gv
