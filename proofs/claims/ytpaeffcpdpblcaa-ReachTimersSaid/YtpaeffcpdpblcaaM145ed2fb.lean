/- Texts of this proof, one behind the other. What is proved, and on which conditions, stands ahead of each. -/
import Derived.Test.YtpaeffcpdpblcaaM100a9d8d
import Derived.Test.YtpaeffcpdpblcaaProg
import Derived.Test.YtpaeffcpdpblcaaM6a3f248

/- Maps in walks; calls that leave all but some names as it was, as calls of drawn regions. No condition beyond those that each law names. -/
set_option linter.unusedVariables false
set_option linter.unusedSimpArgs false
namespace Go.Gv
open Go.RowKit

section
variable {f : Nat → AV} {blk : Nat → Option Blk} {tok : Nat → Option Tok} {st nm s : Nat} {m x v z : X} {k : IntKind} {zv : AV}
@[simp] theorem ex_mkm : ex f blk tok st (.mkm nm) = some { v := .mp nm st, wb := [(nm, some ⟨st, 0, []⟩)] } := rfl
@[simp] theorem ex_mget : ex f blk tok st (.mget k zv m x) = match m.ev f, x.ev f with
    | .mp nm s, .int k' a => if k' = k then (getM blk nm s).bind fun es => (findM k a es).map fun r => { v := r.getD zv } else none
    | _, _ => none := rfl
@[simp] theorem ex_mput : ex f blk tok st (.mput m x v) = match m.ev f, x.ev f with
    | .mp nm s, .int k a => (getM blk nm s).bind fun es => match findM k a es with
      | some none => if (v.ev f).one = true then some { v := .junk, wb := [(nm, some ⟨s, 0, es ++ [.agg [.int k a, v.ev f]]⟩)] } else none
      | _ => none
    | _, _ => none := rfl
@[simp] theorem aopXs_mkm : aopXs (.mkm nm) = [] := rfl
@[simp] theorem aopXs_mget : aopXs (.mget k zv m x) = [m, x] := rfl
@[simp] theorem aopXs_mput : aopXs (.mput m x v) = [m, x, v] := rfl
end
attribute [simp] getM
@[simp] theorem rdV_mp {nm st : Nat} : rdV (.mp nm st) = [nm] := rfl
@[simp] theorem tkV_mp {nm st : Nat} : tkV (.mp nm st) = [] := rfl
@[simp] theorem cells_mp {nm st : Nat} : (AV.mp nm st).cells = [.mp nm st] := rfl
@[simp] theorem one_mp {nm st : Nat} : (AV.mp nm st).one = true := rfl
@[simp] theorem lenOf_mp {nm st : Nat} : lenOf (.mp nm st) = none := rfl

/-- A set of numbers as a map's entries. -/
def setM (l : List Int) : List AV := l.map fun h => .agg [.int .i64 h, .bool true]
@[simp] theorem setM_nil : setM [] = [] := rfl
theorem setM_snoc (l : List Int) (h : Int) : setM l ++ [.agg [.int .i64 h, .bool true]] = setM (l ++ [h]) := by simp [setM]
theorem findM_set (a : Int) : ∀ l : List Int, findM .i64 a (setM l) = some (if a ∈ l then some (.bool true) else none)
  | [] => by simp [setM, findM]
  | h :: l => by
    have ih := findM_set a l
    simp only [setM] at ih
    simp only [setM, List.map_cons, findM, if_true]
    by_cases e : a = h
    · simp [e]
    · simp [e, ih]

theorem Rel.narrow {E E' : Env} {y : AV} {u' : Value} (h : Rel E' y u') : ∀ {u : Value}, Rel E y u → Rel { E' with u := E.u } y u' := by
  induction h with
  | @junk E' v => intro u q; exact .junk v
  | @raw E' v => intro u q; exact .raw v
  | @bool E' b => intro u q; exact .bool b
  | @int E' k n => intro u q; exact .int k n
  | @str E' s => intro u q; exact .str s
  | @nilp E' => intro u q; exact .nilp
  | @nilf E' => intro u q; exact .nilf
  | @nils E' => intro u q; exact .nils
  | @ptr E' nm st sz i off _ =>
    intro u q
    cases q with
    | ptr _ _ _ _ _ hu => exact Rel.ptr (E := { E' with u := E.u }) nm st sz i off hu
  | @kp E' cs off b o f hk h1 hr => intro u q; exact Rel.kp (E := { E' with u := E.u }) cs off b o f hk h1 hr
  | @lst0 E' sz a cap => intro u q; exact .lst0 sz a cap
  | @lst E' xs b o sz cap f hcap hsz hk h1 hr => intro u q; exact Rel.lst (E := { E' with u := E.u }) xs b o sz cap f hcap hsz hk h1 hr
  | @acc E' nm st sz xs v hu hv h ih =>
    intro u q
    cases q with
    | acc _ _ _ _ _ hu' _ q' => exact Rel.acc (E := { E' with u := E.u }) nm st sz xs v hu' hv (ih q')
  | @sl E' nm st sz off len cap a hu hcap hc ha =>
    intro u q
    cases q with
    | sl _ _ _ _ _ _ _ hu' _ _ _ => exact Rel.sl (E := { E' with u := E.u }) nm st sz off len cap a hu' hcap hc ha
  | @mp E' nm st hu =>
    intro u q
    cases q with
    | mp _ _ hu' => exact Rel.mp (E := { E' with u := E.u }) nm st hu'
  | @fn E' f caps vs hs _ ih =>
    intro u q
    cases q with
    | fn _ _ vs' hs' hr' =>
      refine Rel.fn (E := { E' with u := E.u }) f caps vs hs (fun j y v hy hv => ?_)
      obtain ⟨v', hv'⟩ : ∃ v', vs'[j]? = some v' := ⟨_, Array.getElem?_eq_getElem (by rw [← hs']; exact (List.getElem?_eq_some_iff.1 hy).1)⟩
      exact ih j y v hy hv (hr' j y v' hy hv')
  | @agg E' cs vs hs h1 _ ih =>
    intro u q
    cases q with
    | agg _ vs' hs' _ hr' =>
      refine Rel.agg (E := { E' with u := E.u }) cs vs hs h1 (fun j y v hy hv => ?_)
      obtain ⟨v', hv'⟩ : ∃ v', vs'[j]? = some v' := ⟨_, Array.getElem?_eq_getElem (by rw [← hs']; exact (List.getElem?_eq_some_iff.1 hy).1)⟩
      exact ih j y v hy hv (hr' j y v' hy hv')
  | @tup E' cs vs hs _ ih =>
    intro u q
    cases q with
    | tup _ vs' hs' hr' =>
      refine Rel.tup (E := { E' with u := E.u }) cs vs hs (fun j y v hy hv => ?_)
      obtain ⟨v', hv'⟩ : ∃ v', vs'[j]? = some v' := ⟨_, Array.getElem?_eq_getElem (by rw [← hs']; exact (List.getElem?_eq_some_iff.1 hy).1)⟩
      exact ih j y v hy hv (hr' j y v' hy hv')

theorem EntsRel.narrow {E E' : Env} : ∀ {xs : List AV} {ms ms' : List MapEntry}, EntsRel E' xs ms' → EntsRel E xs ms → EntsRel { E' with u := E.u } xs ms'
  | [], _, [], _, _ => trivial
  | [], _, _ :: _, h, _ => h.elim
  | _ :: _, [], _, _, h => h.elim
  | _ :: _, _ :: _, [], h, _ => h.elim
  | x :: xs, m :: ms, m' :: ms', ⟨⟨k, a, z, h1, h2, h3, h4⟩, h5⟩, ⟨⟨k', a', z', q1, q2, q3, q4⟩, q5⟩ => by
    subst h1
    cases q1
    exact ⟨⟨k, a, z, rfl, h2, h3, h4.narrow q4⟩, h5.narrow q5⟩

/-- A call whose outcome is closed, and that leaves all blocks as they were but for some, which are forgotten: no stamp of its own is left. -/
theorem CallP.localize {P : Program} {fv : AV} {vals : List AV} {T : St} {k0 : AV → St → Prop} (h : CallP P fv vals T k0) (r0 : AV) (blk' : Nat → Option Blk) (tok' : Nat → Option Tok) (h1 : r0.cl1 = true)
    (hk : ∀ r S, k0 r S → (∀ (E : Env) (v : Value), Rel E r v → Rel E r0 v) ∧ (∀ n b, blk' n = some b → S.blk n = some b ∧ T.blk n = some b) ∧ (∀ n t, tok' n = some t → S.tok n = some t ∧ T.tok n = some t)) :
    CallP P fv vals T fun r S => r = r0 ∧ S = ⟨T.t, blk', tok', T.clk⟩ := by
  obtain ⟨f, caps, q1, q2, q3⟩ := h
  refine ⟨f, caps, q1, q2, fun E B W w args H hW hB hu hsz hrel => (q3 E B W w args H hW hB hu hsz hrel).mono ?_⟩
  rintro e w' ⟨v, E', r, S', rfl, a2, a3, a4, a5, a6, a7, a8, a9, a10⟩
  obtain ⟨b1, b2, b3⟩ := hk r S' a10
  have hcell : ∀ b o u, ({ E' with u := E.u } : Env).K b o = some u → w'.cell? ⟨b, o, none⟩ = some u := a3.K
  refine ⟨v, { E' with u := E.u }, r0, ⟨T.t, blk', tok', T.clk⟩, rfl, ⟨a2.K, a2.m, a2.hd, a2.cp, fun s hs => hs⟩, ⟨hcell, ?_, ?_, ?_, ?_, ?_, ?_, ?_⟩, a4, a5, fun s hs => ⟨.inl hs, hu s hs⟩, Nat.le_refl _, rfl, ?_, rfl, rfl⟩
  · exact fun n b hb => H.bu n b (b2 n b hb).2
  · intro n b hb
    obtain ⟨hb1, hb2⟩ := b2 n b hb
    have B' := a3.bk n b hb1
    have B0 := H.bk n b hb2
    have em := a2.m _ (H.bu n b hb2)
    cases B' with
    | row h0 R =>
      have R0 := B0.r h0
      obtain ⟨cur, ty, c1, c2, c3⟩ := R.row
      obtain ⟨_, _, _, _, d3⟩ := R0.row
      refine .row h0 ⟨R.base, R.el, R.len, ⟨cur, ty, c1, c2, fun i x hx j y hy => ?_⟩, R.noK⟩
      obtain ⟨u, g1, g2⟩ := c3 i x hx j y hy
      obtain ⟨u0, _, g3⟩ := d3 i x hx j y hy
      exact ⟨u, g1, g2.narrow g3⟩
    | map h0 M =>
      obtain ⟨arr, c, c1, c2⟩ := M.mp
      obtain ⟨st, sz, es⟩ := b
      simp only at h0
      subst h0
      obtain ⟨arr0, c0, _, d2⟩ := B0.mp.mp
      exact .map rfl ⟨M.base, ⟨arr, c, c1, c2.narrow d2⟩, M.noK⟩
  · exact fun n t ht => H.tu n t (b3 n t ht).2
  · exact fun n t ht => a3.tk n t (b3 n t ht).1
  · exact fun n n' b b' hn hb hb' => a3.bb n n' b b' hn (b2 n b hb).1 (b2 n' b' hb').1
  · exact fun n n' b t hb ht => a3.bt n n' b t (b2 n b hb).1 (b3 n' t ht).1
  · exact fun n n' t t' g hn ht ht' hg => a3.tt n n' t t' g hn (b3 n t ht).1 (b3 n' t' ht').1 hg
  · exact Rel.of_cl1 (E := E') (E' := { E' with u := E.u }) (fun _ _ _ q => q) (b1 E' v a9) h1

theorem appB_fold (f : Nat → Option Blk) : ∀ (l : List Nat) (n : Nat), appB f (l.map fun x => (x, none)) n = if n ∈ l then none else f n := by
  intro l
  induction l generalizing f with
  | nil => intro n; simp [appB]
  | cons x l ih =>
    intro n
    simp only [List.map_cons, appB, ih, upd]
    by_cases h1 : n ∈ l
    · simp [h1]
    · by_cases h2 : n = x
      · simp [h2]
      · simp [h1, h2]
theorem appT_fold (f : Nat → Option Tok) : ∀ (l : List Nat) (n : Nat), appT f (l.map fun x => (x, none)) n = if n ∈ l then none else f n := by
  intro l
  induction l generalizing f with
  | nil => intro n; simp [appT]
  | cons x l ih =>
    intro n
    simp only [List.map_cons, appT, ih, upd]
    by_cases h1 : n ∈ l
    · simp [h1]
    · by_cases h2 : n = x
      · simp [h2]
      · simp [h1, h2]

/-- The names Lb and Lt apart, all is as it was. -/
structure Frl (Lb Lt : List Nat) (S S' : St) : Prop where
  b : ∀ n, n ∉ Lb → S'.blk n = S.blk n
  k : ∀ n, n ∉ Lt → S'.tok n = S.tok n

/-- What a call that forgets names does. -/
def effL (Lb Lt : List Nat) (r : AV) : Eff := { v := r, wb := Lb.map fun n => (n, none), wt := Lt.map fun n => (n, none) }

theorem LCallP.of {P : Program} {fv : AV} {vals : List AV} {blk : Nat → Option Blk} (Lb Lt : List Nat) (r0 : AV) (h1 : r0.cl1 = true)
    (h : ∀ T : St, (∀ n ∈ (fv :: vals).flatMap rdV, T.blk n = blk n) → CallP P fv vals T fun r S => (∀ (E : Env) (v : Value), Rel E r v → Rel E r0 v) ∧ Frl Lb Lt T S) :
    LCallP P fv vals blk (effL Lb Lt r0) := by
  intro T hT
  refine ((h T hT).localize r0 (appB T.blk (Lb.map fun n => (n, none))) (appT T.tok (Lt.map fun n => (n, none))) h1 ?_).weaken ?_
  · rintro r S ⟨h2, hF⟩
    refine ⟨h2, fun n b hb => ?_, fun n t ht => ?_⟩
    · rw [appB_fold] at hb
      split at hb
      · cases hb
      · rename_i hn; exact ⟨by rw [hF.b n hn]; exact hb, hb⟩
    · rw [appT_fold] at ht
      split at ht
      · cases ht
      · rename_i hn; exact ⟨by rw [hF.k n hn]; exact ht, ht⟩
  · rintro r S ⟨rfl, rfl⟩
    exact ⟨rfl, rfl⟩
theorem callL {P : Program} {fv : AV} {vals : List AV} {blk : Nat → Option Blk} {e : Eff} {k : Eff → Prop} {u : Dep k} (h : LCallP P fv vals blk e) (hk : k e) : callD P fv vals blk k u := ⟨e, h, hk⟩
theorem callLG {P : Program} {fv : AV} {vals : List AV} {S : St} {e : Eff} {k : AV → St → Prop} {u : Dep k} (h : LCallP P fv vals S.blk e) (hk : k e.v (S.app none e)) : CallG P fv vals S k u :=
  CallP.weaken (h S fun _ _ => rfl) (by rintro r S' ⟨rfl, rfl⟩; exact hk)
attribute [simp] effL

/-- A call's end told in another way: its outcome, and the heap. -/
theorem CallP.told1 {P : Program} {fv : AV} {vals : List AV} {S : St} {k k' : AV → St → Prop} (h : CallP P fv vals S k')
    (hk : ∀ r S', k' r S' → ∃ r' S'', (∀ (E : Env) (B : Nat) (w : World), HConc E B S'.h w → (∀ s, E.u s → s < S'.clk) → ∃ E', E.le E' ∧ HConc E' B S''.h w ∧ (∀ b o, b < B → E'.K b o = E.K b o) ∧ (∀ s, E'.u s → E.u s) ∧ ∀ v, Rel E r v → Rel E' r' v) ∧
      S'.clk ≤ S''.clk ∧ S''.t = S'.t ∧ k r' S'') : CallP P fv vals S k := by
  obtain ⟨f, caps, h1, h2, h3⟩ := h
  refine ⟨f, caps, h1, h2, fun E B W w args H hW hB hu hsz hr => (h3 E B W w args H hW hB hu hsz hr).mono ?_⟩
  rintro e w' ⟨v, E', r, S', a1, a2, a3, a4, a5, a6, a7, a8, a9, a10⟩
  obtain ⟨r', S'', b1, b2, b3, b4⟩ := hk r S' a10
  obtain ⟨E'', c1, c2, c3, c4, c5⟩ := b1 E' B w' a3 (fun s hs => (a6 s hs).2)
  exact ⟨v, E'', r', S'', a1, a2.trans c1, c2, a4, fun b o hb => (c3 b o hb).trans (a5 b o hb), fun s hs => ⟨(a6 s (c4 s hs)).1, Nat.lt_of_lt_of_le (a6 s (c4 s hs)).2 b2⟩, Nat.le_trans a7 b2, b3.trans a8, c5 v a9, b4⟩

/-- A call whose arguments are taken coarser. -/
theorem call_coarse {P : Program} {f : FuncId} (d : Nat) {vals vals' : List AV} {S : St} {k : AV → St → Prop} {u : Dep k} (hl : vals.length = vals'.length) (hco : ∀ (j : Nat) (x y : AV), vals[j]? = some x → vals'[j]? = some y → x = y ∨ elemR (dco (fun _ => none) d) x y)
    (h : CallG P (.fn f []) vals' S k u) : CallG P (.fn f []) vals S k u := by
  obtain ⟨g, caps, hf, hent, hc⟩ := h
  refine ⟨g, caps, hf, hent, fun E B W w args H hW hB hu hsz hrel => ?_⟩
  obtain ⟨rfl, rfl⟩ : f = g ∧ [] = caps := by cases hf; exact ⟨rfl, rfl⟩
  refine hc E B W w args H hW hB hu (by simpa [hl] using hsz) ?_
  intro j y u' hy hu'
  simp only [List.append_nil] at hy hrel
  obtain ⟨x, hx⟩ : ∃ x, vals[j]? = some x := ⟨_, List.getElem?_eq_getElem (by rw [hl]; exact (List.getElem?_eq_some_iff.1 hy).1)⟩
  have hr := hrel j x u' hx hu'
  rcases hco j x y hx hy with q | q
  · rw [← q]; exact hr
  · exact Rel.of_envK (K := E.K) (dccE_rel (w := w) d x y u' q H.K hr) (fun _ _ _ q => q)

/-- A block that is written no more, and of which a part is kept as a list. -/
theorem freeze_out {E : Env} {B : Nat} {h : Hp} {w : World} (H : HConc E B h w) {nm st sz : Nat} (hs0 : sz ≠ 0) {es : List AV} (hb : h.blk nm = some ⟨st, sz, es⟩) (hcl : closedL es) :
    ∃ E', E.le E' ∧ HConc E' B (h.setB nm none) w ∧ (∀ b o, b < B → E'.K b o = E.K b o) ∧ (∀ s, E'.u s → E.u s) ∧ ∀ (off len : Nat) (v : Value), off + len ≤ es.length → Rel E (.sl nm st sz off len) v → Rel E' (.lst sz ((es.drop off).take len)) v := by
  obtain ⟨E', c1, c2, c3, c4, c5⟩ := frz_ok H hs0 hb hcl
  refine ⟨E', c1.le, ?_, c2, c3, fun off len v hle hr => ?_⟩
  · refine (H.dropB nm).env c1.le c4 (fun n b x j => ?_) (fun n t g x hg j => ?_)
    · simp only [Hp.setB, upd] at x
      split at x
      · cases x
      · rename_i hne
        rw [c5 _ _ (H.bb n nm b _ hne x hb)]
        exact (H.bk n b x).noK j
    · exact c5 _ _ (fun q => H.bt nm n _ t hb x (by rw [hg, q]))
  · have := c1.rel _ v rfl hr
    have e : fzc nm st sz es (.sl nm st sz off len) = .lst sz ((es.drop off).take len) := by simp [fzc, fz0, hle]
    rw [e] at this
    exact this

/-! ### Coarser cells -/
theorem Rel.lst_of_acc {E : Env} {nm st sz : Nat} {xs : List AV} {v : Value} (h : Rel E (.acc nm st sz xs) v) : Rel E (.lst sz xs) v := by
  cases h with
  | acc _ _ _ _ _ _ _ hl => exact hl
theorem Rel.lst_of_nils {E : Env} {sz : Nat} {v : Value} (h : Rel E .nils v) : Rel E (.lst sz []) v := by
  cases h with
  | nils => exact .lst0 sz none 0

/-- One block's cells told more coarsely. -/
theorem Wkh.coarse {c : Nat} {h : Hp} {nm st sz : Nat} (hs0 : sz ≠ 0) {cs cs' : List AV} (hb : h.blk nm = some ⟨st, sz, [.agg cs]⟩) (hl : cs'.length = cs.length)
    (hc : ∀ (j : Nat) (x y : AV), cs[j]? = some x → cs'[j]? = some y → y.one = true ∧ ∀ (E : Env) (v : Value), Rel E x v → Rel E y v) : Wkh c c h (h.setB nm (some ⟨st, sz, [.agg cs']⟩)) id := by
  refine ⟨Nat.le_refl _, fun E B w H hu => ⟨E, .refl E, ?_, fun _ _ _ => rfl, fun _ q => q, fun _ _ q => q⟩⟩
  have hbk := (H.bk nm _ hb).r hs0
  refine (H.dropB nm).putB ⟨st, sz, [.agg cs']⟩ (show E.u st from H.bu nm _ hb) (.row hs0 ⟨hbk.base, ?_, hbk.len, ?_, hbk.noK⟩) (fun n b' hn hb' => by have := H.bb n nm b' _ hn hb' hb; exact this) (fun n t' ht' => by have := H.bt nm n _ t' hb ht'; exact this)
  · intro x hx
    simp only [List.mem_singleton] at hx
    subst hx
    have he := hbk.el (.agg cs) (by simp)
    refine ⟨by have := he.1; simp only [AV.cells] at this ⊢; omega, fun y hy => ?_⟩
    obtain ⟨j, hj⟩ := List.getElem?_of_mem hy
    have hj' : cs'[j]? = some y := hj
    obtain ⟨x, hx⟩ : ∃ x, cs[j]? = some x := ⟨_, List.getElem?_eq_getElem (by rw [← hl]; exact (List.getElem?_eq_some_iff.1 hj').1)⟩
    exact (hc j x y hx hj').1
  · obtain ⟨cur, ty, c1, c2, c3⟩ := hbk.row
    refine ⟨cur, ty, c1, c2, fun i x hx j y hy => ?_⟩
    cases i with
    | succ i => simp at hx
    | zero =>
      simp at hx
      subst hx
      have hj' : cs'[j]? = some y := hy
      obtain ⟨x, hx⟩ : ∃ x, cs[j]? = some x := ⟨_, List.getElem?_eq_getElem (by rw [← hl]; exact (List.getElem?_eq_some_iff.1 hj').1)⟩
      obtain ⟨u, g1, g2⟩ := c3 0 (.agg cs) rfl j x hx
      exact ⟨u, g1, (hc j x y hx hj').2 E u g2⟩
end Go.Gv

/- What prog.Check answers, and the parts of the document's answer. No condition. -/
set_option linter.unusedVariables false
set_option linter.unusedSimpArgs false
namespace Go.Gv
open Go.Proofs

def check_r0 : List AI := [⟨(some 1), none, (.op (.box 21001 4 (.t 0)))⟩, ⟨(some 2), none, (.op (.mv (.c (.int .i64 0))))⟩]
def check_r1 : List AI := [⟨(some 6), none, (.op (.fld 0 (.t 1)))⟩, ⟨(some 7), none, (.op (.load none (.t 6)))⟩, ⟨(some 8), none, (.op (.len (.t 7)))⟩, ⟨(some 9), none, (.op (.ibin .gtr (.t 8) (.c (.int .i64 16))))⟩, ⟨(some 5), none, (.op (.mv (.t 9)))⟩]
def check_r2 : List AI := [⟨(some 10), none, (.op (.fld 1 (.t 1)))⟩, ⟨(some 11), none, (.op (.load none (.t 10)))⟩, ⟨(some 12), none, (.op (.len (.t 11)))⟩, ⟨(some 13), none, (.op (.ibin .gtr (.t 12) (.c (.int .i64 8))))⟩, ⟨(some 5), none, (.op (.mv (.t 13)))⟩]
def check_r3 : List AI := [⟨(some 14), none, (.op (.fld 2 (.t 1)))⟩, ⟨(some 15), none, (.op (.load none (.t 14)))⟩, ⟨(some 16), none, (.op (.len (.t 15)))⟩, ⟨(some 17), none, (.op (.ibin .gtr (.t 16) (.c (.int .i64 16))))⟩, ⟨(some 5), none, (.op (.mv (.t 17)))⟩]
def check_r4 : List AI := [⟨(some 2), none, (.op (.mv (.c (.int .i64 3))))⟩]
def check_r5 : List AI := [⟨(some 19), none, (.op (.fld 1 (.t 1)))⟩, ⟨(some 20), none, (.op (.load none (.t 19)))⟩, ⟨(some 21), none, (.op (.len (.t 20)))⟩, ⟨(some 22), none, (.op (.ibin .eql (.t 21) (.c (.int .i64 0))))⟩, ⟨(some 18), none, (.op (.mv (.t 22)))⟩]
def check_r6 : List AI := [⟨(some 23), none, (.op (.fld 3 (.t 1)))⟩, ⟨(some 24), none, (.op (.load none (.t 23)))⟩, ⟨(some 25), none, (.op (.ibin .lss (.t 24) (.c (.int .i64 1))))⟩, ⟨(some 18), none, (.op (.mv (.t 25)))⟩]
def check_r7 : List AI := [⟨(some 26), none, (.op (.fld 3 (.t 1)))⟩, ⟨(some 27), none, (.op (.load none (.t 26)))⟩, ⟨(some 28), none, (.op (.ibin .gtr (.t 27) (.c (.int .i64 256))))⟩, ⟨(some 18), none, (.op (.mv (.t 28)))⟩]
def check_r8 : List AI := [⟨(some 2), none, (.op (.mv (.c (.int .i64 1))))⟩]
def check_r9 : List AI := [⟨(some 29), none, (.op (.load (some 4) (.t 1)))⟩, ⟨(some 30), none, (.op (.fld 0 (.t 1)))⟩, ⟨(some 31), none, (.op (.load none (.t 30)))⟩, ⟨(some 32), none, (.call (.c (.fn 42 [])) [(.t 29), (.t 31), (.c (.fn 43 []))])⟩, ⟨(some 3), none, (.op (.mv (.t 32)))⟩]
def check_r10 : List AI := [⟨(some 33), none, (.op (.mv (.t 3)))⟩, ⟨(some 34), none, (.op (.ibin .neq (.t 33) (.c (.int .i64 0))))⟩]
def check_r11 : List AI := [⟨(some 35), none, (.op (.mv (.t 3)))⟩, ⟨(some 2), none, (.op (.mv (.t 35)))⟩]
def check_r12 : List AI := [⟨(some 36), none, (.op (.load (some 4) (.t 1)))⟩, ⟨(some 37), none, (.op (.fld 1 (.t 1)))⟩, ⟨(some 38), none, (.op (.load none (.t 37)))⟩, ⟨(some 39), none, (.call (.c (.fn 44 [])) [(.t 36), (.t 38), (.c (.fn 45 []))])⟩, ⟨(some 4), none, (.op (.mv (.t 39)))⟩]
def check_r13 : List AI := [⟨(some 40), none, (.op (.mv (.t 4)))⟩, ⟨(some 41), none, (.op (.ibin .neq (.t 40) (.c (.int .i64 0))))⟩]
def check_r14 : List AI := [⟨(some 42), none, (.op (.mv (.t 4)))⟩, ⟨(some 2), none, (.op (.mv (.t 42)))⟩]
def check_r15 : List AI := [⟨(some 43), none, (.op (.load (some 4) (.t 1)))⟩, ⟨(some 44), none, (.op (.fld 2 (.t 1)))⟩, ⟨(some 45), none, (.op (.load none (.t 44)))⟩, ⟨(some 46), none, (.call (.c (.fn 46 [])) [(.t 43), (.t 45), (.c (.fn 47 []))])⟩, ⟨(some 2), none, (.op (.mv (.t 46)))⟩]
def check_c : AC := (.seq (.reg check_r0) (.seq (.block 0 (.seq (.seq (.reg check_r1) (.cond (.t 5) .skip (.seq (.reg check_r2) (.cond (.t 5) .skip (.reg check_r3))))) (.cond (.t 5) (.seq (.reg check_r4) .ret) (.seq (.seq (.reg check_r5) (.cond (.t 18) .skip (.seq (.reg check_r6) (.cond (.t 18) .skip (.reg check_r7))))) (.cond (.t 18) (.seq (.reg check_r8) .ret) .skip))))) (.seq (.seq (.reg check_r9) (.seq (.reg check_r10) (.cond (.t 34) (.seq (.reg check_r11) .ret) .skip))) (.seq (.seq (.reg check_r12) (.seq (.reg check_r13) (.cond (.t 41) (.seq (.reg check_r14) .ret) .skip))) (.seq (.reg check_r15) .ret)))))
def check_res : List ARes := [(.tmp 2)]
set_option maxRecDepth 100000 in
theorem check_get : getF Try.prog 25 21000 [] = some ("gavotte/prog.Check", 47, check_c, check_res) := by kernel_rfl
attribute [simp] check_r0 check_r1 check_r2 check_r3 check_r4 check_r5 check_r6 check_r7 check_r8 check_r9 check_r10 check_r11 check_r12 check_r13 check_r14 check_r15 check_res


theorem check_pc (p : Prg) : PC Try.prog 25 [p.av] (iv (checkV p)) := by
  refine pc_of_get check_get (by simp) _ (by simp) _ ?_
  unfold check_c
  simp
  refine split (fun h1 => ?_) (fun h1 => ?_) <;> simp [h1]
  · grind [checkV]
  refine split (fun h2 => ?_) (fun h2 => ?_) <;> simp [h2]
  · grind [checkV]
  refine split (fun h3 => ?_) (fun h3 => ?_) <;> simp [h3]
  · grind [checkV]
  refine split (fun h4 => ?_) (fun h4 => ?_) <;> simp [h4]
  · grind [checkV]
  refine split (fun h5 => ?_) (fun h5 => ?_) <;> simp [h5]
  · grind [checkV]
  refine split (fun h6 => ?_) (fun h6 => ?_) <;> simp [h6]
  · grind [checkV]
  refine call (eachH_pc p p.hs 43 (handlerV p.hs.length) (fun h _ => handler_pc p h) (by omega)) (by simp) ?_
  simp
  refine split (fun h7 => ?_) (fun h7 => ?_) <;> simp [h7]
  rotate_left
  · grind [checkV]
  refine call (eachA_pc p p.as 45 (actorV p.hs) (fun h _ => actor_pc p h) (by omega)) (by simp) ?_
  simp
  refine split (fun h8 => ?_) (fun h8 => ?_) <;> simp [h8]
  rotate_left
  · grind [checkV]
  refine call (eachN_pc p p.boot 47 (noteV p.hs p.as.length) (fun h _ => note_pc p h) (by omega)) (by simp) ?_
  simp
  grind [checkV]
end Go.Gv

/- What the document's CheckProg answers. No condition. -/
set_option linter.unusedVariables false
set_option linter.unusedSimpArgs false
namespace Go.Gv
open Go.Proofs


end Go.Gv

/- When lists, and what stands in them, are the same. No condition beyond a list's length below 2^62. -/
set_option linter.unusedVariables false
set_option linter.unusedSimpArgs false
namespace Go.Gv
open Go.Proofs

def aints_r0 : List AI := [⟨(some 4), none, (.op (.mv (.c (.bool false))))⟩]
def aints_r1 : List AI := [⟨(some 6), none, (.op (.mv (.t 0)))⟩, ⟨(some 7), none, (.op (.len (.t 6)))⟩, ⟨(some 8), none, (.op (.mv (.t 1)))⟩, ⟨(some 9), none, (.op (.len (.t 8)))⟩, ⟨(some 10), none, (.op (.ibin .neq (.t 7) (.t 9)))⟩]
def aints_r2 : List AI := [⟨(some 4), none, (.op (.mv (.c (.bool false))))⟩]
def aints_r3 : List AI := [⟨(some 5), none, (.op (.mv (.c (.int .i64 0))))⟩]
def aints_r4 : List AI := [⟨(some 11), none, (.op (.mv (.t 5)))⟩, ⟨(some 12), none, (.op (.mv (.t 0)))⟩, ⟨(some 13), none, (.op (.len (.t 12)))⟩, ⟨(some 14), none, (.op (.ibin .lss (.t 11) (.t 13)))⟩]
def aints_r5 : List AI := [⟨(some 17), none, (.op (.mv (.t 0)))⟩, ⟨(some 18), none, (.op (.mv (.t 5)))⟩, ⟨(some 19), none, (.op (.idx 1 (.t 17) (.t 18)))⟩, ⟨(some 20), none, (.op (.load none (.t 19)))⟩, ⟨(some 21), none, (.op (.mv (.t 1)))⟩, ⟨(some 22), none, (.op (.mv (.t 5)))⟩, ⟨(some 23), none, (.op (.idx 1 (.t 21) (.t 22)))⟩, ⟨(some 24), none, (.op (.load none (.t 23)))⟩, ⟨(some 25), none, (.op (.ibin .neq (.t 20) (.t 24)))⟩]
def aints_p5 : List (List Nat) := [[], [], [0, 1], [2, 0, 1], [], [], [4, 5], [6, 4, 5], [3, 7, 2, 0, 1, 6, 4, 5]]
def aints_r6 : List AI := [⟨(some 4), none, (.op (.mv (.c (.bool false))))⟩]
def aints_r7 : List AI := [⟨(some 15), none, (.op (.mv (.t 5)))⟩, ⟨(some 16), none, (.op (.ibin .add (.t 15) (.c (.int .i64 1))))⟩, ⟨(some 5), none, (.op (.mv (.t 16)))⟩]
def aints_l0 : AC := (.seq (.seq (.reg aints_r4) (.cond (.t 14) .skip (.exit 0))) (.seq (.block 1 (.seq (.regd aints_r5 aints_p5) (.cond (.t 25) (.seq (.reg aints_r6) .ret) .skip))) (.reg aints_r7)))
def aints_r8 : List AI := [⟨(some 4), none, (.op (.mv (.c (.bool true))))⟩]
def aints_c : AC := (.seq (.reg aints_r0) (.seq (.seq (.reg aints_r1) (.cond (.t 10) (.seq (.reg aints_r2) .ret) .skip)) (.seq (.seq (.reg aints_r3) (.block 0 (.loop aints_l0))) (.seq (.reg aints_r8) .ret))))
def aints_res : List ARes := [(.tmp 4)]
set_option maxRecDepth 100000 in
theorem aints_get : getF Try.prog 19 29000 [] = some ("gavotte/gavottealike.Ints", 26, aints_c, aints_res) := by kernel_rfl
def rints_r0 : List AI := [⟨(some 4), none, (.op (.mv (.c (.bool false))))⟩]
def rints_r1 : List AI := [⟨(some 6), none, (.op (.mv (.t 0)))⟩, ⟨(some 7), none, (.op (.len (.t 6)))⟩, ⟨(some 8), none, (.op (.mv (.t 1)))⟩, ⟨(some 9), none, (.op (.len (.t 8)))⟩, ⟨(some 10), none, (.op (.ibin .neq (.t 7) (.t 9)))⟩]
def rints_r2 : List AI := [⟨(some 4), none, (.op (.mv (.c (.bool false))))⟩]
def rints_r3 : List AI := [⟨(some 5), none, (.op (.mv (.c (.int .i64 0))))⟩]
def rints_r4 : List AI := [⟨(some 11), none, (.op (.mv (.t 5)))⟩, ⟨(some 12), none, (.op (.mv (.t 0)))⟩, ⟨(some 13), none, (.op (.len (.t 12)))⟩, ⟨(some 14), none, (.op (.ibin .lss (.t 11) (.t 13)))⟩]
def rints_r5 : List AI := [⟨(some 17), none, (.op (.mv (.t 0)))⟩, ⟨(some 18), none, (.op (.mv (.t 5)))⟩, ⟨(some 19), none, (.op (.idx 1 (.t 17) (.t 18)))⟩, ⟨(some 20), none, (.op (.load none (.t 19)))⟩, ⟨(some 21), none, (.op (.mv (.t 1)))⟩, ⟨(some 22), none, (.op (.mv (.t 5)))⟩, ⟨(some 23), none, (.op (.idx 1 (.t 21) (.t 22)))⟩, ⟨(some 24), none, (.op (.load none (.t 23)))⟩, ⟨(some 25), none, (.op (.ibin .neq (.t 20) (.t 24)))⟩]
def rints_p5 : List (List Nat) := [[], [], [0, 1], [2, 0, 1], [], [], [4, 5], [6, 4, 5], [3, 7, 2, 0, 1, 6, 4, 5]]
def rints_r6 : List AI := [⟨(some 4), none, (.op (.mv (.c (.bool false))))⟩]
def rints_r7 : List AI := [⟨(some 15), none, (.op (.mv (.t 5)))⟩, ⟨(some 16), none, (.op (.ibin .add (.t 15) (.c (.int .i64 1))))⟩, ⟨(some 5), none, (.op (.mv (.t 16)))⟩]
def rints_l0 : AC := (.seq (.seq (.reg rints_r4) (.cond (.t 14) .skip (.exit 0))) (.seq (.block 1 (.seq (.regd rints_r5 rints_p5) (.cond (.t 25) (.seq (.reg rints_r6) .ret) .skip))) (.reg rints_r7)))
def rints_r8 : List AI := [⟨(some 4), none, (.op (.mv (.c (.bool true))))⟩]
def rints_c : AC := (.seq (.reg rints_r0) (.seq (.seq (.reg rints_r1) (.cond (.t 10) (.seq (.reg rints_r2) .ret) .skip)) (.seq (.seq (.reg rints_r3) (.block 0 (.loop rints_l0))) (.seq (.reg rints_r8) .ret))))
def rints_res : List ARes := [(.tmp 4)]
set_option maxRecDepth 100000 in
theorem rints_get : getF Try.prog 33 48000 [] = some ("gavotte/gavotteref1.Ints", 26, rints_c, rints_res) := by kernel_rfl
def sints_r0 : List AI := [⟨(some 4), none, (.op (.mv (.c (.bool false))))⟩]
def sints_r1 : List AI := [⟨(some 6), none, (.op (.mv (.t 0)))⟩, ⟨(some 7), none, (.op (.len (.t 6)))⟩, ⟨(some 8), none, (.op (.mv (.t 1)))⟩, ⟨(some 9), none, (.op (.len (.t 8)))⟩, ⟨(some 10), none, (.op (.ibin .neq (.t 7) (.t 9)))⟩]
def sints_r2 : List AI := [⟨(some 4), none, (.op (.mv (.c (.bool false))))⟩]
def sints_r3 : List AI := [⟨(some 11), none, (.op (.mv (.t 0)))⟩, ⟨(some 12), none, (.op (.len (.t 11)))⟩, ⟨(some 13), none, (.op (.mv (.c (.int .i64 0))))⟩]
def sints_r4 : List AI := [⟨(some 14), none, (.op (.ibin .lss (.t 13) (.t 12)))⟩]
def sints_r5 : List AI := [⟨(some 15), none, (.op (.mv (.t 13)))⟩, ⟨(some 5), none, (.op (.mv (.t 15)))⟩]
def sints_r6 : List AI := [⟨(some 16), none, (.op (.mv (.t 0)))⟩, ⟨(some 17), none, (.op (.mv (.t 5)))⟩, ⟨(some 18), none, (.op (.idx 1 (.t 16) (.t 17)))⟩, ⟨(some 19), none, (.op (.load none (.t 18)))⟩, ⟨(some 20), none, (.op (.mv (.t 1)))⟩, ⟨(some 21), none, (.op (.mv (.t 5)))⟩, ⟨(some 22), none, (.op (.idx 1 (.t 20) (.t 21)))⟩, ⟨(some 23), none, (.op (.load none (.t 22)))⟩, ⟨(some 24), none, (.op (.ibin .neq (.t 19) (.t 23)))⟩]
def sints_p6 : List (List Nat) := [[], [], [0, 1], [2, 0, 1], [], [], [4, 5], [6, 4, 5], [3, 7, 2, 0, 1, 6, 4, 5]]
def sints_r7 : List AI := [⟨(some 4), none, (.op (.mv (.c (.bool false))))⟩]
def sints_r8 : List AI := [⟨(some 25), none, (.op (.ibin .add (.t 13) (.c (.int .i64 1))))⟩, ⟨(some 13), none, (.op (.mv (.t 25)))⟩]
def sints_l0 : AC := (.seq (.reg sints_r4) (.seq (.cond (.t 14) .skip (.exit 0)) (.seq (.block 1 (.seq (.reg sints_r5) (.seq (.regd sints_r6 sints_p6) (.cond (.t 24) (.seq (.reg sints_r7) .ret) .skip)))) (.reg sints_r8))))
def sints_r9 : List AI := [⟨(some 4), none, (.op (.mv (.c (.bool true))))⟩]
def sints_c : AC := (.seq (.reg sints_r0) (.seq (.seq (.reg sints_r1) (.cond (.t 10) (.seq (.reg sints_r2) .ret) .skip)) (.seq (.seq (.reg sints_r3) (.block 0 (.loop sints_l0))) (.seq (.reg sints_r9) .ret))))
def sints_res : List ARes := [(.tmp 4)]
set_option maxRecDepth 100000 in
theorem sints_get : getF Try.prog 48 52000 [] = some ("slices.Equal[[]int,int]", 26, sints_c, sints_res) := by kernel_rfl
def rcode_r0 : List AI := [⟨(some 4), none, (.op (.mv (.c (.bool false))))⟩]
def rcode_r1 : List AI := [⟨(some 6), none, (.op (.mv (.t 0)))⟩, ⟨(some 7), none, (.op (.len (.t 6)))⟩, ⟨(some 8), none, (.op (.mv (.t 1)))⟩, ⟨(some 9), none, (.op (.len (.t 8)))⟩, ⟨(some 10), none, (.op (.ibin .neq (.t 7) (.t 9)))⟩]
def rcode_r2 : List AI := [⟨(some 4), none, (.op (.mv (.c (.bool false))))⟩]
def rcode_r3 : List AI := [⟨(some 5), none, (.op (.mv (.c (.int .i64 0))))⟩]
def rcode_r4 : List AI := [⟨(some 11), none, (.op (.mv (.t 5)))⟩, ⟨(some 12), none, (.op (.mv (.t 0)))⟩, ⟨(some 13), none, (.op (.len (.t 12)))⟩, ⟨(some 14), none, (.op (.ibin .lss (.t 11) (.t 13)))⟩]
def rcode_r5 : List AI := [⟨(some 17), none, (.op (.mv (.t 0)))⟩, ⟨(some 18), none, (.op (.mv (.t 5)))⟩, ⟨(some 19), none, (.op (.idx 2 (.t 17) (.t 18)))⟩, ⟨(some 20), none, (.op (.load (some 2) (.t 19)))⟩, ⟨(some 21), none, (.op (.mv (.t 1)))⟩, ⟨(some 22), none, (.op (.mv (.t 5)))⟩, ⟨(some 23), none, (.op (.idx 2 (.t 21) (.t 22)))⟩, ⟨(some 24), none, (.op (.load (some 2) (.t 23)))⟩, ⟨(some 25), none, (.op (.eqs [false, false] true (.t 20) (.t 24)))⟩]
def rcode_p5 : List (List Nat) := [[], [], [0, 1], [2, 0, 1], [], [], [4, 5], [6, 4, 5], [3, 7, 2, 0, 1, 6, 4, 5]]
def rcode_r6 : List AI := [⟨(some 4), none, (.op (.mv (.c (.bool false))))⟩]
def rcode_r7 : List AI := [⟨(some 15), none, (.op (.mv (.t 5)))⟩, ⟨(some 16), none, (.op (.ibin .add (.t 15) (.c (.int .i64 1))))⟩, ⟨(some 5), none, (.op (.mv (.t 16)))⟩]
def rcode_l0 : AC := (.seq (.seq (.reg rcode_r4) (.cond (.t 14) .skip (.exit 0))) (.seq (.block 1 (.seq (.regd rcode_r5 rcode_p5) (.cond (.t 25) (.seq (.reg rcode_r6) .ret) .skip))) (.reg rcode_r7)))
def rcode_r8 : List AI := [⟨(some 4), none, (.op (.mv (.c (.bool true))))⟩]
def rcode_c : AC := (.seq (.reg rcode_r0) (.seq (.seq (.reg rcode_r1) (.cond (.t 10) (.seq (.reg rcode_r2) .ret) .skip)) (.seq (.seq (.reg rcode_r3) (.block 0 (.loop rcode_l0))) (.seq (.reg rcode_r8) .ret))))
def rcode_res : List ARes := [(.tmp 4)]
set_option maxRecDepth 100000 in
theorem rcode_get : getF Try.prog 32 47000 [] = some ("gavotte/gavotteref1.Code", 26, rcode_c, rcode_res) := by kernel_rfl
def sinss_r0 : List AI := [⟨(some 4), none, (.op (.mv (.c (.bool false))))⟩]
def sinss_r1 : List AI := [⟨(some 6), none, (.op (.mv (.t 0)))⟩, ⟨(some 7), none, (.op (.len (.t 6)))⟩, ⟨(some 8), none, (.op (.mv (.t 1)))⟩, ⟨(some 9), none, (.op (.len (.t 8)))⟩, ⟨(some 10), none, (.op (.ibin .neq (.t 7) (.t 9)))⟩]
def sinss_r2 : List AI := [⟨(some 4), none, (.op (.mv (.c (.bool false))))⟩]
def sinss_r3 : List AI := [⟨(some 11), none, (.op (.mv (.t 0)))⟩, ⟨(some 12), none, (.op (.len (.t 11)))⟩, ⟨(some 13), none, (.op (.mv (.c (.int .i64 0))))⟩]
def sinss_r4 : List AI := [⟨(some 14), none, (.op (.ibin .lss (.t 13) (.t 12)))⟩]
def sinss_r5 : List AI := [⟨(some 15), none, (.op (.mv (.t 13)))⟩, ⟨(some 5), none, (.op (.mv (.t 15)))⟩]
def sinss_r6 : List AI := [⟨(some 16), none, (.op (.mv (.t 0)))⟩, ⟨(some 17), none, (.op (.mv (.t 5)))⟩, ⟨(some 18), none, (.op (.idx 2 (.t 16) (.t 17)))⟩, ⟨(some 19), none, (.op (.load (some 2) (.t 18)))⟩, ⟨(some 20), none, (.op (.mv (.t 1)))⟩, ⟨(some 21), none, (.op (.mv (.t 5)))⟩, ⟨(some 22), none, (.op (.idx 2 (.t 20) (.t 21)))⟩, ⟨(some 23), none, (.op (.load (some 2) (.t 22)))⟩, ⟨(some 24), none, (.op (.eqs [false, false] true (.t 19) (.t 23)))⟩]
def sinss_p6 : List (List Nat) := [[], [], [0, 1], [2, 0, 1], [], [], [4, 5], [6, 4, 5], [3, 7, 2, 0, 1, 6, 4, 5]]
def sinss_r7 : List AI := [⟨(some 4), none, (.op (.mv (.c (.bool false))))⟩]
def sinss_r8 : List AI := [⟨(some 25), none, (.op (.ibin .add (.t 13) (.c (.int .i64 1))))⟩, ⟨(some 13), none, (.op (.mv (.t 25)))⟩]
def sinss_l0 : AC := (.seq (.reg sinss_r4) (.seq (.cond (.t 14) .skip (.exit 0)) (.seq (.block 1 (.seq (.reg sinss_r5) (.seq (.regd sinss_r6 sinss_p6) (.cond (.t 24) (.seq (.reg sinss_r7) .ret) .skip)))) (.reg sinss_r8))))
def sinss_r9 : List AI := [⟨(some 4), none, (.op (.mv (.c (.bool true))))⟩]
def sinss_c : AC := (.seq (.reg sinss_r0) (.seq (.seq (.reg sinss_r1) (.cond (.t 10) (.seq (.reg sinss_r2) .ret) .skip)) (.seq (.seq (.reg sinss_r3) (.block 0 (.loop sinss_l0))) (.seq (.reg sinss_r9) .ret))))
def sinss_res : List ARes := [(.tmp 4)]
set_option maxRecDepth 100000 in
theorem sinss_get : getF Try.prog 50 56000 [] = some ("slices.Equal[[]gavotte/api.Instr,gavotte/api.Instr]", 26, sinss_c, sinss_res) := by kernel_rfl
def sameNote_r0 : List AI := [⟨(some 2), none, (.op (.box 30002 3 (.t 0)))⟩, ⟨(some 3), none, (.op (.box 30003 3 (.t 1)))⟩, ⟨(some 4), none, (.op (.mv (.c (.bool false))))⟩]
def sameNote_r1 : List AI := [⟨(some 5), none, (.op (.fld 0 (.t 2)))⟩, ⟨(some 6), none, (.op (.load none (.t 5)))⟩, ⟨(some 7), none, (.op (.fld 0 (.t 3)))⟩, ⟨(some 8), none, (.op (.load none (.t 7)))⟩, ⟨(some 9), none, (.op (.ibin .eql (.t 6) (.t 8)))⟩, ⟨(some 10), none, (.op (.mv (.t 9)))⟩, ⟨(some 11), (some (10, true)), (.op (.fld 1 (.t 2)))⟩, ⟨(some 12), (some (10, true)), (.op (.load none (.t 11)))⟩, ⟨(some 13), (some (10, true)), (.op (.fld 1 (.t 3)))⟩, ⟨(some 14), (some (10, true)), (.op (.load none (.t 13)))⟩, ⟨(some 15), (some (10, true)), (.op (.ibin .eql (.t 12) (.t 14)))⟩, ⟨(some 16), none, (.op (.pick (.t 10) (.t 15) (.c (.bool false))))⟩, ⟨(some 17), none, (.op (.mv (.t 16)))⟩, ⟨(some 18), (some (17, true)), (.op (.fld 2 (.t 2)))⟩, ⟨(some 19), (some (17, true)), (.op (.load none (.t 18)))⟩, ⟨(some 20), (some (17, true)), (.op (.fld 2 (.t 3)))⟩, ⟨(some 21), (some (17, true)), (.op (.load none (.t 20)))⟩, ⟨(some 22), (some (17, true)), (.call (.c (.fn 48 [])) [(.t 19), (.t 21)])⟩, ⟨(some 23), none, (.op (.pick (.t 17) (.t 22) (.c (.bool false))))⟩, ⟨(some 4), none, (.op (.mv (.t 23)))⟩]
def sameNote_c : AC := (.seq (.reg sameNote_r0) (.seq (.reg sameNote_r1) .ret))
def sameNote_res : List ARes := [(.tmp 4)]
set_option maxRecDepth 100000 in
theorem sameNote_get : getF Try.prog 27 30000 [] = some ("gavotte/prog.SameNote", 24, sameNote_c, sameNote_res) := by kernel_rfl
def rsameNote_r0 : List AI := [⟨(some 2), none, (.op (.box 57002 3 (.t 0)))⟩, ⟨(some 3), none, (.op (.box 57003 3 (.t 1)))⟩, ⟨(some 4), none, (.op (.mv (.c (.bool false))))⟩]
def rsameNote_r1 : List AI := [⟨(some 5), none, (.op (.fld 0 (.t 2)))⟩, ⟨(some 6), none, (.op (.load none (.t 5)))⟩, ⟨(some 7), none, (.op (.fld 0 (.t 3)))⟩, ⟨(some 8), none, (.op (.load none (.t 7)))⟩, ⟨(some 9), none, (.op (.ibin .eql (.t 6) (.t 8)))⟩, ⟨(some 10), none, (.op (.mv (.t 9)))⟩, ⟨(some 11), (some (10, true)), (.op (.fld 1 (.t 2)))⟩, ⟨(some 12), (some (10, true)), (.op (.load none (.t 11)))⟩, ⟨(some 13), (some (10, true)), (.op (.fld 1 (.t 3)))⟩, ⟨(some 14), (some (10, true)), (.op (.load none (.t 13)))⟩, ⟨(some 15), (some (10, true)), (.op (.ibin .eql (.t 12) (.t 14)))⟩, ⟨(some 16), none, (.op (.pick (.t 10) (.t 15) (.c (.bool false))))⟩, ⟨(some 17), none, (.op (.mv (.t 16)))⟩, ⟨(some 18), (some (17, true)), (.op (.fld 2 (.t 2)))⟩, ⟨(some 19), (some (17, true)), (.op (.load none (.t 18)))⟩, ⟨(some 20), (some (17, true)), (.op (.fld 2 (.t 3)))⟩, ⟨(some 21), (some (17, true)), (.op (.load none (.t 20)))⟩, ⟨(some 22), (some (17, true)), (.call (.c (.fn 33 [])) [(.t 19), (.t 21)])⟩, ⟨(some 23), none, (.op (.pick (.t 17) (.t 22) (.c (.bool false))))⟩, ⟨(some 4), none, (.op (.mv (.t 23)))⟩]
def rsameNote_c : AC := (.seq (.reg rsameNote_r0) (.seq (.reg rsameNote_r1) .ret))
def rsameNote_res : List ARes := [(.tmp 4)]
set_option maxRecDepth 100000 in
theorem rsameNote_get : getF Try.prog 49 57000 [] = some ("gavotte/gavotteref1.SameNote", 24, rsameNote_c, rsameNote_res) := by kernel_rfl
def sameHnd_r0 : List AI := [⟨(some 2), none, (.op (.box 42002 2 (.t 0)))⟩, ⟨(some 3), none, (.op (.box 42003 2 (.t 1)))⟩, ⟨(some 4), none, (.op (.mv (.c (.bool false))))⟩]
def sameHnd_r1 : List AI := [⟨(some 5), none, (.op (.fld 0 (.t 2)))⟩, ⟨(some 6), none, (.op (.load none (.t 5)))⟩, ⟨(some 7), none, (.op (.fld 0 (.t 3)))⟩, ⟨(some 8), none, (.op (.load none (.t 7)))⟩, ⟨(some 9), none, (.op (.ibin .eql (.t 6) (.t 8)))⟩, ⟨(some 10), none, (.op (.mv (.t 9)))⟩, ⟨(some 11), (some (10, true)), (.op (.fld 1 (.t 2)))⟩, ⟨(some 12), (some (10, true)), (.op (.load none (.t 11)))⟩, ⟨(some 13), (some (10, true)), (.op (.fld 1 (.t 3)))⟩, ⟨(some 14), (some (10, true)), (.op (.load none (.t 13)))⟩, ⟨(some 15), (some (10, true)), (.call (.c (.fn 50 [])) [(.t 12), (.t 14)])⟩, ⟨(some 16), none, (.op (.pick (.t 10) (.t 15) (.c (.bool false))))⟩, ⟨(some 4), none, (.op (.mv (.t 16)))⟩]
def sameHnd_c : AC := (.seq (.reg sameHnd_r0) (.seq (.reg sameHnd_r1) .ret))
def sameHnd_res : List ARes := [(.tmp 4)]
set_option maxRecDepth 100000 in
theorem sameHnd_get : getF Try.prog 35 42000 [] = some ("gavotte/prog.sameHandler", 17, sameHnd_c, sameHnd_res) := by kernel_rfl
def sameAct_r0 : List AI := [⟨(some 2), none, (.op (.box 44002 4 (.t 0)))⟩, ⟨(some 3), none, (.op (.box 44003 4 (.t 1)))⟩, ⟨(some 4), none, (.op (.mv (.c (.bool false))))⟩]
def sameAct_r1 : List AI := [⟨(some 5), none, (.op (.fld 0 (.t 2)))⟩, ⟨(some 6), none, (.op (.load none (.t 5)))⟩, ⟨(some 7), none, (.op (.fld 0 (.t 3)))⟩, ⟨(some 8), none, (.op (.load none (.t 7)))⟩, ⟨(some 9), none, (.call (.c (.fn 48 [])) [(.t 6), (.t 8)])⟩, ⟨(some 10), none, (.op (.mv (.t 9)))⟩, ⟨(some 11), (some (10, true)), (.op (.fld 1 (.t 2)))⟩, ⟨(some 12), (some (10, true)), (.op (.load none (.t 11)))⟩, ⟨(some 13), (some (10, true)), (.op (.fld 1 (.t 3)))⟩, ⟨(some 14), (some (10, true)), (.op (.load none (.t 13)))⟩, ⟨(some 15), (some (10, true)), (.op (.ibin .eql (.t 12) (.t 14)))⟩, ⟨(some 16), none, (.op (.pick (.t 10) (.t 15) (.c (.bool false))))⟩, ⟨(some 17), none, (.op (.mv (.t 16)))⟩, ⟨(some 18), (some (17, true)), (.op (.fld 2 (.t 2)))⟩, ⟨(some 19), (some (17, true)), (.op (.load none (.t 18)))⟩, ⟨(some 20), (some (17, true)), (.op (.fld 2 (.t 3)))⟩, ⟨(some 21), (some (17, true)), (.op (.load none (.t 20)))⟩, ⟨(some 22), (some (17, true)), (.op (.ibin .eql (.t 19) (.t 21)))⟩, ⟨(some 23), none, (.op (.pick (.t 17) (.t 22) (.c (.bool false))))⟩, ⟨(some 24), none, (.op (.mv (.t 23)))⟩, ⟨(some 25), (some (24, true)), (.op (.fld 3 (.t 2)))⟩, ⟨(some 26), (some (24, true)), (.op (.load none (.t 25)))⟩, ⟨(some 27), (some (24, true)), (.op (.fld 3 (.t 3)))⟩, ⟨(some 28), (some (24, true)), (.op (.load none (.t 27)))⟩, ⟨(some 29), (some (24, true)), (.op (.eqv false (.t 26) (.t 28)))⟩, ⟨(some 30), none, (.op (.pick (.t 24) (.t 29) (.c (.bool false))))⟩, ⟨(some 4), none, (.op (.mv (.t 30)))⟩]
def sameAct_c : AC := (.seq (.reg sameAct_r0) (.seq (.reg sameAct_r1) .ret))
def sameAct_res : List ARes := [(.tmp 4)]
set_option maxRecDepth 100000 in
theorem sameAct_get : getF Try.prog 37 44000 [] = some ("gavotte/prog.sameActor", 31, sameAct_c, sameAct_res) := by kernel_rfl
def eqfH_r0 : List AI := [⟨(some 6), none, (.op (.mv (.c (.bool false))))⟩]
def eqfH_r1 : List AI := [⟨(some 10), none, (.op (.mv (.t 0)))⟩, ⟨(some 11), none, (.op (.len (.t 10)))⟩, ⟨(some 12), none, (.op (.mv (.t 1)))⟩, ⟨(some 13), none, (.op (.len (.t 12)))⟩, ⟨(some 14), none, (.op (.ibin .neq (.t 11) (.t 13)))⟩]
def eqfH_r2 : List AI := [⟨(some 6), none, (.op (.mv (.c (.bool false))))⟩]
def eqfH_r3 : List AI := [⟨(some 15), none, (.op (.mv (.t 0)))⟩, ⟨(some 16), none, (.op (.len (.t 15)))⟩, ⟨(some 17), none, (.op (.mv (.c (.int .i64 0))))⟩]
def eqfH_r4 : List AI := [⟨(some 18), none, (.op (.ibin .lss (.t 17) (.t 16)))⟩]
def eqfH_r5 : List AI := [⟨(some 19), none, (.op (.mv (.t 17)))⟩, ⟨(some 20), none, (.op (.idx 2 (.t 15) (.t 17)))⟩, ⟨(some 21), none, (.op (.load (some 2) (.t 20)))⟩, ⟨(some 8), none, (.op (.new 41008 2 (.agg [(.int .i64 0), .nils])))⟩, ⟨(some 7), none, (.op (.mv (.t 19)))⟩, ⟨none, none, (.op (.store 2 (.t 8) (.t 21)))⟩]
def eqfH_r6 : List AI := [⟨(some 22), none, (.op (.mv (.t 1)))⟩, ⟨(some 23), none, (.op (.mv (.t 7)))⟩, ⟨(some 24), none, (.op (.idx 2 (.t 22) (.t 23)))⟩, ⟨(some 25), none, (.op (.load (some 2) (.t 24)))⟩, ⟨(some 9), none, (.op (.new 41009 2 (.agg [(.int .i64 0), .nils])))⟩, ⟨none, none, (.op (.store 2 (.t 9) (.t 25)))⟩]
def eqfH_r7 : List AI := [⟨(some 26), none, (.op (.mv (.t 2)))⟩, ⟨(some 27), none, (.op (.load (some 2) (.t 8)))⟩, ⟨(some 28), none, (.op (.load (some 2) (.t 9)))⟩, ⟨(some 29), none, (.call (.t 26) [(.t 27), (.t 28)])⟩, ⟨(some 30), none, (.op (.not (.t 29)))⟩]
def eqfH_r8 : List AI := [⟨(some 6), none, (.op (.mv (.c (.bool false))))⟩]
def eqfH_r9 : List AI := [⟨(some 31), none, (.op (.ibin .add (.t 17) (.c (.int .i64 1))))⟩, ⟨(some 17), none, (.op (.mv (.t 31)))⟩]
def eqfH_l0 : AC := (.seq (.reg eqfH_r4) (.seq (.cond (.t 18) .skip (.exit 0)) (.seq (.block 1 (.seq (.reg eqfH_r5) (.seq (.reg eqfH_r6) (.seq (.reg eqfH_r7) (.cond (.t 30) (.seq (.reg eqfH_r8) .ret) .skip))))) (.reg eqfH_r9))))
def eqfH_r10 : List AI := [⟨(some 6), none, (.op (.mv (.c (.bool true))))⟩]
def eqfH_c : AC := (.seq (.reg eqfH_r0) (.seq (.seq (.reg eqfH_r1) (.cond (.t 14) (.seq (.reg eqfH_r2) .ret) .skip)) (.seq (.seq (.reg eqfH_r3) (.block 0 (.loop eqfH_l0))) (.seq (.reg eqfH_r10) .ret))))
def eqfH_res : List ARes := [(.tmp 6)]
set_option maxRecDepth 100000 in
theorem eqfH_get : getF Try.prog 34 41000 [] = some ("slices.EqualFunc[[]gavotte/api.Handler,[]gavotte/api.Handler,gavotte/api.Handler,gavotte/api.Handler]", 32, eqfH_c, eqfH_res) := by kernel_rfl
def eqfA_r0 : List AI := [⟨(some 6), none, (.op (.mv (.c (.bool false))))⟩]
def eqfA_r1 : List AI := [⟨(some 10), none, (.op (.mv (.t 0)))⟩, ⟨(some 11), none, (.op (.len (.t 10)))⟩, ⟨(some 12), none, (.op (.mv (.t 1)))⟩, ⟨(some 13), none, (.op (.len (.t 12)))⟩, ⟨(some 14), none, (.op (.ibin .neq (.t 11) (.t 13)))⟩]
def eqfA_r2 : List AI := [⟨(some 6), none, (.op (.mv (.c (.bool false))))⟩]
def eqfA_r3 : List AI := [⟨(some 15), none, (.op (.mv (.t 0)))⟩, ⟨(some 16), none, (.op (.len (.t 15)))⟩, ⟨(some 17), none, (.op (.mv (.c (.int .i64 0))))⟩]
def eqfA_r4 : List AI := [⟨(some 18), none, (.op (.ibin .lss (.t 17) (.t 16)))⟩]
def eqfA_r5 : List AI := [⟨(some 19), none, (.op (.mv (.t 17)))⟩, ⟨(some 20), none, (.op (.idx 4 (.t 15) (.t 17)))⟩, ⟨(some 21), none, (.op (.load (some 4) (.t 20)))⟩, ⟨(some 8), none, (.op (.new 43008 4 (.agg [.nils, (.int .i64 0), (.int .i64 0), (.bool false)])))⟩, ⟨(some 7), none, (.op (.mv (.t 19)))⟩, ⟨none, none, (.op (.store 4 (.t 8) (.t 21)))⟩]
def eqfA_r6 : List AI := [⟨(some 22), none, (.op (.mv (.t 1)))⟩, ⟨(some 23), none, (.op (.mv (.t 7)))⟩, ⟨(some 24), none, (.op (.idx 4 (.t 22) (.t 23)))⟩, ⟨(some 25), none, (.op (.load (some 4) (.t 24)))⟩, ⟨(some 9), none, (.op (.new 43009 4 (.agg [.nils, (.int .i64 0), (.int .i64 0), (.bool false)])))⟩, ⟨none, none, (.op (.store 4 (.t 9) (.t 25)))⟩]
def eqfA_r7 : List AI := [⟨(some 26), none, (.op (.mv (.t 2)))⟩, ⟨(some 27), none, (.op (.load (some 4) (.t 8)))⟩, ⟨(some 28), none, (.op (.load (some 4) (.t 9)))⟩, ⟨(some 29), none, (.call (.t 26) [(.t 27), (.t 28)])⟩, ⟨(some 30), none, (.op (.not (.t 29)))⟩]
def eqfA_r8 : List AI := [⟨(some 6), none, (.op (.mv (.c (.bool false))))⟩]
def eqfA_r9 : List AI := [⟨(some 31), none, (.op (.ibin .add (.t 17) (.c (.int .i64 1))))⟩, ⟨(some 17), none, (.op (.mv (.t 31)))⟩]
def eqfA_l0 : AC := (.seq (.reg eqfA_r4) (.seq (.cond (.t 18) .skip (.exit 0)) (.seq (.block 1 (.seq (.reg eqfA_r5) (.seq (.reg eqfA_r6) (.seq (.reg eqfA_r7) (.cond (.t 30) (.seq (.reg eqfA_r8) .ret) .skip))))) (.reg eqfA_r9))))
def eqfA_r10 : List AI := [⟨(some 6), none, (.op (.mv (.c (.bool true))))⟩]
def eqfA_c : AC := (.seq (.reg eqfA_r0) (.seq (.seq (.reg eqfA_r1) (.cond (.t 14) (.seq (.reg eqfA_r2) .ret) .skip)) (.seq (.seq (.reg eqfA_r3) (.block 0 (.loop eqfA_l0))) (.seq (.reg eqfA_r10) .ret))))
def eqfA_res : List ARes := [(.tmp 6)]
set_option maxRecDepth 100000 in
theorem eqfA_get : getF Try.prog 36 43000 [] = some ("slices.EqualFunc[[]gavotte/api.Actor,[]gavotte/api.Actor,gavotte/api.Actor,gavotte/api.Actor]", 32, eqfA_c, eqfA_res) := by kernel_rfl
def eqfN_r0 : List AI := [⟨(some 6), none, (.op (.mv (.c (.bool false))))⟩]
def eqfN_r1 : List AI := [⟨(some 10), none, (.op (.mv (.t 0)))⟩, ⟨(some 11), none, (.op (.len (.t 10)))⟩, ⟨(some 12), none, (.op (.mv (.t 1)))⟩, ⟨(some 13), none, (.op (.len (.t 12)))⟩, ⟨(some 14), none, (.op (.ibin .neq (.t 11) (.t 13)))⟩]
def eqfN_r2 : List AI := [⟨(some 6), none, (.op (.mv (.c (.bool false))))⟩]
def eqfN_r3 : List AI := [⟨(some 15), none, (.op (.mv (.t 0)))⟩, ⟨(some 16), none, (.op (.len (.t 15)))⟩, ⟨(some 17), none, (.op (.mv (.c (.int .i64 0))))⟩]
def eqfN_r4 : List AI := [⟨(some 18), none, (.op (.ibin .lss (.t 17) (.t 16)))⟩]
def eqfN_r5 : List AI := [⟨(some 19), none, (.op (.mv (.t 17)))⟩, ⟨(some 20), none, (.op (.idx 3 (.t 15) (.t 17)))⟩, ⟨(some 21), none, (.op (.load (some 3) (.t 20)))⟩, ⟨(some 8), none, (.op (.new 45008 3 (.agg [(.int .i64 0), (.int .i64 0), .nils])))⟩, ⟨(some 7), none, (.op (.mv (.t 19)))⟩, ⟨none, none, (.op (.store 3 (.t 8) (.t 21)))⟩]
def eqfN_r6 : List AI := [⟨(some 22), none, (.op (.mv (.t 1)))⟩, ⟨(some 23), none, (.op (.mv (.t 7)))⟩, ⟨(some 24), none, (.op (.idx 3 (.t 22) (.t 23)))⟩, ⟨(some 25), none, (.op (.load (some 3) (.t 24)))⟩, ⟨(some 9), none, (.op (.new 45009 3 (.agg [(.int .i64 0), (.int .i64 0), .nils])))⟩, ⟨none, none, (.op (.store 3 (.t 9) (.t 25)))⟩]
def eqfN_r7 : List AI := [⟨(some 26), none, (.op (.mv (.t 2)))⟩, ⟨(some 27), none, (.op (.load (some 3) (.t 8)))⟩, ⟨(some 28), none, (.op (.load (some 3) (.t 9)))⟩, ⟨(some 29), none, (.call (.t 26) [(.t 27), (.t 28)])⟩, ⟨(some 30), none, (.op (.not (.t 29)))⟩]
def eqfN_r8 : List AI := [⟨(some 6), none, (.op (.mv (.c (.bool false))))⟩]
def eqfN_r9 : List AI := [⟨(some 31), none, (.op (.ibin .add (.t 17) (.c (.int .i64 1))))⟩, ⟨(some 17), none, (.op (.mv (.t 31)))⟩]
def eqfN_l0 : AC := (.seq (.reg eqfN_r4) (.seq (.cond (.t 18) .skip (.exit 0)) (.seq (.block 1 (.seq (.reg eqfN_r5) (.seq (.reg eqfN_r6) (.seq (.reg eqfN_r7) (.cond (.t 30) (.seq (.reg eqfN_r8) .ret) .skip))))) (.reg eqfN_r9))))
def eqfN_r10 : List AI := [⟨(some 6), none, (.op (.mv (.c (.bool true))))⟩]
def eqfN_c : AC := (.seq (.reg eqfN_r0) (.seq (.seq (.reg eqfN_r1) (.cond (.t 14) (.seq (.reg eqfN_r2) .ret) .skip)) (.seq (.seq (.reg eqfN_r3) (.block 0 (.loop eqfN_l0))) (.seq (.reg eqfN_r10) .ret))))
def eqfN_res : List ARes := [(.tmp 6)]
set_option maxRecDepth 100000 in
theorem eqfN_get : getF Try.prog 38 45000 [] = some ("slices.EqualFunc[[]gavotte/api.Note,[]gavotte/api.Note,gavotte/api.Note,gavotte/api.Note]", 32, eqfN_c, eqfN_res) := by kernel_rfl
def rnotes_r0 : List AI := [⟨(some 4), none, (.op (.mv (.c (.bool false))))⟩]
def rnotes_r1 : List AI := [⟨(some 6), none, (.op (.mv (.t 0)))⟩, ⟨(some 7), none, (.op (.len (.t 6)))⟩, ⟨(some 8), none, (.op (.mv (.t 1)))⟩, ⟨(some 9), none, (.op (.len (.t 8)))⟩, ⟨(some 10), none, (.op (.ibin .neq (.t 7) (.t 9)))⟩]
def rnotes_r2 : List AI := [⟨(some 4), none, (.op (.mv (.c (.bool false))))⟩]
def rnotes_r3 : List AI := [⟨(some 5), none, (.op (.mv (.c (.int .i64 0))))⟩]
def rnotes_r4 : List AI := [⟨(some 11), none, (.op (.mv (.t 5)))⟩, ⟨(some 12), none, (.op (.mv (.t 0)))⟩, ⟨(some 13), none, (.op (.len (.t 12)))⟩, ⟨(some 14), none, (.op (.ibin .lss (.t 11) (.t 13)))⟩]
def rnotes_r5 : List AI := [⟨(some 17), none, (.op (.mv (.t 0)))⟩, ⟨(some 18), none, (.op (.mv (.t 5)))⟩, ⟨(some 19), none, (.op (.idx 3 (.t 17) (.t 18)))⟩, ⟨(some 20), none, (.op (.load (some 3) (.t 19)))⟩, ⟨(some 21), none, (.op (.mv (.t 1)))⟩, ⟨(some 22), none, (.op (.mv (.t 5)))⟩, ⟨(some 23), none, (.op (.idx 3 (.t 21) (.t 22)))⟩, ⟨(some 24), none, (.op (.load (some 3) (.t 23)))⟩, ⟨(some 25), none, (.call (.c (.fn 49 [])) [(.t 20), (.t 24)])⟩, ⟨(some 26), none, (.op (.not (.t 25)))⟩]
def rnotes_p5 : List (List Nat) := [[], [], [0, 1], [2, 0, 1], [], [], [4, 5], [6, 4, 5], [3, 7, 2, 0, 1, 6, 4, 5], [8, 3, 7, 2, 0, 1, 6, 4, 5]]
def rnotes_r6 : List AI := [⟨(some 4), none, (.op (.mv (.c (.bool false))))⟩]
def rnotes_r7 : List AI := [⟨(some 15), none, (.op (.mv (.t 5)))⟩, ⟨(some 16), none, (.op (.ibin .add (.t 15) (.c (.int .i64 1))))⟩, ⟨(some 5), none, (.op (.mv (.t 16)))⟩]
def rnotes_l0 : AC := (.seq (.seq (.reg rnotes_r4) (.cond (.t 14) .skip (.exit 0))) (.seq (.block 1 (.seq (.regd rnotes_r5 rnotes_p5) (.cond (.t 26) (.seq (.reg rnotes_r6) .ret) .skip))) (.reg rnotes_r7)))
def rnotes_r8 : List AI := [⟨(some 4), none, (.op (.mv (.c (.bool true))))⟩]
def rnotes_c : AC := (.seq (.reg rnotes_r0) (.seq (.seq (.reg rnotes_r1) (.cond (.t 10) (.seq (.reg rnotes_r2) .ret) .skip)) (.seq (.seq (.reg rnotes_r3) (.block 0 (.loop rnotes_l0))) (.seq (.reg rnotes_r8) .ret))))
def rnotes_res : List ARes := [(.tmp 4)]
set_option maxRecDepth 100000 in
theorem rnotes_get : getF Try.prog 31 46000 [] = some ("gavotte/gavotteref1.SameNotes", 27, rnotes_c, rnotes_res) := by kernel_rfl
attribute [simp] aints_r0 aints_r1 aints_r2 aints_r3 aints_r4 aints_r5 aints_p5 aints_r6 aints_r7 aints_r8 aints_res rints_r0 rints_r1 rints_r2 rints_r3 rints_r4 rints_r5 rints_p5 rints_r6 rints_r7 rints_r8 rints_res sints_r0 sints_r1 sints_r2 sints_r3 sints_r4 sints_r5 sints_r6 sints_p6 sints_r7 sints_r8 sints_r9 sints_res rcode_r0 rcode_r1 rcode_r2 rcode_r3 rcode_r4 rcode_r5 rcode_p5 rcode_r6 rcode_r7 rcode_r8 rcode_res sinss_r0 sinss_r1 sinss_r2 sinss_r3 sinss_r4 sinss_r5 sinss_r6 sinss_p6 sinss_r7 sinss_r8 sinss_r9 sinss_res sameNote_r0 sameNote_r1 sameNote_res rsameNote_r0 rsameNote_r1 rsameNote_res sameHnd_r0 sameHnd_r1 sameHnd_res sameAct_r0 sameAct_r1 sameAct_res eqfH_r0 eqfH_r1 eqfH_r2 eqfH_r3 eqfH_r4 eqfH_r5 eqfH_r6 eqfH_r7 eqfH_r8 eqfH_r9 eqfH_r10 eqfH_res eqfA_r0 eqfA_r1 eqfA_r2 eqfA_r3 eqfA_r4 eqfA_r5 eqfA_r6 eqfA_r7 eqfA_r8 eqfA_r9 eqfA_r10 eqfA_res eqfN_r0 eqfN_r1 eqfN_r2 eqfN_r3 eqfN_r4 eqfN_r5 eqfN_r6 eqfN_r7 eqfN_r8 eqfN_r9 eqfN_r10 eqfN_res rnotes_r0 rnotes_r1 rnotes_r2 rnotes_r3 rnotes_r4 rnotes_r5 rnotes_p5 rnotes_r6 rnotes_r7 rnotes_r8 rnotes_res


theorem Ins.eq_iff (a b : Ins) : a = b ↔ a.op = b.op ∧ a.a = b.a := by cases a; cases b; simp
theorem Hnd.eq_iff (a b : Hnd) : a = b ↔ a.args = b.args ∧ a.code = b.code := by cases a; cases b; simp
theorem Actr.eq_iff (a b : Actr) : a = b ↔ a.regs = b.regs ∧ a.cap = b.cap ∧ a.timer = b.timer ∧ a.armed = b.armed := by cases a; cases b; simp
theorem Nt.eq_iff (a b : Nt) : a = b ↔ a.to = b.to ∧ a.hd = b.hd ∧ a.args = b.args := by cases a; cases b; simp
theorem Prg.eq_iff (a b : Prg) : a = b ↔ a.hs = b.hs ∧ a.as = b.as ∧ a.boot = b.boot ∧ a.fuel = b.fuel := by cases a; cases b; simp
theorem aints_pc (l m : List Int) (hl : l.length < 4611686018427387904) : PC Try.prog 19 [ints l, ints m ] (.bool (decide (l = m))) := by
  refine pc_of_get aints_get (by simp) _ (by simp) _ ?_
  unfold aints_c
  simp
  refine split (fun hlen => ?_) (fun hlen => ?_) <;> simp [hlen]
  rotate_left
  · intro e; exact hlen (by rw [e])
  have hlen : l.length = m.length := by omega
  refine loopN (fun i S => S.t 0 = ints l ∧ S.t 1 = ints m ∧ S.t 5 = iv i ∧ (l = m ↔ l.drop i = m.drop i)) l.length ?_ ?_
  · simp [hlen]
  · rintro i S hi ⟨h0, h1, h2, h4⟩
    by_cases hlt : i < l.length
    · have hlt2 : i < m.length := by omega
      rw [List.drop_eq_getElem_cons hlt, List.drop_eq_getElem_cons hlt2, List.cons.injEq] at h4
      simp [aints_l0, h0, h1, h2, hlt, hlt2]
      repeat' (refine split (fun hc => ?_) (fun hc => ?_) <;> simp [hc, h0, h1, h2, hlt, hlt2, h4, wrap_succ i _ hlt hl])
      all_goals grind
    · have e : i = l.length := by omega
      subst e
      have hle : m.length ≤ l.length := by omega
      simp [hle] at h4
      simp [aints_l0, h0, h1, h2,  h4]
theorem rints_pc (l m : List Int) (hl : l.length < 4611686018427387904) : PC Try.prog 33 [ints l, ints m ] (.bool (decide (l = m))) := by
  refine pc_of_get rints_get (by simp) _ (by simp) _ ?_
  unfold rints_c
  simp
  refine split (fun hlen => ?_) (fun hlen => ?_) <;> simp [hlen]
  rotate_left
  · intro e; exact hlen (by rw [e])
  have hlen : l.length = m.length := by omega
  refine loopN (fun i S => S.t 0 = ints l ∧ S.t 1 = ints m ∧ S.t 5 = iv i ∧ (l = m ↔ l.drop i = m.drop i)) l.length ?_ ?_
  · simp [hlen]
  · rintro i S hi ⟨h0, h1, h2, h4⟩
    by_cases hlt : i < l.length
    · have hlt2 : i < m.length := by omega
      rw [List.drop_eq_getElem_cons hlt, List.drop_eq_getElem_cons hlt2, List.cons.injEq] at h4
      simp [rints_l0, h0, h1, h2, hlt, hlt2]
      repeat' (refine split (fun hc => ?_) (fun hc => ?_) <;> simp [hc, h0, h1, h2, hlt, hlt2, h4, wrap_succ i _ hlt hl])
      all_goals grind
    · have e : i = l.length := by omega
      subst e
      have hle : m.length ≤ l.length := by omega
      simp [hle] at h4
      simp [rints_l0, h0, h1, h2,  h4]
theorem sints_pc (l m : List Int) (hl : l.length < 4611686018427387904) : PC Try.prog 48 [ints l, ints m ] (.bool (decide (l = m))) := by
  refine pc_of_get sints_get (by simp) _ (by simp) _ ?_
  unfold sints_c
  simp
  refine split (fun hlen => ?_) (fun hlen => ?_) <;> simp [hlen]
  rotate_left
  · intro e; exact hlen (by rw [e])
  have hlen : l.length = m.length := by omega
  refine loopN (fun i S => S.t 0 = ints l ∧ S.t 1 = ints m ∧ S.t 13 = iv i ∧ S.t 12 = iv l.length ∧ (l = m ↔ l.drop i = m.drop i)) l.length ?_ ?_
  · simp [hlen]
  · rintro i S hi ⟨h0, h1, h2, h3, h4⟩
    by_cases hlt : i < l.length
    · have hlt2 : i < m.length := by omega
      rw [List.drop_eq_getElem_cons hlt, List.drop_eq_getElem_cons hlt2, List.cons.injEq] at h4
      simp [sints_l0, h0, h1, h2, h3, hlt, hlt2]
      repeat' (refine split (fun hc => ?_) (fun hc => ?_) <;> simp [hc, h0, h1, h2, h3, hlt, hlt2, h4, wrap_succ i _ hlt hl])
      all_goals grind
    · have e : i = l.length := by omega
      subst e
      have hle : m.length ≤ l.length := by omega
      simp [hle] at h4
      simp [sints_l0, h0, h1, h2, h3,  h4]
theorem rcode_pc (l m : List Ins) (hl : l.length < 4611686018427387904) : PC Try.prog 32 [.lst 2 (l.map Ins.av), .lst 2 (m.map Ins.av) ] (.bool (decide (l = m))) := by
  refine pc_of_get rcode_get (by simp) _ (by simp) _ ?_
  unfold rcode_c
  simp
  refine split (fun hlen => ?_) (fun hlen => ?_) <;> simp [hlen]
  rotate_left
  · intro e; exact hlen (by rw [e])
  have hlen : l.length = m.length := by omega
  refine loopN (fun i S => S.t 0 = .lst 2 (l.map Ins.av) ∧ S.t 1 = .lst 2 (m.map Ins.av) ∧ S.t 5 = iv i ∧ (l = m ↔ l.drop i = m.drop i)) l.length ?_ ?_
  · simp [hlen]
  · rintro i S hi ⟨h0, h1, h2, h4⟩
    by_cases hlt : i < l.length
    · have hlt2 : i < m.length := by omega
      rw [List.drop_eq_getElem_cons hlt, List.drop_eq_getElem_cons hlt2, List.cons.injEq] at h4
      rw [Ins.eq_iff] at h4
      simp [rcode_l0, h0, h1, h2, hlt, hlt2]
      repeat' (refine split (fun hc => ?_) (fun hc => ?_) <;> simp [hc, h0, h1, h2, hlt, hlt2, h4, wrap_succ i _ hlt hl])
      all_goals grind
    · have e : i = l.length := by omega
      subst e
      have hle : m.length ≤ l.length := by omega
      simp [hle] at h4
      simp [rcode_l0, h0, h1, h2,  h4]
theorem sinss_pc (l m : List Ins) (hl : l.length < 4611686018427387904) : PC Try.prog 50 [.lst 2 (l.map Ins.av), .lst 2 (m.map Ins.av) ] (.bool (decide (l = m))) := by
  refine pc_of_get sinss_get (by simp) _ (by simp) _ ?_
  unfold sinss_c
  simp
  refine split (fun hlen => ?_) (fun hlen => ?_) <;> simp [hlen]
  rotate_left
  · intro e; exact hlen (by rw [e])
  have hlen : l.length = m.length := by omega
  refine loopN (fun i S => S.t 0 = .lst 2 (l.map Ins.av) ∧ S.t 1 = .lst 2 (m.map Ins.av) ∧ S.t 13 = iv i ∧ S.t 12 = iv l.length ∧ (l = m ↔ l.drop i = m.drop i)) l.length ?_ ?_
  · simp [hlen]
  · rintro i S hi ⟨h0, h1, h2, h3, h4⟩
    by_cases hlt : i < l.length
    · have hlt2 : i < m.length := by omega
      rw [List.drop_eq_getElem_cons hlt, List.drop_eq_getElem_cons hlt2, List.cons.injEq] at h4
      rw [Ins.eq_iff] at h4
      simp [sinss_l0, h0, h1, h2, h3, hlt, hlt2]
      repeat' (refine split (fun hc => ?_) (fun hc => ?_) <;> simp [hc, h0, h1, h2, h3, hlt, hlt2, h4, wrap_succ i _ hlt hl])
      all_goals grind
    · have e : i = l.length := by omega
      subst e
      have hle : m.length ≤ l.length := by omega
      simp [hle] at h4
      simp [sinss_l0, h0, h1, h2, h3,  h4]
theorem sameNote_pc (a b : Nt) (hl : a.args.length < 4611686018427387904) : PC Try.prog 27 [a.av, b.av] (.bool (decide (a = b))) := by
  refine pc_of_get sameNote_get (by simp) _ (by simp) _ ?_
  unfold sameNote_c
  have e := Nt.eq_iff a b
  simp
  refine split (fun h1 => ?_) (fun h1 => ?_) <;> simp [h1]
  rotate_left
  · grind
  refine split (fun h2 => ?_) (fun h2 => ?_) <;> simp [h2]
  rotate_left
  · grind
  refine call (sints_pc a.args b.args hl) (by simp) ?_
  simp [h1, h2, e]
theorem rsameNote_pc (a b : Nt) (hl : a.args.length < 4611686018427387904) : PC Try.prog 49 [a.av, b.av] (.bool (decide (a = b))) := by
  refine pc_of_get rsameNote_get (by simp) _ (by simp) _ ?_
  unfold rsameNote_c
  have e := Nt.eq_iff a b
  simp
  refine split (fun h1 => ?_) (fun h1 => ?_) <;> simp [h1]
  rotate_left
  · grind
  refine split (fun h2 => ?_) (fun h2 => ?_) <;> simp [h2]
  rotate_left
  · grind
  refine call (rints_pc a.args b.args hl) (by simp) ?_
  simp [h1, h2, e]
theorem sameHnd_pc (a b : Hnd) (hl : a.code.length < 4611686018427387904) : PC Try.prog 35 [a.av, b.av] (.bool (decide (a = b))) := by
  refine pc_of_get sameHnd_get (by simp) _ (by simp) _ ?_
  unfold sameHnd_c
  have e := Hnd.eq_iff a b
  simp
  refine split (fun h1 => ?_) (fun h1 => ?_) <;> simp [h1]
  rotate_left
  · grind
  refine call (sinss_pc a.code b.code hl) (by simp) ?_
  simp [h1, e]
theorem sameAct_pc (a b : Actr) (hl : a.regs.length < 4611686018427387904) : PC Try.prog 37 [a.av, b.av] (.bool (decide (a = b))) := by
  refine pc_of_get sameAct_get (by simp) _ (by simp) _ ?_
  unfold sameAct_c
  have e := Actr.eq_iff a b
  simp
  refine call (sints_pc a.regs b.regs hl) (by simp) ?_
  simp
  refine split (fun h1 => ?_) (fun h1 => ?_) <;> simp [h1]
  rotate_left
  · grind
  refine split (fun h2 => ?_) (fun h2 => ?_) <;> simp [h2]
  rotate_left
  · grind
  refine split (fun h3 => ?_) (fun h3 => ?_) <;> simp [h3]
  rotate_left
  · grind
  cases ha : a.armed <;> cases hb : b.armed <;> simp [h1, h2, h3, e, ha, hb]
theorem eqfH_pc (l m : List Hnd) (f : FuncId) (hf : ∀ a ∈ l, ∀ b, PC Try.prog f [a.av, b.av] (.bool (decide (a = b)))) (hl : l.length < 4611686018427387904) : PC Try.prog 34 [.lst 2 (l.map Hnd.av), .lst 2 (m.map Hnd.av) , .fn f []] (.bool (decide (l = m))) := by
  refine pc_of_get eqfH_get (by simp) _ (by simp) _ ?_
  unfold eqfH_c
  simp
  refine split (fun hlen => ?_) (fun hlen => ?_) <;> simp [hlen]
  rotate_left
  · intro e; exact hlen (by rw [e])
  have hlen : l.length = m.length := by omega
  refine loopN (fun i S => S.t 0 = .lst 2 (l.map Hnd.av) ∧ S.t 1 = .lst 2 (m.map Hnd.av) ∧ S.t 17 = iv i ∧ S.t 15 = .lst 2 (l.map Hnd.av) ∧ S.t 16 = iv l.length ∧ S.t 2 = .fn f [] ∧ (l = m ↔ l.drop i = m.drop i)) l.length ?_ ?_
  · simp [hlen]
  · rintro i S hi ⟨h0, h1, h2, h3, h5, h6, h4⟩
    by_cases hlt : i < l.length
    · have hlt2 : i < m.length := by omega
      rw [List.drop_eq_getElem_cons hlt, List.drop_eq_getElem_cons hlt2, List.cons.injEq] at h4
      simp [eqfH_l0, h0, h1, h2, h3, h5, h6, hlt, hlt2]
      refine call (hf l[i] (List.getElem_mem hlt) m[i]) (by simp) ?_
      simp [h0, h1, h2, h3, h5, h6, hlt, hlt2]
      repeat' (refine split (fun hc => ?_) (fun hc => ?_) <;> simp [hc, h0, h1, h2, h3, h5, h6, hlt, hlt2, h4, wrap_succ i _ hlt hl])
      all_goals grind
    · have e : i = l.length := by omega
      subst e
      have hle : m.length ≤ l.length := by omega
      simp [hle] at h4
      simp [eqfH_l0, h0, h1, h2, h3, h5, h6,  h4]
theorem eqfA_pc (l m : List Actr) (f : FuncId) (hf : ∀ a ∈ l, ∀ b, PC Try.prog f [a.av, b.av] (.bool (decide (a = b)))) (hl : l.length < 4611686018427387904) : PC Try.prog 36 [.lst 4 (l.map Actr.av), .lst 4 (m.map Actr.av) , .fn f []] (.bool (decide (l = m))) := by
  refine pc_of_get eqfA_get (by simp) _ (by simp) _ ?_
  unfold eqfA_c
  simp
  refine split (fun hlen => ?_) (fun hlen => ?_) <;> simp [hlen]
  rotate_left
  · intro e; exact hlen (by rw [e])
  have hlen : l.length = m.length := by omega
  refine loopN (fun i S => S.t 0 = .lst 4 (l.map Actr.av) ∧ S.t 1 = .lst 4 (m.map Actr.av) ∧ S.t 17 = iv i ∧ S.t 15 = .lst 4 (l.map Actr.av) ∧ S.t 16 = iv l.length ∧ S.t 2 = .fn f [] ∧ (l = m ↔ l.drop i = m.drop i)) l.length ?_ ?_
  · simp [hlen]
  · rintro i S hi ⟨h0, h1, h2, h3, h5, h6, h4⟩
    by_cases hlt : i < l.length
    · have hlt2 : i < m.length := by omega
      rw [List.drop_eq_getElem_cons hlt, List.drop_eq_getElem_cons hlt2, List.cons.injEq] at h4
      simp [eqfA_l0, h0, h1, h2, h3, h5, h6, hlt, hlt2]
      refine call (hf l[i] (List.getElem_mem hlt) m[i]) (by simp) ?_
      simp [h0, h1, h2, h3, h5, h6, hlt, hlt2]
      repeat' (refine split (fun hc => ?_) (fun hc => ?_) <;> simp [hc, h0, h1, h2, h3, h5, h6, hlt, hlt2, h4, wrap_succ i _ hlt hl])
      all_goals grind
    · have e : i = l.length := by omega
      subst e
      have hle : m.length ≤ l.length := by omega
      simp [hle] at h4
      simp [eqfA_l0, h0, h1, h2, h3, h5, h6,  h4]
theorem eqfN_pc (l m : List Nt) (f : FuncId) (hf : ∀ a ∈ l, ∀ b, PC Try.prog f [a.av, b.av] (.bool (decide (a = b)))) (hl : l.length < 4611686018427387904) : PC Try.prog 38 [.lst 3 (l.map Nt.av), .lst 3 (m.map Nt.av) , .fn f []] (.bool (decide (l = m))) := by
  refine pc_of_get eqfN_get (by simp) _ (by simp) _ ?_
  unfold eqfN_c
  simp
  refine split (fun hlen => ?_) (fun hlen => ?_) <;> simp [hlen]
  rotate_left
  · intro e; exact hlen (by rw [e])
  have hlen : l.length = m.length := by omega
  refine loopN (fun i S => S.t 0 = .lst 3 (l.map Nt.av) ∧ S.t 1 = .lst 3 (m.map Nt.av) ∧ S.t 17 = iv i ∧ S.t 15 = .lst 3 (l.map Nt.av) ∧ S.t 16 = iv l.length ∧ S.t 2 = .fn f [] ∧ (l = m ↔ l.drop i = m.drop i)) l.length ?_ ?_
  · simp [hlen]
  · rintro i S hi ⟨h0, h1, h2, h3, h5, h6, h4⟩
    by_cases hlt : i < l.length
    · have hlt2 : i < m.length := by omega
      rw [List.drop_eq_getElem_cons hlt, List.drop_eq_getElem_cons hlt2, List.cons.injEq] at h4
      simp [eqfN_l0, h0, h1, h2, h3, h5, h6, hlt, hlt2]
      refine call (hf l[i] (List.getElem_mem hlt) m[i]) (by simp) ?_
      simp [h0, h1, h2, h3, h5, h6, hlt, hlt2]
      repeat' (refine split (fun hc => ?_) (fun hc => ?_) <;> simp [hc, h0, h1, h2, h3, h5, h6, hlt, hlt2, h4, wrap_succ i _ hlt hl])
      all_goals grind
    · have e : i = l.length := by omega
      subst e
      have hle : m.length ≤ l.length := by omega
      simp [hle] at h4
      simp [eqfN_l0, h0, h1, h2, h3, h5, h6,  h4]
theorem rnotes_pc (l m : List Nt) (hf : ∀ a ∈ l, a.args.length < 4611686018427387904) (hl : l.length < 4611686018427387904) : PC Try.prog 31 [.lst 3 (l.map Nt.av), .lst 3 (m.map Nt.av) ] (.bool (decide (l = m))) := by
  refine pc_of_get rnotes_get (by simp) _ (by simp) _ ?_
  unfold rnotes_c
  simp
  refine split (fun hlen => ?_) (fun hlen => ?_) <;> simp [hlen]
  rotate_left
  · intro e; exact hlen (by rw [e])
  have hlen : l.length = m.length := by omega
  refine loopN (fun i S => S.t 0 = .lst 3 (l.map Nt.av) ∧ S.t 1 = .lst 3 (m.map Nt.av) ∧ S.t 5 = iv i ∧ (l = m ↔ l.drop i = m.drop i)) l.length ?_ ?_
  · simp [hlen]
  · rintro i S hi ⟨h0, h1, h2, h4⟩
    by_cases hlt : i < l.length
    · have hlt2 : i < m.length := by omega
      rw [List.drop_eq_getElem_cons hlt, List.drop_eq_getElem_cons hlt2, List.cons.injEq] at h4
      simp [rnotes_l0, h0, h1, h2, hlt, hlt2]
      refine calld (rsameNote_pc l[i] m[i] (hf _ (List.getElem_mem hlt))) (by simp) ?_
      simp [h0, h1, h2, hlt, hlt2]
      repeat' (refine split (fun hc => ?_) (fun hc => ?_) <;> simp [hc, h0, h1, h2, hlt, hlt2, h4, wrap_succ i _ hlt hl])
      all_goals grind
    · have e : i = l.length := by omega
      subst e
      have hle : m.length ≤ l.length := by omega
      simp [hle] at h4
      simp [rnotes_l0, h0, h1, h2,  h4]


end Go.Gv
