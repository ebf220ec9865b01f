/- Texts of this proof, one behind the other. What is proved, and on which conditions, stands ahead of each. -/
import Derived.Test.YtpaeffcpdpblcaaGreatM103f5580
import Derived.Test.YtpaeffcpdpblcaaGreatProg
import Derived.Test.YtpaeffcpdpblcaaGreatM6ef64fa

/- Maps in walks; calls that leave all but some names as it was, as calls of drawn regions. No condition beyond those that each law names. -/
set_option linter.unusedVariables false
set_option linter.unusedSimpArgs false
namespace Go.Gv
open Go.RowKit

section
variable {f : Nat → AV} {blk : Nat → Option Blk} {tok : Nat → Option Tok} {st nm s : Nat} {m x v z : X} {k : IntKind} {zv : AV}
@[simp] theorem ex_mkm : ex f blk tok st (.mkm nm) = some { v := .mp nm st, wb := [(nm, some ⟨st, 0, []⟩)] } := rfl
@[simp] theorem ex_mget : ex f blk tok st (.mget k zv m x) = match m.ev f, x.ev f with
    | .mp nm s, .int k' a => if k' = k then (getM blk nm s).bind fun es => (findM k a es).map fun r => { v := r.getD zv } else none
    | _, _ => none := rfl
@[simp] theorem ex_mput : ex f blk tok st (.mput m x v) = match m.ev f, x.ev f with
    | .mp nm s, .int k a => (getM blk nm s).bind fun es => match findM k a es with
      | some none => if (v.ev f).one = true then some { v := .junk, wb := [(nm, some ⟨s, 0, es ++ [.agg [.int k a, v.ev f]]⟩)] } else none
      | _ => none
    | _, _ => none := rfl
@[simp] theorem aopXs_mkm : aopXs (.mkm nm) = [] := rfl
@[simp] theorem aopXs_mget : aopXs (.mget k zv m x) = [m, x] := rfl
@[simp] theorem aopXs_mput : aopXs (.mput m x v) = [m, x, v] := rfl
end
attribute [simp] getM
@[simp] theorem rdV_mp {nm st : Nat} : rdV (.mp nm st) = [nm] := rfl
@[simp] theorem tkV_mp {nm st : Nat} : tkV (.mp nm st) = [] := rfl
@[simp] theorem cells_mp {nm st : Nat} : (AV.mp nm st).cells = [.mp nm st] := rfl
@[simp] theorem one_mp {nm st : Nat} : (AV.mp nm st).one = true := rfl
@[simp] theorem lenOf_mp {nm st : Nat} : lenOf (.mp nm st) = none := rfl

/-- A set of numbers as a map's entries. -/
def setM (l : List Int) : List AV := l.map fun h => .agg [.int .i64 h, .bool true]
@[simp] theorem setM_nil : setM [] = [] := rfl
theorem setM_snoc (l : List Int) (h : Int) : setM l ++ [.agg [.int .i64 h, .bool true]] = setM (l ++ [h]) := by simp [setM]
theorem findM_set (a : Int) : ∀ l : List Int, findM .i64 a (setM l) = some (if a ∈ l then some (.bool true) else none)
  | [] => by simp [setM, findM]
  | h :: l => by
    have ih := findM_set a l
    simp only [setM] at ih
    simp only [setM, List.map_cons, findM, if_true]
    by_cases e : a = h
    · simp [e]
    · simp [e, ih]

theorem Rel.narrow {E E' : Env} {y : AV} {u' : Value} (h : Rel E' y u') : ∀ {u : Value}, Rel E y u → Rel { E' with u := E.u } y u' := by
  induction h with
  | @junk E' v => intro u q; exact .junk v
  | @raw E' v => intro u q; exact .raw v
  | @bool E' b => intro u q; exact .bool b
  | @int E' k n => intro u q; exact .int k n
  | @str E' s => intro u q; exact .str s
  | @nilp E' => intro u q; exact .nilp
  | @nilf E' => intro u q; exact .nilf
  | @nils E' => intro u q; exact .nils
  | @ptr E' nm st sz i off _ =>
    intro u q
    cases q with
    | ptr _ _ _ _ _ hu => exact Rel.ptr (E := { E' with u := E.u }) nm st sz i off hu
  | @kp E' cs off b o f hk h1 hr => intro u q; exact Rel.kp (E := { E' with u := E.u }) cs off b o f hk h1 hr
  | @lst0 E' sz a cap => intro u q; exact .lst0 sz a cap
  | @lst E' xs b o sz cap f hcap hsz hk h1 hr => intro u q; exact Rel.lst (E := { E' with u := E.u }) xs b o sz cap f hcap hsz hk h1 hr
  | @acc E' nm st sz xs v hu hv h ih =>
    intro u q
    cases q with
    | acc _ _ _ _ _ hu' _ q' => exact Rel.acc (E := { E' with u := E.u }) nm st sz xs v hu' hv (ih q')
  | @sl E' nm st sz off len cap a hu hcap hc ha =>
    intro u q
    cases q with
    | sl _ _ _ _ _ _ _ hu' _ _ _ => exact Rel.sl (E := { E' with u := E.u }) nm st sz off len cap a hu' hcap hc ha
  | @mp E' nm st hu =>
    intro u q
    cases q with
    | mp _ _ hu' => exact Rel.mp (E := { E' with u := E.u }) nm st hu'
  | @fn E' f caps vs hs _ ih =>
    intro u q
    cases q with
    | fn _ _ vs' hs' hr' =>
      refine Rel.fn (E := { E' with u := E.u }) f caps vs hs (fun j y v hy hv => ?_)
      obtain ⟨v', hv'⟩ : ∃ v', vs'[j]? = some v' := ⟨_, Array.getElem?_eq_getElem (by rw [← hs']; exact (List.getElem?_eq_some_iff.1 hy).1)⟩
      exact ih j y v hy hv (hr' j y v' hy hv')
  | @agg E' cs vs hs h1 _ ih =>
    intro u q
    cases q with
    | agg _ vs' hs' _ hr' =>
      refine Rel.agg (E := { E' with u := E.u }) cs vs hs h1 (fun j y v hy hv => ?_)
      obtain ⟨v', hv'⟩ : ∃ v', vs'[j]? = some v' := ⟨_, Array.getElem?_eq_getElem (by rw [← hs']; exact (List.getElem?_eq_some_iff.1 hy).1)⟩
      exact ih j y v hy hv (hr' j y v' hy hv')
  | @tup E' cs vs hs _ ih =>
    intro u q
    cases q with
    | tup _ vs' hs' hr' =>
      refine Rel.tup (E := { E' with u := E.u }) cs vs hs (fun j y v hy hv => ?_)
      obtain ⟨v', hv'⟩ : ∃ v', vs'[j]? = some v' := ⟨_, Array.getElem?_eq_getElem (by rw [← hs']; exact (List.getElem?_eq_some_iff.1 hy).1)⟩
      exact ih j y v hy hv (hr' j y v' hy hv')

theorem EntsRel.narrow {E E' : Env} : ∀ {xs : List AV} {ms ms' : List MapEntry}, EntsRel E' xs ms' → EntsRel E xs ms → EntsRel { E' with u := E.u } xs ms'
  | [], _, [], _, _ => trivial
  | [], _, _ :: _, h, _ => h.elim
  | _ :: _, [], _, _, h => h.elim
  | _ :: _, _ :: _, [], h, _ => h.elim
  | x :: xs, m :: ms, m' :: ms', ⟨⟨k, a, z, h1, h2, h3, h4⟩, h5⟩, ⟨⟨k', a', z', q1, q2, q3, q4⟩, q5⟩ => by
    subst h1
    cases q1
    exact ⟨⟨k, a, z, rfl, h2, h3, h4.narrow q4⟩, h5.narrow q5⟩

/-- A call whose outcome is closed, and that leaves all blocks as they were but for some, which are forgotten: no stamp of its own is left. -/
theorem CallP.localize {P : Program} {fv : AV} {vals : List AV} {T : St} {k0 : AV → St → Prop} (h : CallP P fv vals T k0) (r0 : AV) (blk' : Nat → Option Blk) (tok' : Nat → Option Tok) (h1 : r0.cl1 = true)
    (hk : ∀ r S, k0 r S → (∀ (E : Env) (v : Value), Rel E r v → Rel E r0 v) ∧ (∀ n b, blk' n = some b → S.blk n = some b ∧ T.blk n = some b) ∧ (∀ n t, tok' n = some t → S.tok n = some t ∧ T.tok n = some t)) :
    CallP P fv vals T fun r S => r = r0 ∧ S = ⟨T.t, blk', tok', T.clk⟩ := by
  obtain ⟨f, caps, q1, q2, q3⟩ := h
  refine ⟨f, caps, q1, q2, fun E B W w args H hW hB hu hsz hrel => (q3 E B W w args H hW hB hu hsz hrel).mono ?_⟩
  rintro e w' ⟨v, E', r, S', rfl, a2, a3, a4, a5, a6, a7, a8, a9, a10⟩
  obtain ⟨b1, b2, b3⟩ := hk r S' a10
  have hcell : ∀ b o u, ({ E' with u := E.u } : Env).K b o = some u → w'.cell? ⟨b, o, none⟩ = some u := a3.K
  refine ⟨v, { E' with u := E.u }, r0, ⟨T.t, blk', tok', T.clk⟩, rfl, ⟨a2.K, a2.m, a2.hd, a2.cp, fun s hs => hs⟩, ⟨hcell, ?_, ?_, ?_, ?_, ?_, ?_, ?_⟩, a4, a5, fun s hs => ⟨.inl hs, hu s hs⟩, Nat.le_refl _, rfl, ?_, rfl, rfl⟩
  · exact fun n b hb => H.bu n b (b2 n b hb).2
  · intro n b hb
    obtain ⟨hb1, hb2⟩ := b2 n b hb
    have B' := a3.bk n b hb1
    have B0 := H.bk n b hb2
    have em := a2.m _ (H.bu n b hb2)
    cases B' with
    | row h0 R =>
      have R0 := B0.r h0
      obtain ⟨cur, ty, c1, c2, c3⟩ := R.row
      obtain ⟨_, _, _, _, d3⟩ := R0.row
      refine .row h0 ⟨R.base, R.el, R.len, ⟨cur, ty, c1, c2, fun i x hx j y hy => ?_⟩, R.noK⟩
      obtain ⟨u, g1, g2⟩ := c3 i x hx j y hy
      obtain ⟨u0, _, g3⟩ := d3 i x hx j y hy
      exact ⟨u, g1, g2.narrow g3⟩
    | map h0 M =>
      obtain ⟨arr, c, c1, c2⟩ := M.mp
      obtain ⟨st, sz, es⟩ := b
      simp only at h0
      subst h0
      obtain ⟨arr0, c0, _, d2⟩ := B0.mp.mp
      exact .map rfl ⟨M.base, ⟨arr, c, c1, c2.narrow d2⟩, M.noK⟩
  · exact fun n t ht => H.tu n t (b3 n t ht).2
  · exact fun n t ht => a3.tk n t (b3 n t ht).1
  · exact fun n n' b b' hn hb hb' => a3.bb n n' b b' hn (b2 n b hb).1 (b2 n' b' hb').1
  · exact fun n n' b t hb ht => a3.bt n n' b t (b2 n b hb).1 (b3 n' t ht).1
  · exact fun n n' t t' g hn ht ht' hg => a3.tt n n' t t' g hn (b3 n t ht).1 (b3 n' t' ht').1 hg
  · exact Rel.of_cl1 (E := E') (E' := { E' with u := E.u }) (fun _ _ _ q => q) (b1 E' v a9) h1

theorem appB_fold (f : Nat → Option Blk) : ∀ (l : List Nat) (n : Nat), appB f (l.map fun x => (x, none)) n = if n ∈ l then none else f n := by
  intro l
  induction l generalizing f with
  | nil => intro n; simp [appB]
  | cons x l ih =>
    intro n
    simp only [List.map_cons, appB, ih, upd]
    by_cases h1 : n ∈ l
    · simp [h1]
    · by_cases h2 : n = x
      · simp [h2]
      · simp [h1, h2]
theorem appT_fold (f : Nat → Option Tok) : ∀ (l : List Nat) (n : Nat), appT f (l.map fun x => (x, none)) n = if n ∈ l then none else f n := by
  intro l
  induction l generalizing f with
  | nil => intro n; simp [appT]
  | cons x l ih =>
    intro n
    simp only [List.map_cons, appT, ih, upd]
    by_cases h1 : n ∈ l
    · simp [h1]
    · by_cases h2 : n = x
      · simp [h2]
      · simp [h1, h2]

/-- The names Lb and Lt apart, all is as it was. -/
structure Frl (Lb Lt : List Nat) (S S' : St) : Prop where
  b : ∀ n, n ∉ Lb → S'.blk n = S.blk n
  k : ∀ n, n ∉ Lt → S'.tok n = S.tok n

/-- What a call that forgets names does. -/
def effL (Lb Lt : List Nat) (r : AV) : Eff := { v := r, wb := Lb.map fun n => (n, none), wt := Lt.map fun n => (n, none) }

theorem LCallP.of {P : Program} {fv : AV} {vals : List AV} {blk : Nat → Option Blk} (Lb Lt : List Nat) (r0 : AV) (h1 : r0.cl1 = true)
    (h : ∀ T : St, (∀ n ∈ (fv :: vals).flatMap rdV, T.blk n = blk n) → CallP P fv vals T fun r S => (∀ (E : Env) (v : Value), Rel E r v → Rel E r0 v) ∧ Frl Lb Lt T S) :
    LCallP P fv vals blk (effL Lb Lt r0) := by
  intro T hT
  refine ((h T hT).localize r0 (appB T.blk (Lb.map fun n => (n, none))) (appT T.tok (Lt.map fun n => (n, none))) h1 ?_).weaken ?_
  · rintro r S ⟨h2, hF⟩
    refine ⟨h2, fun n b hb => ?_, fun n t ht => ?_⟩
    · rw [appB_fold] at hb
      split at hb
      · cases hb
      · rename_i hn; exact ⟨by rw [hF.b n hn]; exact hb, hb⟩
    · rw [appT_fold] at ht
      split at ht
      · cases ht
      · rename_i hn; exact ⟨by rw [hF.k n hn]; exact ht, ht⟩
  · rintro r S ⟨rfl, rfl⟩
    exact ⟨rfl, rfl⟩
theorem callL {P : Program} {fv : AV} {vals : List AV} {blk : Nat → Option Blk} {e : Eff} {k : Eff → Prop} {u : Dep k} (h : LCallP P fv vals blk e) (hk : k e) : callD P fv vals blk k u := ⟨e, h, hk⟩
theorem callLG {P : Program} {fv : AV} {vals : List AV} {S : St} {e : Eff} {k : AV → St → Prop} {u : Dep k} (h : LCallP P fv vals S.blk e) (hk : k e.v (S.app none e)) : CallG P fv vals S k u :=
  CallP.weaken (h S fun _ _ => rfl) (by rintro r S' ⟨rfl, rfl⟩; exact hk)
attribute [simp] effL

/-- A call's end told in another way: its outcome, and the heap. -/
theorem CallP.told1 {P : Program} {fv : AV} {vals : List AV} {S : St} {k k' : AV → St → Prop} (h : CallP P fv vals S k')
    (hk : ∀ r S', k' r S' → ∃ r' S'', (∀ (E : Env) (B : Nat) (w : World), HConc E B S'.h w → (∀ s, E.u s → s < S'.clk) → ∃ E', E.le E' ∧ HConc E' B S''.h w ∧ (∀ b o, b < B → E'.K b o = E.K b o) ∧ (∀ s, E'.u s → E.u s) ∧ ∀ v, Rel E r v → Rel E' r' v) ∧
      S'.clk ≤ S''.clk ∧ S''.t = S'.t ∧ k r' S'') : CallP P fv vals S k := by
  obtain ⟨f, caps, h1, h2, h3⟩ := h
  refine ⟨f, caps, h1, h2, fun E B W w args H hW hB hu hsz hr => (h3 E B W w args H hW hB hu hsz hr).mono ?_⟩
  rintro e w' ⟨v, E', r, S', a1, a2, a3, a4, a5, a6, a7, a8, a9, a10⟩
  obtain ⟨r', S'', b1, b2, b3, b4⟩ := hk r S' a10
  obtain ⟨E'', c1, c2, c3, c4, c5⟩ := b1 E' B w' a3 (fun s hs => (a6 s hs).2)
  exact ⟨v, E'', r', S'', a1, a2.trans c1, c2, a4, fun b o hb => (c3 b o hb).trans (a5 b o hb), fun s hs => ⟨(a6 s (c4 s hs)).1, Nat.lt_of_lt_of_le (a6 s (c4 s hs)).2 b2⟩, Nat.le_trans a7 b2, b3.trans a8, c5 v a9, b4⟩

/-- A call whose arguments are taken coarser. -/
theorem call_coarse {P : Program} {f : FuncId} (d : Nat) {vals vals' : List AV} {S : St} {k : AV → St → Prop} {u : Dep k} (hl : vals.length = vals'.length) (hco : ∀ (j : Nat) (x y : AV), vals[j]? = some x → vals'[j]? = some y → x = y ∨ elemR (dco (fun _ => none) d) x y)
    (h : CallG P (.fn f []) vals' S k u) : CallG P (.fn f []) vals S k u := by
  obtain ⟨g, caps, hf, hent, hc⟩ := h
  refine ⟨g, caps, hf, hent, fun E B W w args H hW hB hu hsz hrel => ?_⟩
  obtain ⟨rfl, rfl⟩ : f = g ∧ [] = caps := by cases hf; exact ⟨rfl, rfl⟩
  refine hc E B W w args H hW hB hu (by simpa [hl] using hsz) ?_
  intro j y u' hy hu'
  simp only [List.append_nil] at hy hrel
  obtain ⟨x, hx⟩ : ∃ x, vals[j]? = some x := ⟨_, List.getElem?_eq_getElem (by rw [hl]; exact (List.getElem?_eq_some_iff.1 hy).1)⟩
  have hr := hrel j x u' hx hu'
  rcases hco j x y hx hy with q | q
  · rw [← q]; exact hr
  · exact Rel.of_envK (K := E.K) (dccE_rel (w := w) d x y u' q H.K hr) (fun _ _ _ q => q)

/-- A block that is written no more, and of which a part is kept as a list. -/
theorem freeze_out {E : Env} {B : Nat} {h : Hp} {w : World} (H : HConc E B h w) {nm st sz : Nat} (hs0 : sz ≠ 0) {es : List AV} (hb : h.blk nm = some ⟨st, sz, es⟩) (hcl : closedL es) :
    ∃ E', E.le E' ∧ HConc E' B (h.setB nm none) w ∧ (∀ b o, b < B → E'.K b o = E.K b o) ∧ (∀ s, E'.u s → E.u s) ∧ ∀ (off len : Nat) (v : Value), off + len ≤ es.length → Rel E (.sl nm st sz off len) v → Rel E' (.lst sz ((es.drop off).take len)) v := by
  obtain ⟨E', c1, c2, c3, c4, c5⟩ := frz_ok H hs0 hb hcl
  refine ⟨E', c1.le, ?_, c2, c3, fun off len v hle hr => ?_⟩
  · refine (H.dropB nm).env c1.le c4 (fun n b x j => ?_) (fun n t g x hg j => ?_)
    · simp only [Hp.setB, upd] at x
      split at x
      · cases x
      · rename_i hne
        rw [c5 _ _ (H.bb n nm b _ hne x hb)]
        exact (H.bk n b x).noK j
    · exact c5 _ _ (fun q => H.bt nm n _ t hb x (by rw [hg, q]))
  · have := c1.rel _ v rfl hr
    have e : fzc nm st sz es (.sl nm st sz off len) = .lst sz ((es.drop off).take len) := by simp [fzc, fz0, hle]
    rw [e] at this
    exact this

/-! ### Coarser cells -/
theorem Rel.lst_of_acc {E : Env} {nm st sz : Nat} {xs : List AV} {v : Value} (h : Rel E (.acc nm st sz xs) v) : Rel E (.lst sz xs) v := by
  cases h with
  | acc _ _ _ _ _ _ _ hl => exact hl
theorem Rel.lst_of_nils {E : Env} {sz : Nat} {v : Value} (h : Rel E .nils v) : Rel E (.lst sz []) v := by
  cases h with
  | nils => exact .lst0 sz none 0

/-- One block's cells told more coarsely. -/
theorem Wkh.coarse {c : Nat} {h : Hp} {nm st sz : Nat} (hs0 : sz ≠ 0) {cs cs' : List AV} (hb : h.blk nm = some ⟨st, sz, [.agg cs]⟩) (hl : cs'.length = cs.length)
    (hc : ∀ (j : Nat) (x y : AV), cs[j]? = some x → cs'[j]? = some y → y.one = true ∧ ∀ (E : Env) (v : Value), Rel E x v → Rel E y v) : Wkh c c h (h.setB nm (some ⟨st, sz, [.agg cs']⟩)) id := by
  refine ⟨Nat.le_refl _, fun E B w H hu => ⟨E, .refl E, ?_, fun _ _ _ => rfl, fun _ q => q, fun _ _ q => q⟩⟩
  have hbk := (H.bk nm _ hb).r hs0
  refine (H.dropB nm).putB ⟨st, sz, [.agg cs']⟩ (show E.u st from H.bu nm _ hb) (.row hs0 ⟨hbk.base, ?_, hbk.len, ?_, hbk.noK⟩) (fun n b' hn hb' => by have := H.bb n nm b' _ hn hb' hb; exact this) (fun n t' ht' => by have := H.bt nm n _ t' hb ht'; exact this)
  · intro x hx
    simp only [List.mem_singleton] at hx
    subst hx
    have he := hbk.el (.agg cs) (by simp)
    refine ⟨by have := he.1; simp only [AV.cells] at this ⊢; omega, fun y hy => ?_⟩
    obtain ⟨j, hj⟩ := List.getElem?_of_mem hy
    have hj' : cs'[j]? = some y := hj
    obtain ⟨x, hx⟩ : ∃ x, cs[j]? = some x := ⟨_, List.getElem?_eq_getElem (by rw [← hl]; exact (List.getElem?_eq_some_iff.1 hj').1)⟩
    exact (hc j x y hx hj').1
  · obtain ⟨cur, ty, c1, c2, c3⟩ := hbk.row
    refine ⟨cur, ty, c1, c2, fun i x hx j y hy => ?_⟩
    cases i with
    | succ i => simp at hx
    | zero =>
      simp at hx
      subst hx
      have hj' : cs'[j]? = some y := hy
      obtain ⟨x, hx⟩ : ∃ x, cs[j]? = some x := ⟨_, List.getElem?_eq_getElem (by rw [← hl]; exact (List.getElem?_eq_some_iff.1 hj').1)⟩
      obtain ⟨u, g1, g2⟩ := c3 0 (.agg cs) rfl j x hx
      exact ⟨u, g1, (hc j x y hx hj').2 E u g2⟩
end Go.Gv

/- What prog.Check answers, and the parts of the document's answer. No condition. -/
set_option linter.unusedVariables false
set_option linter.unusedSimpArgs false
namespace Go.Gv
open Go.Proofs

def check_r0 : List AI := [⟨(some 1), none, (.op (.box 21001 4 (.t 0)))⟩, ⟨(some 2), none, (.op (.mv (.c (.int .i64 0))))⟩]
def check_r1 : List AI := [⟨(some 6), none, (.op (.fld 0 (.t 1)))⟩, ⟨(some 7), none, (.op (.load none (.t 6)))⟩, ⟨(some 8), none, (.op (.len (.t 7)))⟩, ⟨(some 9), none, (.op (.ibin .gtr (.t 8) (.c (.int .i64 16))))⟩, ⟨(some 5), none, (.op (.mv (.t 9)))⟩]
def check_r2 : List AI := [⟨(some 10), none, (.op (.fld 1 (.t 1)))⟩, ⟨(some 11), none, (.op (.load none (.t 10)))⟩, ⟨(some 12), none, (.op (.len (.t 11)))⟩, ⟨(some 13), none, (.op (.ibin .gtr (.t 12) (.c (.int .i64 8))))⟩, ⟨(some 5), none, (.op (.mv (.t 13)))⟩]
def check_r3 : List AI := [⟨(some 14), none, (.op (.fld 2 (.t 1)))⟩, ⟨(some 15), none, (.op (.load none (.t 14)))⟩, ⟨(some 16), none, (.op (.len (.t 15)))⟩, ⟨(some 17), none, (.op (.ibin .gtr (.t 16) (.c (.int .i64 16))))⟩, ⟨(some 5), none, (.op (.mv (.t 17)))⟩]
def check_r4 : List AI := [⟨(some 2), none, (.op (.mv (.c (.int .i64 3))))⟩]
def check_r5 : List AI := [⟨(some 19), none, (.op (.fld 1 (.t 1)))⟩, ⟨(some 20), none, (.op (.load none (.t 19)))⟩, ⟨(some 21), none, (.op (.len (.t 20)))⟩, ⟨(some 22), none, (.op (.ibin .eql (.t 21) (.c (.int .i64 0))))⟩, ⟨(some 18), none, (.op (.mv (.t 22)))⟩]
def check_r6 : List AI := [⟨(some 23), none, (.op (.fld 3 (.t 1)))⟩, ⟨(some 24), none, (.op (.load none (.t 23)))⟩, ⟨(some 25), none, (.op (.ibin .lss (.t 24) (.c (.int .i64 1))))⟩, ⟨(some 18), none, (.op (.mv (.t 25)))⟩]
def check_r7 : List AI := [⟨(some 26), none, (.op (.fld 3 (.t 1)))⟩, ⟨(some 27), none, (.op (.load none (.t 26)))⟩, ⟨(some 28), none, (.op (.ibin .gtr (.t 27) (.c (.int .i64 256))))⟩, ⟨(some 18), none, (.op (.mv (.t 28)))⟩]
def check_r8 : List AI := [⟨(some 2), none, (.op (.mv (.c (.int .i64 1))))⟩]
def check_r9 : List AI := [⟨(some 29), none, (.op (.load (some 4) (.t 1)))⟩, ⟨(some 30), none, (.op (.fld 0 (.t 1)))⟩, ⟨(some 31), none, (.op (.load none (.t 30)))⟩, ⟨(some 32), none, (.call (.c (.fn 45 [])) [(.t 29), (.t 31), (.c (.fn 46 []))])⟩, ⟨(some 3), none, (.op (.mv (.t 32)))⟩]
def check_r10 : List AI := [⟨(some 33), none, (.op (.mv (.t 3)))⟩, ⟨(some 34), none, (.op (.ibin .neq (.t 33) (.c (.int .i64 0))))⟩]
def check_r11 : List AI := [⟨(some 35), none, (.op (.mv (.t 3)))⟩, ⟨(some 2), none, (.op (.mv (.t 35)))⟩]
def check_r12 : List AI := [⟨(some 36), none, (.op (.load (some 4) (.t 1)))⟩, ⟨(some 37), none, (.op (.fld 1 (.t 1)))⟩, ⟨(some 38), none, (.op (.load none (.t 37)))⟩, ⟨(some 39), none, (.call (.c (.fn 47 [])) [(.t 36), (.t 38), (.c (.fn 48 []))])⟩, ⟨(some 4), none, (.op (.mv (.t 39)))⟩]
def check_r13 : List AI := [⟨(some 40), none, (.op (.mv (.t 4)))⟩, ⟨(some 41), none, (.op (.ibin .neq (.t 40) (.c (.int .i64 0))))⟩]
def check_r14 : List AI := [⟨(some 42), none, (.op (.mv (.t 4)))⟩, ⟨(some 2), none, (.op (.mv (.t 42)))⟩]
def check_r15 : List AI := [⟨(some 43), none, (.op (.load (some 4) (.t 1)))⟩, ⟨(some 44), none, (.op (.fld 2 (.t 1)))⟩, ⟨(some 45), none, (.op (.load none (.t 44)))⟩, ⟨(some 46), none, (.call (.c (.fn 49 [])) [(.t 43), (.t 45), (.c (.fn 50 []))])⟩, ⟨(some 2), none, (.op (.mv (.t 46)))⟩]
def check_c : AC := (.seq (.reg check_r0) (.seq (.block 0 (.seq (.seq (.reg check_r1) (.cond (.t 5) .skip (.seq (.reg check_r2) (.cond (.t 5) .skip (.reg check_r3))))) (.cond (.t 5) (.seq (.reg check_r4) .ret) (.seq (.seq (.reg check_r5) (.cond (.t 18) .skip (.seq (.reg check_r6) (.cond (.t 18) .skip (.reg check_r7))))) (.cond (.t 18) (.seq (.reg check_r8) .ret) .skip))))) (.seq (.seq (.reg check_r9) (.seq (.reg check_r10) (.cond (.t 34) (.seq (.reg check_r11) .ret) .skip))) (.seq (.seq (.reg check_r12) (.seq (.reg check_r13) (.cond (.t 41) (.seq (.reg check_r14) .ret) .skip))) (.seq (.reg check_r15) .ret)))))
def check_res : List ARes := [(.tmp 2)]
set_option maxRecDepth 100000 in
theorem check_get : getF Tryz.prog 33 21000 [] = some ("gavotte/prog.Check", 47, check_c, check_res) := by kernel_rfl
def rvalid_r0 : List AI := [⟨(some 2), none, (.op (.mv (.c (.bool false))))⟩]
def rvalid_r1 : List AI := [⟨(some 3), none, (.op (.mv (.t 0)))⟩, ⟨(some 4), none, (.op (.ibin .geq (.t 3) (.c (.int .i64 1))))⟩, ⟨(some 5), none, (.op (.mv (.t 4)))⟩, ⟨(some 6), (some (5, true)), (.op (.mv (.t 0)))⟩, ⟨(some 7), (some (5, true)), (.op (.ibin .leq (.t 6) (.c (.int .i64 25))))⟩, ⟨(some 8), none, (.op (.pick (.t 5) (.t 7) (.c (.bool false))))⟩, ⟨(some 2), none, (.op (.mv (.t 8)))⟩]
def rvalid_c : AC := (.seq (.reg rvalid_r0) (.seq (.reg rvalid_r1) .ret))
def rvalid_res : List ARes := [(.tmp 2)]
set_option maxRecDepth 100000 in
theorem rvalid_get : getF Tryz.prog 55 54000 [] = some ("gavotte/gavotteref1.Valid", 9, rvalid_c, rvalid_res) := by kernel_rfl
def roperand_r0 : List AI := [⟨(some 2), none, (.op (.mv (.c (.int .i64 0))))⟩]
def roperand_r1 : List AI := [⟨(some 3), none, (.op (.mv (.t 0)))⟩]
def roperand_r2 : List AI := [⟨(some 5), none, (.op (.ibin .eql (.t 3) (.c (.int .i64 1))))⟩, ⟨(some 4), none, (.op (.mv (.t 5)))⟩]
def roperand_r3 : List AI := [⟨(some 2), none, (.op (.mv (.c (.int .i64 1))))⟩]
def roperand_r4 : List AI := [⟨(some 7), none, (.op (.ibin .eql (.t 3) (.c (.int .i64 5))))⟩, ⟨(some 6), none, (.op (.mv (.t 7)))⟩]
def roperand_r5 : List AI := [⟨(some 8), none, (.op (.ibin .eql (.t 3) (.c (.int .i64 6))))⟩, ⟨(some 6), none, (.op (.mv (.t 8)))⟩]
def roperand_r6 : List AI := [⟨(some 2), none, (.op (.mv (.c (.int .i64 2))))⟩]
def roperand_r7 : List AI := [⟨(some 10), none, (.op (.ibin .eql (.t 3) (.c (.int .i64 7))))⟩, ⟨(some 9), none, (.op (.mv (.t 10)))⟩]
def roperand_r8 : List AI := [⟨(some 2), none, (.op (.mv (.c (.int .i64 3))))⟩]
def roperand_r9 : List AI := [⟨(some 12), none, (.op (.ibin .eql (.t 3) (.c (.int .i64 20))))⟩, ⟨(some 11), none, (.op (.mv (.t 12)))⟩]
def roperand_r10 : List AI := [⟨(some 13), none, (.op (.ibin .eql (.t 3) (.c (.int .i64 21))))⟩, ⟨(some 11), none, (.op (.mv (.t 13)))⟩]
def roperand_r11 : List AI := [⟨(some 2), none, (.op (.mv (.c (.int .i64 4))))⟩]
def roperand_r12 : List AI := [⟨(some 15), none, (.op (.ibin .eql (.t 3) (.c (.int .i64 22))))⟩, ⟨(some 14), none, (.op (.mv (.t 15)))⟩]
def roperand_r13 : List AI := [⟨(some 2), none, (.op (.mv (.c (.int .i64 5))))⟩]
def roperand_r14 : List AI := [⟨(some 2), none, (.op (.mv (.c (.int .i64 0))))⟩]
def roperand_c : AC := (.seq (.reg roperand_r0) (.seq (.seq (.reg roperand_r1) (.block 0 (.seq (.reg roperand_r2) (.cond (.t 4) (.seq (.reg roperand_r3) .ret) (.seq (.seq (.reg roperand_r4) (.cond (.t 6) .skip (.reg roperand_r5))) (.cond (.t 6) (.seq (.reg roperand_r6) .ret) (.seq (.reg roperand_r7) (.cond (.t 9) (.seq (.reg roperand_r8) .ret) (.seq (.seq (.reg roperand_r9) (.cond (.t 11) .skip (.reg roperand_r10))) (.cond (.t 11) (.seq (.reg roperand_r11) .ret) (.seq (.reg roperand_r12) (.cond (.t 14) (.seq (.reg roperand_r13) .ret) .skip)))))))))))) (.seq (.reg roperand_r14) .ret)))
def roperand_res : List ARes := [(.tmp 2)]
set_option maxRecDepth 100000 in
theorem roperand_get : getF Tryz.prog 56 55000 [] = some ("gavotte/gavotteref1.Operand", 16, roperand_c, roperand_res) := by kernel_rfl
def rinstr_r0 : List AI := [⟨(some 4), none, (.op (.box 39004 2 (.t 0)))⟩, ⟨(some 8), none, (.op (.mv (.c (.int .i64 0))))⟩]
def rinstr_r1 : List AI := [⟨(some 9), none, (.op (.fld 0 (.t 4)))⟩, ⟨(some 10), none, (.op (.load none (.t 9)))⟩, ⟨(some 11), none, (.call (.c (.fn 55 [])) [(.t 10)])⟩, ⟨(some 12), none, (.op (.not (.t 11)))⟩]
def rinstr_r2 : List AI := [⟨(some 8), none, (.op (.mv (.c (.int .i64 1))))⟩]
def rinstr_r3 : List AI := [⟨(some 13), none, (.op (.fld 0 (.t 4)))⟩, ⟨(some 14), none, (.op (.load none (.t 13)))⟩, ⟨(some 15), none, (.call (.c (.fn 56 [])) [(.t 14)])⟩]
def rinstr_r4 : List AI := [⟨(some 17), none, (.op (.ibin .eql (.t 15) (.c (.int .i64 0))))⟩, ⟨(some 16), none, (.op (.mv (.t 17)))⟩]
def rinstr_r5 : List AI := [⟨(some 18), none, (.op (.fld 1 (.t 4)))⟩, ⟨(some 19), none, (.op (.load none (.t 18)))⟩, ⟨(some 20), none, (.op (.ibin .neq (.t 19) (.c (.int .i64 0))))⟩]
def rinstr_r6 : List AI := [⟨(some 8), none, (.op (.mv (.c (.int .i64 1))))⟩]
def rinstr_r7 : List AI := [⟨(some 22), none, (.op (.ibin .eql (.t 15) (.c (.int .i64 4))))⟩, ⟨(some 21), none, (.op (.mv (.t 22)))⟩]
def rinstr_r8 : List AI := [⟨(some 23), none, (.op (.fld 1 (.t 4)))⟩, ⟨(some 24), none, (.op (.load none (.t 23)))⟩, ⟨(some 25), none, (.op (.ibin .lss (.t 24) (.c (.int .i64 0))))⟩, ⟨(some 26), none, (.op (.mv (.t 25)))⟩, ⟨(some 27), (some (26, false)), (.op (.fld 1 (.t 4)))⟩, ⟨(some 28), (some (26, false)), (.op (.load none (.t 27)))⟩, ⟨(some 29), (some (26, false)), (.op (.mv (.t 1)))⟩, ⟨(some 30), (some (26, false)), (.op (.ibin .gtr (.t 28) (.t 29)))⟩, ⟨(some 31), none, (.op (.pick (.t 26) (.c (.bool true)) (.t 30)))⟩]
def rinstr_r9 : List AI := [⟨(some 8), none, (.op (.mv (.c (.int .i64 4))))⟩]
def rinstr_r10 : List AI := [⟨(some 33), none, (.op (.ibin .eql (.t 15) (.c (.int .i64 2))))⟩, ⟨(some 32), none, (.op (.mv (.t 33)))⟩]
def rinstr_r11 : List AI := [⟨(some 34), none, (.op (.fld 1 (.t 4)))⟩, ⟨(some 35), none, (.op (.load none (.t 34)))⟩, ⟨(some 36), none, (.op (.ibin .lss (.t 35) (.c (.int .i64 0))))⟩, ⟨(some 37), none, (.op (.mv (.t 36)))⟩, ⟨(some 38), (some (37, false)), (.op (.fld 1 (.t 4)))⟩, ⟨(some 39), (some (37, false)), (.op (.load none (.t 38)))⟩, ⟨(some 40), (some (37, false)), (.op (.ibin .geq (.t 39) (.c (.int .i64 8))))⟩, ⟨(some 41), none, (.op (.pick (.t 37) (.c (.bool true)) (.t 40)))⟩]
def rinstr_r12 : List AI := [⟨(some 8), none, (.op (.mv (.c (.int .i64 6))))⟩]
def rinstr_r13 : List AI := [⟨(some 43), none, (.op (.ibin .eql (.t 15) (.c (.int .i64 3))))⟩, ⟨(some 42), none, (.op (.mv (.t 43)))⟩]
def rinstr_r14 : List AI := [⟨(some 44), none, (.op (.fld 1 (.t 4)))⟩, ⟨(some 45), none, (.op (.load none (.t 44)))⟩, ⟨(some 46), none, (.op (.ibin .lss (.t 45) (.c (.int .i64 0))))⟩, ⟨(some 47), none, (.op (.mv (.t 46)))⟩, ⟨(some 48), (some (47, false)), (.op (.fld 1 (.t 4)))⟩, ⟨(some 49), (some (47, false)), (.op (.load none (.t 48)))⟩, ⟨(some 50), (some (47, false)), (.op (.mv (.t 2)))⟩, ⟨(some 51), (some (47, false)), (.op (.ibin .geq (.t 49) (.t 50)))⟩, ⟨(some 52), none, (.op (.pick (.t 47) (.c (.bool true)) (.t 51)))⟩]
def rinstr_r15 : List AI := [⟨(some 8), none, (.op (.mv (.c (.int .i64 6))))⟩]
def rinstr_r16 : List AI := [⟨(some 54), none, (.op (.ibin .eql (.t 15) (.c (.int .i64 5))))⟩, ⟨(some 53), none, (.op (.mv (.t 54)))⟩]
def rinstr_r17 : List AI := [⟨(some 55), none, (.op (.fld 1 (.t 4)))⟩, ⟨(some 56), none, (.op (.load none (.t 55)))⟩, ⟨(some 57), none, (.op (.ibin .lss (.t 56) (.c (.int .i64 0))))⟩, ⟨(some 58), none, (.op (.mv (.t 57)))⟩, ⟨(some 59), (some (58, false)), (.op (.fld 1 (.t 4)))⟩, ⟨(some 60), (some (58, false)), (.op (.load none (.t 59)))⟩, ⟨(some 61), (some (58, false)), (.op (.mv (.t 3)))⟩, ⟨(some 62), (some (58, false)), (.op (.ibin .geq (.t 60) (.t 61)))⟩, ⟨(some 63), none, (.op (.pick (.t 58) (.c (.bool true)) (.t 62)))⟩]
def rinstr_r18 : List AI := [⟨(some 8), none, (.op (.mv (.c (.int .i64 7))))⟩]
def rinstr_r19 : List AI := [⟨(some 8), none, (.op (.mv (.c (.int .i64 0))))⟩]
def rinstr_c : AC := (.seq (.reg rinstr_r0) (.seq (.seq (.reg rinstr_r1) (.cond (.t 12) (.seq (.reg rinstr_r2) .ret) .skip)) (.seq (.seq (.reg rinstr_r3) (.block 0 (.seq (.reg rinstr_r4) (.cond (.t 16) (.seq (.reg rinstr_r5) (.cond (.t 20) (.seq (.reg rinstr_r6) .ret) .skip)) (.seq (.reg rinstr_r7) (.cond (.t 21) (.seq (.reg rinstr_r8) (.cond (.t 31) (.seq (.reg rinstr_r9) .ret) .skip)) (.seq (.reg rinstr_r10) (.cond (.t 32) (.seq (.reg rinstr_r11) (.cond (.t 41) (.seq (.reg rinstr_r12) .ret) .skip)) (.seq (.reg rinstr_r13) (.cond (.t 42) (.seq (.reg rinstr_r14) (.cond (.t 52) (.seq (.reg rinstr_r15) .ret) .skip)) (.seq (.reg rinstr_r16) (.cond (.t 53) (.seq (.reg rinstr_r17) (.cond (.t 63) (.seq (.reg rinstr_r18) .ret) .skip)) .skip)))))))))))) (.seq (.reg rinstr_r19) .ret))))
def rinstr_res : List ARes := [(.tmp 8)]
set_option maxRecDepth 100000 in
theorem rinstr_get : getF Tryz.prog 37 39000 [] = some ("gavotte/gavotteref1.CheckInstr", 64, rinstr_c, rinstr_res) := by kernel_rfl
def rnote_r0 : List AI := [⟨(some 2), none, (.op (.box 40002 4 (.t 0)))⟩, ⟨(some 3), none, (.op (.box 40003 3 (.t 1)))⟩, ⟨(some 4), none, (.op (.mv (.c (.int .i64 0))))⟩]
def rnote_r1 : List AI := [⟨(some 6), none, (.op (.fld 0 (.t 3)))⟩, ⟨(some 7), none, (.op (.load none (.t 6)))⟩, ⟨(some 8), none, (.op (.ibin .lss (.t 7) (.c (.int .i64 0))))⟩, ⟨(some 9), none, (.op (.mv (.t 8)))⟩, ⟨(some 10), (some (9, false)), (.op (.fld 0 (.t 3)))⟩, ⟨(some 11), (some (9, false)), (.op (.load none (.t 10)))⟩, ⟨(some 12), (some (9, false)), (.op (.fld 1 (.t 2)))⟩, ⟨(some 13), (some (9, false)), (.op (.load none (.t 12)))⟩, ⟨(some 14), (some (9, false)), (.op (.len (.t 13)))⟩, ⟨(some 15), (some (9, false)), (.op (.ibin .geq (.t 11) (.t 14)))⟩, ⟨(some 16), none, (.op (.pick (.t 9) (.c (.bool true)) (.t 15)))⟩, ⟨(some 17), none, (.op (.mv (.t 16)))⟩, ⟨(some 18), (some (17, false)), (.op (.fld 1 (.t 3)))⟩, ⟨(some 19), (some (17, false)), (.op (.load none (.t 18)))⟩, ⟨(some 20), (some (17, false)), (.op (.ibin .lss (.t 19) (.c (.int .i64 0))))⟩, ⟨(some 21), none, (.op (.pick (.t 17) (.c (.bool true)) (.t 20)))⟩, ⟨(some 22), none, (.op (.mv (.t 21)))⟩, ⟨(some 23), (some (22, false)), (.op (.fld 1 (.t 3)))⟩, ⟨(some 24), (some (22, false)), (.op (.load none (.t 23)))⟩, ⟨(some 25), (some (22, false)), (.op (.fld 0 (.t 2)))⟩, ⟨(some 26), (some (22, false)), (.op (.load none (.t 25)))⟩, ⟨(some 27), (some (22, false)), (.op (.len (.t 26)))⟩, ⟨(some 28), (some (22, false)), (.op (.ibin .geq (.t 24) (.t 27)))⟩, ⟨(some 29), none, (.op (.pick (.t 22) (.c (.bool true)) (.t 28)))⟩, ⟨(some 5), none, (.op (.mv (.t 29)))⟩]
def rnote_r2 : List AI := [⟨(some 4), none, (.op (.mv (.c (.int .i64 7))))⟩]
def rnote_r3 : List AI := [⟨(some 31), none, (.op (.fld 2 (.t 3)))⟩, ⟨(some 32), none, (.op (.load none (.t 31)))⟩, ⟨(some 33), none, (.op (.len (.t 32)))⟩, ⟨(some 34), none, (.op (.fld 0 (.t 2)))⟩, ⟨(some 35), none, (.op (.load none (.t 34)))⟩, ⟨(some 36), none, (.op (.fld 1 (.t 3)))⟩, ⟨(some 37), none, (.op (.load none (.t 36)))⟩, ⟨(some 38), none, (.op (.idx 2 (.t 35) (.t 37)))⟩, ⟨(some 39), none, (.op (.fld 0 (.t 38)))⟩, ⟨(some 40), none, (.op (.load none (.t 39)))⟩, ⟨(some 41), none, (.op (.ibin .neq (.t 33) (.t 40)))⟩, ⟨(some 30), none, (.op (.mv (.t 41)))⟩]
def rnote_p3 : List (List Nat) := [[], [0], [1, 0], [], [3], [], [5], [4, 6, 3, 5], [7, 4, 6, 3, 5], [8, 7, 4, 6, 3, 5], [2, 9, 1, 0, 8, 7, 4, 6, 3, 5], [10, 2, 9, 1, 0, 8, 7, 4, 6, 3, 5]]
def rnote_r4 : List AI := [⟨(some 4), none, (.op (.mv (.c (.int .i64 1))))⟩]
def rnote_r5 : List AI := [⟨(some 4), none, (.op (.mv (.c (.int .i64 0))))⟩]
def rnote_c : AC := (.seq (.reg rnote_r0) (.seq (.block 0 (.seq (.reg rnote_r1) (.cond (.t 5) (.seq (.reg rnote_r2) .ret) (.seq (.regd rnote_r3 rnote_p3) (.cond (.t 30) (.seq (.reg rnote_r4) .ret) .skip))))) (.seq (.reg rnote_r5) .ret)))
def rnote_res : List ARes := [(.tmp 4)]
set_option maxRecDepth 100000 in
theorem rnote_get : getF Tryz.prog 38 40000 [] = some ("gavotte/gavotteref1.CheckNote", 42, rnote_c, rnote_res) := by kernel_rfl
attribute [simp] check_r0 check_r1 check_r2 check_r3 check_r4 check_r5 check_r6 check_r7 check_r8 check_r9 check_r10 check_r11 check_r12 check_r13 check_r14 check_r15 check_res rvalid_r0 rvalid_r1 rvalid_res roperand_r0 roperand_r1 roperand_r2 roperand_r3 roperand_r4 roperand_r5 roperand_r6 roperand_r7 roperand_r8 roperand_r9 roperand_r10 roperand_r11 roperand_r12 roperand_r13 roperand_r14 roperand_res rinstr_r0 rinstr_r1 rinstr_r2 rinstr_r3 rinstr_r4 rinstr_r5 rinstr_r6 rinstr_r7 rinstr_r8 rinstr_r9 rinstr_r10 rinstr_r11 rinstr_r12 rinstr_r13 rinstr_r14 rinstr_r15 rinstr_r16 rinstr_r17 rinstr_r18 rinstr_r19 rinstr_res rnote_r0 rnote_r1 rnote_r2 rnote_r3 rnote_p3 rnote_r4 rnote_r5 rnote_res


theorem check_pc (p : Prg) : PC Tryz.prog 33 [p.av] (iv (checkV p)) := by
  refine pc_of_get check_get (by simp) _ (by simp) _ ?_
  unfold check_c
  simp
  refine split (fun h1 => ?_) (fun h1 => ?_) <;> simp [h1]
  · grind [checkV]
  refine split (fun h2 => ?_) (fun h2 => ?_) <;> simp [h2]
  · grind [checkV]
  refine split (fun h3 => ?_) (fun h3 => ?_) <;> simp [h3]
  · grind [checkV]
  refine split (fun h4 => ?_) (fun h4 => ?_) <;> simp [h4]
  · grind [checkV]
  refine split (fun h5 => ?_) (fun h5 => ?_) <;> simp [h5]
  · grind [checkV]
  refine split (fun h6 => ?_) (fun h6 => ?_) <;> simp [h6]
  · grind [checkV]
  refine call (eachH_pc p p.hs 46 (handlerV p.hs.length) (fun h _ => handler_pc p h) (by omega)) (by simp) ?_
  simp
  refine split (fun h7 => ?_) (fun h7 => ?_) <;> simp [h7]
  rotate_left
  · grind [checkV]
  refine call (eachA_pc p p.as 48 (actorV p.hs) (fun h _ => actor_pc p h) (by omega)) (by simp) ?_
  simp
  refine split (fun h8 => ?_) (fun h8 => ?_) <;> simp [h8]
  rotate_left
  · grind [checkV]
  refine call (eachN_pc p p.boot 50 (noteV p.hs p.as.length) (fun h _ => note_pc p h) (by omega)) (by simp) ?_
  simp
  grind [checkV]
theorem rvalid_pc (n : Int) : PC Tryz.prog 55 [iv n] (.bool (decide (1 ≤ n) && decide (n ≤ 25))) := by
  refine pc_of_get rvalid_get (by simp) _ (by simp) _ ?_
  unfold rvalid_c
  simp
  repeat' (refine split (fun hc => ?_) (fun hc => ?_) <;> simp [*])
theorem roperand_pc (n : Int) : PC Tryz.prog 56 [iv n] (iv (operandV n)) := by
  refine pc_of_get roperand_get (by simp) _ (by simp) _ ?_
  unfold roperand_c
  simp
  repeat' (refine split (fun hc => ?_) (fun hc => ?_) <;> simp [*])
  all_goals grind [operandV]
theorem rinstr_pc (i : Ins) (n a k : Int) : PC Tryz.prog 37 [i.av, iv n, iv a, iv k] (iv (instrV k a n i)) := by
  refine pc_of_get rinstr_get (by simp) _ (by simp) _ ?_
  unfold rinstr_c
  simp
  refine call (rvalid_pc i.op) (by simp) ?_
  simp
  by_cases h1 : 1 ≤ i.op
  rotate_left
  · simp [h1]; grind [instrV]
  by_cases h2 : i.op ≤ 25
  rotate_left
  · simp [h1, h2]; grind [instrV]
  simp [h1, h2]
  refine call (roperand_pc i.op) (by simp) ?_
  have hk := operandV_cases i.op
  have hV : instrV k a n i = (if (operandV i.op = 0 ∧ i.a ≠ 0) then 1
    else if operandV i.op = 4 ∧ (i.a < 0 ∨ i.a > n) then 4
    else if (operandV i.op = 2 ∧ (i.a < 0 ∨ i.a ≥ 8)) ∨ (operandV i.op = 3 ∧ (i.a < 0 ∨ i.a ≥ a)) then 6
    else if operandV i.op = 5 ∧ (i.a < 0 ∨ i.a ≥ k) then 7 else 0) := by unfold instrV; grind
  rw [hV]
  generalize operandV i.op = o at hk
  simp
  rcases hk with rfl | rfl | rfl | rfl | rfl | rfl <;> simp
  all_goals
    repeat' (refine split (fun hc => ?_) (fun hc => ?_) <;> simp [*])
  all_goals grind
theorem rnote_pc (p : Prg) (n : Nt) : PC Tryz.prog 38 [p.av, n.av] (iv (noteV p.hs p.as.length n)) := by
  refine pc_of_get rnote_get (by simp) _ (by simp) _ ?_
  unfold rnote_c
  simp
  refine split (fun h1 => ?_) (fun h1 => ?_) <;> simp [h1]
  · grind [noteV]
  refine split (fun h2 => ?_) (fun h2 => ?_) <;> simp [h2]
  · grind [noteV]
  refine split (fun h3 => ?_) (fun h3 => ?_) <;> simp [h3]
  · grind [noteV]
  refine split (fun h4 => ?_) (fun h4 => ?_) <;> simp only [h4]
  · simp [h4]; grind [noteV]
  obtain ⟨to, hd, args⟩ := n
  obtain ⟨k, rfl⟩ := Int.eq_ofNat_of_zero_le (by simpa using h3 : 0 ≤ hd)
  have hk : k < p.hs.length := by simpa using h4
  simp [hk]
  refine split (fun h5 => ?_) (fun h5 => ?_) <;> simp <;> grind [noteV]


end Go.Gv

/- What the document's CheckProg answers. No condition. -/
set_option linter.unusedVariables false
set_option linter.unusedSimpArgs false
namespace Go.Gv
open Go.Proofs

def rcheck_r0 : List AI := [⟨(some 1), none, (.op (.box 22001 4 (.t 0)))⟩, ⟨(some 2), none, (.op (.mv (.c (.int .i64 0))))⟩]
def rcheck_r1 : List AI := [⟨(some 12), none, (.op (.fld 0 (.t 1)))⟩, ⟨(some 13), none, (.op (.load none (.t 12)))⟩, ⟨(some 14), none, (.op (.len (.t 13)))⟩, ⟨(some 15), none, (.op (.ibin .gtr (.t 14) (.c (.int .i64 16))))⟩, ⟨(some 16), none, (.op (.mv (.t 15)))⟩, ⟨(some 17), (some (16, false)), (.op (.fld 1 (.t 1)))⟩, ⟨(some 18), (some (16, false)), (.op (.load none (.t 17)))⟩, ⟨(some 19), (some (16, false)), (.op (.len (.t 18)))⟩, ⟨(some 20), (some (16, false)), (.op (.ibin .gtr (.t 19) (.c (.int .i64 8))))⟩, ⟨(some 21), none, (.op (.pick (.t 16) (.c (.bool true)) (.t 20)))⟩, ⟨(some 22), none, (.op (.mv (.t 21)))⟩, ⟨(some 23), (some (22, false)), (.op (.fld 2 (.t 1)))⟩, ⟨(some 24), (some (22, false)), (.op (.load none (.t 23)))⟩, ⟨(some 25), (some (22, false)), (.op (.len (.t 24)))⟩, ⟨(some 26), (some (22, false)), (.op (.ibin .gtr (.t 25) (.c (.int .i64 16))))⟩, ⟨(some 27), none, (.op (.pick (.t 22) (.c (.bool true)) (.t 26)))⟩, ⟨(some 11), none, (.op (.mv (.t 27)))⟩]
def rcheck_r2 : List AI := [⟨(some 2), none, (.op (.mv (.c (.int .i64 3))))⟩]
def rcheck_r3 : List AI := [⟨(some 29), none, (.op (.fld 1 (.t 1)))⟩, ⟨(some 30), none, (.op (.load none (.t 29)))⟩, ⟨(some 31), none, (.op (.len (.t 30)))⟩, ⟨(some 32), none, (.op (.ibin .eql (.t 31) (.c (.int .i64 0))))⟩, ⟨(some 33), none, (.op (.mv (.t 32)))⟩, ⟨(some 34), (some (33, false)), (.op (.fld 3 (.t 1)))⟩, ⟨(some 35), (some (33, false)), (.op (.load none (.t 34)))⟩, ⟨(some 36), (some (33, false)), (.op (.ibin .lss (.t 35) (.c (.int .i64 1))))⟩, ⟨(some 37), none, (.op (.pick (.t 33) (.c (.bool true)) (.t 36)))⟩, ⟨(some 38), none, (.op (.mv (.t 37)))⟩, ⟨(some 39), (some (38, false)), (.op (.fld 3 (.t 1)))⟩, ⟨(some 40), (some (38, false)), (.op (.load none (.t 39)))⟩, ⟨(some 41), (some (38, false)), (.op (.ibin .gtr (.t 40) (.c (.int .i64 256))))⟩, ⟨(some 42), none, (.op (.pick (.t 38) (.c (.bool true)) (.t 41)))⟩, ⟨(some 28), none, (.op (.mv (.t 42)))⟩]
def rcheck_r4 : List AI := [⟨(some 2), none, (.op (.mv (.c (.int .i64 1))))⟩]
def rcheck_r5 : List AI := [⟨(some 3), none, (.op (.mv (.c (.int .i64 0))))⟩]
def rcheck_r6 : List AI := [⟨(some 43), none, (.op (.mv (.t 3)))⟩, ⟨(some 44), none, (.op (.fld 0 (.t 1)))⟩, ⟨(some 45), none, (.op (.load none (.t 44)))⟩, ⟨(some 46), none, (.op (.len (.t 45)))⟩, ⟨(some 47), none, (.op (.ibin .lss (.t 43) (.t 46)))⟩]
def rcheck_r7 : List AI := [⟨(some 50), none, (.op (.fld 0 (.t 1)))⟩, ⟨(some 51), none, (.op (.load none (.t 50)))⟩, ⟨(some 52), none, (.op (.mv (.t 3)))⟩, ⟨(some 53), none, (.op (.idx 2 (.t 51) (.t 52)))⟩, ⟨(some 54), none, (.op (.load (some 2) (.t 53)))⟩, ⟨(some 4), none, (.op (.new 22004 2 (.agg [(.int .i64 0), .nils])))⟩, ⟨none, none, (.op (.store 2 (.t 4) (.t 54)))⟩]
def rcheck_r8 : List AI := [⟨(some 55), none, (.op (.fld 0 (.t 4)))⟩, ⟨(some 56), none, (.op (.load none (.t 55)))⟩, ⟨(some 57), none, (.op (.ibin .lss (.t 56) (.c (.int .i64 0))))⟩, ⟨(some 58), none, (.op (.mv (.t 57)))⟩, ⟨(some 59), (some (58, false)), (.op (.fld 0 (.t 4)))⟩, ⟨(some 60), (some (58, false)), (.op (.load none (.t 59)))⟩, ⟨(some 61), (some (58, false)), (.op (.ibin .gtr (.t 60) (.c (.int .i64 4))))⟩, ⟨(some 62), none, (.op (.pick (.t 58) (.c (.bool true)) (.t 61)))⟩]
def rcheck_r9 : List AI := [⟨(some 2), none, (.op (.mv (.c (.int .i64 1))))⟩]
def rcheck_r10 : List AI := [⟨(some 63), none, (.op (.fld 1 (.t 4)))⟩, ⟨(some 64), none, (.op (.load none (.t 63)))⟩, ⟨(some 65), none, (.op (.len (.t 64)))⟩, ⟨(some 66), none, (.op (.ibin .gtr (.t 65) (.c (.int .i64 64))))⟩]
def rcheck_r11 : List AI := [⟨(some 2), none, (.op (.mv (.c (.int .i64 3))))⟩]
def rcheck_r12 : List AI := [⟨(some 5), none, (.op (.mv (.c (.int .i64 0))))⟩]
def rcheck_r13 : List AI := [⟨(some 67), none, (.op (.mv (.t 5)))⟩, ⟨(some 68), none, (.op (.fld 1 (.t 4)))⟩, ⟨(some 69), none, (.op (.load none (.t 68)))⟩, ⟨(some 70), none, (.op (.len (.t 69)))⟩, ⟨(some 71), none, (.op (.ibin .lss (.t 67) (.t 70)))⟩]
def rcheck_r14 : List AI := [⟨(some 74), none, (.op (.fld 1 (.t 4)))⟩, ⟨(some 75), none, (.op (.load none (.t 74)))⟩, ⟨(some 76), none, (.op (.mv (.t 5)))⟩, ⟨(some 77), none, (.op (.idx 2 (.t 75) (.t 76)))⟩, ⟨(some 78), none, (.op (.load (some 2) (.t 77)))⟩, ⟨(some 79), none, (.op (.fld 1 (.t 4)))⟩, ⟨(some 80), none, (.op (.load none (.t 79)))⟩, ⟨(some 81), none, (.op (.len (.t 80)))⟩, ⟨(some 82), none, (.op (.fld 0 (.t 4)))⟩, ⟨(some 83), none, (.op (.load none (.t 82)))⟩, ⟨(some 84), none, (.op (.fld 0 (.t 1)))⟩, ⟨(some 85), none, (.op (.load none (.t 84)))⟩, ⟨(some 86), none, (.op (.len (.t 85)))⟩, ⟨(some 87), none, (.call (.c (.fn 37 [])) [(.t 78), (.t 81), (.t 83), (.t 86)])⟩, ⟨(some 6), none, (.op (.mv (.t 87)))⟩]
def rcheck_p14 : List (List Nat) := [[], [0], [], [1, 2, 0], [3, 1, 2, 0], [], [5], [6, 5], [], [8], [], [10], [11, 10], [4, 7, 9, 12, 3, 1, 2, 0, 6, 5, 8, 11, 10], [13, 0, 1, 2, 3, 4, 5, 6, 7, 8, 9, 10, 11, 12]]
def rcheck_r15 : List AI := [⟨(some 88), none, (.op (.mv (.t 6)))⟩, ⟨(some 89), none, (.op (.ibin .neq (.t 88) (.c (.int .i64 0))))⟩]
def rcheck_r16 : List AI := [⟨(some 90), none, (.op (.mv (.t 6)))⟩, ⟨(some 2), none, (.op (.mv (.t 90)))⟩]
def rcheck_r17 : List AI := [⟨(some 72), none, (.op (.mv (.t 5)))⟩, ⟨(some 73), none, (.op (.ibin .add (.t 72) (.c (.int .i64 1))))⟩, ⟨(some 5), none, (.op (.mv (.t 73)))⟩]
def rcheck_l0 : AC := (.seq (.seq (.reg rcheck_r13) (.cond (.t 71) .skip (.exit 3))) (.seq (.block 4 (.seq (.regd rcheck_r14 rcheck_p14) (.seq (.reg rcheck_r15) (.cond (.t 89) (.seq (.reg rcheck_r16) .ret) .skip)))) (.reg rcheck_r17)))
def rcheck_r18 : List AI := [⟨(some 48), none, (.op (.mv (.t 3)))⟩, ⟨(some 49), none, (.op (.ibin .add (.t 48) (.c (.int .i64 1))))⟩, ⟨(some 3), none, (.op (.mv (.t 49)))⟩]
def rcheck_l1 : AC := (.seq (.seq (.reg rcheck_r6) (.cond (.t 47) .skip (.exit 1))) (.seq (.block 2 (.seq (.reg rcheck_r7) (.seq (.seq (.reg rcheck_r8) (.cond (.t 62) (.seq (.reg rcheck_r9) .ret) .skip)) (.seq (.seq (.reg rcheck_r10) (.cond (.t 66) (.seq (.reg rcheck_r11) .ret) .skip)) (.seq (.reg rcheck_r12) (.block 3 (.loop rcheck_l0))))))) (.reg rcheck_r18)))
def rcheck_r19 : List AI := [⟨(some 7), none, (.op (.mv (.c (.int .i64 0))))⟩]
def rcheck_r20 : List AI := [⟨(some 91), none, (.op (.mv (.t 7)))⟩, ⟨(some 92), none, (.op (.fld 1 (.t 1)))⟩, ⟨(some 93), none, (.op (.load none (.t 92)))⟩, ⟨(some 94), none, (.op (.len (.t 93)))⟩, ⟨(some 95), none, (.op (.ibin .lss (.t 91) (.t 94)))⟩]
def rcheck_r21 : List AI := [⟨(some 98), none, (.op (.fld 1 (.t 1)))⟩, ⟨(some 99), none, (.op (.load none (.t 98)))⟩, ⟨(some 100), none, (.op (.mv (.t 7)))⟩, ⟨(some 101), none, (.op (.idx 4 (.t 99) (.t 100)))⟩, ⟨(some 102), none, (.op (.load (some 4) (.t 101)))⟩, ⟨(some 8), none, (.op (.new 22008 4 (.agg [.nils, (.int .i64 0), (.int .i64 0), (.bool false)])))⟩, ⟨none, none, (.op (.store 4 (.t 8) (.t 102)))⟩]
def rcheck_r22 : List AI := [⟨(some 104), none, (.op (.fld 0 (.t 8)))⟩, ⟨(some 105), none, (.op (.load none (.t 104)))⟩, ⟨(some 106), none, (.op (.len (.t 105)))⟩, ⟨(some 107), none, (.op (.ibin .gtr (.t 106) (.c (.int .i64 8))))⟩, ⟨(some 103), none, (.op (.mv (.t 107)))⟩]
def rcheck_r23 : List AI := [⟨(some 2), none, (.op (.mv (.c (.int .i64 3))))⟩]
def rcheck_r24 : List AI := [⟨(some 109), none, (.op (.fld 1 (.t 8)))⟩, ⟨(some 110), none, (.op (.load none (.t 109)))⟩, ⟨(some 111), none, (.op (.ibin .lss (.t 110) (.c (.int .i64 0))))⟩, ⟨(some 112), none, (.op (.mv (.t 111)))⟩, ⟨(some 113), (some (112, false)), (.op (.fld 1 (.t 8)))⟩, ⟨(some 114), (some (112, false)), (.op (.load none (.t 113)))⟩, ⟨(some 115), (some (112, false)), (.op (.ibin .gtr (.t 114) (.c (.int .i64 16))))⟩, ⟨(some 116), none, (.op (.pick (.t 112) (.c (.bool true)) (.t 115)))⟩, ⟨(some 108), none, (.op (.mv (.t 116)))⟩]
def rcheck_r25 : List AI := [⟨(some 2), none, (.op (.mv (.c (.int .i64 1))))⟩]
def rcheck_r26 : List AI := [⟨(some 118), none, (.op (.fld 2 (.t 8)))⟩, ⟨(some 119), none, (.op (.load none (.t 118)))⟩, ⟨(some 120), none, (.op (.ibin .neq (.t 119) (.c (.int .i64 (-1)))))⟩, ⟨(some 121), none, (.op (.mv (.t 120)))⟩, ⟨(some 122), (some (121, true)), (.op (.fld 2 (.t 8)))⟩, ⟨(some 123), (some (121, true)), (.op (.load none (.t 122)))⟩, ⟨(some 124), (some (121, true)), (.op (.ibin .lss (.t 123) (.c (.int .i64 0))))⟩, ⟨(some 125), (some (121, true)), (.op (.mv (.t 124)))⟩, ⟨(some 126), (some (125, false)), (.op (.fld 2 (.t 8)))⟩, ⟨(some 127), (some (125, false)), (.op (.load none (.t 126)))⟩, ⟨(some 128), (some (125, false)), (.op (.fld 0 (.t 1)))⟩, ⟨(some 129), (some (125, false)), (.op (.load none (.t 128)))⟩, ⟨(some 130), (some (125, false)), (.op (.len (.t 129)))⟩, ⟨(some 131), (some (125, false)), (.op (.ibin .geq (.t 127) (.t 130)))⟩, ⟨(some 132), (some (121, true)), (.op (.pick (.t 125) (.c (.bool true)) (.t 131)))⟩, ⟨(some 133), (some (121, true)), (.op (.mv (.t 132)))⟩, ⟨(some 134), (some (133, false)), (.op (.fld 0 (.t 1)))⟩, ⟨(some 135), (some (133, false)), (.op (.load none (.t 134)))⟩, ⟨(some 136), (some (133, false)), (.op (.fld 2 (.t 8)))⟩, ⟨(some 137), (some (133, false)), (.op (.load none (.t 136)))⟩, ⟨(some 138), (some (133, false)), (.op (.idx 2 (.t 135) (.t 137)))⟩, ⟨(some 139), (some (133, false)), (.op (.fld 0 (.t 138)))⟩, ⟨(some 140), (some (133, false)), (.op (.load none (.t 139)))⟩, ⟨(some 141), (some (133, false)), (.op (.ibin .neq (.t 140) (.c (.int .i64 0))))⟩, ⟨(some 142), (some (121, true)), (.op (.pick (.t 133) (.c (.bool true)) (.t 141)))⟩, ⟨(some 143), none, (.op (.pick (.t 121) (.t 142) (.c (.bool false))))⟩, ⟨(some 117), none, (.op (.mv (.t 143)))⟩]
def rcheck_r27 : List AI := [⟨(some 2), none, (.op (.mv (.c (.int .i64 7))))⟩]
def rcheck_r28 : List AI := [⟨(some 145), none, (.op (.fld 3 (.t 8)))⟩, ⟨(some 146), none, (.op (.load none (.t 145)))⟩, ⟨(some 147), none, (.op (.mv (.t 146)))⟩, ⟨(some 148), (some (147, true)), (.op (.fld 2 (.t 8)))⟩, ⟨(some 149), (some (147, true)), (.op (.load none (.t 148)))⟩, ⟨(some 150), (some (147, true)), (.op (.ibin .eql (.t 149) (.c (.int .i64 (-1)))))⟩, ⟨(some 151), none, (.op (.pick (.t 147) (.t 150) (.c (.bool false))))⟩, ⟨(some 144), none, (.op (.mv (.t 151)))⟩]
def rcheck_r29 : List AI := [⟨(some 2), none, (.op (.mv (.c (.int .i64 1))))⟩]
def rcheck_r30 : List AI := [⟨(some 96), none, (.op (.mv (.t 7)))⟩, ⟨(some 97), none, (.op (.ibin .add (.t 96) (.c (.int .i64 1))))⟩, ⟨(some 7), none, (.op (.mv (.t 97)))⟩]
def rcheck_l2 : AC := (.seq (.seq (.reg rcheck_r20) (.cond (.t 95) .skip (.exit 5))) (.seq (.block 6 (.seq (.reg rcheck_r21) (.block 7 (.seq (.reg rcheck_r22) (.cond (.t 103) (.seq (.reg rcheck_r23) .ret) (.seq (.reg rcheck_r24) (.cond (.t 108) (.seq (.reg rcheck_r25) .ret) (.seq (.reg rcheck_r26) (.cond (.t 117) (.seq (.reg rcheck_r27) .ret) (.seq (.reg rcheck_r28) (.cond (.t 144) (.seq (.reg rcheck_r29) .ret) .skip))))))))))) (.reg rcheck_r30)))
def rcheck_r31 : List AI := [⟨(some 9), none, (.op (.mv (.c (.int .i64 0))))⟩]
def rcheck_r32 : List AI := [⟨(some 152), none, (.op (.mv (.t 9)))⟩, ⟨(some 153), none, (.op (.fld 2 (.t 1)))⟩, ⟨(some 154), none, (.op (.load none (.t 153)))⟩, ⟨(some 155), none, (.op (.len (.t 154)))⟩, ⟨(some 156), none, (.op (.ibin .lss (.t 152) (.t 155)))⟩]
def rcheck_r33 : List AI := [⟨(some 159), none, (.op (.load (some 4) (.t 1)))⟩, ⟨(some 160), none, (.op (.fld 2 (.t 1)))⟩, ⟨(some 161), none, (.op (.load none (.t 160)))⟩, ⟨(some 162), none, (.op (.mv (.t 9)))⟩, ⟨(some 163), none, (.op (.idx 3 (.t 161) (.t 162)))⟩, ⟨(some 164), none, (.op (.load (some 3) (.t 163)))⟩, ⟨(some 165), none, (.call (.c (.fn 38 [])) [(.t 159), (.t 164)])⟩, ⟨(some 10), none, (.op (.mv (.t 165)))⟩]
def rcheck_p33 : List (List Nat) := [[], [], [1], [], [2, 3, 1], [4, 2, 3, 1], [0, 5, 4, 2, 3, 1], [6, 0, 1, 2, 3, 4, 5]]
def rcheck_r34 : List AI := [⟨(some 166), none, (.op (.mv (.t 10)))⟩, ⟨(some 167), none, (.op (.ibin .neq (.t 166) (.c (.int .i64 0))))⟩]
def rcheck_r35 : List AI := [⟨(some 168), none, (.op (.mv (.t 10)))⟩, ⟨(some 2), none, (.op (.mv (.t 168)))⟩]
def rcheck_r36 : List AI := [⟨(some 157), none, (.op (.mv (.t 9)))⟩, ⟨(some 158), none, (.op (.ibin .add (.t 157) (.c (.int .i64 1))))⟩, ⟨(some 9), none, (.op (.mv (.t 158)))⟩]
def rcheck_l3 : AC := (.seq (.seq (.reg rcheck_r32) (.cond (.t 156) .skip (.exit 8))) (.seq (.block 9 (.seq (.regd rcheck_r33 rcheck_p33) (.seq (.reg rcheck_r34) (.cond (.t 167) (.seq (.reg rcheck_r35) .ret) .skip)))) (.reg rcheck_r36)))
def rcheck_r37 : List AI := [⟨(some 2), none, (.op (.mv (.c (.int .i64 0))))⟩]
def rcheck_c : AC := (.seq (.reg rcheck_r0) (.seq (.block 0 (.seq (.reg rcheck_r1) (.cond (.t 11) (.seq (.reg rcheck_r2) .ret) (.seq (.reg rcheck_r3) (.cond (.t 28) (.seq (.reg rcheck_r4) .ret) .skip))))) (.seq (.seq (.reg rcheck_r5) (.block 1 (.loop rcheck_l1))) (.seq (.seq (.reg rcheck_r19) (.block 5 (.loop rcheck_l2))) (.seq (.seq (.reg rcheck_r31) (.block 8 (.loop rcheck_l3))) (.seq (.reg rcheck_r37) .ret))))))
def rcheck_res : List ARes := [(.tmp 2)]
set_option maxRecDepth 100000 in
theorem rcheck_get : getF Tryz.prog 25 22000 [] = some ("gavotte/gavotteref1.CheckProg", 169, rcheck_c, rcheck_res) := by kernel_rfl
attribute [simp] rcheck_r0 rcheck_r1 rcheck_r2 rcheck_r3 rcheck_r4 rcheck_r5 rcheck_r6 rcheck_r7 rcheck_r8 rcheck_r9 rcheck_r10 rcheck_r11 rcheck_r12 rcheck_r13 rcheck_r14 rcheck_p14 rcheck_r15 rcheck_r16 rcheck_r17 rcheck_r18 rcheck_r19 rcheck_r20 rcheck_r21 rcheck_r22 rcheck_r23 rcheck_r24 rcheck_r25 rcheck_r26 rcheck_r27 rcheck_r28 rcheck_r29 rcheck_r30 rcheck_r31 rcheck_r32 rcheck_r33 rcheck_p33 rcheck_r34 rcheck_r35 rcheck_r36 rcheck_r37 rcheck_res


theorem rcheck_pc (p : Prg) : PC Tryz.prog 25 [p.av] (iv (checkV p)) := by
  refine pc_of_get rcheck_get (by simp) _ (by simp) _ ?_
  unfold rcheck_c
  simp
  refine split (fun h1 => ?_) (fun h1 => ?_) <;> simp [h1]
  · grind [checkV]
  refine split (fun h2 => ?_) (fun h2 => ?_) <;> simp [h2]
  · grind [checkV]
  refine split (fun h3 => ?_) (fun h3 => ?_) <;> simp [h3]
  · grind [checkV]
  refine split (fun h4 => ?_) (fun h4 => ?_) <;> simp [h4]
  · grind [checkV]
  refine split (fun h5 => ?_) (fun h5 => ?_) <;> simp [h5]
  · grind [checkV]
  refine split (fun h6 => ?_) (fun h6 => ?_) <;> simp [h6]
  · grind [checkV]
  have hv : checkV p = if firstNZ (p.hs.map (handlerV p.hs.length)) ≠ 0 then firstNZ (p.hs.map (handlerV p.hs.length))
      else if firstNZ (p.as.map (actorV p.hs)) ≠ 0 then firstNZ (p.as.map (actorV p.hs))
      else firstNZ (p.boot.map (noteV p.hs p.as.length)) := by grind [checkV]
  refine loopN (fun i S => S.t 3 = iv i ∧ (∃ st, S.t 1 = .ptr 22001 st 4 0 0 ∧ S.blk 22001 = some ⟨st, 4, [p.av]⟩) ∧
    firstNZ (p.hs.map (handlerV p.hs.length)) = firstNZ ((p.hs.map (handlerV p.hs.length)).drop i)) p.hs.length ?_ ?_
  · simp
  · rintro i S hi ⟨g1, ⟨st, g2, g3⟩, hh⟩
    by_cases hlt : i < p.hs.length
    · rw [firstNZ_drop _ _ (by simpa using hlt), List.getElem_map] at hh
      simp [rcheck_l1, g1, g2, g3, hlt]
      refine split (fun c1 => ?_) (fun c1 => ?_) <;> simp [c1]
      · grind [handlerV]
      refine split (fun c2 => ?_) (fun c2 => ?_) <;> simp [c2]
      · grind [handlerV]
      refine split (fun c3 => ?_) (fun c3 => ?_) <;> simp [c3]
      · grind [handlerV]
      have hw : handlerV p.hs.length p.hs[i] = firstNZ (p.hs[i].code.map (instrV p.hs.length p.hs[i].args p.hs[i].code.length)) := by grind [handlerV]
      refine loopN (fun j S => S.t 3 = iv i ∧ S.t 5 = iv j ∧ (∃ st, S.t 1 = .ptr 22001 st 4 0 0 ∧ S.blk 22001 = some ⟨st, 4, [p.av]⟩) ∧ (∃ st, S.t 4 = .ptr 22004 st 2 0 0 ∧ S.blk 22004 = some ⟨st, 2, [p.hs[i].av]⟩) ∧
        firstNZ (p.hs[i].code.map (instrV p.hs.length p.hs[i].args p.hs[i].code.length)) = firstNZ ((p.hs[i].code.map (instrV p.hs.length p.hs[i].args p.hs[i].code.length)).drop j)) p.hs[i].code.length ?_ ?_
      · simp [g1, g2, g3]
      · rintro j S hj ⟨k1, k2, ⟨st1, k3, k4⟩, ⟨st2, k5, k6⟩, hx⟩
        by_cases hjt : j < p.hs[i].code.length
        · rw [firstNZ_drop _ _ (by simpa using hjt), List.getElem_map] at hx
          simp [rcheck_l0, k1, k2, k3, k4, k5, k6, hjt]
          refine calld (rinstr_pc p.hs[i].code[j] p.hs[i].code.length p.hs[i].args p.hs.length) (by simp) ?_
          simp [k1, k2, k3, k4, k5, k6, hjt]
          refine split (fun hc => ?_) (fun hc => ?_) <;> simp [hc, k1, k2, k3, k4, k5, k6, hjt, wrap_succ j _ hjt (by omega)]
          · grind
          · grind
        · have e : j = p.hs[i].code.length := by omega
          subst e
          rw [firstNZ_end _ _ (by simp)] at hx
          simp [rcheck_l0, k1, k2, k3, k4, k5, k6, hlt, wrap_succ i _ hlt (by omega)]
          grind
    · have e : i = p.hs.length := by omega
      subst e
      rw [firstNZ_end _ _ (by simp)] at hh
      have hv : checkV p = if firstNZ (p.as.map (actorV p.hs)) ≠ 0 then firstNZ (p.as.map (actorV p.hs)) else firstNZ (p.boot.map (noteV p.hs p.as.length)) := by grind
      simp [rcheck_l1, g1, g2, g3]
      refine loopN (fun i S => S.t 7 = iv i ∧ (∃ st, S.t 1 = .ptr 22001 st 4 0 0 ∧ S.blk 22001 = some ⟨st, 4, [p.av]⟩) ∧
        firstNZ (p.as.map (actorV p.hs)) = firstNZ ((p.as.map (actorV p.hs)).drop i)) p.as.length ?_ ?_
      · simp [g2, g3]
      · rintro i S hi ⟨g1, ⟨st, g2, g3⟩, hh⟩
        by_cases hlt : i < p.as.length
        · rw [firstNZ_drop _ _ (by simpa using hlt), List.getElem_map] at hh
          simp [rcheck_l2, g1, g2, g3, hlt]
          have ws := wrap_succ i _ hlt (by omega)
          generalize p.as[i] = a at hh
          refine split (fun c1 => ?_) (fun c1 => ?_) <;> simp [c1]
          · grind [actorV]
          refine split (fun c2 => ?_) (fun c2 => ?_) <;> simp [c2]
          · grind [actorV]
          refine split (fun c3 => ?_) (fun c3 => ?_) <;> simp [c3]
          · grind [actorV]
          obtain ⟨regs, cap, timer, armed⟩ := a
          simp at c1 c2 c3
          by_cases ht : timer = -1
          · subst ht
            simp
            cases armed <;> simp [g1, g2, g3, hlt, ws] <;> grind [actorV]
          · simp [ht]
            by_cases ht2 : timer < 0
            · simp [ht2]; grind [actorV]
            · obtain ⟨k, rfl⟩ := Int.eq_ofNat_of_zero_le (by omega : 0 ≤ timer)
              have hn : ¬ ((k : Int) < 0) := by omega
              by_cases hk : k < p.hs.length
              · simp [hk, ht, hn, g1, g2, g3, Nat.not_le.2 hk]
                by_cases hz : p.hs[k].args = 0
                · simp [hk, ht, hn, hz, g1, g2, g3, Nat.not_le.2 hk]
                  cases armed <;> simp [hk, ht, hn, hz, Nat.not_le.2 hk, g1, g2, g3, hlt, ws] <;> grind [actorV]
                · simp [hk, ht, hn, hz, g1, g2, g3, Nat.not_le.2 hk]; grind [actorV]
              · simp [hk, ht, hn, g1, g2, g3, Nat.not_lt.1 hk]; grind [actorV]
        · have e : i = p.as.length := by omega
          subst e
          rw [firstNZ_end _ _ (by simp)] at hh
          have hv : checkV p = firstNZ (p.boot.map (noteV p.hs p.as.length)) := by grind
          simp [rcheck_l2, g1, g2, g3]
          refine loopN (fun i S => S.t 9 = iv i ∧ (∃ st, S.t 1 = .ptr 22001 st 4 0 0 ∧ S.blk 22001 = some ⟨st, 4, [p.av]⟩) ∧
            firstNZ (p.boot.map (noteV p.hs p.as.length)) = firstNZ ((p.boot.map (noteV p.hs p.as.length)).drop i)) p.boot.length ?_ ?_
          · simp [g2, g3]
          · rintro i S hi ⟨g1, ⟨st, g2, g3⟩, hh⟩
            by_cases hlt : i < p.boot.length
            · rw [firstNZ_drop _ _ (by simpa using hlt), List.getElem_map] at hh
              simp [rcheck_l3, g1, g2, g3, hlt]
              refine calld (rnote_pc p p.boot[i]) (by simp) ?_
              simp [g1, g2, g3, hlt]
              refine split (fun hc => ?_) (fun hc => ?_) <;> simp [hc, g1, g2, g3, hlt, wrap_succ i _ hlt (by omega)] <;> grind
            · have e : i = p.boot.length := by omega
              subst e
              rw [firstNZ_end _ _ (by simp)] at hh
              simp [rcheck_l3, g1, g2, g3]
              grind


end Go.Gv

/- When lists, and what stands in them, are the same. No condition beyond a list's length below 2^62. -/
set_option linter.unusedVariables false
set_option linter.unusedSimpArgs false
namespace Go.Gv
open Go.Proofs

def aints_r0 : List AI := [⟨(some 4), none, (.op (.mv (.c (.bool false))))⟩]
def aints_r1 : List AI := [⟨(some 6), none, (.op (.mv (.t 0)))⟩, ⟨(some 7), none, (.op (.len (.t 6)))⟩, ⟨(some 8), none, (.op (.mv (.t 1)))⟩, ⟨(some 9), none, (.op (.len (.t 8)))⟩, ⟨(some 10), none, (.op (.ibin .neq (.t 7) (.t 9)))⟩]
def aints_r2 : List AI := [⟨(some 4), none, (.op (.mv (.c (.bool false))))⟩]
def aints_r3 : List AI := [⟨(some 5), none, (.op (.mv (.c (.int .i64 0))))⟩]
def aints_r4 : List AI := [⟨(some 11), none, (.op (.mv (.t 5)))⟩, ⟨(some 12), none, (.op (.mv (.t 0)))⟩, ⟨(some 13), none, (.op (.len (.t 12)))⟩, ⟨(some 14), none, (.op (.ibin .lss (.t 11) (.t 13)))⟩]
def aints_r5 : List AI := [⟨(some 17), none, (.op (.mv (.t 0)))⟩, ⟨(some 18), none, (.op (.mv (.t 5)))⟩, ⟨(some 19), none, (.op (.idx 1 (.t 17) (.t 18)))⟩, ⟨(some 20), none, (.op (.load none (.t 19)))⟩, ⟨(some 21), none, (.op (.mv (.t 1)))⟩, ⟨(some 22), none, (.op (.mv (.t 5)))⟩, ⟨(some 23), none, (.op (.idx 1 (.t 21) (.t 22)))⟩, ⟨(some 24), none, (.op (.load none (.t 23)))⟩, ⟨(some 25), none, (.op (.ibin .neq (.t 20) (.t 24)))⟩]
def aints_p5 : List (List Nat) := [[], [], [0, 1], [2, 0, 1], [], [], [4, 5], [6, 4, 5], [3, 7, 2, 0, 1, 6, 4, 5]]
def aints_r6 : List AI := [⟨(some 4), none, (.op (.mv (.c (.bool false))))⟩]
def aints_r7 : List AI := [⟨(some 15), none, (.op (.mv (.t 5)))⟩, ⟨(some 16), none, (.op (.ibin .add (.t 15) (.c (.int .i64 1))))⟩, ⟨(some 5), none, (.op (.mv (.t 16)))⟩]
def aints_l0 : AC := (.seq (.seq (.reg aints_r4) (.cond (.t 14) .skip (.exit 0))) (.seq (.block 1 (.seq (.regd aints_r5 aints_p5) (.cond (.t 25) (.seq (.reg aints_r6) .ret) .skip))) (.reg aints_r7)))
def aints_r8 : List AI := [⟨(some 4), none, (.op (.mv (.c (.bool true))))⟩]
def aints_c : AC := (.seq (.reg aints_r0) (.seq (.seq (.reg aints_r1) (.cond (.t 10) (.seq (.reg aints_r2) .ret) .skip)) (.seq (.seq (.reg aints_r3) (.block 0 (.loop aints_l0))) (.seq (.reg aints_r8) .ret))))
def aints_res : List ARes := [(.tmp 4)]
set_option maxRecDepth 100000 in
theorem aints_get : getF Tryz.prog 9 29000 [] = some ("gavotte/gavottealike.Ints", 26, aints_c, aints_res) := by kernel_rfl
attribute [simp] aints_r0 aints_r1 aints_r2 aints_r3 aints_r4 aints_r5 aints_p5 aints_r6 aints_r7 aints_r8 aints_res


theorem Ins.eq_iff (a b : Ins) : a = b ↔ a.op = b.op ∧ a.a = b.a := by cases a; cases b; simp
theorem Hnd.eq_iff (a b : Hnd) : a = b ↔ a.args = b.args ∧ a.code = b.code := by cases a; cases b; simp
theorem Actr.eq_iff (a b : Actr) : a = b ↔ a.regs = b.regs ∧ a.cap = b.cap ∧ a.timer = b.timer ∧ a.armed = b.armed := by cases a; cases b; simp
theorem Nt.eq_iff (a b : Nt) : a = b ↔ a.to = b.to ∧ a.hd = b.hd ∧ a.args = b.args := by cases a; cases b; simp
theorem Prg.eq_iff (a b : Prg) : a = b ↔ a.hs = b.hs ∧ a.as = b.as ∧ a.boot = b.boot ∧ a.fuel = b.fuel := by cases a; cases b; simp
theorem aints_pc (l m : List Int) (hl : l.length < 4611686018427387904) : PC Tryz.prog 9 [ints l, ints m ] (.bool (decide (l = m))) := by
  refine pc_of_get aints_get (by simp) _ (by simp) _ ?_
  unfold aints_c
  simp
  refine split (fun hlen => ?_) (fun hlen => ?_) <;> simp [hlen]
  rotate_left
  · intro e; exact hlen (by rw [e])
  have hlen : l.length = m.length := by omega
  refine loopN (fun i S => S.t 0 = ints l ∧ S.t 1 = ints m ∧ S.t 5 = iv i ∧ (l = m ↔ l.drop i = m.drop i)) l.length ?_ ?_
  · simp [hlen]
  · rintro i S hi ⟨h0, h1, h2, h4⟩
    by_cases hlt : i < l.length
    · have hlt2 : i < m.length := by omega
      rw [List.drop_eq_getElem_cons hlt, List.drop_eq_getElem_cons hlt2, List.cons.injEq] at h4
      simp [aints_l0, h0, h1, h2, hlt, hlt2]
      repeat' (refine split (fun hc => ?_) (fun hc => ?_) <;> simp [hc, h0, h1, h2, hlt, hlt2, h4, wrap_succ i _ hlt hl])
      all_goals grind
    · have e : i = l.length := by omega
      subst e
      have hle : m.length ≤ l.length := by omega
      simp [hle] at h4
      simp [aints_l0, h0, h1, h2,  h4]
end Go.Gv

/- Whether programs are small, how many instructions they have, and whether two are the same. No condition beyond a list's length below 2^62. -/
set_option linter.unusedVariables false
set_option linter.unusedSimpArgs false
namespace Go.Gv
open Go.Proofs

def small_r0 : List AI := [⟨(some 1), none, (.op (.box 19001 4 (.t 0)))⟩, ⟨(some 2), none, (.op (.mv (.c (.bool false))))⟩]
def small_r1 : List AI := [⟨(some 6), none, (.op (.fld 0 (.t 1)))⟩, ⟨(some 7), none, (.op (.load none (.t 6)))⟩, ⟨(some 8), none, (.op (.len (.t 7)))⟩, ⟨(some 9), none, (.op (.ibin .gtr (.t 8) (.c (.int .i64 18))))⟩, ⟨(some 10), none, (.op (.mv (.t 9)))⟩, ⟨(some 11), (some (10, false)), (.op (.fld 1 (.t 1)))⟩, ⟨(some 12), (some (10, false)), (.op (.load none (.t 11)))⟩, ⟨(some 13), (some (10, false)), (.op (.len (.t 12)))⟩, ⟨(some 14), (some (10, false)), (.op (.ibin .gtr (.t 13) (.c (.int .i64 10))))⟩, ⟨(some 15), none, (.op (.pick (.t 10) (.c (.bool true)) (.t 14)))⟩, ⟨(some 16), none, (.op (.mv (.t 15)))⟩, ⟨(some 17), (some (16, false)), (.op (.fld 2 (.t 1)))⟩, ⟨(some 18), (some (16, false)), (.op (.load none (.t 17)))⟩, ⟨(some 19), (some (16, false)), (.op (.len (.t 18)))⟩, ⟨(some 20), (some (16, false)), (.op (.ibin .gtr (.t 19) (.c (.int .i64 18))))⟩, ⟨(some 21), none, (.op (.pick (.t 16) (.c (.bool true)) (.t 20)))⟩]
def small_r2 : List AI := [⟨(some 2), none, (.op (.mv (.c (.bool false))))⟩]
def small_r3 : List AI := [⟨(some 3), none, (.op (.mv (.c (.int .i64 0))))⟩]
def small_r4 : List AI := [⟨(some 22), none, (.op (.mv (.t 3)))⟩, ⟨(some 23), none, (.op (.fld 0 (.t 1)))⟩, ⟨(some 24), none, (.op (.load none (.t 23)))⟩, ⟨(some 25), none, (.op (.len (.t 24)))⟩, ⟨(some 26), none, (.op (.ibin .lss (.t 22) (.t 25)))⟩]
def small_r5 : List AI := [⟨(some 29), none, (.op (.fld 0 (.t 1)))⟩, ⟨(some 30), none, (.op (.load none (.t 29)))⟩, ⟨(some 31), none, (.op (.mv (.t 3)))⟩, ⟨(some 32), none, (.op (.idx 2 (.t 30) (.t 31)))⟩, ⟨(some 33), none, (.op (.fld 1 (.t 32)))⟩, ⟨(some 34), none, (.op (.load none (.t 33)))⟩, ⟨(some 35), none, (.op (.len (.t 34)))⟩, ⟨(some 36), none, (.op (.ibin .gtr (.t 35) (.c (.int .i64 70))))⟩]
def small_r6 : List AI := [⟨(some 2), none, (.op (.mv (.c (.bool false))))⟩]
def small_r7 : List AI := [⟨(some 27), none, (.op (.mv (.t 3)))⟩, ⟨(some 28), none, (.op (.ibin .add (.t 27) (.c (.int .i64 1))))⟩, ⟨(some 3), none, (.op (.mv (.t 28)))⟩]
def small_l0 : AC := (.seq (.seq (.reg small_r4) (.cond (.t 26) .skip (.exit 0))) (.seq (.block 1 (.seq (.reg small_r5) (.cond (.t 36) (.seq (.reg small_r6) .ret) .skip))) (.reg small_r7)))
def small_r8 : List AI := [⟨(some 4), none, (.op (.mv (.c (.int .i64 0))))⟩]
def small_r9 : List AI := [⟨(some 37), none, (.op (.mv (.t 4)))⟩, ⟨(some 38), none, (.op (.fld 1 (.t 1)))⟩, ⟨(some 39), none, (.op (.load none (.t 38)))⟩, ⟨(some 40), none, (.op (.len (.t 39)))⟩, ⟨(some 41), none, (.op (.ibin .lss (.t 37) (.t 40)))⟩]
def small_r10 : List AI := [⟨(some 44), none, (.op (.fld 1 (.t 1)))⟩, ⟨(some 45), none, (.op (.load none (.t 44)))⟩, ⟨(some 46), none, (.op (.mv (.t 4)))⟩, ⟨(some 47), none, (.op (.idx 4 (.t 45) (.t 46)))⟩, ⟨(some 48), none, (.op (.fld 0 (.t 47)))⟩, ⟨(some 49), none, (.op (.load none (.t 48)))⟩, ⟨(some 50), none, (.op (.len (.t 49)))⟩, ⟨(some 51), none, (.op (.ibin .gtr (.t 50) (.c (.int .i64 10))))⟩]
def small_r11 : List AI := [⟨(some 2), none, (.op (.mv (.c (.bool false))))⟩]
def small_r12 : List AI := [⟨(some 42), none, (.op (.mv (.t 4)))⟩, ⟨(some 43), none, (.op (.ibin .add (.t 42) (.c (.int .i64 1))))⟩, ⟨(some 4), none, (.op (.mv (.t 43)))⟩]
def small_l1 : AC := (.seq (.seq (.reg small_r9) (.cond (.t 41) .skip (.exit 2))) (.seq (.block 3 (.seq (.reg small_r10) (.cond (.t 51) (.seq (.reg small_r11) .ret) .skip))) (.reg small_r12)))
def small_r13 : List AI := [⟨(some 5), none, (.op (.mv (.c (.int .i64 0))))⟩]
def small_r14 : List AI := [⟨(some 52), none, (.op (.mv (.t 5)))⟩, ⟨(some 53), none, (.op (.fld 2 (.t 1)))⟩, ⟨(some 54), none, (.op (.load none (.t 53)))⟩, ⟨(some 55), none, (.op (.len (.t 54)))⟩, ⟨(some 56), none, (.op (.ibin .lss (.t 52) (.t 55)))⟩]
def small_r15 : List AI := [⟨(some 59), none, (.op (.fld 2 (.t 1)))⟩, ⟨(some 60), none, (.op (.load none (.t 59)))⟩, ⟨(some 61), none, (.op (.mv (.t 5)))⟩, ⟨(some 62), none, (.op (.idx 3 (.t 60) (.t 61)))⟩, ⟨(some 63), none, (.op (.fld 2 (.t 62)))⟩, ⟨(some 64), none, (.op (.load none (.t 63)))⟩, ⟨(some 65), none, (.op (.len (.t 64)))⟩, ⟨(some 66), none, (.op (.ibin .gtr (.t 65) (.c (.int .i64 6))))⟩]
def small_r16 : List AI := [⟨(some 2), none, (.op (.mv (.c (.bool false))))⟩]
def small_r17 : List AI := [⟨(some 57), none, (.op (.mv (.t 5)))⟩, ⟨(some 58), none, (.op (.ibin .add (.t 57) (.c (.int .i64 1))))⟩, ⟨(some 5), none, (.op (.mv (.t 58)))⟩]
def small_l2 : AC := (.seq (.seq (.reg small_r14) (.cond (.t 56) .skip (.exit 4))) (.seq (.block 5 (.seq (.reg small_r15) (.cond (.t 66) (.seq (.reg small_r16) .ret) .skip))) (.reg small_r17)))
def small_r18 : List AI := [⟨(some 2), none, (.op (.mv (.c (.bool true))))⟩]
def small_c : AC := (.seq (.reg small_r0) (.seq (.seq (.reg small_r1) (.cond (.t 21) (.seq (.reg small_r2) .ret) .skip)) (.seq (.seq (.reg small_r3) (.block 0 (.loop small_l0))) (.seq (.seq (.reg small_r8) (.block 2 (.loop small_l1))) (.seq (.seq (.reg small_r13) (.block 4 (.loop small_l2))) (.seq (.reg small_r18) .ret))))))
def small_res : List ARes := [(.tmp 2)]
set_option maxRecDepth 100000 in
theorem small_get : getF Tryz.prog 5 19000 [] = some ("gavotte/gavottealike.Small", 67, small_c, small_res) := by kernel_rfl
attribute [simp] small_r0 small_r1 small_r2 small_r3 small_r4 small_r5 small_r6 small_r7 small_r8 small_r9 small_r10 small_r11 small_r12 small_r13 small_r14 small_r15 small_r16 small_r17 small_r18 small_res


def smallV (p : Prg) : Prop := p.hs.length ≤ 18 ∧ p.as.length ≤ 10 ∧ p.boot.length ≤ 18 ∧ (∀ h ∈ p.hs, h.code.length ≤ 70) ∧ (∀ a ∈ p.as, a.regs.length ≤ 10) ∧ (∀ n ∈ p.boot, n.args.length ≤ 6)
instance (p : Prg) : Decidable (smallV p) := inferInstanceAs (Decidable (_ ∧ _))
def okP (p : Prg) : Prop := p.hs.length < 4611686018427387904 ∧ p.as.length < 4611686018427387904 ∧ p.boot.length < 4611686018427387904 ∧ (∀ h ∈ p.hs, h.code.length < 4611686018427387904) ∧ (∀ a ∈ p.as, a.regs.length < 4611686018427387904) ∧ (∀ n ∈ p.boot, n.args.length < 4611686018427387904)
theorem okP_of_small (p : Prg) (h : smallV p) : okP p := by
  obtain ⟨h1, h2, h3, h4, h5, h6⟩ := h
  exact ⟨by omega, by omega, by omega, fun x hx => by have := h4 x hx; omega, fun x hx => by have := h5 x hx; omega, fun x hx => by have := h6 x hx; omega⟩
theorem all_drop {α : Type} (l : List α) (P : α → Prop) (i : Nat) (h : i < l.length) : (∀ x ∈ l.drop i, P x) ↔ P l[i] ∧ ∀ x ∈ l.drop (i + 1), P x := by
  rw [List.drop_eq_getElem_cons h]; simp only [List.mem_cons, forall_eq_or_imp]
theorem small_pc (p : Prg) : PC Tryz.prog 5 [p.av] (.bool (decide (smallV p))) := by
  refine pc_of_get small_get (by simp) _ (by simp) _ ?_
  unfold small_c
  simp
  refine split (fun h1 => ?_) (fun h1 => ?_) <;> simp [h1]
  · intro h; have := h.1; omega
  refine split (fun h2 => ?_) (fun h2 => ?_) <;> simp [h2]
  · intro h; have := h.2.1; omega
  refine split (fun h3 => ?_) (fun h3 => ?_) <;> simp [h3]
  · intro h; have := h.2.2.1; omega
  have e : smallV p ↔ (∀ h ∈ p.hs, h.code.length ≤ 70) ∧ (∀ a ∈ p.as, a.regs.length ≤ 10) ∧ (∀ n ∈ p.boot, n.args.length ≤ 6) := by
    unfold smallV
    constructor
    · intro h; exact h.2.2.2
    · intro h; exact ⟨by omega, by omega, by omega, h⟩
  refine loopN (fun i S => S.t 3 = iv i ∧ (∃ st, S.t 1 = .ptr 19001 st 4 0 0 ∧ S.blk 19001 = some ⟨st, 4, [p.av]⟩) ∧
    ((∀ h ∈ p.hs, h.code.length ≤ 70) ↔ ∀ h ∈ p.hs.drop i, h.code.length ≤ 70)) p.hs.length ?_ ?_
  · simp
  · rintro i S hi ⟨g1, ⟨st, g2, g3⟩, hh⟩
    by_cases hlt : i < p.hs.length
    · rw [all_drop _ _ _ hlt] at hh
      simp [small_l0, g1, g2, g3, hlt]
      refine split (fun c1 => ?_) (fun c1 => ?_) <;> simp [c1, g1, g2, g3, hlt, wrap_succ i _ hlt (by omega)]
      · intro h; have := (hh.1 (e.1 h).1).1; omega
      · rw [hh]; exact ⟨fun h => h.2, fun h => ⟨by omega, h⟩⟩
    · have e1 : i = p.hs.length := by omega
      subst e1
      simp at hh
      simp [small_l0, g1, g2, g3]
      refine loopN (fun i S => S.t 4 = iv i ∧ (∃ st, S.t 1 = .ptr 19001 st 4 0 0 ∧ S.blk 19001 = some ⟨st, 4, [p.av]⟩) ∧
        ((∀ h ∈ p.as, h.regs.length ≤ 10) ↔ ∀ h ∈ p.as.drop i, h.regs.length ≤ 10)) p.as.length ?_ ?_
      · simp [g2, g3]
      · rintro i S hi ⟨g1, ⟨st, g2, g3⟩, hh2⟩
        by_cases hlt : i < p.as.length
        · rw [all_drop _ _ _ hlt] at hh2
          simp [small_l1, g1, g2, g3, hlt]
          refine split (fun c1 => ?_) (fun c1 => ?_) <;> simp [c1, g1, g2, g3, hlt, wrap_succ i _ hlt (by omega)]
          · intro h; have := (hh2.1 (e.1 h).2.1).1; omega
          · rw [hh2]; exact ⟨fun h => h.2, fun h => ⟨by omega, h⟩⟩
        · have e1 : i = p.as.length := by omega
          subst e1
          simp at hh2
          simp [small_l1, g1, g2, g3]
          refine loopN (fun i S => S.t 5 = iv i ∧ (∃ st, S.t 1 = .ptr 19001 st 4 0 0 ∧ S.blk 19001 = some ⟨st, 4, [p.av]⟩) ∧
            ((∀ h ∈ p.boot, h.args.length ≤ 6) ↔ ∀ h ∈ p.boot.drop i, h.args.length ≤ 6)) p.boot.length ?_ ?_
          · simp [g2, g3]
          · rintro i S hi ⟨g1, ⟨st, g2, g3⟩, hh3⟩
            by_cases hlt : i < p.boot.length
            · rw [all_drop _ _ _ hlt] at hh3
              simp [small_l2, g1, g2, g3, hlt]
              refine split (fun c1 => ?_) (fun c1 => ?_) <;> simp [c1, g1, g2, g3, hlt, wrap_succ i _ hlt (by omega)]
              · intro h; have := (hh3.1 (e.1 h).2.2).1; omega
              · rw [hh3]; exact ⟨fun h => h.2, fun h => ⟨by omega, h⟩⟩
            · have e1 : i = p.boot.length := by omega
              subst e1
              simp at hh3
              simp [small_l2, g1, g2, g3]
              exact e.2 ⟨hh, hh2, hh3⟩
def sizeN : List Hnd → Nat
  | [] => 0
  | h :: l => h.code.length + sizeN l
theorem sizeN_take (l : List Hnd) (i : Nat) (h : i < l.length) : sizeN (l.take (i + 1)) = sizeN (l.take i) + l[i].code.length := by
  induction l generalizing i with
  | nil => simp at h
  | cons a l ih =>
    cases i with
    | zero => simp [sizeN]
    | succ i => simp only [List.take_succ_cons, sizeN, List.getElem_cons_succ]; rw [ih i (by simpa using h)]; omega
theorem sizeN_le (l : List Hnd) (i : Nat) : sizeN (l.take i) ≤ sizeN l := by
  induction l generalizing i with
  | nil => simp
  | cons a l ih =>
    cases i with
    | zero => simp [sizeN]
    | succ i => simp only [List.take_succ_cons, sizeN]; have := ih i; omega
end Go.Gv

/- What slices.Clone, prog.CopyNote and prog.Copy answer. Lists of at most 1000. -/
set_option linter.unusedVariables false
set_option linter.unusedSimpArgs false
namespace Go.Gv
open Go.Proofs

def cloneI_r0 : List AI := [⟨(some 2), none, (.op (.mv (.c .nils)))⟩]
def cloneI_r1 : List AI := [⟨(some 3), none, (.op (.mv (.t 0)))⟩, ⟨(some 4), none, (.nq 0 false (.t 3))⟩]
def cloneI_r2 : List AI := [⟨(some 2), none, (.op (.mv (.c .nils)))⟩]
def cloneI_r3 : List AI := [⟨(some 5), none, (.op (.bsl 63005 1 3 0 (.int .i64 0) []))⟩, ⟨(some 6), none, (.op (.mv (.t 0)))⟩, ⟨(some 7), none, (.op (.app 63007 1 3 8 (.t 5) (.t 6)))⟩, ⟨(some 2), none, (.op (.mv (.t 7)))⟩]
def cloneI_c : AC := (.seq (.reg cloneI_r0) (.seq (.seq (.reg cloneI_r1) (.cond (.t 4) (.seq (.reg cloneI_r2) .ret) .skip)) (.seq (.reg cloneI_r3) .ret)))
def cloneI_res : List ARes := [(.tmp 2)]
set_option maxRecDepth 100000 in
theorem cloneI_get : getF Tryz.prog 28 63000 [] = some ("slices.Clone[[]int,int]", 8, cloneI_c, cloneI_res) := by kernel_rfl
def cloneC_r0 : List AI := [⟨(some 2), none, (.op (.mv (.c .nils)))⟩]
def cloneC_r1 : List AI := [⟨(some 3), none, (.op (.mv (.t 0)))⟩, ⟨(some 4), none, (.nq 0 false (.t 3))⟩]
def cloneC_r2 : List AI := [⟨(some 2), none, (.op (.mv (.c .nils)))⟩]
def cloneC_r3 : List AI := [⟨(some 5), none, (.op (.bsl 62005 2 85 0 (.agg [(.int .i64 0), (.int .i64 0)]) []))⟩, ⟨(some 6), none, (.op (.mv (.t 0)))⟩, ⟨(some 7), none, (.op (.app 62007 2 85 16 (.t 5) (.t 6)))⟩, ⟨(some 2), none, (.op (.mv (.t 7)))⟩]
def cloneC_c : AC := (.seq (.reg cloneC_r0) (.seq (.seq (.reg cloneC_r1) (.cond (.t 4) (.seq (.reg cloneC_r2) .ret) .skip)) (.seq (.reg cloneC_r3) .ret)))
def cloneC_res : List ARes := [(.tmp 2)]
set_option maxRecDepth 100000 in
theorem cloneC_get : getF Tryz.prog 35 62000 [] = some ("slices.Clone[[]gavotte/api.Instr,gavotte/api.Instr]", 8, cloneC_c, cloneC_res) := by kernel_rfl
def copyNote_r0 : List AI := [⟨(some 1), none, (.op (.box 51001 3 (.t 0)))⟩, ⟨(some 2), none, (.op (.new 51002 3 (.agg [(.int .i64 0), (.int .i64 0), .nils])))⟩]
def copyNote_r1 : List AI := [⟨(some 3), none, (.op (.fld 2 (.t 1)))⟩, ⟨(some 4), none, (.op (.load none (.t 3)))⟩, ⟨(some 5), none, (.call (.c (.fn 28 [])) [(.t 4)])⟩, ⟨(some 6), none, (.op (.fld 2 (.t 1)))⟩, ⟨none, none, (.op (.store 1 (.t 6) (.t 5)))⟩]
def copyNote_r2 : List AI := [⟨(some 7), none, (.op (.load (some 3) (.t 1)))⟩, ⟨none, none, (.op (.store 3 (.t 2) (.t 7)))⟩]
def copyNote_c : AC := (.seq (.reg copyNote_r0) (.seq (.reg copyNote_r1) (.seq (.reg copyNote_r2) .ret)))
def copyNote_res : List ARes := [(.cell (some 3) 2)]
set_option maxRecDepth 100000 in
theorem copyNote_get : getF Tryz.prog 36 51000 [] = some ("gavotte/prog.CopyNote", 8, copyNote_c, copyNote_res) := by kernel_rfl
def copyP_r0 : List AI := [⟨(some 1), none, (.op (.box 26001 4 (.t 0)))⟩, ⟨(some 2), none, (.op (.new 26002 4 (.agg [.nils, .nils, .nils, (.int .i64 0)])))⟩]
def copyP_r1 : List AI := [⟨(some 10), none, (.op (.fld 3 (.t 1)))⟩, ⟨(some 11), none, (.op (.load none (.t 10)))⟩, ⟨(some 12), none, (.op (.build [.nils, .nils, .nils, (.int .i64 0)] [(3, (1, (.t 11)))]))⟩, ⟨(some 3), none, (.op (.new 26003 4 (.agg [.nils, .nils, .nils, (.int .i64 0)])))⟩, ⟨none, none, (.op (.store 4 (.t 3) (.t 12)))⟩]
def copyP_r2 : List AI := [⟨(some 13), none, (.op (.fld 0 (.t 1)))⟩, ⟨(some 14), none, (.op (.load none (.t 13)))⟩, ⟨(some 15), none, (.op (.len (.t 14)))⟩, ⟨(some 16), none, (.op (.mv (.c (.int .i64 0))))⟩]
def copyP_r3 : List AI := [⟨(some 17), none, (.op (.ibin .lss (.t 16) (.t 15)))⟩]
def copyP_r4 : List AI := [⟨(some 18), none, (.op (.idx 2 (.t 14) (.t 16)))⟩, ⟨(some 19), none, (.op (.load (some 2) (.t 18)))⟩, ⟨(some 5), none, (.op (.new 26005 2 (.agg [(.int .i64 0), .nils])))⟩, ⟨none, none, (.op (.store 2 (.t 5) (.t 19)))⟩]
def copyP_r5 : List AI := [⟨(some 20), none, (.op (.fld 0 (.t 3)))⟩, ⟨(some 21), none, (.op (.load none (.t 20)))⟩, ⟨(some 22), none, (.op (.fld 0 (.t 5)))⟩, ⟨(some 23), none, (.op (.load none (.t 22)))⟩, ⟨(some 24), none, (.op (.fld 1 (.t 5)))⟩, ⟨(some 25), none, (.op (.load none (.t 24)))⟩, ⟨(some 26), none, (.call (.c (.fn 35 [])) [(.t 25)])⟩, ⟨(some 27), none, (.op (.build [(.int .i64 0), .nils] [(0, (1, (.t 23))), (1, (1, (.t 26)))]))⟩, ⟨(some 28), none, (.op (.bsl 26028 2 52 1 (.agg [(.int .i64 0), .nils]) [(0, (.t 27))]))⟩, ⟨(some 29), none, (.op (.app 26029 2 52 32 (.t 21) (.t 28)))⟩, ⟨(some 30), none, (.op (.fld 0 (.t 3)))⟩, ⟨none, none, (.op (.store 1 (.t 30) (.t 29)))⟩]
def copyP_p5 : List (List Nat) := [[], [0], [], [2], [], [4], [5, 4], [3, 6, 2, 5, 4], [7, 3, 6, 2, 5, 4], [1, 8, 6, 0, 7, 3, 2, 5, 4], [0, 1, 2, 3, 4, 5, 6, 7, 8, 9], [10, 9, 0, 1, 2, 3, 4, 5, 6, 7, 8]]
def copyP_r6 : List AI := [⟨(some 31), none, (.op (.ibin .add (.t 16) (.c (.int .i64 1))))⟩, ⟨(some 16), none, (.op (.mv (.t 31)))⟩]
def copyP_l0 : AC := (.seq (.reg copyP_r3) (.seq (.cond (.t 17) .skip (.exit 0)) (.seq (.block 1 (.seq (.reg copyP_r4) (.regd copyP_r5 copyP_p5))) (.reg copyP_r6))))
def copyP_r7 : List AI := [⟨(some 32), none, (.op (.fld 1 (.t 1)))⟩, ⟨(some 33), none, (.op (.load none (.t 32)))⟩, ⟨(some 34), none, (.op (.len (.t 33)))⟩, ⟨(some 35), none, (.op (.mv (.c (.int .i64 0))))⟩]
def copyP_r8 : List AI := [⟨(some 36), none, (.op (.ibin .lss (.t 35) (.t 34)))⟩]
def copyP_r9 : List AI := [⟨(some 37), none, (.op (.idx 4 (.t 33) (.t 35)))⟩, ⟨(some 38), none, (.op (.load (some 4) (.t 37)))⟩, ⟨(some 7), none, (.op (.new 26007 4 (.agg [.nils, (.int .i64 0), (.int .i64 0), (.bool false)])))⟩, ⟨none, none, (.op (.store 4 (.t 7) (.t 38)))⟩]
def copyP_r10 : List AI := [⟨(some 39), none, (.op (.fld 0 (.t 7)))⟩, ⟨(some 40), none, (.op (.load none (.t 39)))⟩, ⟨(some 41), none, (.call (.c (.fn 28 [])) [(.t 40)])⟩, ⟨(some 42), none, (.op (.fld 0 (.t 7)))⟩, ⟨none, none, (.op (.store 1 (.t 42) (.t 41)))⟩]
def copyP_r11 : List AI := [⟨(some 43), none, (.op (.fld 1 (.t 3)))⟩, ⟨(some 44), none, (.op (.load none (.t 43)))⟩, ⟨(some 45), none, (.op (.load (some 4) (.t 7)))⟩, ⟨(some 46), none, (.op (.bsl 26046 4 54 1 (.agg [.nils, (.int .i64 0), (.int .i64 0), (.bool false)]) [(0, (.t 45))]))⟩, ⟨(some 47), none, (.op (.app 26047 4 54 48 (.t 44) (.t 46)))⟩, ⟨(some 48), none, (.op (.fld 1 (.t 3)))⟩, ⟨none, none, (.op (.store 1 (.t 48) (.t 47)))⟩]
def copyP_r12 : List AI := [⟨(some 49), none, (.op (.ibin .add (.t 35) (.c (.int .i64 1))))⟩, ⟨(some 35), none, (.op (.mv (.t 49)))⟩]
def copyP_l1 : AC := (.seq (.reg copyP_r8) (.seq (.cond (.t 36) .skip (.exit 2)) (.seq (.block 3 (.seq (.reg copyP_r9) (.seq (.reg copyP_r10) (.reg copyP_r11)))) (.reg copyP_r12))))
def copyP_r13 : List AI := [⟨(some 50), none, (.op (.fld 2 (.t 1)))⟩, ⟨(some 51), none, (.op (.load none (.t 50)))⟩, ⟨(some 52), none, (.op (.len (.t 51)))⟩, ⟨(some 53), none, (.op (.mv (.c (.int .i64 0))))⟩]
def copyP_r14 : List AI := [⟨(some 54), none, (.op (.ibin .lss (.t 53) (.t 52)))⟩]
def copyP_r15 : List AI := [⟨(some 55), none, (.op (.idx 3 (.t 51) (.t 53)))⟩, ⟨(some 56), none, (.op (.load (some 3) (.t 55)))⟩, ⟨(some 9), none, (.op (.new 26009 3 (.agg [(.int .i64 0), (.int .i64 0), .nils])))⟩, ⟨none, none, (.op (.store 3 (.t 9) (.t 56)))⟩]
def copyP_r16 : List AI := [⟨(some 57), none, (.op (.fld 2 (.t 3)))⟩, ⟨(some 58), none, (.op (.load none (.t 57)))⟩, ⟨(some 59), none, (.op (.load (some 3) (.t 9)))⟩, ⟨(some 60), none, (.call (.c (.fn 36 [])) [(.t 59)])⟩, ⟨(some 61), none, (.op (.bsl 26061 3 49 1 (.agg [(.int .i64 0), (.int .i64 0), .nils]) [(0, (.t 60))]))⟩, ⟨(some 62), none, (.op (.app 26062 3 49 40 (.t 58) (.t 61)))⟩, ⟨(some 63), none, (.op (.fld 2 (.t 3)))⟩, ⟨none, none, (.op (.store 1 (.t 63) (.t 62)))⟩]
def copyP_p16 : List (List Nat) := [[], [0], [], [2], [3, 2], [1, 4, 3, 0, 2], [0, 1, 2, 3, 4, 5], [6, 5, 0, 1, 2, 3, 4]]
def copyP_r17 : List AI := [⟨(some 64), none, (.op (.ibin .add (.t 53) (.c (.int .i64 1))))⟩, ⟨(some 53), none, (.op (.mv (.t 64)))⟩]
def copyP_l2 : AC := (.seq (.reg copyP_r14) (.seq (.cond (.t 54) .skip (.exit 4)) (.seq (.block 5 (.seq (.reg copyP_r15) (.regd copyP_r16 copyP_p16))) (.reg copyP_r17))))
def copyP_r18 : List AI := [⟨(some 65), none, (.op (.load (some 4) (.t 3)))⟩, ⟨none, none, (.op (.store 4 (.t 2) (.t 65)))⟩]
def copyP_c : AC := (.seq (.reg copyP_r0) (.seq (.reg copyP_r1) (.seq (.seq (.reg copyP_r2) (.block 0 (.loop copyP_l0))) (.seq (.seq (.reg copyP_r7) (.block 2 (.loop copyP_l1))) (.seq (.seq (.reg copyP_r13) (.block 4 (.loop copyP_l2))) (.seq (.reg copyP_r18) .ret))))))
def copyP_res : List ARes := [(.cell (some 4) 2)]
set_option maxRecDepth 100000 in
theorem copyP_get : getF Tryz.prog 24 26000 [] = some ("gavotte/prog.Copy", 66, copyP_c, copyP_res) := by kernel_rfl
attribute [simp] cloneI_r0 cloneI_r1 cloneI_r2 cloneI_r3 cloneI_res cloneC_r0 cloneC_r1 cloneC_r2 cloneC_r3 cloneC_res copyNote_r0 copyNote_r1 copyNote_r2 copyNote_res copyP_r0 copyP_r1 copyP_r2 copyP_r3 copyP_r4 copyP_r5 copyP_p5 copyP_r6 copyP_r7 copyP_r8 copyP_r9 copyP_r10 copyP_r11 copyP_r12 copyP_r13 copyP_r14 copyP_r15 copyP_r16 copyP_p16 copyP_r17 copyP_r18 copyP_res


theorem cloneIns_pc (l : List Ins) (h : l.length ≤ 1000) : PC Tryz.prog 35 [.lst 2 (l.map Ins.av)] (.lst 2 (l.map Ins.av)) := by
  refine pc_of_get cloneC_get (by simp) _ (by simp) _ ?_
  unfold cloneC_c
  cases l with
  | nil =>
    simp
    refine opG_none _ _ ?_ ?_ <;> simp
  | cons x l =>
    simp at h
    simp [ints]
    rw [if_pos (by omega)]
    simp
theorem cloneInts_pc (l : List Int) (h : l.length ≤ 1000) : PC Tryz.prog 28 [ints l] (ints l) := by
  refine pc_of_get cloneI_get (by simp) _ (by simp) _ ?_
  unfold cloneI_c
  cases l with
  | nil =>
    simp
    refine opG_none _ _ ?_ ?_ <;> simp
  | cons x l =>
    simp at h
    simp [ints]
    rw [if_pos (by omega)]
    simp
theorem copyNote_pc (n : Nt) (h : n.args.length ≤ 1000) : PC Tryz.prog 36 [n.av] n.av := by
  refine pc_of_get copyNote_get (by simp) _ (by simp) _ ?_
  unfold copyNote_c
  simp
  refine call (cloneInts_pc n.args h) (by simp) ?_
  simp
def fitP (p : Prg) : Prop := p.hs.length ≤ 1000 ∧ p.as.length ≤ 1000 ∧ p.boot.length ≤ 1000 ∧ (∀ h ∈ p.hs, h.code.length ≤ 1000) ∧ (∀ a ∈ p.as, a.regs.length ≤ 1000) ∧ (∀ n ∈ p.boot, n.args.length ≤ 1000)
def AccIs (S : St) (v : AV) (nm sz : Nat) (ty : TypeId) (xs : List AV) : Prop := (v = .nils ∧ xs = []) ∨ ∃ st, v = .acc nm st sz xs ∧ S.tok nm = some ⟨st, sz, ty⟩
theorem take_succ_map {α : Type} (f : α → AV) (l : List α) (i : Nat) (h : i < l.length) : (l.map f).take (i + 1) = (l.map f).take i ++ [f l[i]] := by
  rw [List.take_succ_eq_append_getElem (by simpa using h), List.getElem_map]
theorem AccIs.out {S : St} {v : AV} {nm sz : Nat} {ty : TypeId} {xs : List AV} (h : AccIs S v nm sz ty xs) : v.one = true ∧ v.cells = [v] ∧ ∀ B, co1 B v (.lst sz xs) := by
  rcases h with ⟨rfl, rfl⟩ | ⟨st, rfl, _⟩ <;> simp
theorem copy_pc (p : Prg) (hp : fitP p) : PC Tryz.prog 24 [p.av] p.av := by
  obtain ⟨q1, q2, q3, q4, q5, q6⟩ := hp
  refine pc_of_get copyP_get (by simp) _ (by simp) _ ?_
  unfold copyP_c
  simp
  refine loopN (fun i S => S.t 14 = .lst 2 (p.hs.map Hnd.av) ∧ S.t 15 = iv p.hs.length ∧ S.t 16 = iv i ∧ (∃ st, S.t 1 = .ptr 26001 st 4 0 0 ∧ S.blk 26001 = some ⟨st, 4, [p.av]⟩) ∧
    (∃ st, S.t 2 = .ptr 26002 st 4 0 0 ∧ S.blk 26002 = some ⟨st, 4, [.agg [.nils, .nils, .nils, iv 0]]⟩) ∧
    (∃ st v, S.t 3 = .ptr 26003 st 4 0 0 ∧ S.blk 26003 = some ⟨st, 4, [.agg [v, .nils, .nils, iv p.fuel]]⟩ ∧ AccIs S v 26029 2 52 ((p.hs.map Hnd.av).take i))) p.hs.length ?_ ?_
  · simp [AccIs]
  · rintro i S hi ⟨g1, g2, g3, ⟨s1, g4, g5⟩, ⟨s2, g6, g7⟩, ⟨s3, v, g8, g9, hv⟩⟩
    by_cases hlt : i < p.hs.length
    · simp [copyP_l0, g1, g2, g3, g4, g5, g6, g7, g8, g9, hlt]
      have ws := wrap_succ i _ hlt (by omega)
      have hb : (min i p.hs.length + 1) * 32 ≤ 140737488355328 := by omega
      have ht := take_succ_map Hnd.av p.hs i hlt
      rcases hv with ⟨rfl, hx⟩ | ⟨s4, rfl, hx⟩
      · refine calld (cloneIns_pc p.hs[i].code (q4 _ (List.getElem_mem hlt))) (by simp) ?_
        simp [g1, g2, g3, g4, g5, g6, g7, g8, g9, hlt, ws]
        simp [AccIs, ht, hx]
      · refine calld (cloneIns_pc p.hs[i].code (q4 _ (List.getElem_mem hlt))) (by simp) ?_
        simp [g1, g2, g3, g4, g5, g6, g7, g8, g9, hx, hlt, ws, hb]
        simp [AccIs, ht, hx]
    · have e1 : i = p.hs.length := by omega
      subst e1
      simp [copyP_l0, g1, g2, g3, g4, g5, g6, g7, g8, g9]
      rw [List.take_of_length_le (by simp)] at hv
      obtain ⟨o1, o2, o3⟩ := hv.out
      clear hv
      refine loopN (fun i S => S.t 33 = .lst 4 (p.as.map Actr.av) ∧ S.t 34 = iv p.as.length ∧ S.t 35 = iv i ∧ (∃ st, S.t 1 = .ptr 26001 st 4 0 0 ∧ S.blk 26001 = some ⟨st, 4, [p.av]⟩) ∧
        (∃ st, S.t 2 = .ptr 26002 st 4 0 0 ∧ S.blk 26002 = some ⟨st, 4, [.agg [.nils, .nils, .nils, iv 0]]⟩) ∧
        (∃ st v', S.t 3 = .ptr 26003 st 4 0 0 ∧ S.blk 26003 = some ⟨st, 4, [.agg [v, v', .nils, iv p.fuel]]⟩ ∧ AccIs S v' 26047 4 54 ((p.as.map Actr.av).take i))) p.as.length ?_ ?_
      · simp [AccIs, g4, g5, g6, g7, g8, g9]
      · clear g1 g2 g3 g4 g5 g6 g7 g8 g9 hi hlt S s1 s2 s3
        rintro i S hi ⟨g1, g2, g3, ⟨s1, g4, g5⟩, ⟨s2, g6, g7⟩, ⟨s3, v', g8, g9, hv⟩⟩
        by_cases hlt : i < p.as.length
        · simp [copyP_l1, g1, g2, g3, g4, g5, g6, g7, g8, g9, hlt]
          have ws := wrap_succ i _ hlt (by omega)
          have hb : (min i p.as.length + 1) * 48 ≤ 140737488355328 := by omega
          have ht := take_succ_map Actr.av p.as i hlt
          refine call (cloneInts_pc p.as[i].regs (q5 _ (List.getElem_mem hlt))) (by simp) ?_
          rcases hv with ⟨rfl, hx⟩ | ⟨s4, rfl, hx⟩
          · simp [g1, g2, g3, g4, g5, g6, g7, g8, g9, hlt, ws, o1, o2]
            simp [AccIs, ht, hx]
          · simp [g1, g2, g3, g4, g5, g6, g7, g8, g9, hx, hlt, ws, hb, o1, o2]
            simp [AccIs, ht, hx]
        · have e1 : i = p.as.length := by omega
          subst e1
          simp [copyP_l1, g1, g2, g3, g4, g5, g6, g7, g8, g9]
          rw [List.take_of_length_le (by simp)] at hv
          obtain ⟨r1, r2, r3⟩ := hv.out
          clear hv
          refine loopN (fun i S => S.t 51 = .lst 3 (p.boot.map Nt.av) ∧ S.t 52 = iv p.boot.length ∧ S.t 53 = iv i ∧
            (∃ st, S.t 2 = .ptr 26002 st 4 0 0 ∧ S.blk 26002 = some ⟨st, 4, [.agg [.nils, .nils, .nils, iv 0]]⟩) ∧
            (∃ st v'', S.t 3 = .ptr 26003 st 4 0 0 ∧ S.blk 26003 = some ⟨st, 4, [.agg [v, v', v'', iv p.fuel]]⟩ ∧ AccIs S v'' 26062 3 49 ((p.boot.map Nt.av).take i))) p.boot.length ?_ ?_
          · simp [AccIs, g4, g5, g6, g7, g8, g9]
          · clear g1 g2 g3 g4 g5 g6 g7 g8 g9 hi hlt S s1 s2 s3
            rintro i S hi ⟨g1, g2, g3, ⟨s2, g6, g7⟩, ⟨s3, v'', g8, g9, hv⟩⟩
            by_cases hlt : i < p.boot.length
            · simp [copyP_l2, g1, g2, g3, g6, g7, g8, g9, hlt]
              have ws := wrap_succ i _ hlt (by omega)
              have hb : (min i p.boot.length + 1) * 40 ≤ 140737488355328 := by omega
              have ht := take_succ_map Nt.av p.boot i hlt
              rcases hv with ⟨rfl, hx⟩ | ⟨s4, rfl, hx⟩
              · refine calld (copyNote_pc p.boot[i] (q6 _ (List.getElem_mem hlt))) (by simp) ?_
                simp [g1, g2, g3, g6, g7, g8, g9, hlt, ws, o1, o2, r1, r2]
                simp [AccIs, ht, hx]
              · refine calld (copyNote_pc p.boot[i] (q6 _ (List.getElem_mem hlt))) (by simp) ?_
                simp [g1, g2, g3, g6, g7, g8, g9, hx, hlt, ws, hb, o1, o2, r1, r2]
                simp [AccIs, ht, hx]
            · have e1 : i = p.boot.length := by omega
              subst e1
              rw [List.take_of_length_le (by simp)] at hv
              obtain ⟨t1, t2, t3⟩ := hv.out
              simp [copyP_l2, g1, g2, g3, g6, g7, g8, g9, o1, o2, o3, r1, r2, r3, t1, t2, t3]


end Go.Gv
