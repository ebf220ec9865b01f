/- Regions that draw their order: one walk in the text's order serves every order, if operations that touch one thing are ordered. No condition beyond those that each law names. -/
import Derived.Test.YthhgjncefjnogaaGv12
set_option linter.unusedVariables false
set_option linter.unusedSimpArgs false
namespace Go.Gv
open Go.RowKit

/-! ### Pure calls -/

def envK (K : Nat → Nat → Option Value) : Env := ⟨K, fun _ => (0, 0), fun _ => .nilFunc, fun _ => 0, fun _ => False⟩
def over (K : Nat → Nat → Option Value) (w w' : World) : Nat → Nat → Option Value := fun b o => if b < w.heap.size then K b o else w'.cell? ⟨b, o, none⟩

/-- A call that writes nothing that was there, in whatever state. -/
def PCallP (P : Program) (fv : AV) (vals : List AV) (r : AV) : Prop :=
  ∃ f caps, fv = .fn f caps ∧ enters P f ∧ ∀ (E : Env) (w : World) (args : Array Value), (∀ b o v, E.K b o = some v → w.cell? ⟨b, o, none⟩ = some v) →
    args.size = (vals ++ caps).length → (∀ (j : Nat) (y : AV) (u : Value), (vals ++ caps)[j]? = some y → args[j]? = some u → Rel E y u) →
    Calls P f args w fun e w' => ∃ v, e = .returned v ∧ Below w.heap.size w w' ∧ Rel (envK (over E.K w w')) r v

theorem Rel.of_envK {K : Nat → Nat → Option Value} {x : AV} {v : Value} (h : Rel (envK K) x v) {E : Env} (hK : ∀ b o u, K b o = some u → E.K b o = some u) : Rel E x v :=
  Rel.mono (E := envK K) (E' := E) ⟨hK, fun _ (q : False) => q.elim, fun _ (q : False) => q.elim, fun _ (q : False) => q.elim, fun _ (q : False) => q.elim⟩ h

theorem CallP_of_PCallP {P : Program} {fv : AV} {vals : List AV} {r : AV} (h : PCallP P fv vals r) {S : St} {k : AV → St → Prop} (hk : k r S) : CallP P fv vals S k := by
  obtain ⟨f, caps, hfv, hent, hc⟩ := h
  refine ⟨f, caps, hfv, hent, fun E B W w args H hW hB hu hsz hrel => ?_⟩
  refine (hc E w args H.K hsz hrel).mono ?_
  rintro e w' ⟨v, rfl, hbel, hr⟩
  have hle : B ≤ w.heap.size := Nat.le_trans hB hW.size
  let E' : Env := E.withK (over E.K w w')
  have hE : E.le E' := Env.le_withK (fun b o u hu' => by
    have := World.block_lt_of_cell? w _ (H.K b o u hu')
    unfold over; rw [if_pos this]; exact hu')
  have H1 := H.grow (w' := w') (fun k hk => hbel.block k hk)
  refine ⟨v, E', r, S, rfl, hE, ?_, hW.trans (hbel.mono hle), fun b o hb => ?_, fun s hs => ⟨.inl hs, hu s hs⟩, Nat.le_refl _, rfl, hr.of_envK (fun b o u q => q), hk⟩
  · refine H1.env hE ?_ ?_ ?_
    · intro b o u hu'
      simp only [E', Env.withK, over] at hu'
      split at hu'
      · exact H1.K b o u hu'
      · exact hu'
    · intro nm b hb j
      show over E.K w w' (E.m b.st).1 j = none
      unfold over
      rw [if_pos (H.bk nm b hb).lt]
      exact (H.bk nm b hb).noK j
    · intro nm t g ht hg j
      show over E.K w w' g j = E.K g j
      unfold over
      rw [if_pos ((H.tk nm t ht).lt hg).2]
  · show over E.K w w' b o = E.K b o
    unfold over
    rw [if_pos (by omega)]

/-! ### What an operation reads and writes -/

def aopXs : AOp → List X
  | .mv x => [x]
  | .pick c a b => [c, a, b]
  | .new _ _ _ => []
  | .box _ _ x => [x]
  | .build _ ps => ps.map fun p => p.2.2
  | .bsl _ _ _ _ _ ps => ps.map fun p => p.2
  | .load _ x => [x]
  | .store _ a x => [a, x]
  | .ibin _ x y => [x, y]
  | .eqv _ x y => [x, y]
  | .eqs _ _ x y => [x, y]
  | .not x => [x]
  | .neg x => [x]
  | .len x => [x]
  | .slen x => [x]
  | .app _ _ _ _ s x => [s, x]
  | .appw _ _ _ _ s x => [s, x]
  | .slice _ x lo hi => [x] ++ lo.toList ++ hi.toList
  | .fld _ x => [x]
  | .getf _ _ x => [x]
  | .idx _ x i => [x, i]
  | .ext x _ => [x]
  | .conv _ x => [x]
  | .mkf _ l => l
  | .msl _ _ _ _ l => [l]
  | .mm _ x l => x :: l
  | .bslm _ _ _ _ _ ps => ps.map fun p => p.2
  | .cpy _ x y => [x, y]
  | .shift _ x y => [x, y]
  | .nilq _ _ x => [x]
  | .nilck x => [x]
  | .bad => []

def AK.xs : AK → List X
  | .op o => aopXs o
  | .call f l => f :: l
  | .nq _ _ x => [x]

/-- Slots that an operation reads. -/
def AI.slots (i : AI) : List Nat := (i.k.xs.filterMap fun x => match x with | .t n => some n | .c _ => none) ++ (match i.g with | some p => [p.1] | none => [])

structure Fp where
  rb : List Nat
  wb : List Nat
  rt : List Nat
  wt : List Nat

def fpOf (t : Nat → AV) (i : AI) (e : Eff) : Fp :=
  ⟨i.k.xs.flatMap fun x => rdV (x.ev t), e.wb.map (·.1), i.k.xs.flatMap fun x => tkV (x.ev t), e.wt.map (·.1)⟩

def disj (a b : List Nat) : Bool := a.all fun x => !b.contains x
def Fp.apart (p q : Fp) : Bool := disj p.wb q.rb && disj p.wb q.wb && disj p.rb q.wb && disj p.wt q.rt && disj p.wt q.wt && disj p.rt q.wt

theorem ev_congr {t t' : Nat → AV} {x : X} (h : ∀ n, x = .t n → t n = t' n) : x.ev t = x.ev t' := by
  cases x with
  | t n => exact h n rfl
  | c v => rfl

theorem getB_congr {blk blk' : Nat → Option Blk} {nm st sz : Nat} (h : blk nm = blk' nm) : getB blk nm st sz = getB blk' nm st sz := by simp only [getB, h]
theorem cellsAt_congr {blk blk' : Nat → Option Blk} {v : AV} (h : ∀ n ∈ rdV v, blk n = blk' n) : cellsAt blk v = cellsAt blk' v := by
  cases v <;> first | rfl | (simp only [cellsAt]; rw [getB_congr (h _ (by simp [rdV]))])
theorem listOf_congr {blk blk' : Nat → Option Blk} {sz : Nat} {v : AV} (h : ∀ n ∈ rdV v, blk n = blk' n) : listOf blk sz v = listOf blk' sz v := by
  cases v <;> first | rfl | (simp only [listOf]; rw [getB_congr (h _ (by simp [rdV]))])
theorem listM_congr {blk blk' : Nat → Option Blk} {sz : Nat} {v : AV} (h : ∀ n ∈ rdV v, blk n = blk' n) : listM blk sz v = listM blk' sz v := by
  cases v <;> first | rfl | (simp only [listM]; rw [getB_congr (h _ (by simp [rdV]))])
theorem appwBase_congr {blk blk' : Nat → Option Blk} {sz : Nat} {v : AV} (h : ∀ n ∈ rdV v, blk n = blk' n) : appwBase blk sz v = appwBase blk' sz v := by
  cases v <;> first | rfl | (simp only [appwBase]; rw [getB_congr (h _ (by simp [rdV]))])
theorem appBase_congr {tok tok' : Nat → Option Tok} {sz : Nat} {ty : TypeId} {v : AV} (h : ∀ n ∈ tkV v, tok n = tok' n) : appBase tok sz ty v = appBase tok' sz ty v := by
  cases v <;> first | rfl | (simp only [appBase]; rw [h _ (by simp [tkV])])

theorem map_ev_congr {t t' : Nat → AV} (l : List X) (h : ∀ x ∈ l, x.ev t = x.ev t') : (l.map fun x => x.ev t) = l.map fun x => x.ev t' := List.map_congr_left h

theorem ex_congr {t t' : Nat → AV} {blk blk' : Nat → Option Blk} {tok tok' : Nat → Option Tok} (st : Nat) (o : AOp) (h : ∀ x ∈ aopXs o, x.ev t = x.ev t')
    (hb : ∀ x ∈ aopXs o, ∀ n ∈ rdV (x.ev t), blk n = blk' n) (ht : ∀ x ∈ aopXs o, ∀ n ∈ tkV (x.ev t), tok n = tok' n) : ex t blk tok st o = ex t' blk' tok' st o := by
  cases o with
  | load g x =>
    have e := h x (by simp [aopXs])
    have c := cellsAt_congr (hb x (by simp [aopXs]))
    cases g <;> simp only [ex, ldOne, ldAgg, ← e, c]
  | store n a x =>
    have e1 := h a (by simp [aopXs])
    have e2 := h x (by simp [aopXs])
    have c := hb a (by simp [aopXs])
    simp only [ex, ← e1, ← e2]
    generalize a.ev t = v at c
    cases v <;> first | rfl | (simp only []; rw [getB_congr (c _ (by simp [rdV]))])
  | app nm sz ty byt s x =>
    have e1 := h s (by simp [aopXs])
    have e2 := h x (by simp [aopXs])
    simp only [ex, ← e1, ← e2, listOf_congr (hb x (by simp [aopXs])), appBase_congr (ht s (by simp [aopXs]))]
  | build zero ps =>
    have e : ∀ p ∈ ps, p.2.2.ev t = p.2.2.ev t' := fun p hp => h _ (by simp only [aopXs, List.mem_map]; exact ⟨p, hp, rfl⟩)
    have e1 : (ps.map fun p => (p.1, (p.2.2.ev t).cells)) = ps.map fun p => (p.1, (p.2.2.ev t').cells) := List.map_congr_left fun p hp => by rw [e p hp]
    have e2 : (ps.all fun p => (p.2.2.ev t).cells.length == p.2.1) = ps.all fun p => (p.2.2.ev t').cells.length == p.2.1 := by
      apply Bool.eq_iff_iff.2
      simp only [List.all_eq_true]
      exact ⟨fun q p hp => by rw [← e p hp]; exact q p hp, fun q p hp => by rw [e p hp]; exact q p hp⟩
    simp only [ex, e1, e2]
  | bsl nm sz ty len z ps =>
    have e : ∀ p ∈ ps, p.2.ev t = p.2.ev t' := fun p hp => h _ (by simp only [aopXs, List.mem_map]; exact ⟨p, hp, rfl⟩)
    have e1 : ∀ s : List AV, ps.foldl (fun es p => es.set p.1 (normE (p.2.ev t))) s = ps.foldl (fun es p => es.set p.1 (normE (p.2.ev t'))) s := by
      have : ∀ (l : List (Nat × X)), (∀ p ∈ l, p.2.ev t = p.2.ev t') → ∀ s : List AV, l.foldl (fun es p => es.set p.1 (normE (p.2.ev t))) s = l.foldl (fun es p => es.set p.1 (normE (p.2.ev t'))) s := by
        intro l
        induction l with
        | nil => intro _ s; rfl
        | cons p l ih => intro hl s; rw [List.foldl_cons, List.foldl_cons, hl p (by simp), ih (fun q hq => hl q (by simp [hq]))]
      exact this ps e
    have e2 : (ps.all fun p => ((normE (p.2.ev t)).cells.length == sz) && (normE (p.2.ev t)).cells.all AV.cl1 && decide (p.1 < len)) = ps.all fun p => ((normE (p.2.ev t')).cells.length == sz) && (normE (p.2.ev t')).cells.all AV.cl1 && decide (p.1 < len) := by
      apply Bool.eq_iff_iff.2
      simp only [List.all_eq_true]
      exact ⟨fun q p hp => by rw [← e p hp]; exact q p hp, fun q p hp => by rw [e p hp]; exact q p hp⟩
    simp only [ex, e1, e2]
  | slice sz x lo hi =>
    have e1 := h x (by simp [aopXs])
    have o1 : optNat t lo = optNat t' lo := by
      cases lo with
      | none => rfl
      | some y => simp only [optNat, h y (by simp [aopXs])]
    have o2 : optNat t hi = optNat t' hi := by
      cases hi with
      | none => rfl
      | some y => simp only [optNat, h y (by simp [aopXs])]
    simp only [ex, ← e1, o1, o2]
  | getf g off x =>
    have e := h x (by simp [aopXs])
    cases g <;> simp only [ex, ← e]
  | idx sz x i =>
    have e1 := h x (by simp [aopXs])
    have e2 := h i (by simp [aopXs])
    simp only [ex, ← e1, ← e2]
    have : ∀ (j : Nat) (v : AV), idxA blk sz v j = idxA blk' sz v j := fun j v => by cases v <;> rfl
    simp only [this]
  | mkf g l => simp only [ex, map_ev_congr l (fun x hx => h x (by simpa [aopXs] using hx))]
  | mm mx x l =>
    simp only [ex, ← h x (by simp [aopXs]), ← map_ev_congr l (fun y hy => h y (by simp [aopXs, hy]))]
  | pick c a b => simp only [ex, ← h c (by simp [aopXs]), ← h a (by simp [aopXs]), ← h b (by simp [aopXs])]
  | new nm sz z => rfl
  | ibin op x y => simp only [ex, ← h x (by simp [aopXs]), ← h y (by simp [aopXs])]
  | eqv n x y => simp only [ex, ← h x (by simp [aopXs]), ← h y (by simp [aopXs])]
  | eqs k n x y => simp only [ex, ← h x (by simp [aopXs]), ← h y (by simp [aopXs])]
  | appw nm sz ty byt s x =>
    have e1 := h s (by simp [aopXs])
    have e2 := h x (by simp [aopXs])
    simp only [ex, ← e1, ← e2, listM_congr (hb x (by simp [aopXs])), appwBase_congr (hb s (by simp [aopXs]))]
  | cpy sz x y =>
    have e1 := h x (by simp [aopXs])
    have e2 := h y (by simp [aopXs])
    have c := hb x (by simp [aopXs])
    simp only [ex, ← e1, ← e2, listM_congr (hb y (by simp [aopXs]))]
    generalize x.ev t = v at c
    cases v <;> first | rfl | (simp only []; rw [getB_congr (c _ (by simp [rdV]))])
  | shift l x y => simp only [ex, ← h x (by simp [aopXs]), ← h y (by simp [aopXs])]
  | nilq kd neg x => simp only [ex, ← h x (by simp [aopXs])]
  | nilck x => simp only [ex, ← h x (by simp [aopXs])]
  | bad => rfl
  | mv x => simp only [ex, ← h x (by simp [aopXs])]
  | box nm sz x => simp only [ex, ← h x (by simp [aopXs])]
  | not x => simp only [ex, ← h x (by simp [aopXs])]
  | neg x => simp only [ex, ← h x (by simp [aopXs])]
  | len x => simp only [ex, ← h x (by simp [aopXs])]
  | slen x => simp only [ex, ← h x (by simp [aopXs])]
  | fld off x => simp only [ex, ← h x (by simp [aopXs])]
  | ext x i => simp only [ex, ← h x (by simp [aopXs])]
  | conv k x => simp only [ex, ← h x (by simp [aopXs])]
  | msl nm sz byt z l => simp only [ex, ← h l (by simp [aopXs])]
  | bslm nm sz ty len z ps =>
    have e : ∀ p ∈ ps, p.2.ev t = p.2.ev t' := fun p hp => h _ (by simp only [aopXs, List.mem_map]; exact ⟨p, hp, rfl⟩)
    have e1 : ∀ s : List AV, ps.foldl (fun es p => es.set p.1 (p.2.ev t)) s = ps.foldl (fun es p => es.set p.1 (p.2.ev t')) s := by
      have : ∀ (l : List (Nat × X)), (∀ p ∈ l, p.2.ev t = p.2.ev t') → ∀ s : List AV, l.foldl (fun es p => es.set p.1 (p.2.ev t)) s = l.foldl (fun es p => es.set p.1 (p.2.ev t')) s := by
        intro l
        induction l with
        | nil => intro _ s; rfl
        | cons p l ih => intro hl s; rw [List.foldl_cons, List.foldl_cons, hl p (by simp), ih (fun q hq => hl q (by simp [hq]))]
      exact this ps e
    have e2 : (ps.all fun p => ((p.2.ev t).cells.length == sz) && (p.2.ev t).cells.all AV.one && decide (p.1 < len)) = ps.all fun p => ((p.2.ev t').cells.length == sz) && (p.2.ev t').cells.all AV.one && decide (p.1 < len) := by
      apply Bool.eq_iff_iff.2
      simp only [List.all_eq_true]
      exact ⟨fun q p hp => by rw [← e p hp]; exact q p hp, fun q p hp => by rw [e p hp]; exact q p hp⟩
    simp only [ex, e1, e2]

/-- What an operation comes to in a state. -/
def Out (P : Program) (S : St) (st : Nat) (i : AI) (e : Eff) : Prop :=
  match guardV S.t i.g with
  | some b => if b = true then (match i.k with
      | .op o => ex S.t S.blk S.tok st o = some e
      | .nq kd neg x => ex S.t S.blk S.tok st (.nilq kd neg x) = some e
      | .call f l => ∃ r, PCallP P (f.ev S.t) (l.map fun x => x.ev S.t) r ∧ e = { v := r }) else e = { v := .tup [] }
  | none => False

theorem Out.congr {P : Program} {S T : St} {st : Nat} {i : AI} {e : Eff} (h : Out P S st i e) (ht : ∀ n ∈ i.slots, S.t n = T.t n) (hb : ∀ n ∈ (fpOf S.t i e).rb, S.blk n = T.blk n) (hk : ∀ n ∈ (fpOf S.t i e).rt, S.tok n = T.tok n) : Out P T st i e := by
  have hx : ∀ x ∈ i.k.xs, x.ev S.t = x.ev T.t := fun x hx => ev_congr fun n hn => ht n (by
    simp only [AI.slots, List.mem_append, List.mem_filterMap]
    exact .inl ⟨x, hx, by rw [hn]⟩)
  have hg : guardV S.t i.g = guardV T.t i.g := by
    cases hgi : i.g with
    | none => rfl
    | some p => simp only [guardV, ht p.1 (by simp [AI.slots, hgi])]
  unfold Out at h ⊢
  rw [← hg]
  split at h
  · rename_i b hb'
    split at h
    · rename_i hbt
      rw [if_pos hbt]
      cases hik : i.k with
      | op o =>
        rw [hik] at h
        simp only at h ⊢
        rw [← ex_congr st o (fun x q => hx x (by rw [hik]; exact q)) (fun x q n hn => hb n (by simp only [fpOf, hik, AK.xs, List.mem_flatMap]; exact ⟨x, q, hn⟩)) (fun x q n hn => hk n (by simp only [fpOf, hik, AK.xs, List.mem_flatMap]; exact ⟨x, q, hn⟩))]
        exact h
      | nq kd neg x =>
        rw [hik] at h
        simp only at h ⊢
        rw [← ex_congr st (.nilq kd neg x) (fun y q => hx y (by rw [hik]; exact q)) (fun y q n hn => hb n (by simp only [fpOf, hik, AK.xs, List.mem_flatMap]; exact ⟨y, q, hn⟩)) (fun y q n hn => hk n (by simp only [fpOf, hik, AK.xs, List.mem_flatMap]; exact ⟨y, q, hn⟩))]
        exact h
      | call f l =>
        rw [hik] at h
        simp only at h ⊢
        rw [← hx f (by simp [hik, AK.xs]), ← map_ev_congr l (fun x q => hx x (by simp [hik, AK.xs, q]))]
        exact h
    · rename_i hbt; rw [if_neg hbt]; exact h
  · exact h.elim

end Go.Gv
