/- Texts of this proof, one behind the other. What is proved, and on which conditions, stands ahead of each. -/
import Derived.Test.YtpaeffcpdpblcaaM36d5553

/- Abstract code, what must hold ahead of it, and that this carries over to the model's code: regions in one order. No condition beyond those that each law names. -/
set_option linter.unusedVariables false
set_option linter.unusedSimpArgs false
namespace Go.Gv
open Go.RowKit

def nameOf (hint : List (Nat × Nat)) : Option Nat → Nat
  | none => 0
  | some d => (hint.lookup d).getD d

def cGuard (n : Nat) (ops : Array Oper) : Option (Nat × Bool) → Option (Option (Nat × Bool))
  | none => some none
  | some (j, b) => match (ops[j]?).bind (·.dst) with
    | some d => if d < n then some (some (d, b)) else none
    | none => none

def cDst (n : Nat) : Option Nat → Bool
  | none => true
  | some d => decide (d < n)

/-- A call by a function value. -/
def calleeOf : Op → Option (Operand × List Operand)
  | .call c => match c.callee with
    | .value f => some (f, c.args.toList)
    | _ => none
  | _ => none

def cK (P : Program) (n nm : Nat) (op : Op) : Option AK :=
  match calleeOf op with
  | some p => (cX n p.1).bind fun f => (cXs n p.2).map fun l => .call f l
  | none => match nilCmp P n op with
    | some q => some (.nq q.1 q.2.1 q.2.2)
    | none => some (.op ((cOp P n nm op).getD .bad))

def cI (P : Program) (n base : Nat) (hint : List (Nat × Nat)) (ops : Array Oper) (o : Oper) : Option AI :=
  if cDst n o.dst = true then (cGuard n ops o.guard).bind fun g => (cK P n (base + nameOf hint o.dst) o.op).map fun op => ⟨o.dst, g, op⟩ else none

def cIs (P : Program) (n base : Nat) (hint : List (Nat × Nat)) (ops : Array Oper) : List Oper → Option (List AI)
  | [] => some []
  | o :: l => (cI P n base hint ops o).bind fun i => (cIs P n base hint ops l).map fun l => i :: l

def St.put (S : St) (d : Option Nat) (v : AV) : St :=
  match d with
  | some d => { S with t := upd S.t d v }
  | none => S
def St.app (S : St) (d : Option Nat) (e : Eff) : St := { t := (S.put d e.v).t, blk := appB S.blk e.wb, tok := appT S.tok e.wt, clk := S.clk }

def guardV (t : Nat → AV) : Option (Nat × Bool) → Option Bool
  | none => some true
  | some (i, b) => match t i with
    | .bool x => some (x == b)
    | .tup _ => some false
    | _ => none

def enters (P : Program) (f : FuncId) : Prop := ∃ fn, P.funcs[f]? = some fn ∧ fn.body.isSome = true ∧ fn.name ≠ "runtime.NumGoroutine"

/-- A call comes back with a value and a state of which k holds. -/
def CallP (P : Program) (fv : AV) (vals : List AV) (S : St) (k : AV → St → Prop) : Prop :=
  ∃ f caps, fv = .fn f caps ∧ enters P f ∧ ∀ (E : Env) (B : Nat) (W w : World) (args : Array Value), HConc E B S.h w → Below B W w → B ≤ W.heap.size → (∀ s, E.u s → s < S.clk) →
    args.size = (vals ++ caps).length → (∀ (j : Nat) (y : AV) (u : Value), (vals ++ caps)[j]? = some y → args[j]? = some u → Rel E y u) →
    Calls P f args w fun e w' => ∃ v E' r S', e = .returned v ∧ E.le E' ∧ HConc E' B S'.h w' ∧ Below B W w' ∧ (∀ b o, b < B → E'.K b o = E.K b o) ∧
      (∀ s, E'.u s → (E.u s ∨ S.clk ≤ s) ∧ s < S'.clk) ∧ S.clk ≤ S'.clk ∧ S'.t = S.t ∧ Rel E' r v ∧ k r S'

def runV (P : Program) (st : Nat) (ai : AI) (S : St) (k : St → Prop) : Prop :=
  match ai.k with
  | .call f args => CallP P (f.ev S.t) (args.map fun x => x.ev S.t) S fun r S' => k (S'.put ai.dst r)
  | .op op => match ex S.t S.blk S.tok st op with
    | some e => k (S.app ai.dst e)
    | none => False
  | .nq kd neg x => match ex S.t S.blk S.tok st (.nilq kd neg x) with
    | some e => k (S.app ai.dst e)
    | none => undB S.t (.nilq kd neg x) = true ∧ ∀ b : Bool, k (S.app ai.dst { v := .bool b })

def stepV (P : Program) (st : Nat) (ai : AI) (S : St) (k : St → Prop) : Prop :=
  match guardV S.t ai.g with
  | some b => if b = true then runV P st ai S k else k (S.put ai.dst (.tup []))
  | none => False

def regV (P : Program) : Nat → List AI → (St → Prop) → St → Prop
  | _, [], k, S => k S
  | st, i :: l, k, S => stepV P st i S fun S' => regV P (st + 1) l k S'

/-- What is known at the start: cells, the environment, the clock. -/
structure Gh where
  K : Nat → Nat → Option Value
  E0 : Env
  c0 : Nat

structure Conc (K0 : Gh) (E : Env) (B : Nat) (W : World) (n : Nat) (S : St) (a : Act) (w : World) : Prop where
  H : HConc E B S.h w
  bel : Below B W w
  le : B ≤ W.heap.size
  df : a.defers = []
  sz : a.tmps.size = n
  tm : ∀ t, t < n → Rel E (S.t t) (a.tmps.getD t undef)
  kb : ∀ b o, b < B → E.K b o = K0.K b o
  le0 : K0.E0.le E
  u0 : ∀ s, E.u s → K0.E0.u s ∨ K0.c0 ≤ s
  ck : K0.c0 ≤ S.clk

/-- Less is known, or told in another way; nothing is done. -/
def Wk (S S' : St) : Prop :=
  S.clk ≤ S'.clk ∧ ∀ (E : Env) (B : Nat) (w : World), HConc E B S.h w → (∀ s, E.u s → s < S.clk) →
    ∃ E', E.le E' ∧ HConc E' B S'.h w ∧ (∀ b o, b < B → E'.K b o = E.K b o) ∧ (∀ s, E'.u s → E.u s) ∧ ∀ (t : Nat) (v : Value), Rel E (S.t t) v → Rel E' (S'.t t) v
theorem Wk.refl (S : St) : Wk S S := ⟨Nat.le_refl _, fun E B w H hu => ⟨E, .refl E, H, fun _ _ _ => rfl, fun _ h => h, fun _ _ h => h⟩⟩
theorem Wk.trans {S S' S'' : St} (h : Wk S S') (k : Wk S' S'') : Wk S S'' := by
  refine ⟨Nat.le_trans h.1 k.1, fun E B w H hu => ?_⟩
  obtain ⟨E', a1, a2, a3, a4, a5⟩ := h.2 E B w H hu
  obtain ⟨E'', b1, b2, b3, b4, b5⟩ := k.2 E' B w a2 (fun s hs => Nat.lt_of_lt_of_le (hu s (a4 s hs)) h.1)
  exact ⟨E'', a1.trans b1, b2, fun b o hb => (b3 b o hb).trans (a3 b o hb), fun s hs => a4 s (b4 s hs), fun t v hv => b5 t v (a5 t v hv)⟩

section
variable {P : Program} {K0 : Gh} {E : Env} {B : Nat} {W : World} {n : Nat} {S : St} {a : Act} {w : World}

theorem Conc.wk {S' : St} (C : Conc K0 E B W n S a w) (hu : ∀ s, E.u s → s < S.clk) (h : Wk S S') : ∃ E', Conc K0 E' B W n S' a w ∧ ∀ s, E'.u s → s < S'.clk := by
  obtain ⟨E', a1, a2, a3, a4, a5⟩ := h.2 E B w C.H hu
  exact ⟨E', ⟨a2, C.bel, C.le, C.df, C.sz, fun t ht => a5 t _ (C.tm t ht), fun b o hb => (a3 b o hb).trans (C.kb b o hb), C.le0.trans a1, fun s hs => C.u0 s (a4 s hs), Nat.le_trans C.ck h.1⟩,
    fun s hs => Nat.lt_of_lt_of_le (hu s (a4 s hs)) h.1⟩

theorem put_get (a : Act) (n : Nat) (hsz : a.tmps.size = n) (d : Option Nat) (hd : cDst n d = true) (v : Value) (t : Nat) (ht : t < n) :
    (a.put d v).tmps.size = n ∧ (a.put d v).defers = a.defers ∧ (a.put d v).tmps.getD t undef = if d = some t then v else a.tmps.getD t undef := by
  cases d with
  | none => exact ⟨hsz, rfl, by simp [Act.put]⟩
  | some d =>
    simp only [cDst, decide_eq_true_iff] at hd
    refine ⟨by simpa [Act.put] using hsz, rfl, ?_⟩
    simp only [Act.put, Array.getD_eq_getD_getElem?, Array.getElem?_setIfInBounds]
    by_cases e : d = t
    · subst e; simp [hsz, hd]
    · simp [e]

theorem St.put_t (S : St) (d : Option Nat) (v : AV) (t : Nat) : (S.put d v).t t = if d = some t then v else S.t t := by
  cases d with
  | none => simp [St.put]
  | some d =>
    simp only [St.put, upd, Option.some.injEq]
    by_cases e : t = d
    · simp [e]
    · rw [if_neg e, if_neg (fun q => e q.symm)]

/-- An operation's outcome. -/
theorem Conc.next {E' : Env} (C : Conc K0 E B W n S a w) (hE : E.le E') (d : Option Nat) (hd : cDst n d = true) (v : Value) (r : AV) (hr : Rel E' r v) (S' : St) (w' : World) (ht : S'.t = (S.put d r).t) (H : HConc E' B S'.h w') (hW : Below B W w')
    (hkb : ∀ b o, b < B → E'.K b o = E.K b o) (hu0 : ∀ s, E'.u s → E.u s ∨ K0.c0 ≤ s) (hc0 : K0.c0 ≤ S'.clk) : Conc K0 E' B W n S' (a.put d v) w' := by
  refine ⟨H, hW, C.le, ?_, ?_, ?_, fun b o hb => (hkb b o hb).trans (C.kb b o hb), C.le0.trans hE, fun s hs => (hu0 s hs).elim (C.u0 s) .inr, hc0⟩
  · rw [← C.df]; cases d <;> rfl
  · rw [← C.sz]; cases d <;> simp [Act.put]
  · intro t htn
    rw [ht, (put_get a n C.sz d hd v t htn).2.2, St.put_t]
    by_cases e : d = some t
    · rw [if_pos e, if_pos e]; exact hr
    · rw [if_neg e, if_neg e]; exact (C.tm t htn).mono hE

theorem guard_ok (C : Conc K0 E B W n S a w) (ops : Array Oper) (o : Oper) (g : Option (Nat × Bool)) (hg : cGuard n ops o.guard = some g) (b : Bool) (hb : guardV S.t g = some b) : Region.wanted o (yielded ops a.tmps) = b := by
  cases hq : o.guard with
  | none => rw [hq] at hg; cases hg; cases hb; simp [Region.wanted, hq]
  | some p =>
    obtain ⟨j, want⟩ := p
    rw [hq] at hg
    simp only [cGuard] at hg
    split at hg
    · rename_i d hd
      split at hg
      · rename_i hdn; cases hg
        have hr := C.tm d hdn
        have ht : a.tmps[d]? = some (a.tmps.getD d undef) := by simp [C.sz, hdn]
        simp only [guardV] at hb
        split at hb
        · rename_i x hx; cases hb
          rw [hx] at hr
          have := hr.bool_inv
          simp [Region.wanted, hq, yielded, hd, ht, this]
        · rename_i vs hx; cases hb
          rw [hx] at hr
          generalize a.tmps.getD d undef = u at hr ht
          cases hr with
          | tup _ us _ _ => simp [Region.wanted, hq, yielded, hd, ht]
        · cases hb
      · cases hg
    · cases hg

theorem callFunc_run (P : Program) (f : FuncId) (args : Array Value) (w : World) (h : enters P f) : (callFunc f args).run P w = .ok (.enter f args) w := by
  obtain ⟨fn, h1, h2, h3⟩ := h
  have h2' : fn.body.isNone = false := by cases hb : fn.body <;> simp_all
  have h3' : (fn.name == "runtime.NumGoroutine") = false := by simpa using h3
  simp only [callFunc, Sem.run_bind, run_program, Result.andThen_ok, h1, h3', h2', Bool.false_eq_true, if_false, Sem.run_pure]

theorem callee_op {op : Op} {p : Operand × List Operand} (h : calleeOf op = some p) : ∃ c, op = .call c ∧ c.callee = .value p.1 ∧ c.args.toList = p.2 := by
  cases op <;> simp only [calleeOf] at h <;> (try (cases h; done))
  rename_i c
  split at h
  · rename_i f hf; cases h; exact ⟨c, rfl, hf, rfl⟩
  · cases h

theorem runV_sound (C : Conc K0 E B W n S a w) (base : Nat) (hint : List (Nat × Nat)) (ops : Array Oper) (o : Oper) (ai : AI) (hc : cI P n base hint ops o = some ai) (st : Nat) (hst : ¬ E.u st) (hst0 : K0.c0 ≤ st) (hu : ∀ s, E.u s → s < S.clk) (k : St → Prop) (h : runV P st ai S k)
    (next : Act → World → Prop) (Q : Exit → Act → World → Prop)
    (hk : ∀ E' S' a' w', Conc K0 E' B W n S' a' w' → E.le E' → (∀ s, E'.u s → E.u s ∨ s = st ∨ (S.clk ≤ s ∧ s < S'.clk)) → S.clk ≤ S'.clk → k S' → next a' w') : o.wp P a w next Q := by
  simp only [cI] at hc
  split at hc
  · rename_i hd
    simp only [Option.bind_eq_some_iff, Option.map_eq_some_iff] at hc
    obtain ⟨g, hg, op, hop, rfl⟩ := hc
    have hf := C.tm
    simp only [cK] at hop
    split at hop
    · -- a call
      rename_i p hp
      simp only [Option.bind_eq_some_iff, Option.map_eq_some_iff] at hop
      obtain ⟨fx, hfx, args, hargs, rfl⟩ := hop
      obtain ⟨c, hoc, hcv, hca⟩ := callee_op hp
      simp only [runV] at h
      obtain ⟨f, caps, hfv, hent, hcalls⟩ := h
      have hrf := cX_ok hf hfx
      rw [hfv] at hrf
      obtain ⟨e1, e2⟩ := cXs_ok hf _ _ hargs
      rw [← hca] at e1 e2
      generalize hfu : a.eval p.1 = fu at hrf
      cases hrf with
      | fn _ _ cvs hcs hcr =>
        have hargsz : (c.args.map a.eval ++ cvs).size = (args.map (fun x => x.ev S.t) ++ caps).length := by
          have : c.args.size = args.length := by rw [e1]; simp
          simp [this, hcs]
        have hrel : ∀ (j : Nat) (y : AV) (u : Value), (args.map (fun x => x.ev S.t) ++ caps)[j]? = some y → (c.args.map a.eval ++ cvs)[j]? = some u → Rel E y u := by
          intro j y u hy hu'
          have hl : c.args.size = args.length := by rw [e1]; simp
          by_cases hj : j < args.length
          · rw [List.getElem?_append_left (by simpa using hj), List.getElem?_map] at hy
            rw [Array.getElem?_append_left (by simpa [hl] using hj), Array.getElem?_map] at hu'
            cases hx : args[j]? with
            | none => simp [hx] at hy
            | some x =>
              cases hz : c.args[j]? with
              | none => simp [hz] at hu'
              | some z =>
                simp only [hx, hz, Option.map_some, Option.some.injEq] at hy hu'
                rw [← hy, ← hu']
                exact e2 j x z hx (by simpa using hz)
          · rw [List.getElem?_append_right (by simpa using hj)] at hy
            rw [Array.getElem?_append_right (by simpa [hl] using hj)] at hu'
            simp only [List.length_map, Array.size_map, hl] at hy hu'
            exact hcr _ y u hy hu'
        have hcall := hcalls E B W w _ C.H C.bel C.le hu hargsz hrel
        have hrun : (execOp a.eval o).run P w = .ok (.enter f (c.args.map a.eval ++ cvs)) w := by
          have e0 : c.args.map a.eval = (c.args.map a.eval) := rfl
          simp [execOp, hoc, resolve, hcv, hfu, Deferred.ofValue, invoke, callFunc_run P f _ w hent]
        unfold Oper.wp
        rw [hrun, Oper.upon_enter]
        refine hcall.mono ?_
        rintro e w' ⟨v, E', r, S', rfl, hE, H', hW', hkb, hu', hclk, ht, hr, hkr⟩
        refine hk E' (S'.put o.dst r) _ w' ?_ hE (fun s hs => ?_) ?_ hkr
        · refine C.next hE o.dst hd v r hr _ w' ?_ ?_ hW' hkb (fun s hs => (hu' s hs).1.imp id (fun q => Nat.le_trans C.ck q)) ?_
          · cases o.dst <;> simp [St.put, ht]
          · cases o.dst <;> exact H'
          · cases o.dst <;> exact Nat.le_trans C.ck hclk
        · rcases hu' s hs with ⟨q1 | q1, q2⟩
          · exact .inl q1
          · refine .inr (.inr ⟨q1, ?_⟩); cases o.dst <;> exact q2
        · cases o.dst <;> exact hclk
    · -- another operation
      split at hop
      · rename_i q hq
        obtain ⟨kd, neg, x⟩ := q
        cases hop
        simp only [runV] at h
        split at h
        · rename_i e he
          obtain ⟨v, w', E', hs, hE, hu', hEB, H', hW', hr⟩ := nq_done (st := st) C.H C.bel hf o hq e he
          have hC : Conc K0 E' B W n (S.app o.dst e) (a.put o.dst v) w' := C.next hE o.dst hd v e.v hr _ w' rfl H' hW' hEB (fun s hs => (hu' s hs).imp id (fun q => by rw [q]; exact hst0)) C.ck
          have hnext := hk E' _ _ w' hC hE (fun s hs' => (hu' s hs').imp id .inl) (Nat.le_refl _) h
          unfold Oper.wp
          rcases hs with hs | ⟨hs, rfl⟩
          · rw [hs]; exact hnext
          · rw [hs]; exact hnext
        · obtain ⟨hun, hall⟩ := h
          obtain ⟨op, t, y, ty, x0, h1, h2, h3, h4⟩ := nilCmp_spec hq
          cases kd with
          | succ kd => simp [undB] at hun
          | zero =>
            have key := nilq_und C.H o op neg t ty x0 y h1 h2 (x.ev S.t) (cX_ok hf h4) (by simpa [undB] using hun) h3
            obtain ⟨b, hb⟩ := key
            have hC : Conc K0 E B W n (S.app o.dst { v := .bool b }) (a.put o.dst (.bool b)) w := C.next (.refl E) o.dst hd (.bool b) (.bool b) (.bool b) _ w rfl C.H C.bel (fun _ _ _ => rfl) (fun s hs => .inl hs) C.ck
            have hnext := hk E _ _ w hC (.refl E) (fun s hs' => .inl hs') (Nat.le_refl _) (hall b)
            unfold Oper.wp
            rw [hb]; exact hnext
      obtain ⟨ao, hao, rfl⟩ : ∃ ao, (cOp P n (base + nameOf hint o.dst) o.op).getD .bad = ao ∧ op = .op ao := by cases hop; exact ⟨_, rfl, rfl⟩
      have hao : ao = .bad ∨ cOp P n (base + nameOf hint o.dst) o.op = some ao := by
        cases hcc : cOp P n (base + nameOf hint o.dst) o.op with
        | none => rw [hcc] at hao; exact .inl hao.symm
        | some a' => rw [hcc] at hao; exact .inr (by rw [← hao]; rfl)
      simp only [runV] at h
      split at h
      · rename_i e he
        have hao := hao.resolve_left (fun q => by subst q; cases he)
        obtain ⟨v, w', E', hs, hE, hu', hEB, H', hW', hr⟩ := op_done (st := st) C.H C.bel (Nat.le_trans C.le C.bel.size) hst hf o ao hao e he
        have hC : Conc K0 E' B W n (S.app o.dst e) (a.put o.dst v) w' := C.next hE o.dst hd v e.v hr _ w' rfl H' hW' hEB (fun s hs => (hu' s hs).imp id (fun q => by rw [q]; exact hst0)) C.ck
        have hnext := hk E' _ _ w' hC hE (fun s hs' => (hu' s hs').imp id .inl) (Nat.le_refl _) h
        unfold Oper.wp
        rcases hs with hs | ⟨hs, rfl⟩
        · rw [hs]; exact hnext
        · rw [hs]; exact hnext
      · exact h.elim
  · cases hc

end
end Go.Gv

/- Regions that draw their order: one walk in the text's order serves every order, if operations that touch one thing are ordered. No condition beyond those that each law names. -/
set_option linter.unusedVariables false
set_option linter.unusedSimpArgs false
namespace Go.Gv
open Go.RowKit

/-! ### Pure calls -/

def envK (K : Nat → Nat → Option Value) : Env := ⟨K, fun _ => (0, 0), fun _ => .nilFunc, fun _ => 0, fun _ => False⟩
def over (K : Nat → Nat → Option Value) (w w' : World) : Nat → Nat → Option Value := fun b o => if b < w.heap.size then K b o else w'.cell? ⟨b, o, none⟩

/-- A call that writes nothing that was there, in whatever state. -/
def PCallP (P : Program) (fv : AV) (vals : List AV) (r : AV) : Prop :=
  ∃ f caps, fv = .fn f caps ∧ enters P f ∧ ∀ (E : Env) (w : World) (args : Array Value), (∀ b o v, E.K b o = some v → w.cell? ⟨b, o, none⟩ = some v) →
    args.size = (vals ++ caps).length → (∀ (j : Nat) (y : AV) (u : Value), (vals ++ caps)[j]? = some y → args[j]? = some u → Rel E y u) →
    Calls P f args w fun e w' => ∃ v, e = .returned v ∧ Below w.heap.size w w' ∧ Rel (envK (over E.K w w')) r v

theorem Rel.of_envK {K : Nat → Nat → Option Value} {x : AV} {v : Value} (h : Rel (envK K) x v) {E : Env} (hK : ∀ b o u, K b o = some u → E.K b o = some u) : Rel E x v :=
  Rel.mono (E := envK K) (E' := E) ⟨hK, fun _ (q : False) => q.elim, fun _ (q : False) => q.elim, fun _ (q : False) => q.elim, fun _ (q : False) => q.elim⟩ h

theorem CallP_of_PCallP {P : Program} {fv : AV} {vals : List AV} {r : AV} (h : PCallP P fv vals r) {S : St} {k : AV → St → Prop} (hk : k r S) : CallP P fv vals S k := by
  obtain ⟨f, caps, hfv, hent, hc⟩ := h
  refine ⟨f, caps, hfv, hent, fun E B W w args H hW hB hu hsz hrel => ?_⟩
  refine (hc E w args H.K hsz hrel).mono ?_
  rintro e w' ⟨v, rfl, hbel, hr⟩
  have hle : B ≤ w.heap.size := Nat.le_trans hB hW.size
  let E' : Env := E.withK (over E.K w w')
  have hE : E.le E' := Env.le_withK (fun b o u hu' => by
    have := World.block_lt_of_cell? w _ (H.K b o u hu')
    unfold over; rw [if_pos this]; exact hu')
  have H1 := H.grow (w' := w') (fun k hk => hbel.block k hk)
  refine ⟨v, E', r, S, rfl, hE, ?_, hW.trans (hbel.mono hle), fun b o hb => ?_, fun s hs => ⟨.inl hs, hu s hs⟩, Nat.le_refl _, rfl, hr.of_envK (fun b o u q => q), hk⟩
  · refine H1.env hE ?_ ?_ ?_
    · intro b o u hu'
      simp only [E', Env.withK, over] at hu'
      split at hu'
      · exact H1.K b o u hu'
      · exact hu'
    · intro nm b hb j
      show over E.K w w' (E.m b.st).1 j = none
      unfold over
      rw [if_pos (H.bk nm b hb).lt]
      exact (H.bk nm b hb).noK j
    · intro nm t g ht hg j
      show over E.K w w' g j = E.K g j
      unfold over
      rw [if_pos ((H.tk nm t ht).lt hg).2]
  · show over E.K w w' b o = E.K b o
    unfold over
    rw [if_pos (by omega)]

/-! ### What an operation reads and writes -/

def aopXs : AOp → List X
  | .mv x => [x]
  | .pick c a b => [c, a, b]
  | .new _ _ _ => []
  | .box _ _ x => [x]
  | .build _ ps => ps.map fun p => p.2.2
  | .bsl _ _ _ _ _ ps => ps.map fun p => p.2
  | .load _ x => [x]
  | .store _ a x => [a, x]
  | .ibin _ x y => [x, y]
  | .eqv _ x y => [x, y]
  | .eqs _ _ x y => [x, y]
  | .not x => [x]
  | .neg x => [x]
  | .len x => [x]
  | .slen x => [x]
  | .app _ _ _ _ s x => [s, x]
  | .appw _ _ _ _ s x => [s, x]
  | .slice _ x lo hi => [x] ++ lo.toList ++ hi.toList
  | .fld _ x => [x]
  | .getf _ _ x => [x]
  | .idx _ x i => [x, i]
  | .ext x _ => [x]
  | .conv _ x => [x]
  | .mkf _ l => l
  | .msl _ _ _ _ l => [l]
  | .mm _ x l => x :: l
  | .bslm _ _ _ _ _ ps => ps.map fun p => p.2
  | .cpy _ x y => [x, y]
  | .shift _ x y => [x, y]
  | .nilq _ _ x => [x]
  | .nilck x => [x]
  | .mkm _ => []
  | .mget _ _ m x => [m, x]
  | .mput m x v => [m, x, v]
  | .bad => []

def AK.xs : AK → List X
  | .op o => aopXs o
  | .call f l => f :: l
  | .nq _ _ x => [x]

/-- Operands whose blocks an operation reads. -/
def rxO : AOp → List X
  | .mv _ => []
  | .pick _ _ _ => []
  | .new _ _ _ => []
  | .box _ _ _ => []
  | .build _ _ => []
  | .bsl _ _ _ _ _ _ => []
  | .load _ x => [x]
  | .store _ a _ => [a]
  | .ibin _ _ _ => []
  | .eqv _ _ _ => []
  | .eqs _ _ _ _ => []
  | .not _ => []
  | .neg _ => []
  | .len _ => []
  | .slen _ => []
  | .app _ _ _ _ _ x => [x]
  | .appw _ _ _ _ s x => [s, x]
  | .slice _ _ _ _ => []
  | .fld _ _ => []
  | .getf _ _ _ => []
  | .idx _ _ _ => []
  | .ext _ _ => []
  | .conv _ _ => []
  | .mkf _ _ => []
  | .msl _ _ _ _ _ => []
  | .mm _ _ _ => []
  | .bslm _ _ _ _ _ _ => []
  | .cpy _ x y => [x, y]
  | .shift _ _ _ => []
  | .nilq _ _ _ => []
  | .nilck _ => []
  | .mkm _ => []
  | .mget _ _ m _ => [m]
  | .mput m _ _ => [m]
  | .bad => []
/-- Operands whose tokens an operation reads. -/
def txO : AOp → List X
  | .mv _ => []
  | .pick _ _ _ => []
  | .new _ _ _ => []
  | .box _ _ _ => []
  | .build _ _ => []
  | .bsl _ _ _ _ _ _ => []
  | .load _ _ => []
  | .store _ _ _ => []
  | .ibin _ _ _ => []
  | .eqv _ _ _ => []
  | .eqs _ _ _ _ => []
  | .not _ => []
  | .neg _ => []
  | .len _ => []
  | .slen _ => []
  | .app _ _ _ _ s _ => [s]
  | .appw _ _ _ _ _ _ => []
  | .slice _ _ _ _ => []
  | .fld _ _ => []
  | .getf _ _ _ => []
  | .idx _ _ _ => []
  | .ext _ _ => []
  | .conv _ _ => []
  | .mkf _ _ => []
  | .msl _ _ _ _ _ => []
  | .mm _ _ _ => []
  | .bslm _ _ _ _ _ _ => []
  | .cpy _ _ _ => []
  | .shift _ _ _ => []
  | .nilq _ _ _ => []
  | .nilck _ => []
  | .mkm _ => []
  | .mget _ _ _ _ => []
  | .mput _ _ _ => []
  | .bad => []
def AK.rxs : AK → List X
  | .op o => rxO o
  | .call f l => f :: l
  | .nq _ _ _ => []
def AK.txs : AK → List X
  | .op o => txO o
  | .call _ _ => []
  | .nq _ _ _ => []

/-- Slots that an operation reads. -/
def AI.slots (i : AI) : List Nat := (i.k.xs.filterMap fun x => match x with | .t n => some n | .c _ => none) ++ (match i.g with | some p => [p.1] | none => [])

structure Fp where
  rb : List Nat
  wb : List Nat
  rt : List Nat
  wt : List Nat

def fpOf (t : Nat → AV) (i : AI) (e : Eff) : Fp :=
  ⟨i.k.rxs.flatMap fun x => rdV (x.ev t), e.wb.map (·.1), i.k.txs.flatMap fun x => tkV (x.ev t), e.wt.map (·.1)⟩

def disj (a b : List Nat) : Bool := a.all fun x => !b.contains x
def Fp.apart (p q : Fp) : Bool := disj p.wb q.rb && disj p.wb q.wb && disj p.rb q.wb && disj p.wt q.rt && disj p.wt q.wt && disj p.rt q.wt

theorem ev_congr {t t' : Nat → AV} {x : X} (h : ∀ n, x = .t n → t n = t' n) : x.ev t = x.ev t' := by
  cases x with
  | t n => exact h n rfl
  | c v => rfl

theorem getB_congr {blk blk' : Nat → Option Blk} {nm st sz : Nat} (h : blk nm = blk' nm) : getB blk nm st sz = getB blk' nm st sz := by simp only [getB, h]
theorem cellsAt_congr {blk blk' : Nat → Option Blk} {v : AV} (h : ∀ n ∈ rdV v, blk n = blk' n) : cellsAt blk v = cellsAt blk' v := by
  cases v <;> first | rfl | (simp only [cellsAt]; rw [getB_congr (h _ (by simp [rdV]))])
theorem listOf_congr {blk blk' : Nat → Option Blk} {sz : Nat} {v : AV} (h : ∀ n ∈ rdV v, blk n = blk' n) : listOf blk sz v = listOf blk' sz v := by
  cases v <;> first | rfl | (simp only [listOf]; rw [getB_congr (h _ (by simp [rdV]))])
theorem listM_congr {blk blk' : Nat → Option Blk} {sz : Nat} {v : AV} (h : ∀ n ∈ rdV v, blk n = blk' n) : listM blk sz v = listM blk' sz v := by
  cases v <;> first | rfl | (simp only [listM]; rw [getB_congr (h _ (by simp [rdV]))])
theorem appwBase_congr {blk blk' : Nat → Option Blk} {sz : Nat} {v : AV} (h : ∀ n ∈ rdV v, blk n = blk' n) : appwBase blk sz v = appwBase blk' sz v := by
  cases v <;> first | rfl | (simp only [appwBase]; rw [getB_congr (h _ (by simp [rdV]))])
theorem getM_congr {blk blk' : Nat → Option Blk} {nm st : Nat} (h : blk nm = blk' nm) : getM blk nm st = getM blk' nm st := by simp only [getM, h]
theorem appBase_congr {tok tok' : Nat → Option Tok} {sz : Nat} {ty : TypeId} {v : AV} (h : ∀ n ∈ tkV v, tok n = tok' n) : appBase tok sz ty v = appBase tok' sz ty v := by
  cases v <;> first | rfl | (simp only [appBase]; rw [h _ (by simp [tkV])])

theorem map_ev_congr {t t' : Nat → AV} (l : List X) (h : ∀ x ∈ l, x.ev t = x.ev t') : (l.map fun x => x.ev t) = l.map fun x => x.ev t' := List.map_congr_left h

theorem ex_congr {t t' : Nat → AV} {blk blk' : Nat → Option Blk} {tok tok' : Nat → Option Tok} (st : Nat) (o : AOp) (h : ∀ x ∈ aopXs o, x.ev t = x.ev t')
    (hb : ∀ x ∈ rxO o, ∀ n ∈ rdV (x.ev t), blk n = blk' n) (ht : ∀ x ∈ txO o, ∀ n ∈ tkV (x.ev t), tok n = tok' n) : ex t blk tok st o = ex t' blk' tok' st o := by
  cases o with
  | load g x =>
    have e := h x (by simp [aopXs])
    have c := cellsAt_congr (hb x (by simp [rxO]))
    cases g <;> simp only [ex, ldOne, ldAgg, ← e, c]
  | store n a x =>
    have e1 := h a (by simp [aopXs])
    have e2 := h x (by simp [aopXs])
    have c := hb a (by simp [rxO])
    simp only [ex, ← e1, ← e2]
    generalize a.ev t = v at c
    cases v <;> first | rfl | (simp only []; rw [getB_congr (c _ (by simp [rdV]))])
  | app nm sz ty byt s x =>
    have e1 := h s (by simp [aopXs])
    have e2 := h x (by simp [aopXs])
    simp only [ex, ← e1, ← e2, listOf_congr (hb x (by simp [rxO])), appBase_congr (ht s (by simp [txO]))]
  | build zero ps =>
    have e : ∀ p ∈ ps, p.2.2.ev t = p.2.2.ev t' := fun p hp => h _ (by simp only [aopXs, List.mem_map]; exact ⟨p, hp, rfl⟩)
    have e1 : (ps.map fun p => (p.1, (p.2.2.ev t).cells)) = ps.map fun p => (p.1, (p.2.2.ev t').cells) := List.map_congr_left fun p hp => by rw [e p hp]
    have e2 : (ps.all fun p => (p.2.2.ev t).cells.length == p.2.1) = ps.all fun p => (p.2.2.ev t').cells.length == p.2.1 := by
      apply Bool.eq_iff_iff.2
      simp only [List.all_eq_true]
      exact ⟨fun q p hp => by rw [← e p hp]; exact q p hp, fun q p hp => by rw [e p hp]; exact q p hp⟩
    simp only [ex, e1, e2]
  | bsl nm sz ty len z ps =>
    have e : ∀ p ∈ ps, p.2.ev t = p.2.ev t' := fun p hp => h _ (by simp only [aopXs, List.mem_map]; exact ⟨p, hp, rfl⟩)
    have e1 : ∀ s : List AV, ps.foldl (fun es p => es.set p.1 (normE (p.2.ev t))) s = ps.foldl (fun es p => es.set p.1 (normE (p.2.ev t'))) s := by
      have : ∀ (l : List (Nat × X)), (∀ p ∈ l, p.2.ev t = p.2.ev t') → ∀ s : List AV, l.foldl (fun es p => es.set p.1 (normE (p.2.ev t))) s = l.foldl (fun es p => es.set p.1 (normE (p.2.ev t'))) s := by
        intro l
        induction l with
        | nil => intro _ s; rfl
        | cons p l ih => intro hl s; rw [List.foldl_cons, List.foldl_cons, hl p (by simp), ih (fun q hq => hl q (by simp [hq]))]
      exact this ps e
    have e2 : (ps.all fun p => ((normE (p.2.ev t)).cells.length == sz) && (normE (p.2.ev t)).cells.all AV.cl1 && decide (p.1 < len)) = ps.all fun p => ((normE (p.2.ev t')).cells.length == sz) && (normE (p.2.ev t')).cells.all AV.cl1 && decide (p.1 < len) := by
      apply Bool.eq_iff_iff.2
      simp only [List.all_eq_true]
      exact ⟨fun q p hp => by rw [← e p hp]; exact q p hp, fun q p hp => by rw [e p hp]; exact q p hp⟩
    simp only [ex, e1, e2]
  | slice sz x lo hi =>
    have e1 := h x (by simp [aopXs])
    have o1 : optNat t lo = optNat t' lo := by
      cases lo with
      | none => rfl
      | some y => simp only [optNat, h y (by simp [aopXs])]
    have o2 : optNat t hi = optNat t' hi := by
      cases hi with
      | none => rfl
      | some y => simp only [optNat, h y (by simp [aopXs])]
    simp only [ex, ← e1, o1, o2]
  | getf g off x =>
    have e := h x (by simp [aopXs])
    cases g <;> simp only [ex, ← e]
  | idx sz x i =>
    have e1 := h x (by simp [aopXs])
    have e2 := h i (by simp [aopXs])
    simp only [ex, ← e1, ← e2]
    have : ∀ (j : Nat) (v : AV), idxA blk sz v j = idxA blk' sz v j := fun j v => by cases v <;> rfl
    simp only [this]
  | mkf g l => simp only [ex, map_ev_congr l (fun x hx => h x (by simpa [aopXs] using hx))]
  | mm mx x l =>
    simp only [ex, ← h x (by simp [aopXs]), ← map_ev_congr l (fun y hy => h y (by simp [aopXs, hy]))]
  | pick c a b => simp only [ex, ← h c (by simp [aopXs]), ← h a (by simp [aopXs]), ← h b (by simp [aopXs])]
  | new nm sz z => rfl
  | ibin op x y => simp only [ex, ← h x (by simp [aopXs]), ← h y (by simp [aopXs])]
  | eqv n x y => simp only [ex, ← h x (by simp [aopXs]), ← h y (by simp [aopXs])]
  | eqs k n x y => simp only [ex, ← h x (by simp [aopXs]), ← h y (by simp [aopXs])]
  | appw nm sz ty byt s x =>
    have e1 := h s (by simp [aopXs])
    have e2 := h x (by simp [aopXs])
    simp only [ex, ← e1, ← e2, listM_congr (hb x (by simp [rxO])), appwBase_congr (hb s (by simp [rxO]))]
  | cpy sz x y =>
    have e1 := h x (by simp [aopXs])
    have e2 := h y (by simp [aopXs])
    have c := hb x (by simp [rxO])
    simp only [ex, ← e1, ← e2, listM_congr (hb y (by simp [rxO]))]
    generalize x.ev t = v at c
    cases v <;> first | rfl | (simp only []; rw [getB_congr (c _ (by simp [rdV]))])
  | shift l x y => simp only [ex, ← h x (by simp [aopXs]), ← h y (by simp [aopXs])]
  | nilq kd neg x => simp only [ex, ← h x (by simp [aopXs])]
  | nilck x => simp only [ex, ← h x (by simp [aopXs])]
  | bad => rfl
  | mkm nm => rfl
  | mget k z m x =>
    have e1 := h m (by simp [aopXs])
    have e2 := h x (by simp [aopXs])
    have c := hb m (by simp [rxO])
    simp only [ex, ← e1, ← e2]
    generalize m.ev t = u at c
    generalize x.ev t = y
    cases u <;> first | rfl | (have cc := c _ (List.mem_singleton.2 rfl); cases y <;> first | rfl | (simp only [getM, cc]))
  | mput m x v =>
    have e1 := h m (by simp [aopXs])
    have e2 := h x (by simp [aopXs])
    have e3 := h v (by simp [aopXs])
    have c := hb m (by simp [rxO])
    simp only [ex, ← e1, ← e2, ← e3]
    generalize m.ev t = u at c
    generalize x.ev t = y
    cases u <;> first | rfl | (have cc := c _ (List.mem_singleton.2 rfl); cases y <;> first | rfl | (simp only [getM, cc]))
  | mv x => simp only [ex, ← h x (by simp [aopXs])]
  | box nm sz x => simp only [ex, ← h x (by simp [aopXs])]
  | not x => simp only [ex, ← h x (by simp [aopXs])]
  | neg x => simp only [ex, ← h x (by simp [aopXs])]
  | len x => simp only [ex, ← h x (by simp [aopXs])]
  | slen x => simp only [ex, ← h x (by simp [aopXs])]
  | fld off x => simp only [ex, ← h x (by simp [aopXs])]
  | ext x i => simp only [ex, ← h x (by simp [aopXs])]
  | conv k x => simp only [ex, ← h x (by simp [aopXs])]
  | msl nm sz byt z l => simp only [ex, ← h l (by simp [aopXs])]
  | bslm nm sz ty len z ps =>
    have e : ∀ p ∈ ps, p.2.ev t = p.2.ev t' := fun p hp => h _ (by simp only [aopXs, List.mem_map]; exact ⟨p, hp, rfl⟩)
    have e1 : ∀ s : List AV, ps.foldl (fun es p => es.set p.1 (p.2.ev t)) s = ps.foldl (fun es p => es.set p.1 (p.2.ev t')) s := by
      have : ∀ (l : List (Nat × X)), (∀ p ∈ l, p.2.ev t = p.2.ev t') → ∀ s : List AV, l.foldl (fun es p => es.set p.1 (p.2.ev t)) s = l.foldl (fun es p => es.set p.1 (p.2.ev t')) s := by
        intro l
        induction l with
        | nil => intro _ s; rfl
        | cons p l ih => intro hl s; rw [List.foldl_cons, List.foldl_cons, hl p (by simp), ih (fun q hq => hl q (by simp [hq]))]
      exact this ps e
    have e2 : (ps.all fun p => ((p.2.ev t).cells.length == sz) && (p.2.ev t).cells.all AV.one && decide (p.1 < len)) = ps.all fun p => ((p.2.ev t').cells.length == sz) && (p.2.ev t').cells.all AV.one && decide (p.1 < len) := by
      apply Bool.eq_iff_iff.2
      simp only [List.all_eq_true]
      exact ⟨fun q p hp => by rw [← e p hp]; exact q p hp, fun q p hp => by rw [e p hp]; exact q p hp⟩
    simp only [ex, e1, e2]

theorem CallP.weaken {P : Program} {fv : AV} {vals : List AV} {S : St} {k k' : AV → St → Prop} (h : CallP P fv vals S k) (hk : ∀ r S', k r S' → k' r S') : CallP P fv vals S k' := by
  obtain ⟨f, caps, h1, h2, h3⟩ := h
  refine ⟨f, caps, h1, h2, fun E B W w args a b c d e g => (h3 E B W w args a b c d e g).mono ?_⟩
  rintro x w' ⟨v, E', r, S', q1, q2, q3, q4, q5, q6, q7, q8, q9, q10⟩
  exact ⟨v, E', r, S', q1, q2, q3, q4, q5, q6, q7, q8, q9, hk r S' q10⟩
/-- A call that hangs on those blocks alone that its arguments name, and does one thing. -/
def LCallP (P : Program) (fv : AV) (vals : List AV) (blk : Nat → Option Blk) (e : Eff) : Prop :=
  ∀ T : St, (∀ n ∈ (fv :: vals).flatMap rdV, T.blk n = blk n) → CallP P fv vals T fun r S' => r = e.v ∧ S' = T.app none e
theorem LCallP.pure {P : Program} {fv : AV} {vals : List AV} {r : AV} (h : PCallP P fv vals r) (blk : Nat → Option Blk) : LCallP P fv vals blk { v := r } :=
  fun T _ => CallP_of_PCallP h ⟨rfl, rfl⟩

/-- What an operation comes to in a state. -/
def Out (P : Program) (S : St) (st : Nat) (i : AI) (e : Eff) : Prop :=
  match guardV S.t i.g with
  | some b => if b = true then (match i.k with
      | .op o => ex S.t S.blk S.tok st o = some e
      | .nq kd neg x => ex S.t S.blk S.tok st (.nilq kd neg x) = some e
      | .call f l => LCallP P (f.ev S.t) (l.map fun x => x.ev S.t) S.blk e) else e = { v := .tup [] }
  | none => False

theorem Out.congr {P : Program} {S T : St} {st : Nat} {i : AI} {e : Eff} (h : Out P S st i e) (ht : ∀ n ∈ i.slots, S.t n = T.t n) (hb : ∀ n ∈ (fpOf S.t i e).rb, S.blk n = T.blk n) (hk : ∀ n ∈ (fpOf S.t i e).rt, S.tok n = T.tok n) : Out P T st i e := by
  have hx : ∀ x ∈ i.k.xs, x.ev S.t = x.ev T.t := fun x hx => ev_congr fun n hn => ht n (by
    simp only [AI.slots, List.mem_append, List.mem_filterMap]
    exact .inl ⟨x, hx, by rw [hn]⟩)
  have hg : guardV S.t i.g = guardV T.t i.g := by
    cases hgi : i.g with
    | none => rfl
    | some p => simp only [guardV, ht p.1 (by simp [AI.slots, hgi])]
  unfold Out at h ⊢
  rw [← hg]
  split at h
  · rename_i b hb'
    split at h
    · rename_i hbt
      rw [if_pos hbt]
      cases hik : i.k with
      | op o =>
        rw [hik] at h
        simp only at h ⊢
        rw [← ex_congr st o (fun x q => hx x (by rw [hik]; exact q)) (fun x q n hn => hb n (by simp only [fpOf, hik, AK.rxs, List.mem_flatMap]; exact ⟨x, q, hn⟩)) (fun x q n hn => hk n (by simp only [fpOf, hik, AK.txs, List.mem_flatMap]; exact ⟨x, q, hn⟩))]
        exact h
      | nq kd neg x =>
        rw [hik] at h
        simp only at h ⊢
        rw [← ex_congr st (.nilq kd neg x) (fun y q => hx y (by rw [hik]; exact q)) (fun y q n hn => by simp [rxO] at q) (fun y q n hn => by simp [txO] at q)]
        exact h
      | call f l =>
        rw [hik] at h
        simp only at h ⊢
        rw [← hx f (by simp [hik, AK.xs]), ← map_ev_congr l (fun x q => hx x (by simp [hik, AK.xs, q]))]
        refine fun T' hT => h T' (fun n hn => ?_)
        rw [hT n hn]
        refine (hb n ?_).symm
        simp only [List.flatMap_cons, List.mem_append, List.mem_flatMap, List.mem_map] at hn
        simp only [fpOf, hik, AK.rxs, List.mem_flatMap]
        rcases hn with hn | ⟨v, ⟨x, hx', rfl⟩, hn⟩
        · exact ⟨f, by simp, hn⟩
        · exact ⟨x, by simp [hx'], hn⟩
    · rename_i hbt; rw [if_neg hbt]; exact h
  · exact h.elim

end Go.Gv

/- Regions that draw their order: the joint law. No condition beyond those that it names. -/
set_option linter.unusedVariables false
set_option linter.unusedSimpArgs false
namespace Go.Gv
open Go.RowKit

theorem appB_not {l : List (Nat × Option Blk)} {x : Nat} (h : x ∉ l.map (·.1)) (f : Nat → Option Blk) : appB f l x = f x := by
  induction l generalizing f with
  | nil => rfl
  | cons p l ih =>
    obtain ⟨n, b⟩ := p
    simp only [List.map_cons, List.mem_cons, not_or] at h
    rw [appB, ih h.2, upd_ne _ _ _ _ h.1]
theorem appB_mem {l : List (Nat × Option Blk)} {x : Nat} (h : x ∈ l.map (·.1)) (f g : Nat → Option Blk) : appB f l x = appB g l x := by
  induction l generalizing f g with
  | nil => simp at h
  | cons p l ih =>
    obtain ⟨n, b⟩ := p
    by_cases hl : x ∈ l.map (·.1)
    · exact ih hl _ _
    · rw [appB, appB, appB_not hl, appB_not hl]
      simp only [List.map_cons, List.mem_cons] at h
      rcases h with h | h
      · rw [h, upd_same, upd_same]
      · exact absurd h hl
theorem appT_not {l : List (Nat × Option Tok)} {x : Nat} (h : x ∉ l.map (·.1)) (f : Nat → Option Tok) : appT f l x = f x := by
  induction l generalizing f with
  | nil => rfl
  | cons p l ih =>
    obtain ⟨n, b⟩ := p
    simp only [List.map_cons, List.mem_cons, not_or] at h
    rw [appT, ih h.2, upd_ne _ _ _ _ h.1]
theorem appT_mem {l : List (Nat × Option Tok)} {x : Nat} (h : x ∈ l.map (·.1)) (f g : Nat → Option Tok) : appT f l x = appT g l x := by
  induction l generalizing f g with
  | nil => simp at h
  | cons p l ih =>
    obtain ⟨n, b⟩ := p
    by_cases hl : x ∈ l.map (·.1)
    · exact ih hl _ _
    · rw [appT, appT, appT_not hl, appT_not hl]
      simp only [List.map_cons, List.mem_cons] at h
      rcases h with h | h
      · rw [h, upd_same, upd_same]
      · exact absurd h hl

theorem St.ext' {S T : St} (h1 : ∀ x, S.t x = T.t x) (h2 : ∀ x, S.blk x = T.blk x) (h3 : ∀ x, S.tok x = T.tok x) (h4 : S.clk = T.clk) : S = T := by
  cases S; cases T
  simp only at h1 h2 h3 h4
  rw [funext h1, funext h2, funext h3, h4]

theorem St.app_t (S : St) (d : Option Nat) (e : Eff) (x : Nat) : (S.app d e).t x = if d = some x then e.v else S.t x := St.put_t S d e.v x

theorem disj_mem {a b : List Nat} (h : disj a b = true) {x : Nat} (hx : x ∈ a) : x ∉ b := by
  have := List.all_eq_true.1 h x hx
  simpa using this

/-- Two effects that touch different things. -/
theorem app_comm (S : St) (d d' : Option Nat) (e e' : Eff) (hd : ∀ x, d = some x → d' ≠ some x) (hb : disj (e.wb.map (·.1)) (e'.wb.map (·.1)) = true) (ht : disj (e.wt.map (·.1)) (e'.wt.map (·.1)) = true) :
    (S.app d e).app d' e' = (S.app d' e').app d e := by
  refine St.ext' (fun x => ?_) (fun x => ?_) (fun x => ?_) rfl
  · rw [St.app_t, St.app_t, St.app_t, St.app_t]
    by_cases h1 : d = some x
    · rw [if_neg (hd x h1), if_pos h1, if_pos h1]
    · rw [if_neg h1, if_neg h1]
  · show appB (appB S.blk e.wb) e'.wb x = appB (appB S.blk e'.wb) e.wb x
    by_cases h1 : x ∈ e.wb.map (·.1)
    · rw [appB_not (disj_mem hb h1), appB_mem h1]
    · rw [appB_not h1]
      by_cases h2 : x ∈ e'.wb.map (·.1)
      · exact appB_mem h2 _ _
      · rw [appB_not h2, appB_not h2, appB_not h1]
  · show appT (appT S.tok e.wt) e'.wt x = appT (appT S.tok e'.wt) e.wt x
    by_cases h1 : x ∈ e.wt.map (·.1)
    · rw [appT_not (disj_mem ht h1), appT_mem h1]
    · rw [appT_not h1]
      by_cases h2 : x ∈ e'.wt.map (·.1)
      · exact appT_mem h2 _ _
      · rw [appT_not h2, appT_not h2, appT_not h1]

/-- The effects of those that are done, in the text's order. -/
def foldS (D : Nat → Bool) : Nat → List (AI × Eff) → St → St
  | _, [], S => S
  | i, p :: l, S => foldS D (i + 1) l (if D i = true then S.app p.1.dst p.2 else S)

theorem foldS_clk (D : Nat → Bool) : ∀ (l : List (AI × Eff)) (i : Nat) (S : St), (foldS D i l S).clk = S.clk
  | [], _, _ => rfl
  | p :: l, i, S => by rw [foldS, foldS_clk D l]; split <;> rfl

theorem foldS_congr {D D' : Nat → Bool} : ∀ (l : List (AI × Eff)) (i : Nat) (S : St), (∀ k, i ≤ k → k < i + l.length → D k = D' k) → foldS D i l S = foldS D' i l S
  | [], _, _, _ => rfl
  | p :: l, i, S, h => by
    rw [foldS, foldS, h i (Nat.le_refl _) (by simp), foldS_congr l (i + 1) _ (fun k h1 h2 => h k (by omega) (by simp; omega))]

theorem foldS_none {D : Nat → Bool} : ∀ (l : List (AI × Eff)) (i : Nat) (S : St), (∀ k, i ≤ k → D k = false) → foldS D i l S = S
  | [], _, _, _ => rfl
  | p :: l, i, S, h => by rw [foldS, h i (Nat.le_refl _), foldS_none l _ _ (fun k hk => h k (by omega))]; rfl

theorem agree_t {D D' : Nat → Bool} (x : Nat) : ∀ (l : List (AI × Eff)) (i : Nat) (S S' : St), S.t x = S'.t x → (∀ (k : Nat) (p : AI × Eff), l[k]? = some p → p.1.dst = some x → D (i + k) = D' (i + k)) → (foldS D i l S).t x = (foldS D' i l S').t x
  | [], _, _, _, h, _ => h
  | p :: l, i, S, S', h, hw => by
    rw [foldS, foldS]
    refine agree_t x l (i + 1) _ _ ?_ (fun k q hq hd => by have := hw (k + 1) q (by simpa using hq) hd; rwa [show i + (k + 1) = i + 1 + k by omega] at this)
    by_cases hd : p.1.dst = some x
    · have := hw 0 p rfl hd
      rw [Nat.add_zero] at this
      rw [this]
      split
      · rw [St.app_t, St.app_t, if_pos hd, if_pos hd]
      · exact h
    · have e : ∀ T : St, (T.app p.1.dst p.2).t x = T.t x := fun T => by rw [St.app_t, if_neg hd]
      split <;> split <;> simp only [e, h]

theorem agree_b {D D' : Nat → Bool} (x : Nat) : ∀ (l : List (AI × Eff)) (i : Nat) (S S' : St), S.blk x = S'.blk x → (∀ (k : Nat) (p : AI × Eff), l[k]? = some p → x ∈ p.2.wb.map (·.1) → D (i + k) = D' (i + k)) → (foldS D i l S).blk x = (foldS D' i l S').blk x
  | [], _, _, _, h, _ => h
  | p :: l, i, S, S', h, hw => by
    rw [foldS, foldS]
    refine agree_b x l (i + 1) _ _ ?_ (fun k q hq hd => by have := hw (k + 1) q (by simpa using hq) hd; rwa [show i + (k + 1) = i + 1 + k by omega] at this)
    by_cases hd : x ∈ p.2.wb.map (·.1)
    · have := hw 0 p rfl hd
      rw [Nat.add_zero] at this
      rw [this]
      split
      · exact appB_mem hd _ _
      · exact h
    · have e : ∀ T : St, (T.app p.1.dst p.2).blk x = T.blk x := fun T => appB_not hd _
      split <;> split <;> simp only [e, h]

theorem agree_k {D D' : Nat → Bool} (x : Nat) : ∀ (l : List (AI × Eff)) (i : Nat) (S S' : St), S.tok x = S'.tok x → (∀ (k : Nat) (p : AI × Eff), l[k]? = some p → x ∈ p.2.wt.map (·.1) → D (i + k) = D' (i + k)) → (foldS D i l S).tok x = (foldS D' i l S').tok x
  | [], _, _, _, h, _ => h
  | p :: l, i, S, S', h, hw => by
    rw [foldS, foldS]
    refine agree_k x l (i + 1) _ _ ?_ (fun k q hq hd => by have := hw (k + 1) q (by simpa using hq) hd; rwa [show i + (k + 1) = i + 1 + k by omega] at this)
    by_cases hd : x ∈ p.2.wt.map (·.1)
    · have := hw 0 p rfl hd
      rw [Nat.add_zero] at this
      rw [this]
      split
      · exact appT_mem hd _ _
      · exact h
    · have e : ∀ T : St, (T.app p.1.dst p.2).tok x = T.tok x := fun T => appT_not hd _
      split <;> split <;> simp only [e, h]

/-- Two operations that touch different things. -/
def apartI (p q : AI) (fp fq : Fp) : Bool :=
  (match p.dst with | some d => !q.slots.contains d && (match q.dst with | some d' => d != d' | none => true) | none => true) &&
  (match q.dst with | some d => !p.slots.contains d | none => true) && fp.apart fq

structure Apart (p q : AI) (fp fq : Fp) : Prop where
  s1 : ∀ d, p.dst = some d → d ∉ q.slots
  s2 : ∀ d, p.dst = some d → q.dst ≠ some d
  s3 : ∀ d, q.dst = some d → d ∉ p.slots
  b1 : disj fp.wb fq.rb = true
  b2 : disj fp.wb fq.wb = true
  b3 : disj fp.rb fq.wb = true
  t1 : disj fp.wt fq.rt = true
  t2 : disj fp.wt fq.wt = true
  t3 : disj fp.rt fq.wt = true

theorem apartI_spec {p q : AI} {fp fq : Fp} (h : apartI p q fp fq = true) : Apart p q fp fq := by
  simp only [apartI, Fp.apart, Bool.and_eq_true] at h
  obtain ⟨⟨h1, h2⟩, ⟨⟨⟨⟨h3, h4⟩, h5⟩, h6⟩, h7⟩, h8⟩ := h
  refine ⟨fun d hd => ?_, fun d hd q' => ?_, fun d hd => ?_, h3, h4, h5, h6, h7, h8⟩
  · rw [hd] at h1; simp at h1; exact h1.1
  · rw [hd, q'] at h1; simp at h1
  · rw [hd] at h2; simpa using h2

/-- The walk in the text's order: what each operation comes to, and that it is apart from those ahead of it for which it does not wait. -/
def regDV (P : Program) (pre : List (List Nat)) : Nat → Nat → List AI → List (AI × Fp) → (St → Prop) → St → Prop
  | _, _, [], _, k, S => k S
  | st, j, i :: l, log, k, S => ∃ e, Out P S st i e ∧ (log.zipIdx.all fun p => (pre.getD j []).contains p.2 || apartI p.1.1 i p.1.2 (fpOf S.t i e)) = true ∧
      regDV P pre (st + 1) (j + 1) l (log ++ [(i, fpOf S.t i e)]) k (S.app i.dst e)

/-- What the walk shows. -/
structure Shown (P : Program) (pre : List (List Nat)) (st : Nat) (ops : List AI) (es : List Eff) (S : St) (k : St → Prop) : Prop where
  len : es.length = ops.length
  out : ∀ (j : Nat) (i : AI) (e : Eff), ops[j]? = some i → es[j]? = some e → Out P (foldS (fun m => decide (m < j)) 0 (ops.zip es) S) (st + j) i e
  apart : ∀ (a b : Nat) (p q : AI) (e f : Eff), a < b → ops[a]? = some p → ops[b]? = some q → es[a]? = some e → es[b]? = some f → a ∉ pre.getD b [] →
    Apart p q (fpOf (foldS (fun m => decide (m < a)) 0 (ops.zip es) S).t p e) (fpOf (foldS (fun m => decide (m < b)) 0 (ops.zip es) S).t q f)
  fin : k (foldS (fun _ => true) 0 (ops.zip es) S)

theorem foldS_append (D : Nat → Bool) : ∀ (l : List (AI × Eff)) (i : Nat) (p : AI × Eff) (S : St), foldS D i (l ++ [p]) S = if D (i + l.length) = true then (foldS D i l S).app p.1.dst p.2 else foldS D i l S
  | [], i, p, S => by simp [foldS]
  | q :: l, i, p, S => by
    rw [List.cons_append, foldS, foldS_append D l (i + 1) p, foldS]
    rw [show i + 1 + l.length = i + (q :: l).length by simp; omega]

theorem shown_of (P : Program) (pre : List (List Nat)) (st0 : Nat) (S0 : St) (k : St → Prop) : ∀ (rest done : List AI) (es : List Eff) (log : List (AI × Fp)) (S : St),
    es.length = done.length → S = foldS (fun _ => true) 0 (done.zip es) S0 →
    log.length = done.length → (∀ (j : Nat) (i : AI) (e : Eff), done[j]? = some i → es[j]? = some e → log[j]? = some (i, fpOf (foldS (fun m => decide (m < j)) 0 (done.zip es) S0).t i e)) →
    (∀ (j : Nat) (i : AI) (e : Eff), done[j]? = some i → es[j]? = some e → Out P (foldS (fun m => decide (m < j)) 0 (done.zip es) S0) (st0 + j) i e) →
    (∀ (a b : Nat) (p q : AI) (e f : Eff), a < b → done[a]? = some p → done[b]? = some q → es[a]? = some e → es[b]? = some f → a ∉ pre.getD b [] →
      Apart p q (fpOf (foldS (fun m => decide (m < a)) 0 (done.zip es) S0).t p e) (fpOf (foldS (fun m => decide (m < b)) 0 (done.zip es) S0).t q f)) →
    regDV P pre (st0 + done.length) done.length rest log k S → ∃ es', Shown P pre st0 (done ++ rest) es' S0 k
  | [], done, es, log, S, hl, hS, hlog, hlg, hout, hap, h => by
    refine ⟨es, ?_, ?_, ?_, ?_⟩
    · simpa using hl
    · simpa using hout
    · simpa using hap
    · simp only [List.append_nil]; rw [← hS]; exact h
  | i :: rest, done, es, log, S, hl, hS, hlog, hlg, hout, hap, h => by
    obtain ⟨e, h1, h2, h3⟩ := h
    have hz : (done.zip es).length = done.length := by simp [hl]
    have hzip : (done ++ [i]).zip (es ++ [e]) = done.zip es ++ [(i, e)] := by rw [List.zip_append hl.symm]; rfl
    have low : ∀ j, j ≤ done.length → foldS (fun m => decide (m < j)) 0 ((done ++ [i]).zip (es ++ [e])) S0 = foldS (fun m => decide (m < j)) 0 (done.zip es) S0 := by
      intro j hj
      rw [hzip, foldS_append, if_neg (by simp [hz]; exact hj)]
    have cur : foldS (fun m => decide (m < done.length)) 0 (done.zip es) S0 = S := by
      rw [hS]
      exact foldS_congr _ _ _ (fun m _ hm => by simp [hz] at hm; simp; exact hm)
    have key := shown_of P pre st0 S0 k rest (done ++ [i]) (es ++ [e]) (log ++ [(i, fpOf S.t i e)]) (S.app i.dst e) (by simp [hl]) ?_ (by simp [hlog]) ?_ ?_ ?_ ?_
    · simpa using key
    · rw [hzip, foldS_append]; simp; rw [← hS]
    · intro j i' e' hi he
      by_cases hj : j < done.length
      · rw [List.getElem?_append_left hj] at hi
        rw [List.getElem?_append_left (by omega)] at he
        rw [List.getElem?_append_left (by omega), low j (by omega)]
        exact hlg j i' e' hi he
      · have hjl : j = done.length := by
          have := (List.getElem?_eq_some_iff.1 hi).1
          simp at this; omega
        subst hjl
        rw [List.getElem?_append_right (Nat.le_refl _)] at hi
        rw [List.getElem?_append_right (by omega)] at he
        simp [hl] at hi he
        subst hi he
        rw [List.getElem?_append_right (by omega), hlog, low _ (Nat.le_refl _), cur]
        simp
    · intro j i' e' hi he
      by_cases hj : j < done.length
      · rw [List.getElem?_append_left hj] at hi
        rw [List.getElem?_append_left (by omega)] at he
        rw [low j (by omega)]
        exact hout j i' e' hi he
      · have hjl : j = done.length := by
          have := (List.getElem?_eq_some_iff.1 hi).1
          simp at this; omega
        subst hjl
        rw [List.getElem?_append_right (Nat.le_refl _)] at hi
        rw [List.getElem?_append_right (by omega)] at he
        simp [hl] at hi he
        subst hi he
        rw [low _ (Nat.le_refl _), cur]
        exact h1
    · intro a b p q e1 f hab hp hq he hf hpre
      have hb : b < done.length + 1 := by have := (List.getElem?_eq_some_iff.1 hq).1; simpa using this
      have ha : a < done.length := by omega
      rw [List.getElem?_append_left ha] at hp
      rw [List.getElem?_append_left (by omega)] at he
      rw [low a (by omega), low b (by omega)]
      by_cases hb' : b < done.length
      · rw [List.getElem?_append_left hb'] at hq
        rw [List.getElem?_append_left (by omega)] at hf
        exact hap a b p q e1 f hab hp hq he hf hpre
      · have hbl : b = done.length := by omega
        subst hbl
        rw [List.getElem?_append_right (Nat.le_refl _)] at hq
        rw [List.getElem?_append_right (by omega)] at hf
        simp [hl] at hq hf
        subst hq hf
        rw [cur]
        have hlga := hlg a p e1 hp he
        have hmem : ((p, fpOf (foldS (fun m => decide (m < a)) 0 (done.zip es) S0).t p e1), a) ∈ log.zipIdx := by
          rw [List.mem_zipIdx_iff_getElem?]; simpa using hlga
        have := List.all_eq_true.1 h2 _ hmem
        simp only [Bool.or_eq_true] at this
        rcases this with q' | q'
        · exact absurd (by simpa using q') hpre
        · exact apartI_spec q'
    · simpa [Nat.add_assoc] using h3

end Go.Gv

/- Regions that draw their order, and all code: what holds ahead of abstract code holds ahead of the model's. No condition beyond those that each law names. -/
set_option linter.unusedVariables false
set_option linter.unusedSimpArgs false
namespace Go.Gv
open Go.RowKit

/-! ### The commuting of a later one -/

theorem foldS_insert {D D' : Nat → Bool} (j : Nat) (a : AI) (e : Eff) (hD : D j = false) (hD' : D' j = true) (hne : ∀ k, k ≠ j → D' k = D k) : ∀ (l : List (AI × Eff)) (i : Nat) (S : St), i ≤ j → l[j - i]? = some (a, e) →
    (∀ (k : Nat) (p : AI × Eff), j < k → D k = true → l[k - i]? = some p → (∀ x, a.dst = some x → p.1.dst ≠ some x) ∧ disj (e.wb.map (·.1)) (p.2.wb.map (·.1)) = true ∧ disj (e.wt.map (·.1)) (p.2.wt.map (·.1)) = true) →
    (foldS D i l S).app a.dst e = foldS D' i l S
  | [], i, S, _, h, _ => by simp at h
  | p :: l, i, S, hij, h, hc => by
    by_cases e1 : i = j
    · subst e1
      rw [Nat.sub_self] at h
      simp at h
      subst h
      rw [foldS, foldS, hD, hD']
      simp only [if_true, Bool.false_eq_true, if_false]
      have later : ∀ (l : List (AI × Eff)) (m : Nat) (S : St), i < m → (∀ (k : Nat) (p : AI × Eff), m ≤ k → D k = true → l[k - m]? = some p → (∀ x, a.dst = some x → p.1.dst ≠ some x) ∧ disj (e.wb.map (·.1)) (p.2.wb.map (·.1)) = true ∧ disj (e.wt.map (·.1)) (p.2.wt.map (·.1)) = true) →
          (foldS D m l S).app a.dst e = foldS D' m l (S.app a.dst e) := by
        intro l
        induction l with
        | nil => intro m S _ _; rfl
        | cons q l ih =>
          intro m S hm hq
          rw [foldS, foldS, hne m (by omega), ih (m + 1) _ (by omega) (fun k p h1 h2 h3 => hq k p (by omega) h2 (by rw [show k - m = (k - (m + 1)) + 1 by omega]; simpa using h3))]
          cases hDm : D m with
          | false => rfl
          | true =>
            simp only [if_true]
            obtain ⟨c1, c2, c3⟩ := hq m q (Nat.le_refl _) hDm (by simp)
            rw [app_comm S a.dst q.1.dst e q.2 c1 c2 c3]
      exact later l (i + 1) S (by omega) (fun k p h1 h2 h3 => hc k p (by omega) h2 (by rw [show k - i = (k - (i + 1)) + 1 by omega]; simpa using h3))
    · rw [foldS, foldS, hne i e1]
      refine foldS_insert j a e hD hD' hne l (i + 1) _ (by omega) ?_ (fun k p h1 h2 h3 => hc k p h1 h2 (by rw [show k - i = (k - (i + 1)) + 1 by omega]; simpa using h3))
      rw [show j - i = (j - (i + 1)) + 1 by omega] at h
      simpa using h

/-- The edges lead back, and 'pre' holds no more than what they lead to. -/
def edgesOk (pre : List (List Nat)) : Nat → List Oper → Bool
  | _, [] => true
  | j, o :: l => (o.after.toList.all fun e => !Region.binds .any e || decide (e.on < j)) &&
      ((pre.getD j []).all fun p => o.after.toList.any fun e => Region.binds .any e && (e.on == p || (pre.getD e.on []).contains p)) && edgesOk pre (j + 1) l

theorem edgesOk_spec {pre : List (List Nat)} : ∀ (l : List Oper) (i : Nat), edgesOk pre i l = true → ∀ (j : Nat) (o : Oper), l[j]? = some o →
    (∀ e ∈ o.after, Region.binds .any e = true → e.on < i + j) ∧ ∀ p ∈ pre.getD (i + j) [], ∃ e ∈ o.after, Region.binds .any e = true ∧ (e.on = p ∨ p ∈ pre.getD e.on [])
  | [], i, _, j, o, ho => by simp at ho
  | o' :: l, i, h, j, o, ho => by
    simp only [edgesOk, Bool.and_eq_true] at h
    obtain ⟨⟨h1, h2⟩, h3⟩ := h
    cases j with
    | zero =>
      simp at ho
      subst ho
      refine ⟨fun e he hb => ?_, fun p hp => ?_⟩
      · have := List.all_eq_true.1 h1 e (by simpa using he)
        simpa [hb] using this
      · have := List.all_eq_true.1 h2 p hp
        simp only [List.any_eq_true, Bool.and_eq_true, Bool.or_eq_true, beq_iff_eq, List.contains_iff_mem] at this
        obtain ⟨e, he, hb, q⟩ := this
        exact ⟨e, by simpa using he, hb, q⟩
    | succ j =>
      have := edgesOk_spec l (i + 1) h3 j o (by simpa using ho)
      rwa [show i + 1 + j = i + (j + 1) by omega] at this

theorem cIs_get {P : Program} {n base : Nat} {hint : List (Nat × Nat)} {oa : Array Oper} : ∀ (l : List Oper) (ais : List AI), cIs P n base hint oa l = some ais → ais.length = l.length ∧ ∀ (j : Nat) (o : Oper) (ai : AI), l[j]? = some o → ais[j]? = some ai → cI P n base hint oa o = some ai
  | [], ais, h => by cases h; simp
  | o :: l, ais, h => by
    simp only [cIs, Option.bind_eq_some_iff, Option.map_eq_some_iff] at h
    obtain ⟨ai, h1, ais', h2, rfl⟩ := h
    obtain ⟨e1, e2⟩ := cIs_get l ais' h2
    refine ⟨by simp [e1], fun j o' ai' ho ha => ?_⟩
    cases j with
    | zero => simp at ho ha; subst ho ha; exact h1
    | succ j => exact e2 j o' ai' (by simpa using ho) (by simpa using ha)

section
variable {P : Program} {K0 : Gh} {B : Nat} {W : World} {n : Nat}

/-- One operation of an abstract step, done by the model. -/
theorem step_sound {E : Env} {S : St} {a : Act} {w : World} (C : Conc K0 E B W n S a w) (base : Nat) (hint : List (Nat × Nat)) (oa : Array Oper) (o : Oper) (i : Nat) (ho : oa[i]? = some o) (ai : AI) (hc : cI P n base hint oa o = some ai) (st : Nat) (hst : ¬ E.u st) (hst0 : K0.c0 ≤ st)
    (hu : ∀ s, E.u s → s < S.clk) (k : St → Prop) (h : stepV P st ai S k) (next : Act → World → Prop) (Q : Exit → Act → World → Prop)
    (hk : ∀ E' S' a' w', Conc K0 E' B W n S' a' w' → E.le E' → (∀ s, E'.u s → E.u s ∨ s = st ∨ (S.clk ≤ s ∧ s < S'.clk)) → S.clk ≤ S'.clk → k S' → next a' w') : wpOp P oa Q i next a w := by
  have hc' := hc
  simp only [cI] at hc'
  split at hc'
  · rename_i hd
    simp only [Option.bind_eq_some_iff, Option.map_eq_some_iff] at hc'
    obtain ⟨g, hg, op, hop, hai⟩ := hc'
    unfold stepV at h
    split at h
    · rename_i b hb
      have hgb : guardV S.t g = some b := by rw [← hai] at hb; exact hb
      have hw := guard_ok C oa o g hg b hgb
      unfold wpOp
      simp only [ho, hw]
      split at h
      · rename_i hbt
        rw [if_pos hbt]
        exact .inl (runV_sound C base hint oa o ai hc st hst hst0 hu k h next Q hk)
      · rename_i hbt
        rw [if_neg hbt]
        have hdst : ai.dst = o.dst := by rw [← hai]
        have hC : Conc K0 E B W n (S.put o.dst (.tup [])) (a.put o.dst undef) w := C.next (.refl E) o.dst hd undef (.tup []) (.tup [] #[] rfl (by simp)) _ w rfl (by cases o.dst <;> exact C.H) C.bel (fun _ _ _ => rfl) (fun s hs => .inl hs) (by cases o.dst <;> exact C.ck)
        rw [hdst] at h
        exact hk E _ _ w hC (.refl E) (fun s hs => .inl hs) (by cases o.dst <;> exact Nat.le_refl _) h
    · exact h.elim
  · cases hc'

theorem regV_sound (base : Nat) (hint : List (Nat × Nat)) (oa : Array Oper) (k : St → Prop) (Q : Exit → Act → World → Prop) (en : Nat)
    (hQ : ∀ E' S' a' w', Conc K0 E' B W n S' a' w' → (∀ s, E'.u s → s < S'.clk) → k S' → Q .normal a' w') :
    ∀ (rest : List AI) (i st : Nat) (E : Env) (S : St) (a : Act) (w : World), cIs P n base hint oa (oa.toList.drop i) = some rest → Conc K0 E B W n S a w → K0.c0 ≤ st → (∀ s, E.u s → (s < st ∨ en ≤ s) ∧ s < S.clk) → st + rest.length ≤ en → en ≤ S.clk →
      regV P st rest k S → wpOps P oa Q (List.range' i rest.length) a w
  | [], i, st, E, S, a, w, hc, C, h0, hu, h1, h2, h => hQ E S a w C (fun s hs => (hu s hs).2) h
  | ai :: rest, i, st, E, S, a, w, hc, C, h0, hu, h1, h2, h => by
    simp only [List.length_cons] at h1
    obtain ⟨e1, e2⟩ := cIs_get _ _ hc
    have hil : i < oa.size := by
      have e1' : rest.length + 1 = oa.size - i := by simpa using e1
      omega
    have ho : oa[i]? = some oa[i] := Array.getElem?_eq_getElem hil
    have hdrop : oa.toList.drop i = oa[i] :: oa.toList.drop (i + 1) := by
      rw [List.drop_eq_getElem_cons (by simpa using hil)]; simp
    rw [hdrop] at hc
    simp only [cIs, Option.bind_eq_some_iff, Option.map_eq_some_iff] at hc
    obtain ⟨ai', hai, rest', hrest, heq⟩ := hc
    cases heq
    rw [List.length_cons, List.range'_succ, wpOps_cons]
    refine step_sound C base hint oa oa[i] i ho ai hai st (fun q => by have := (hu st q); omega) h0 (fun s hs => (hu s hs).2) _ h _ Q ?_
    intro E' S' a' w' C' hE hu' hclk hk
    refine regV_sound base hint oa k Q en hQ rest (i + 1) (st + 1) E' S' a' w' hrest C' (by omega) ?_ (by omega) (by omega) hk
    intro s hs
    rcases hu' s hs with q | q | q
    · have := hu s q; omega
    · omega
    · omega

/-- Any order. -/
theorem any_sound (base : Nat) (hint : List (Nat × Nat)) (oa : Array Oper) (ais : List AI) (hc : cIs P n base hint oa oa.toList = some ais) (pre : List (List Nat)) (hpre : edgesOk pre 0 oa.toList = true) (st0 : Nat) (es : List Eff) (S0 : St) (k : St → Prop)
    (hS : Shown P pre st0 ais es S0 k) (hclk : S0.clk = st0 + ais.length) (hst0 : K0.c0 ≤ st0) (Q : Exit → Act → World → Prop)
    (hQ : ∀ E' S' a' w', Conc K0 E' B W n S' a' w' → (∀ s, E'.u s → s < S'.clk) → k S' → Q .normal a' w') :
    ∀ (fuel : Nat) (listed : Array Bool) (E : Env) (a : Act) (w : World), listed.size = oa.size → ((List.range oa.size).filter fun i => !listed.getD i false).length ≤ fuel →
      (∀ i, listed.getD i false = true → ∀ p ∈ pre.getD i [], listed.getD p false = true) → Conc K0 E B W n (foldS (fun i => listed.getD i false) 0 (ais.zip es) S0) a w →
      (∀ s, E.u s → s < st0 ∨ ∃ i, i < oa.size ∧ listed.getD i false = true ∧ s = st0 + i) → wpAny P .any oa Q fuel listed a w := by
  obtain ⟨el0, eget⟩ := cIs_get _ _ hc
  have el : ais.length = oa.size := by simpa using el0
  have hall : ∀ (listed : Array Bool) (E : Env) (a : Act) (w : World), listed.size = oa.size → (∀ i, i < oa.size → listed.getD i false = true) → Conc K0 E B W n (foldS (fun i => listed.getD i false) 0 (ais.zip es) S0) a w →
      (∀ s, E.u s → s < st0 ∨ ∃ i, i < oa.size ∧ listed.getD i false = true ∧ s = st0 + i) → Region.ready .any oa listed = [] ∧ Q .normal a w := by
    intro listed E a w hls hl C hu
    refine ⟨?_, ?_⟩
    · apply List.eq_nil_iff_forall_not_mem.2
      intro j hj
      obtain ⟨h1, o, h2, _⟩ := mem_ready.1 hj
      have hjl : j < oa.size := (Array.getElem?_eq_some_iff.1 h2).1
      have := hl j hjl
      have hjs : j < listed.size := by omega
      simp [hjs] at h1 this
      rw [h1] at this; cases this
    · have hf : foldS (fun i => listed.getD i false) 0 (ais.zip es) S0 = foldS (fun _ => true) 0 (ais.zip es) S0 := foldS_congr _ _ _ (fun i _ hi => hl i (by simp at hi; omega))
      rw [hf] at C
      refine hQ E _ a w C (fun s hs => ?_) hS.fin
      rw [foldS_clk, hclk]
      rcases hu s hs with q | ⟨i, h1, _, h3⟩ <;> omega
  intro fuel
  induction fuel with
  | zero =>
    intro listed E a w hls hf hcl C hu
    have hl : ∀ i, i < oa.size → listed.getD i false = true := by
      intro i hi
      cases hx : listed.getD i false with
      | true => rfl
      | false =>
        have : i ∈ (List.range oa.size).filter fun i => !listed.getD i false := by simp [hi]; simpa using hx
        have h0 := List.eq_nil_of_length_eq_zero (Nat.le_zero.1 hf)
        rw [h0] at this; cases this
    exact hall listed E a w hls hl C hu
  | succ fuel ih =>
    intro listed E a w hls hf hcl C hu
    have dflt : ∀ j, j < oa.size → listed.getD j true = listed.getD j false := by
      intro j hj
      have : j < listed.size := by omega
      simp [this]
    refine ⟨fun hr => ?_, fun j hj => ?_⟩
    · -- nothing is left
      refine (hall listed E a w hls ?_ C hu).2
      intro i
      induction i using Nat.strongRecOn with
      | _ i ihi =>
        intro hi
        cases hx : listed.getD i false with
        | true => rfl
        | false =>
          have ho : oa[i]? = some oa[i] := Array.getElem?_eq_getElem hi
          have hsp := edgesOk_spec _ 0 hpre i oa[i] (by simp)
          have hmem : i ∈ Region.ready .any oa listed := mem_ready.2 ⟨by rw [dflt i hi]; exact hx, oa[i], ho, fun e he hb => ihi e.on (by have := hsp.1 e he hb; omega) (by have := hsp.1 e he hb; omega)⟩
          rw [hr] at hmem; cases hmem
    · -- one comes up
      obtain ⟨hj0, o, ho, hpr⟩ := mem_ready.1 hj
      have hjl : j < oa.size := (Array.getElem?_eq_some_iff.1 ho).1
      have hjf : listed.getD j false = false := by rw [← dflt j hjl]; exact hj0
      have hsp := edgesOk_spec _ 0 hpre j o (by simpa using ho)
      simp only [Nat.zero_add] at hsp
      have hpreD : ∀ p ∈ pre.getD j [], listed.getD p false = true := by
        intro p hp
        obtain ⟨e, he, hb, q⟩ := hsp.2 p hp
        have hl := hpr e he hb
        rcases q with q | q
        · rw [← q]; exact hl
        · exact hcl e.on hl p q
      obtain ⟨ai, hai⟩ : ∃ ai, ais[j]? = some ai := ⟨_, List.getElem?_eq_getElem (by omega)⟩
      obtain ⟨e, he⟩ : ∃ e, es[j]? = some e := ⟨_, List.getElem?_eq_getElem (by rw [hS.len]; omega)⟩
      have hcI := eget j o ai (by simpa using ho) hai
      have hout := hS.out j ai e hai he
      -- in this state it comes to the same
      have getz : ∀ (m : Nat) (p : AI × Eff), (ais.zip es)[m]? = some p → ais[m]? = some p.1 ∧ es[m]? = some p.2 := by
        intro m p hp
        rw [List.getElem?_zip_eq_some] at hp
        exact hp
      have apartAt : ∀ (m : Nat) (p : AI × Eff), (ais.zip es)[m]? = some p → m ≠ j → (listed.getD m false ≠ decide (m < j)) →
          Apart p.1 ai (fpOf (foldS (fun i => decide (i < m)) 0 (ais.zip es) S0).t p.1 p.2) (fpOf (foldS (fun i => decide (i < j)) 0 (ais.zip es) S0).t ai e) ∨
          Apart ai p.1 (fpOf (foldS (fun i => decide (i < j)) 0 (ais.zip es) S0).t ai e) (fpOf (foldS (fun i => decide (i < m)) 0 (ais.zip es) S0).t p.1 p.2) := by
        intro m p hp hne hdiff
        obtain ⟨g1, g2⟩ := getz m p hp
        rcases Nat.lt_or_gt_of_ne hne with hlt | hgt
        · refine .inl (hS.apart m j p.1 ai p.2 e hlt g1 hai g2 he (fun q => ?_))
          rw [hpreD m q] at hdiff
          simp [hlt] at hdiff
        · refine .inr (hS.apart j m ai p.1 e p.2 hgt hai g1 he g2 (fun q => ?_))
          have hm : listed.getD m false = true := by
            cases hx : listed.getD m false with
            | true => rfl
            | false => rw [hx] at hdiff; simp at hdiff; omega
          have := hcl m hm j q
          rw [hjf] at this; cases this
      have hout' : Out P (foldS (fun i => listed.getD i false) 0 (ais.zip es) S0) (st0 + j) ai e := by
        refine hout.congr ?_ ?_ ?_
        · intro x hx
          refine agree_t x _ 0 _ _ rfl (fun m p hp hd => ?_)
          simp only [Nat.zero_add]
          by_cases hm : m = j
          · subst hm; rw [hjf]; simp
          · cases hq : decide (decide (m < j) = listed.getD m false) with
            | true => simpa using hq
            | false =>
              have hne : listed.getD m false ≠ decide (m < j) := by simp only [decide_eq_false_iff_not] at hq; exact fun q => hq q.symm
              rcases apartAt m p hp hm hne with q | q
              · exact absurd hx (q.s1 x hd)
              · exact absurd hx (q.s3 x hd)
        · intro x hx
          refine agree_b x _ 0 _ _ rfl (fun m p hp hd => ?_)
          simp only [Nat.zero_add]
          by_cases hm : m = j
          · subst hm; rw [hjf]; simp
          · cases hq : decide (decide (m < j) = listed.getD m false) with
            | true => simpa using hq
            | false =>
              have hne : listed.getD m false ≠ decide (m < j) := by simp only [decide_eq_false_iff_not] at hq; exact fun q => hq q.symm
              rcases apartAt m p hp hm hne with q | q
              · exact absurd hx (disj_mem q.b1 hd)
              · exact absurd hd (disj_mem q.b3 hx)
        · intro x hx
          refine agree_k x _ 0 _ _ rfl (fun m p hp hd => ?_)
          simp only [Nat.zero_add]
          by_cases hm : m = j
          · subst hm; rw [hjf]; simp
          · cases hq : decide (decide (m < j) = listed.getD m false) with
            | true => simpa using hq
            | false =>
              have hne : listed.getD m false ≠ decide (m < j) := by simp only [decide_eq_false_iff_not] at hq; exact fun q => hq q.symm
              rcases apartAt m p hp hm hne with q | q
              · exact absurd hx (disj_mem q.t1 hd)
              · exact absurd hd (disj_mem q.t3 hx)
      have hclkT : (foldS (fun i => listed.getD i false) 0 (ais.zip es) S0).clk = st0 + ais.length := by rw [foldS_clk, hclk]
      have hstep : stepV P (st0 + j) ai (foldS (fun i => listed.getD i false) 0 (ais.zip es) S0) (fun S' => S' = (foldS (fun i => listed.getD i false) 0 (ais.zip es) S0).app ai.dst e) := by
        unfold Out at hout'
        unfold stepV
        split at hout'
        · rename_i b hb
          simp only [hb]
          split at hout'
          · rename_i hbt
            rw [if_pos hbt]
            unfold runV
            cases hk : ai.k with
            | op ao => rw [hk] at hout'; simp only at hout' ⊢; rw [hout']
            | nq kd neg x => rw [hk] at hout'; simp only at hout' ⊢; rw [hout']
            | call fx l =>
              rw [hk] at hout'
              simp only at hout' ⊢
              refine (hout' _ (fun _ _ => rfl)).weaken ?_
              rintro r S' ⟨rfl, rfl⟩
              cases ai.dst <;> rfl
          · rename_i hbt
            rw [if_neg hbt, hout']
            cases ai.dst <;> rfl
        · exact hout'.elim
      refine step_sound C base hint oa o j ho ai hcI (st0 + j) (fun q => ?_) (Nat.le_trans hst0 (Nat.le_add_right _ _)) (fun s hs => ?_) _ hstep _ Q ?_
      · rcases hu _ q with q' | ⟨i, h1, h2, h3⟩
        · omega
        · have : i = j := by omega
          subst this; rw [hjf] at h2; cases h2
      · rw [hclkT]
        rcases hu s hs with q' | ⟨i, h1, h2, h3⟩ <;> omega
      · intro E' S' a' w' C' hE hu' hclk' hS'
        have hset : ∀ i, (listed.setIfInBounds j true).getD i false = if i = j then true else listed.getD i false := by
          intro i
          simp only [Array.getD_eq_getD_getElem?, Array.getElem?_setIfInBounds]
          by_cases q : i = j
          · subst q; simp [hls, hjl]
          · rw [if_neg (fun r => q r.symm), if_neg q]
        refine ih (listed.setIfInBounds j true) E' a' w' (by simpa using hls) ?_ ?_ ?_ ?_
        · have hlt : ((List.range oa.size).filter fun i => !(listed.setIfInBounds j true).getD i false).length < ((List.range oa.size).filter fun i => !listed.getD i false).length := by
            have e1 : ((List.range oa.size).filter fun i => !(listed.setIfInBounds j true).getD i false) = ((List.range oa.size).filter fun i => !listed.getD i false).filter fun i => decide (i ≠ j) := by
              rw [List.filter_filter]
              apply List.filter_congr
              intro i _
              rw [hset]
              by_cases q : i = j <;> simp [q]
            rw [e1]
            refine List.length_filter_lt_length_iff_exists.2 ⟨j, ?_, by simp⟩
            exact List.mem_filter.2 ⟨List.mem_range.2 hjl, by simp only [hjf]; rfl⟩
          omega
        · intro i hi p hp
          rw [hset] at hi ⊢
          by_cases q : p = j
          · rw [if_pos q]
          · rw [if_neg q]
            by_cases q' : i = j
            · subst q'; exact hpreD p hp
            · rw [if_neg q'] at hi; exact hcl i hi p hp
        · have hins : (foldS (fun i => listed.getD i false) 0 (ais.zip es) S0).app ai.dst e = foldS (fun i => (listed.setIfInBounds j true).getD i false) 0 (ais.zip es) S0 := by
            refine foldS_insert j ai e hjf (by rw [hset, if_pos rfl]) (fun i hi => by rw [hset, if_neg hi]) _ 0 S0 (Nat.zero_le _) ?_ ?_
            · rw [Nat.sub_zero, List.getElem?_zip_eq_some]; exact ⟨hai, he⟩
            · intro m p hm hD hp
              rw [Nat.sub_zero] at hp
              have hne : listed.getD m false ≠ decide (m < j) := by rw [hD]; simp; omega
              obtain ⟨g1, g2⟩ := getz m p hp
              have hapm := hS.apart j m ai p.1 e p.2 hm hai g1 he g2 (fun q => by have := hcl m hD j q; rw [hjf] at this; cases this)
              exact ⟨hapm.s2, hapm.b2, hapm.t2⟩
          rw [← hins, ← hS']
          exact C'
        · intro s hs
          rcases hu' s hs with q | q | q
          · rcases hu s q with q' | ⟨i, h1, h2, h3⟩
            · exact .inl q'
            · exact .inr ⟨i, h1, by rw [hset]; split <;> simp_all, h3⟩
          · exact .inr ⟨j, hjl, by rw [hset, if_pos rfl], q⟩
          · rw [hS'] at q
            have : ((foldS (fun i => listed.getD i false) 0 (ais.zip es) S0).app ai.dst e).clk = (foldS (fun i => listed.getD i false) 0 (ais.zip es) S0).clk := rfl
            omega

/-- A region that draws its order, by what holds when these are done. -/
def regI (P : Program) (pre : List (List Nat)) (st : Nat) (ops : List AI) (k : St → Prop) (S : St) : Prop :=
  ∃ I : (Nat → Bool) → St → Prop, I (fun _ => false) S ∧
    (∀ (D : Nat → Bool) (S' : St) (j : Nat) (ai : AI), ops[j]? = some ai → D j = false → (∀ p ∈ pre.getD j [], D p = true) → (∀ i, D i = true → ∀ p ∈ pre.getD i [], D p = true) → I D S' → stepV P (st + j) ai S' (I (fun i => (i == j) || D i))) ∧
    (∀ (D : Nat → Bool) (S' : St), (∀ j, j < ops.length → D j = true) → I D S' → k S')

theorem anyI_sound (base : Nat) (hint : List (Nat × Nat)) (oa : Array Oper) (ais : List AI) (hc : cIs P n base hint oa oa.toList = some ais) (pre : List (List Nat)) (hpre : edgesOk pre 0 oa.toList = true) (st0 : Nat) (k : St → Prop) (I : (Nat → Bool) → St → Prop)
    (hs : ∀ (D : Nat → Bool) (S' : St) (j : Nat) (ai : AI), ais[j]? = some ai → D j = false → (∀ p ∈ pre.getD j [], D p = true) → (∀ i, D i = true → ∀ p ∈ pre.getD i [], D p = true) → I D S' → stepV P (st0 + j) ai S' (I (fun i => (i == j) || D i)))
    (hfin : ∀ (D : Nat → Bool) (S' : St), (∀ j, j < ais.length → D j = true) → I D S' → k S') (hst0 : K0.c0 ≤ st0) (Q : Exit → Act → World → Prop)
    (hQ : ∀ E' S' a' w', Conc K0 E' B W n S' a' w' → (∀ s, E'.u s → s < S'.clk) → k S' → Q .normal a' w') :
    ∀ (fuel : Nat) (listed : Array Bool) (E : Env) (S : St) (a : Act) (w : World), listed.size = oa.size → ((List.range oa.size).filter fun i => !listed.getD i false).length ≤ fuel →
      (∀ i, listed.getD i false = true → ∀ p ∈ pre.getD i [], listed.getD p false = true) → Conc K0 E B W n S a w → I (fun i => listed.getD i false) S →
      (∀ s, E.u s → s < S.clk ∧ (s < st0 ∨ st0 + oa.size ≤ s ∨ ∃ i, i < oa.size ∧ listed.getD i false = true ∧ s = st0 + i)) → st0 + oa.size ≤ S.clk → wpAny P .any oa Q fuel listed a w := by
  obtain ⟨el0, eget⟩ := cIs_get _ _ hc
  have el : ais.length = oa.size := by simpa using el0
  have hall : ∀ (listed : Array Bool) (E : Env) (S : St) (a : Act) (w : World), listed.size = oa.size → (∀ i, i < oa.size → listed.getD i false = true) → Conc K0 E B W n S a w → I (fun i => listed.getD i false) S →
      (∀ s, E.u s → s < S.clk) → Region.ready .any oa listed = [] ∧ Q .normal a w := by
    intro listed E S a w hls hl C hI hu
    refine ⟨?_, ?_⟩
    · apply List.eq_nil_iff_forall_not_mem.2
      intro j hj
      obtain ⟨h1, o, h2, _⟩ := mem_ready.1 hj
      have hjl : j < oa.size := (Array.getElem?_eq_some_iff.1 h2).1
      have := hl j hjl
      have hjs : j < listed.size := by omega
      simp [hjs] at h1 this
      rw [h1] at this; cases this
    · exact hQ E S a w C hu (hfin _ S (fun j hj => hl j (by omega)) hI)
  intro fuel
  induction fuel with
  | zero =>
    intro listed E S a w hls hf hcl C hI hu hk
    have hl : ∀ i, i < oa.size → listed.getD i false = true := by
      intro i hi
      cases hx : listed.getD i false with
      | true => rfl
      | false =>
        have : i ∈ (List.range oa.size).filter fun i => !listed.getD i false := by simp [hi]; simpa using hx
        have h0 := List.eq_nil_of_length_eq_zero (Nat.le_zero.1 hf)
        rw [h0] at this; cases this
    exact hall listed E S a w hls hl C hI (fun s q => (hu s q).1)
  | succ fuel ih =>
    intro listed E S a w hls hf hcl C hI hu hk
    have dflt : ∀ j, j < oa.size → listed.getD j true = listed.getD j false := by
      intro j hj
      have : j < listed.size := by omega
      simp [this]
    refine ⟨fun hr => ?_, fun j hj => ?_⟩
    · refine (hall listed E S a w hls ?_ C hI (fun s q => (hu s q).1)).2
      intro i
      induction i using Nat.strongRecOn with
      | _ i ihi =>
        intro hi
        cases hx : listed.getD i false with
        | true => rfl
        | false =>
          have ho : oa[i]? = some oa[i] := Array.getElem?_eq_getElem hi
          have hsp := edgesOk_spec _ 0 hpre i oa[i] (by simp)
          have hmem : i ∈ Region.ready .any oa listed := mem_ready.2 ⟨by rw [dflt i hi]; exact hx, oa[i], ho, fun e he hb => ihi e.on (by have := hsp.1 e he hb; omega) (by have := hsp.1 e he hb; omega)⟩
          rw [hr] at hmem; cases hmem
    · obtain ⟨hj0, o, ho, hpr⟩ := mem_ready.1 hj
      have hjl : j < oa.size := (Array.getElem?_eq_some_iff.1 ho).1
      have hjf : listed.getD j false = false := by rw [← dflt j hjl]; exact hj0
      have hsp := edgesOk_spec _ 0 hpre j o (by simpa using ho)
      simp only [Nat.zero_add] at hsp
      have hpreD : ∀ p ∈ pre.getD j [], listed.getD p false = true := by
        intro p hp
        obtain ⟨e, he, hb, q⟩ := hsp.2 p hp
        have hl := hpr e he hb
        rcases q with q | q
        · rw [← q]; exact hl
        · exact hcl e.on hl p q
      obtain ⟨ai, hai⟩ : ∃ ai, ais[j]? = some ai := ⟨_, List.getElem?_eq_getElem (by omega)⟩
      have hcI := eget j o ai (by simpa using ho) hai
      have hstep := hs (fun i => listed.getD i false) S j ai hai hjf hpreD hcl hI
      refine step_sound C base hint oa o j ho ai hcI (st0 + j) (fun q => ?_) (Nat.le_trans hst0 (Nat.le_add_right _ _)) (fun s hs => (hu s hs).1) _ hstep _ Q ?_
      · rcases (hu _ q).2 with q' | q' | ⟨i, h1, h2, h3⟩
        · omega
        · omega
        · have : i = j := by omega
          subst this; rw [hjf] at h2; cases h2
      · intro E' S' a' w' C' hE hu' hclk' hS'
        have hset : ∀ i, (listed.setIfInBounds j true).getD i false = ((i == j) || listed.getD i false) := by
          intro i
          simp only [Array.getD_eq_getD_getElem?, Array.getElem?_setIfInBounds]
          by_cases q : i = j
          · subst q; simp [hls, hjl]
          · rw [if_neg (fun r => q r.symm)]; simp [q]
        have hsetT : ∀ i, listed.getD i false = true → (listed.setIfInBounds j true).getD i false = true := by
          intro i hi; rw [hset, hi]; simp
        refine ih (listed.setIfInBounds j true) E' S' a' w' (by simpa using hls) ?_ ?_ C' ?_ ?_ (by omega)
        · have hlt : ((List.range oa.size).filter fun i => !(listed.setIfInBounds j true).getD i false).length < ((List.range oa.size).filter fun i => !listed.getD i false).length := by
            have e1 : ((List.range oa.size).filter fun i => !(listed.setIfInBounds j true).getD i false) = ((List.range oa.size).filter fun i => !listed.getD i false).filter fun i => decide (i ≠ j) := by
              rw [List.filter_filter]
              apply List.filter_congr
              intro i _
              rw [hset]
              by_cases q : i = j <;> simp [q]
            rw [e1]
            refine List.length_filter_lt_length_iff_exists.2 ⟨j, ?_, by simp⟩
            exact List.mem_filter.2 ⟨List.mem_range.2 hjl, by simp only [hjf]; rfl⟩
          omega
        · intro i hi p hp
          rw [hset] at hi
          by_cases q' : i = j
          · subst q'; exact hsetT p (hpreD p hp)
          · refine hsetT p (hcl i ?_ p hp)
            simpa [q'] using hi
        · rw [show (fun i => (listed.setIfInBounds j true).getD i false) = (fun i => (i == j) || listed.getD i false) from funext hset]
          exact hS'
        · intro s hs
          rcases hu' s hs with q | q | q
          · obtain ⟨h0, q⟩ := hu s q
            refine ⟨by omega, ?_⟩
            rcases q with q' | q' | ⟨i, h1, h2, h3⟩
            · exact .inl q'
            · exact .inr (.inl q')
            · exact .inr (.inr ⟨i, h1, hsetT i h2, h3⟩)
          · refine ⟨by omega, .inr (.inr ⟨j, hjl, by rw [hset]; simp, q⟩)⟩
          · exact ⟨q.2, .inr (.inl (by omega))⟩

end
end Go.Gv
