/- Abstract code, what must hold ahead of it, and that this carries over to the model's code: regions in one order. No condition beyond those that each law names. -/
import Derived.Test.YthhgjncefjnogaaGv11
set_option linter.unusedVariables false
set_option linter.unusedSimpArgs false
namespace Go.Gv
open Go.RowKit

def nameOf (hint : List (Nat × Nat)) : Option Nat → Nat
  | none => 0
  | some d => (hint.lookup d).getD d

def cGuard (n : Nat) (ops : Array Oper) : Option (Nat × Bool) → Option (Option (Nat × Bool))
  | none => some none
  | some (j, b) => match (ops[j]?).bind (·.dst) with
    | some d => if d < n then some (some (d, b)) else none
    | none => none

def cDst (n : Nat) : Option Nat → Bool
  | none => true
  | some d => decide (d < n)

/-- A call by a function value. -/
def calleeOf : Op → Option (Operand × List Operand)
  | .call c => match c.callee with
    | .value f => some (f, c.args.toList)
    | _ => none
  | _ => none

def cK (P : Program) (n nm : Nat) (op : Op) : Option AK :=
  match calleeOf op with
  | some p => (cX n p.1).bind fun f => (cXs n p.2).map fun l => .call f l
  | none => match nilCmp P n op with
    | some q => some (.nq q.1 q.2.1 q.2.2)
    | none => some (.op ((cOp P n nm op).getD .bad))

def cI (P : Program) (n base : Nat) (hint : List (Nat × Nat)) (ops : Array Oper) (o : Oper) : Option AI :=
  if cDst n o.dst = true then (cGuard n ops o.guard).bind fun g => (cK P n (base + nameOf hint o.dst) o.op).map fun op => ⟨o.dst, g, op⟩ else none

def cIs (P : Program) (n base : Nat) (hint : List (Nat × Nat)) (ops : Array Oper) : List Oper → Option (List AI)
  | [] => some []
  | o :: l => (cI P n base hint ops o).bind fun i => (cIs P n base hint ops l).map fun l => i :: l

def St.put (S : St) (d : Option Nat) (v : AV) : St :=
  match d with
  | some d => { S with t := upd S.t d v }
  | none => S
def St.app (S : St) (d : Option Nat) (e : Eff) : St := { t := (S.put d e.v).t, blk := appB S.blk e.wb, tok := appT S.tok e.wt, clk := S.clk }

def guardV (t : Nat → AV) : Option (Nat × Bool) → Option Bool
  | none => some true
  | some (i, b) => match t i with
    | .bool x => some (x == b)
    | .tup _ => some false
    | _ => none

def enters (P : Program) (f : FuncId) : Prop := ∃ fn, P.funcs[f]? = some fn ∧ fn.body.isSome = true ∧ fn.name ≠ "runtime.NumGoroutine"

/-- A call comes back with a value and a state of which k holds. -/
def CallP (P : Program) (fv : AV) (vals : List AV) (S : St) (k : AV → St → Prop) : Prop :=
  ∃ f caps, fv = .fn f caps ∧ enters P f ∧ ∀ (E : Env) (B : Nat) (W w : World) (args : Array Value), HConc E B S.h w → Below B W w → B ≤ W.heap.size → (∀ s, E.u s → s < S.clk) →
    args.size = (vals ++ caps).length → (∀ (j : Nat) (y : AV) (u : Value), (vals ++ caps)[j]? = some y → args[j]? = some u → Rel E y u) →
    Calls P f args w fun e w' => ∃ v E' r S', e = .returned v ∧ E.le E' ∧ HConc E' B S'.h w' ∧ Below B W w' ∧ (∀ b o, b < B → E'.K b o = E.K b o) ∧
      (∀ s, E'.u s → (E.u s ∨ S.clk ≤ s) ∧ s < S'.clk) ∧ S.clk ≤ S'.clk ∧ S'.t = S.t ∧ Rel E' r v ∧ k r S'

def runV (P : Program) (st : Nat) (ai : AI) (S : St) (k : St → Prop) : Prop :=
  match ai.k with
  | .call f args => CallP P (f.ev S.t) (args.map fun x => x.ev S.t) S fun r S' => k (S'.put ai.dst r)
  | .op op => match ex S.t S.blk S.tok st op with
    | some e => k (S.app ai.dst e)
    | none => False
  | .nq kd neg x => match ex S.t S.blk S.tok st (.nilq kd neg x) with
    | some e => k (S.app ai.dst e)
    | none => undB S.t (.nilq kd neg x) = true ∧ ∀ b : Bool, k (S.app ai.dst { v := .bool b })

def stepV (P : Program) (st : Nat) (ai : AI) (S : St) (k : St → Prop) : Prop :=
  match guardV S.t ai.g with
  | some b => if b = true then runV P st ai S k else k (S.put ai.dst (.tup []))
  | none => False

def regV (P : Program) : Nat → List AI → (St → Prop) → St → Prop
  | _, [], k, S => k S
  | st, i :: l, k, S => stepV P st i S fun S' => regV P (st + 1) l k S'

/-- What is known at the start: cells, the environment, the clock. -/
structure Gh where
  K : Nat → Nat → Option Value
  E0 : Env
  c0 : Nat

structure Conc (K0 : Gh) (E : Env) (B : Nat) (W : World) (n : Nat) (S : St) (a : Act) (w : World) : Prop where
  H : HConc E B S.h w
  bel : Below B W w
  le : B ≤ W.heap.size
  df : a.defers = []
  sz : a.tmps.size = n
  tm : ∀ t, t < n → Rel E (S.t t) (a.tmps.getD t undef)
  kb : ∀ b o, b < B → E.K b o = K0.K b o
  le0 : K0.E0.le E
  u0 : ∀ s, E.u s → K0.E0.u s ∨ K0.c0 ≤ s
  ck : K0.c0 ≤ S.clk

/-- Less is known, or told in another way; nothing is done. -/
def Wk (S S' : St) : Prop :=
  S.clk ≤ S'.clk ∧ ∀ (E : Env) (B : Nat) (w : World), HConc E B S.h w → (∀ s, E.u s → s < S.clk) →
    ∃ E', E.le E' ∧ HConc E' B S'.h w ∧ (∀ b o, b < B → E'.K b o = E.K b o) ∧ (∀ s, E'.u s → E.u s) ∧ ∀ (t : Nat) (v : Value), Rel E (S.t t) v → Rel E' (S'.t t) v
theorem Wk.refl (S : St) : Wk S S := ⟨Nat.le_refl _, fun E B w H hu => ⟨E, .refl E, H, fun _ _ _ => rfl, fun _ h => h, fun _ _ h => h⟩⟩
theorem Wk.trans {S S' S'' : St} (h : Wk S S') (k : Wk S' S'') : Wk S S'' := by
  refine ⟨Nat.le_trans h.1 k.1, fun E B w H hu => ?_⟩
  obtain ⟨E', a1, a2, a3, a4, a5⟩ := h.2 E B w H hu
  obtain ⟨E'', b1, b2, b3, b4, b5⟩ := k.2 E' B w a2 (fun s hs => Nat.lt_of_lt_of_le (hu s (a4 s hs)) h.1)
  exact ⟨E'', a1.trans b1, b2, fun b o hb => (b3 b o hb).trans (a3 b o hb), fun s hs => a4 s (b4 s hs), fun t v hv => b5 t v (a5 t v hv)⟩

section
variable {P : Program} {K0 : Gh} {E : Env} {B : Nat} {W : World} {n : Nat} {S : St} {a : Act} {w : World}

theorem Conc.wk {S' : St} (C : Conc K0 E B W n S a w) (hu : ∀ s, E.u s → s < S.clk) (h : Wk S S') : ∃ E', Conc K0 E' B W n S' a w ∧ ∀ s, E'.u s → s < S'.clk := by
  obtain ⟨E', a1, a2, a3, a4, a5⟩ := h.2 E B w C.H hu
  exact ⟨E', ⟨a2, C.bel, C.le, C.df, C.sz, fun t ht => a5 t _ (C.tm t ht), fun b o hb => (a3 b o hb).trans (C.kb b o hb), C.le0.trans a1, fun s hs => C.u0 s (a4 s hs), Nat.le_trans C.ck h.1⟩,
    fun s hs => Nat.lt_of_lt_of_le (hu s (a4 s hs)) h.1⟩

theorem put_get (a : Act) (n : Nat) (hsz : a.tmps.size = n) (d : Option Nat) (hd : cDst n d = true) (v : Value) (t : Nat) (ht : t < n) :
    (a.put d v).tmps.size = n ∧ (a.put d v).defers = a.defers ∧ (a.put d v).tmps.getD t undef = if d = some t then v else a.tmps.getD t undef := by
  cases d with
  | none => exact ⟨hsz, rfl, by simp [Act.put]⟩
  | some d =>
    simp only [cDst, decide_eq_true_iff] at hd
    refine ⟨by simpa [Act.put] using hsz, rfl, ?_⟩
    simp only [Act.put, Array.getD_eq_getD_getElem?, Array.getElem?_setIfInBounds]
    by_cases e : d = t
    · subst e; simp [hsz, hd]
    · simp [e]

theorem St.put_t (S : St) (d : Option Nat) (v : AV) (t : Nat) : (S.put d v).t t = if d = some t then v else S.t t := by
  cases d with
  | none => simp [St.put]
  | some d =>
    simp only [St.put, upd, Option.some.injEq]
    by_cases e : t = d
    · simp [e]
    · rw [if_neg e, if_neg (fun q => e q.symm)]

/-- An operation's outcome. -/
theorem Conc.next {E' : Env} (C : Conc K0 E B W n S a w) (hE : E.le E') (d : Option Nat) (hd : cDst n d = true) (v : Value) (r : AV) (hr : Rel E' r v) (S' : St) (w' : World) (ht : S'.t = (S.put d r).t) (H : HConc E' B S'.h w') (hW : Below B W w')
    (hkb : ∀ b o, b < B → E'.K b o = E.K b o) (hu0 : ∀ s, E'.u s → E.u s ∨ K0.c0 ≤ s) (hc0 : K0.c0 ≤ S'.clk) : Conc K0 E' B W n S' (a.put d v) w' := by
  refine ⟨H, hW, C.le, ?_, ?_, ?_, fun b o hb => (hkb b o hb).trans (C.kb b o hb), C.le0.trans hE, fun s hs => (hu0 s hs).elim (C.u0 s) .inr, hc0⟩
  · rw [← C.df]; cases d <;> rfl
  · rw [← C.sz]; cases d <;> simp [Act.put]
  · intro t htn
    rw [ht, (put_get a n C.sz d hd v t htn).2.2, St.put_t]
    by_cases e : d = some t
    · rw [if_pos e, if_pos e]; exact hr
    · rw [if_neg e, if_neg e]; exact (C.tm t htn).mono hE

theorem guard_ok (C : Conc K0 E B W n S a w) (ops : Array Oper) (o : Oper) (g : Option (Nat × Bool)) (hg : cGuard n ops o.guard = some g) (b : Bool) (hb : guardV S.t g = some b) : Region.wanted o (yielded ops a.tmps) = b := by
  cases hq : o.guard with
  | none => rw [hq] at hg; cases hg; cases hb; simp [Region.wanted, hq]
  | some p =>
    obtain ⟨j, want⟩ := p
    rw [hq] at hg
    simp only [cGuard] at hg
    split at hg
    · rename_i d hd
      split at hg
      · rename_i hdn; cases hg
        have hr := C.tm d hdn
        have ht : a.tmps[d]? = some (a.tmps.getD d undef) := by simp [C.sz, hdn]
        simp only [guardV] at hb
        split at hb
        · rename_i x hx; cases hb
          rw [hx] at hr
          have := hr.bool_inv
          simp [Region.wanted, hq, yielded, hd, ht, this]
        · rename_i vs hx; cases hb
          rw [hx] at hr
          generalize a.tmps.getD d undef = u at hr ht
          cases hr with
          | tup _ us _ _ => simp [Region.wanted, hq, yielded, hd, ht]
        · cases hb
      · cases hg
    · cases hg

theorem callFunc_run (P : Program) (f : FuncId) (args : Array Value) (w : World) (h : enters P f) : (callFunc f args).run P w = .ok (.enter f args) w := by
  obtain ⟨fn, h1, h2, h3⟩ := h
  have h2' : fn.body.isNone = false := by cases hb : fn.body <;> simp_all
  have h3' : (fn.name == "runtime.NumGoroutine") = false := by simpa using h3
  simp only [callFunc, Sem.run_bind, run_program, Result.andThen_ok, h1, h3', h2', Bool.false_eq_true, if_false, Sem.run_pure]

theorem callee_op {op : Op} {p : Operand × List Operand} (h : calleeOf op = some p) : ∃ c, op = .call c ∧ c.callee = .value p.1 ∧ c.args.toList = p.2 := by
  cases op <;> simp only [calleeOf] at h <;> (try (cases h; done))
  rename_i c
  split at h
  · rename_i f hf; cases h; exact ⟨c, rfl, hf, rfl⟩
  · cases h

theorem runV_sound (C : Conc K0 E B W n S a w) (base : Nat) (hint : List (Nat × Nat)) (ops : Array Oper) (o : Oper) (ai : AI) (hc : cI P n base hint ops o = some ai) (st : Nat) (hst : ¬ E.u st) (hst0 : K0.c0 ≤ st) (hu : ∀ s, E.u s → s < S.clk) (k : St → Prop) (h : runV P st ai S k)
    (next : Act → World → Prop) (Q : Exit → Act → World → Prop)
    (hk : ∀ E' S' a' w', Conc K0 E' B W n S' a' w' → E.le E' → (∀ s, E'.u s → E.u s ∨ s = st ∨ (S.clk ≤ s ∧ s < S'.clk)) → S.clk ≤ S'.clk → k S' → next a' w') : o.wp P a w next Q := by
  simp only [cI] at hc
  split at hc
  · rename_i hd
    simp only [Option.bind_eq_some_iff, Option.map_eq_some_iff] at hc
    obtain ⟨g, hg, op, hop, rfl⟩ := hc
    have hf := C.tm
    simp only [cK] at hop
    split at hop
    · -- a call
      rename_i p hp
      simp only [Option.bind_eq_some_iff, Option.map_eq_some_iff] at hop
      obtain ⟨fx, hfx, args, hargs, rfl⟩ := hop
      obtain ⟨c, hoc, hcv, hca⟩ := callee_op hp
      simp only [runV] at h
      obtain ⟨f, caps, hfv, hent, hcalls⟩ := h
      have hrf := cX_ok hf hfx
      rw [hfv] at hrf
      obtain ⟨e1, e2⟩ := cXs_ok hf _ _ hargs
      rw [← hca] at e1 e2
      generalize hfu : a.eval p.1 = fu at hrf
      cases hrf with
      | fn _ _ cvs hcs hcr =>
        have hargsz : (c.args.map a.eval ++ cvs).size = (args.map (fun x => x.ev S.t) ++ caps).length := by
          have : c.args.size = args.length := by rw [e1]; simp
          simp [this, hcs]
        have hrel : ∀ (j : Nat) (y : AV) (u : Value), (args.map (fun x => x.ev S.t) ++ caps)[j]? = some y → (c.args.map a.eval ++ cvs)[j]? = some u → Rel E y u := by
          intro j y u hy hu'
          have hl : c.args.size = args.length := by rw [e1]; simp
          by_cases hj : j < args.length
          · rw [List.getElem?_append_left (by simpa using hj), List.getElem?_map] at hy
            rw [Array.getElem?_append_left (by simpa [hl] using hj), Array.getElem?_map] at hu'
            cases hx : args[j]? with
            | none => simp [hx] at hy
            | some x =>
              cases hz : c.args[j]? with
              | none => simp [hz] at hu'
              | some z =>
                simp only [hx, hz, Option.map_some, Option.some.injEq] at hy hu'
                rw [← hy, ← hu']
                exact e2 j x z hx (by simpa using hz)
          · rw [List.getElem?_append_right (by simpa using hj)] at hy
            rw [Array.getElem?_append_right (by simpa [hl] using hj)] at hu'
            simp only [List.length_map, Array.size_map, hl] at hy hu'
            exact hcr _ y u hy hu'
        have hcall := hcalls E B W w _ C.H C.bel C.le hu hargsz hrel
        have hrun : (execOp a.eval o).run P w = .ok (.enter f (c.args.map a.eval ++ cvs)) w := by
          have e0 : c.args.map a.eval = (c.args.map a.eval) := rfl
          simp [execOp, hoc, resolve, hcv, hfu, Deferred.ofValue, invoke, callFunc_run P f _ w hent]
        unfold Oper.wp
        rw [hrun, Oper.upon_enter]
        refine hcall.mono ?_
        rintro e w' ⟨v, E', r, S', rfl, hE, H', hW', hkb, hu', hclk, ht, hr, hkr⟩
        refine hk E' (S'.put o.dst r) _ w' ?_ hE (fun s hs => ?_) ?_ hkr
        · refine C.next hE o.dst hd v r hr _ w' ?_ ?_ hW' hkb (fun s hs => (hu' s hs).1.imp id (fun q => Nat.le_trans C.ck q)) ?_
          · cases o.dst <;> simp [St.put, ht]
          · cases o.dst <;> exact H'
          · cases o.dst <;> exact Nat.le_trans C.ck hclk
        · rcases hu' s hs with ⟨q1 | q1, q2⟩
          · exact .inl q1
          · refine .inr (.inr ⟨q1, ?_⟩); cases o.dst <;> exact q2
        · cases o.dst <;> exact hclk
    · -- another operation
      split at hop
      · rename_i q hq
        obtain ⟨kd, neg, x⟩ := q
        cases hop
        simp only [runV] at h
        split at h
        · rename_i e he
          obtain ⟨v, w', E', hs, hE, hu', hEB, H', hW', hr⟩ := nq_done (st := st) C.H C.bel hf o hq e he
          have hC : Conc K0 E' B W n (S.app o.dst e) (a.put o.dst v) w' := C.next hE o.dst hd v e.v hr _ w' rfl H' hW' hEB (fun s hs => (hu' s hs).imp id (fun q => by rw [q]; exact hst0)) C.ck
          have hnext := hk E' _ _ w' hC hE (fun s hs' => (hu' s hs').imp id .inl) (Nat.le_refl _) h
          unfold Oper.wp
          rcases hs with hs | ⟨hs, rfl⟩
          · rw [hs]; exact hnext
          · rw [hs]; exact hnext
        · obtain ⟨hun, hall⟩ := h
          obtain ⟨op, t, y, ty, x0, h1, h2, h3, h4⟩ := nilCmp_spec hq
          cases kd with
          | succ kd => simp [undB] at hun
          | zero =>
            have key := nilq_und C.H o op neg t ty x0 y h1 h2 (x.ev S.t) (cX_ok hf h4) (by simpa [undB] using hun) h3
            obtain ⟨b, hb⟩ := key
            have hC : Conc K0 E B W n (S.app o.dst { v := .bool b }) (a.put o.dst (.bool b)) w := C.next (.refl E) o.dst hd (.bool b) (.bool b) (.bool b) _ w rfl C.H C.bel (fun _ _ _ => rfl) (fun s hs => .inl hs) C.ck
            have hnext := hk E _ _ w hC (.refl E) (fun s hs' => .inl hs') (Nat.le_refl _) (hall b)
            unfold Oper.wp
            rw [hb]; exact hnext
      obtain ⟨ao, hao, rfl⟩ : ∃ ao, (cOp P n (base + nameOf hint o.dst) o.op).getD .bad = ao ∧ op = .op ao := by cases hop; exact ⟨_, rfl, rfl⟩
      have hao : ao = .bad ∨ cOp P n (base + nameOf hint o.dst) o.op = some ao := by
        cases hcc : cOp P n (base + nameOf hint o.dst) o.op with
        | none => rw [hcc] at hao; exact .inl hao.symm
        | some a' => rw [hcc] at hao; exact .inr (by rw [← hao]; rfl)
      simp only [runV] at h
      split at h
      · rename_i e he
        have hao := hao.resolve_left (fun q => by subst q; cases he)
        obtain ⟨v, w', E', hs, hE, hu', hEB, H', hW', hr⟩ := op_done (st := st) C.H C.bel (Nat.le_trans C.le C.bel.size) hst hf o ao hao e he
        have hC : Conc K0 E' B W n (S.app o.dst e) (a.put o.dst v) w' := C.next hE o.dst hd v e.v hr _ w' rfl H' hW' hEB (fun s hs => (hu' s hs).imp id (fun q => by rw [q]; exact hst0)) C.ck
        have hnext := hk E' _ _ w' hC hE (fun s hs' => (hu' s hs').imp id .inl) (Nat.le_refl _) h
        unfold Oper.wp
        rcases hs with hs | ⟨hs, rfl⟩
        · rw [hs]; exact hnext
        · rw [hs]; exact hnext
      · exact h.elim
  · cases hc

end
end Go.Gv
