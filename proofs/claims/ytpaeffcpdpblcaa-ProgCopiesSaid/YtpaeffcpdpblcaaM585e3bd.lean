/- Texts of this proof, one behind the other. What is proved, and on which conditions, stands ahead of each. -/
import Derived.Test.YtpaeffcpdpblcaaM4559510
import Derived.IntWalk

/- What holds ahead of abstract code holds ahead of the model's code; and a function's contract by its abstract code. No condition beyond those that each law names. -/
set_option linter.unusedVariables false
set_option linter.unusedSimpArgs false
namespace Go.Gv
open Go.RowKit

inductive Ex where
  | normal
  | exit (id : Nat)
  | ret

def preOf : List (List Nat) → List Oper → List (List Nat)
  | acc, [] => acc
  | acc, o :: l =>
    let direct := (o.after.toList.filter fun e => Region.binds .any e).map (·.on)
    preOf (acc ++ [(direct ++ direct.flatMap fun j => acc.getD j []).eraseDups]) l

/-- Is a mark asked for ahead of a region? -/
def ghOf (hint : List (Nat × Nat)) (id : Nat) (a : AC) : AC := if (hint.lookup (1000000 + id)).isSome = true then .gh a else a

def cCode (P : Program) (n base : Nat) (hint : List (Nat × Nat)) : Code → Option AC
  | .skip => some .skip
  | .seq a b => (cCode P n base hint a).bind fun a => (cCode P n base hint b).map fun b => .seq a b
  | .cond c a b => (cX n c).bind fun c => (cCode P n base hint a).bind fun a => (cCode P n base hint b).map fun b => .cond c a b
  | .block id a => (cCode P n base hint a).map fun a => .block id a
  | .loop a => (cCode P n base hint a).map .loop
  | .exit id => some (.exit id)
  | .ret => some .ret
  | .region id ops draw => if draw = true then (if edgesOk (preOf [] ops.toList) 0 ops.toList = true ∧ P.follows .mixedOrders = true then (cIs P n base hint ops ops.toList).map fun l => ghOf hint id (if (hint.lookup (2000000 + id)).isSome = true then .regi l (preOf [] ops.toList) else .regd l (preOf [] ops.toList)) else none) else (cIs P n base hint ops ops.toList).map fun l => ghOf hint id (.reg l)
  | _ => some .bad

def St.bump (S : St) (k : Nat) : St := { S with clk := S.clk + k }

def V (P : Program) : AC → (Ex → St → Prop) → St → Prop
  | .skip, κ, S => κ .normal S
  | .seq a b, κ, S => V P a (fun e S' => match e with
    | .normal => V P b κ S'
    | .exit i => κ (.exit i) S'
    | .ret => κ .ret S') S
  | .cond c a b, κ, S => match c.ev S.t with
    | .bool t => if t = true then V P a κ S else V P b κ S
    | _ => False
  | .block id a, κ, S => V P a (fun e S' => match e with
    | .normal => κ .normal S'
    | .exit i => if i = id then κ .normal S' else κ (.exit i) S'
    | .ret => κ .ret S') S
  | .loop a, κ, S => ∃ (I : Nat → St → Prop) (m : Nat), (∃ S1, Wk S S1 ∧ I m S1) ∧ ∀ m S', I m S' → V P a (fun e S'' => match e with
    | .normal => ∃ m' S2, m' < m ∧ Wk S'' S2 ∧ I m' S2
    | .exit i => κ (.exit i) S''
    | .ret => κ .ret S'') S'
  | .exit id, κ, S => κ (.exit id) S
  | .ret, κ, S => κ .ret S
  | .gh a, κ, S => ∃ S', Wk S S' ∧ V P a κ S'
  | .bad, κ, S => False
  | .reg ops, κ, S => regV P S.clk ops (κ .normal) (S.bump ops.length)
  | .regd ops pre, κ, S => regDV P pre S.clk 0 ops [] (κ .normal) (S.bump ops.length)
  | .regi ops pre, κ, S => regI P pre S.clk ops (κ .normal) (S.bump ops.length)

section
variable {P : Program} {K0 : Gh} {B : Nat} {W : World} {n : Nat}

def Post (K0 : Gh) (B : Nat) (W : World) (n : Nat) (κ : Ex → St → Prop) : Exit → Act → World → Prop := fun e a w =>
  ∃ E S, Conc K0 E B W n S a w ∧ (∀ s, E.u s → s < S.clk) ∧ match e with
    | .normal => κ .normal S
    | .exit i => κ (.exit i) S
    | .ret => κ .ret S
    | _ => False

theorem Conc.bump {E : Env} {S : St} {a : Act} {w : World} (C : Conc K0 E B W n S a w) (k : Nat) : Conc K0 E B W n (S.bump k) a w := ⟨C.H, C.bel, C.le, C.df, C.sz, C.tm, C.kb, C.le0, C.u0, Nat.le_trans C.ck (Nat.le_add_right _ _)⟩

theorem Conc.drew {E : Env} {S : St} {a : Act} {w : World} (C : Conc K0 E B W n S a w) : Conc K0 E B W n S a { w with drawn := w.drawn + 1 } :=
  ⟨C.H.change C.H.K (fun _ _ _ => rfl) (fun _ _ _ _ _ => rfl), C.bel.drew, C.le, C.df, C.sz, C.tm, C.kb, C.le0, C.u0, C.ck⟩

theorem V_sound (base : Nat) (hint : List (Nat × Nat)) : ∀ (c : Code) (ac : AC), cCode P n base hint c = some ac → ∀ (κ : Ex → St → Prop) (S : St), V P ac κ S → ∀ (E : Env) (a : Act) (w : World), Conc K0 E B W n S a w → (∀ s, E.u s → s < S.clk) →
    c.wp P (Post K0 B W n κ) a w := by
  intro c
  induction c with
  | skip => intro ac hc κ S h E a w C hu; cases hc; exact wp_skip ⟨E, S, C, hu, h⟩
  | seq x y ihx ihy =>
    intro ac hc κ S h E a w C hu
    simp only [cCode, Option.bind_eq_some_iff, Option.map_eq_some_iff] at hc
    obtain ⟨ax, hax, ay, hay, rfl⟩ := hc
    refine wp_seq (wp_mono (ihx ax hax _ S h E a w C hu) ?_)
    rintro e a' w' ⟨E', S', C', hu', hk⟩
    cases e with
    | normal => exact ihy ay hay κ S' hk E' a' w' C' hu'
    | exit i => exact ⟨E', S', C', hu', hk⟩
    | ret => exact ⟨E', S', C', hu', hk⟩
    | goto l => exact hk.elim
    | panic ch => exact hk.elim
    | outgrown => exact hk.elim
  | cond x y z ihy ihz =>
    intro ac hc κ S h E a w C hu
    simp only [cCode, Option.bind_eq_some_iff, Option.map_eq_some_iff] at hc
    obtain ⟨cx, hcx, ay, hay, az, haz, rfl⟩ := hc
    simp only [V] at h
    split at h
    · rename_i t ht
      have hr := cX_ok C.tm hcx
      rw [ht] at hr
      refine wp_cond hr.bool_inv ?_
      split at h
      · rename_i hb; subst hb; exact ihy ay hay κ S h E a w C hu
      · rename_i hb
        have hb' : t = false := by simpa using hb
        subst hb'; exact ihz az haz κ S h E a w C hu
    · exact h.elim
  | block id x ih =>
    intro ac hc κ S h E a w C hu
    simp only [cCode, Option.map_eq_some_iff] at hc
    obtain ⟨ax, hax, rfl⟩ := hc
    refine wp_block (wp_mono (ih ax hax _ S h E a w C hu) ?_)
    rintro e a' w' ⟨E', S', C', hu', hk⟩
    cases e with
    | normal => exact ⟨E', S', C', hu', hk⟩
    | exit i =>
      simp only [Exit.inBlock] at hk ⊢
      split at hk
      · rename_i hi; rw [if_pos hi]; exact ⟨E', S', C', hu', hk⟩
      · rename_i hi; rw [if_neg hi]; exact ⟨E', S', C', hu', hk⟩
    | ret => exact ⟨E', S', C', hu', hk⟩
    | goto l => exact hk.elim
    | panic ch => exact hk.elim
    | outgrown => exact hk.elim
  | loop x ih =>
    intro ac hc κ S h E a w C hu
    simp only [cCode, Option.map_eq_some_iff] at hc
    obtain ⟨ax, hax, rfl⟩ := hc
    obtain ⟨I, m, ⟨S1, hk1, h0⟩, hr⟩ := h
    obtain ⟨E1, C1, hu1⟩ := C.wk hu hk1
    refine wp_loop_ghost (fun m a w => ∃ E S, Conc K0 E B W n S a w ∧ (∀ s, E.u s → s < S.clk) ∧ I m S) m ⟨E1, S1, C1, hu1, h0⟩ ?_
    rintro m a' w' ⟨E', S', C', hu', hI⟩
    refine wp_mono (ih ax hax _ S' (hr m S' hI) E' a' w' C' hu') ?_
    rintro e a'' w'' ⟨E'', S'', C'', hu'', hk⟩
    cases e with
    | normal => obtain ⟨m', S2, hm, hk2, hI'⟩ := hk; obtain ⟨E2, C2, hu2⟩ := C''.wk hu'' hk2; exact ⟨m', hm, E2, S2, C2, hu2, hI'⟩
    | exit i => exact ⟨E'', S'', C'', hu'', hk⟩
    | ret => exact ⟨E'', S'', C'', hu'', hk⟩
    | goto l => exact hk.elim
    | panic ch => exact hk.elim
    | outgrown => exact hk.elim
  | exit id => intro ac hc κ S h E a w C hu; cases hc; exact wp_exit ⟨E, S, C, hu, h⟩
  | ret => intro ac hc κ S h E a w C hu; cases hc; exact wp_ret ⟨E, S, C, hu, h⟩
  | region id ops draw =>
    intro ac hc κ S h E a w C hu
    simp only [cCode] at hc
    have marks : ∀ (ac' : AC), ghOf hint id ac' = ac → ∃ E S, Conc K0 E B W n S a w ∧ (∀ s, E.u s → s < S.clk) ∧ V P ac' κ S := by
      intro ac' e
      unfold ghOf at e
      split at e
      · subst e
        obtain ⟨S', hk, hv⟩ := h
        obtain ⟨E', C', hu'⟩ := C.wk hu hk
        exact ⟨E', S', C', hu', hv⟩
      · subst e; exact ⟨E, S, C, hu, h⟩
    split at hc
    · rename_i hd; subst hd
      split at hc
      · rename_i hq
        simp only [Option.map_eq_some_iff] at hc
        obtain ⟨l, hl, hac⟩ := hc
        obtain ⟨E, S, C, hu, h⟩ := marks _ hac
        obtain ⟨e1, _⟩ := cIs_get _ _ hl
        have e1' : l.length = ops.size := by simpa using e1
        split at h
        · simp only [V] at h
          obtain ⟨I, i1, i2, i3⟩ := h
          refine wp_region_any hq.2 ?_
          refine anyI_sound base hint ops l hl (preOf [] ops.toList) hq.1 S.clk (κ .normal) I i2 i3 C.ck _ (fun E' S' a' w' C' hu' hk => ⟨E', S', C', hu', hk⟩) ops.size _ E (S.bump l.length) a _ (by simp) ?_ ?_ ((C.bump _).drew) ?_ ?_ (by simp [St.bump, e1'])
          · exact Nat.le_trans (List.length_filter_le _ _) (by simp)
          · intro i hi
            have : (Array.replicate ops.size false).getD i false = false := by
              simp only [Array.getD_eq_getD_getElem?, Array.getElem?_replicate]; split <;> rfl
            rw [this] at hi; cases hi
          · rw [show (fun i => (Array.replicate ops.size false).getD i false) = (fun _ => false) from funext fun i => by simp only [Array.getD_eq_getD_getElem?, Array.getElem?_replicate]; split <;> rfl]
            exact i1
          · intro s hs
            have := hu s hs
            exact ⟨by simp [St.bump]; omega, .inl this⟩
        simp only [V] at h
        obtain ⟨es, hS⟩ := shown_of P (preOf [] ops.toList) S.clk (S.bump l.length) (κ .normal) l [] [] [] (S.bump l.length) rfl rfl rfl (by simp) (by simp) (by simp) (by simpa using h)
        simp only [List.nil_append] at hS
        refine wp_region_any hq.2 ?_
        refine any_sound base hint ops l hl (preOf [] ops.toList) hq.1 S.clk es (S.bump l.length) (κ .normal) hS rfl C.ck _ (fun E' S' a' w' C' hu' hk => ⟨E', S', C', hu', hk⟩) ops.size _ E a _ (by simp) ?_ ?_ ?_ ?_
        · exact Nat.le_trans (List.length_filter_le _ _) (by simp)
        · intro i hi
          have : (Array.replicate ops.size false).getD i false = false := by
            simp only [Array.getD_eq_getD_getElem?, Array.getElem?_replicate]; split <;> rfl
          rw [this] at hi; cases hi
        · rw [foldS_none _ _ _ (fun i _ => by simp only [Array.getD_eq_getD_getElem?, Array.getElem?_replicate]; split <;> rfl)]
          exact (C.bump _).drew
        · intro s hs; exact .inl (hu s hs)
      · cases hc
    · rename_i hd
      have hd' : draw = false := by simpa using hd
      subst hd'
      simp only [Option.map_eq_some_iff] at hc
      obtain ⟨l, hl, hac⟩ := hc
      obtain ⟨E, S, C, hu, h⟩ := marks _ hac
      obtain ⟨e1, _⟩ := cIs_get _ _ hl
      have e1' : l.length = ops.size := by simpa using e1
      simp only [V] at h
      refine wp_region ?_
      rw [List.range_eq_range', ← e1']
      exact regV_sound base hint ops (κ .normal) _ (S.clk + l.length) (fun E' S' a' w' C' hu' hk => ⟨E', S', C', hu', hk⟩) l 0 S.clk E (S.bump l.length) a w (by simpa using hl) (C.bump _) C.ck (fun s hs => ⟨.inl (hu s hs), by have := hu s hs; simp [St.bump]; omega⟩) (Nat.le_refl _) (Nat.le_refl _) h
  | _ => intro ac hc κ S h; cases hc; exact h.elim

/-! ### Results, and contracts -/

inductive ARes where
  | tmp (t : Nat)
  | cell (agg : Option Nat) (t : Nat)

def cRes1 (P : Program) (n : Nat) : ResultVar → Option ARes
  | .tmp t => if t < n then some (.tmp t) else none
  | .cell t ty => if t < n then (P.underlying ty).bind fun d => if isAggD d = true then (P.info? ty).map fun i => .cell (some i.size) t else some (.cell none t) else none
def cRes (P : Program) (n : Nat) : List ResultVar → Option (List ARes)
  | [] => some []
  | r :: l => (cRes1 P n r).bind fun r => (cRes P n l).map fun l => r :: l

def resOf1 (S : St) : ARes → Option AV
  | .tmp t => some (S.t t)
  | .cell none t => ldOne S.blk (S.t t)
  | .cell (some n) t => ldAgg S.blk n (S.t t)
def resL (S : St) : List ARes → Option (List AV)
  | [] => some []
  | r :: l => (resOf1 S r).bind fun v => (resL S l).map fun l => v :: l
def resOf (S : St) (l : List ARes) : Option AV :=
  (resL S l).map fun vs => match vs with
    | [v] => v
    | vs => .tup vs

def resSem (tmps : Array Value) : ResultVar → Sem Value
  | .tmp t => pure (tmps.getD t undef)
  | .cell a t => do loadVar t (← asAddr (tmps.getD a undef))

theorem results_eq (fn : Func) (tmps : Array Value) : results fn tmps = (do
    let vs ← fn.results.mapM (resSem tmps)
    pure (if h : vs.size = 1 then vs[0] else .tuple vs)) := by
  unfold results
  congr 2

theorem res1_ok {E : Env} {S : St} {a : Act} {w : World} (C : Conc K0 E B W n S a w) (r : ResultVar) (ar : ARes) (hc : cRes1 P n r = some ar) (v : AV) (hv : resOf1 S ar = some v) :
    ∃ u, (resSem a.tmps r).run P w = .ok u w ∧ Rel E v u := by
  cases r with
  | tmp t =>
    simp only [cRes1] at hc
    split at hc
    · rename_i ht; cases hc; cases hv; exact ⟨_, rfl, C.tm t ht⟩
    · cases hc
  | cell x ty =>
    simp only [cRes1] at hc
    split at hc
    · rename_i hx
      simp only [Option.bind_eq_some_iff] at hc
      obtain ⟨d, hd, hc⟩ := hc
      have hr := C.tm x hx
      have conv : ∀ u, (Instr.loadAt ty (a.tmps.getD x undef)).run P w = .ok u w → (do loadVar ty (← asAddr (a.tmps.getD x undef)) : Sem Value).run P w = .ok u w := by
        intro u hu
        generalize a.tmps.getD x undef = v at hu ⊢
        cases v with
        | pointer q =>
          cases q with
          | some ad => simpa [Instr.loadAt, Instr.sureAddr, asAddr] using hu
          | none => simp [Instr.loadAt, Instr.sureAddr] at hu
        | _ => simp [Instr.loadAt, Instr.sureAddr] at hu
      split at hc
      · rename_i hagg
        simp only [Option.map_eq_some_iff] at hc
        obtain ⟨i, hi, rfl⟩ := hc
        obtain ⟨u, hu, hrel⟩ := load_agg (P := P) C.H hr i.size hv ty d i hd (by cases d <;> simp_all [isAggD]) hi rfl
        exact ⟨u, conv u hu, hrel⟩
      · rename_i hagg
        cases hc
        obtain ⟨u, hu, hrel⟩ := load_one (P := P) C.H hr hv ty d hd (by cases d <;> simp_all [isAggD])
        exact ⟨u, conv u hu, hrel⟩
    · cases hc

theorem resL_ok {E : Env} {S : St} {a : Act} {w : World} (C : Conc K0 E B W n S a w) : ∀ (l : List ResultVar) (al : List ARes), cRes P n l = some al → ∀ vs, resL S al = some vs →
    ∃ us : List Value, (l.mapM (resSem a.tmps)).run P w = .ok us w ∧ us.length = vs.length ∧
      ∀ (j : Nat) (y : AV) (u : Value), vs[j]? = some y → us[j]? = some u → Rel E y u
  | [], al, hc, vs, hv => by cases hc; cases hv; exact ⟨[], rfl, rfl, by simp⟩
  | r :: l, al, hc, vs, hv => by
    simp only [cRes, Option.bind_eq_some_iff, Option.map_eq_some_iff] at hc
    obtain ⟨ar, har, al', hal, rfl⟩ := hc
    simp only [resL, Option.bind_eq_some_iff, Option.map_eq_some_iff] at hv
    obtain ⟨v, hv1, vs', hvs, rfl⟩ := hv
    obtain ⟨u, hu, hrel⟩ := res1_ok C r ar har v hv1
    obtain ⟨us, h1, h2, h3⟩ := resL_ok C l al' hal vs' hvs
    refine ⟨u :: us, ?_, by simp [h2], fun j y z hy hz => ?_⟩
    · rw [List.mapM_cons, Sem.run_bind, hu]
      simp only [Result.andThen_ok, Sem.run_bind, h1, Sem.run_pure]
    · cases j with
      | zero => simp at hy hz; subst hy hz; exact hrel
      | succ j => exact h3 j y z (by simpa using hy) (by simpa using hz)

theorem results_ok {E : Env} {S : St} {a : Act} {w : World} (C : Conc K0 E B W n S a w) (fn : Func) (al : List ARes) (hc : cRes P n fn.results.toList = some al) (v : AV) (hv : resOf S al = some v) :
    ∃ u, (results fn a.tmps).run P w = .ok u w ∧ Rel E v u := by
  simp only [resOf, Option.map_eq_some_iff] at hv
  obtain ⟨vs, hvs, rfl⟩ := hv
  obtain ⟨us, h1, h2, h3⟩ := resL_ok C _ al hc vs hvs
  have hrun : (results fn a.tmps).run P w = .ok (if h : us.toArray.size = 1 then us.toArray[0] else .tuple us.toArray) w := by
    rw [results_eq, Array.mapM_eq_mapM_toList, Sem.run_bind, Sem.run_map, h1]
    simp only [Result.andThen_ok, Sem.run_pure]
  refine ⟨_, hrun, ?_⟩
  by_cases hl : us.length = 1
  · obtain ⟨u, rfl⟩ := List.length_eq_one_iff.1 hl
    obtain ⟨v, rfl⟩ := List.length_eq_one_iff.1 (h2.symm.trans hl)
    simpa using h3 0 v u rfl rfl
  · have hl' : ¬ us.toArray.size = 1 := by simpa using hl
    rw [dif_neg hl']
    have hv : (match vs with | [v] => v | vs => AV.tup vs) = .tup vs := by
      cases vs with
      | nil => rfl
      | cons x l =>
        cases l with
        | nil => simp at h2; omega
        | cons y l => rfl
    rw [hv]
    exact .tup vs us.toArray (by simp [h2]) (fun j y u hy hu => h3 j y u hy (by simpa using hu))

end
end Go.Gv

/- Contracts of functions that write nothing that was there: how they are shown, and how they are used. No condition beyond those that each law names. -/
set_option linter.unusedVariables false
set_option linter.unusedSimpArgs false
namespace Go.Gv
open Go.RowKit

/-- A contract: on these closed values the function answers this, and writes nothing that was there. -/
def PC (P : Program) (f : FuncId) (args : List AV) (r : AV) : Prop :=
  enters P f ∧ ∀ (K : Nat → Nat → Option Value) (w : World) (vs : Array Value), (∀ b o v, K b o = some v → w.cell? ⟨b, o, none⟩ = some v) → vs.size = args.length →
    (∀ (j : Nat) (y : AV) (u : Value), args[j]? = some y → vs[j]? = some u → Rel (envK K) y u) →
    Calls P f vs w fun e w' => ∃ v, e = .returned v ∧ Below w.heap.size w w' ∧ Rel (envK (over K w w')) r v

/-- What stands for x may be taken for y. 'blk': lists in mutable blocks may be read, too. -/
def co1 (blk : Option (Nat → Option Blk)) : AV → AV → Prop
  | .bool a, .bool b => a = b
  | .int k a, .int k' b => k = k' ∧ a = b
  | .str a, .str b => a = b
  | .nilp, .nilp => True
  | .nilf, .nilf => True
  | .nils, .nils => True
  | .nils, .lst _ ys => ys = []
  | .lst s xs, .lst s' ys => s = s' ∧ xs = ys
  | .acc _ _ s xs, .lst s' ys => s = s' ∧ xs = ys
  | .sl nm st sz off len, .lst s' ys => sz = s' ∧ match blk with | some blk => listOf blk sz (.sl nm st sz off len) = some ys | none => False
  | .kp cs o, .kp cs' o' => cs = cs' ∧ o = o'
  | .raw v, .raw v' => v = v'
  | .fn f [], .fn g [] => f = g
  | _, _ => False

def coL (R : AV → AV → Prop) : List AV → List AV → Prop
  | [], [] => True
  | x :: xs, y :: ys => R x y ∧ coL R xs ys
  | _, _ => False

def co (blk : Option (Nat → Option Blk)) : AV → AV → Prop
  | .agg xs, .agg ys => coL (co1 blk) xs ys
  | x, y => co1 blk x y

def coT (blk : Option (Nat → Option Blk)) : AV → AV → Prop
  | .tup xs, .tup ys => coL (co blk) xs ys
  | x, y => co blk x y

theorem coL_get {R : AV → AV → Prop} : ∀ {xs ys : List AV}, coL R xs ys → xs.length = ys.length ∧ ∀ (j : Nat) (x y : AV), xs[j]? = some x → ys[j]? = some y → R x y
  | [], [], _ => ⟨rfl, by simp⟩
  | x :: xs, y :: ys, h => by
    obtain ⟨e1, e2⟩ := coL_get h.2
    refine ⟨by simp [e1], fun j a b ha hb => ?_⟩
    cases j with
    | zero => simp at ha hb; subst ha hb; exact h.1
    | succ j => exact e2 j a b (by simpa using ha) (by simpa using hb)
  | [], _ :: _, h => h.elim
  | _ :: _, [], h => h.elim

section
variable {E : Env} {B : Nat} {h : Hp} {w : World}

/-- In what is known besides. -/
structure Knows (E : Env) (B : Nat) (w : World) (L : Nat → Nat → Option Value) (rw : Bool) : Prop where
  K : ∀ b o u, E.K b o = some u → L b o = some u
  rest : rw = true → ∀ b o u, B ≤ b → w.cell? ⟨b, o, none⟩ = some u → L b o = some u

theorem cl_le_envK {K : Nat → Nat → Option Value} (hK : ∀ b o u, E.K b o = some u → K b o = some u) : E.cl.le (envK K) := ⟨hK, fun _ q => q.elim, fun _ q => q.elim, fun _ q => q.elim, fun _ q => q.elim⟩

theorem lst_envK {K : Nat → Nat → Option Value} (hK : ∀ b o u, E.K b o = some u → K b o = some u) {s : Nat} {xs : List AV} {v : Value} (hr : Rel E (.lst s xs) v) : Rel (envK K) (.lst s xs) v :=
  Rel.of_cl1 (E := E) (E' := envK K) hK hr rfl

theorem co1_rel (H : HConc E B h w) {K : Nat → Nat → Option Value} {blk : Option (Nat → Option Blk)} (hk : Knows E B w K blk.isSome) (hb : ∀ b, blk = some b → b = h.blk) {x y : AV} {v : Value} (hc : co1 blk x y) (hr : Rel E x v) :
    Rel (envK K) y v := by
  have cl : ∀ z, z = x → z.cl1 = true → Rel (envK K) z v := fun z e h1 => by subst e; exact Rel.of_cl1 (E := E) (E' := envK K) hk.K hr h1
  cases x with
  | bool a => cases y <;> simp only [co1] at hc; subst hc; exact cl _ rfl rfl
  | int k a => cases y <;> simp only [co1] at hc; obtain ⟨rfl, rfl⟩ := hc; exact cl _ rfl rfl
  | str a => cases y <;> simp only [co1] at hc; subst hc; exact cl _ rfl rfl
  | nilp => cases y <;> simp only [co1] at hc; exact cl _ rfl rfl
  | nilf => cases y <;> simp only [co1] at hc; exact cl _ rfl rfl
  | nils =>
    cases y <;> simp only [co1] at hc
    · exact cl _ rfl rfl
    · subst hc; rw [hr.nils_inv]; exact .lst0 _ _ _
  | lst s xs => cases y <;> simp only [co1] at hc; obtain ⟨rfl, rfl⟩ := hc; exact cl _ rfl rfl
  | acc nm st s xs =>
    cases y <;> simp only [co1] at hc; obtain ⟨rfl, rfl⟩ := hc
    cases hr with
    | acc _ _ _ _ _ _ _ hl => exact lst_envK hk.K hl
  | kp cs o => cases y <;> simp only [co1] at hc; obtain ⟨rfl, rfl⟩ := hc; exact cl _ rfl rfl
  | raw u => cases y <;> simp only [co1] at hc; subst hc; cases hr; exact .raw _
  | fn f caps =>
    cases caps with
    | cons c l => cases y <;> simp only [co1] at hc
    | nil =>
      cases y with
      | fn g caps' =>
        cases caps' with
        | nil => simp only [co1] at hc; subst hc; exact cl _ rfl rfl
        | cons c l => simp only [co1] at hc
      | _ => simp only [co1] at hc
  | sl nm st sz off len =>
    cases y with
    | lst s' ys =>
      simp only [co1] at hc
      obtain ⟨rfl, hc⟩ := hc
      cases blk with
      | none => exact hc.elim
      | some blk =>
        have hblk := hb blk rfl
        subst hblk
        simp only at hc
        have hlo := hc
        simp only [listOf, if_true, Option.bind_eq_some_iff] at hc
        obtain ⟨es, hes, hc⟩ := hc
        split at hc
        · rename_i hq
          obtain ⟨hle, hcl⟩ := hq
          cases hc
          have hbs := getB_some hes
          have hbk := (H.bk nm _ hbs).r (getB_pos hes)
          obtain ⟨cur, e, hg, hsz, hrow⟩ := hbk.row
          simp only at hg hsz hrow
          cases hr with
          | sl _ _ _ _ _ cap a hu hcap hc' ha =>
            have hlen : ((es.drop off).take len).length = len := by simp; omega
            by_cases hl0 : len = 0
            · subst hl0; simp only [List.take_zero]; exact .lst0 _ _ _
            · rw [ha (by omega)]
              have hidx : ∀ (i : Nat) (z : AV), ((es.drop off).take len)[i]? = some z → i < len ∧ es[off + i]? = some z := by
                intro i z hz
                rw [List.getElem?_take] at hz
                split at hz
                · rename_i hi; rw [List.getElem?_drop] at hz; exact ⟨hi, hz⟩
                · cases hz
              have hel : ∀ z ∈ (es.drop off).take len, ElemOk sz z := fun z hz => hbk.el z (List.mem_of_mem_drop (List.mem_of_mem_take hz))
              have cell : ∀ (i : Nat) (z : AV), ((es.drop off).take len)[i]? = some z → ∀ (j : Nat) (q : AV), z.cells[j]? = some q →
                  ∃ u, w.cell? ⟨(E.m st).1, (E.m st).2 + off * sz + i * sz + j, none⟩ = some u ∧ Rel E q u ∧ q.cl1 = true := by
                intro i z hz j q hq
                obtain ⟨hi, hz'⟩ := hidx i z hz
                obtain ⟨u, hu', hrel⟩ := hrow (off + i) z hz' j q hq
                refine ⟨u, ?_, hrel, ?_⟩
                · rw [show (E.m st).2 + off * sz + i * sz + j = (E.m st).2 + (off + i) * sz + j by rw [Nat.add_mul]; omega, cell_of_row w _ _ cur e (0, 0) hg]
                  exact hu'
                · exact List.all_eq_true.1 (List.all_eq_true.1 hcl z (List.mem_of_getElem? hz)) q (List.mem_of_getElem? hq)
              have := Rel.lst (E := envK K) ((es.drop off).take len) (E.m st).1 ((E.m st).2 + off * sz) sz cap (fun i j => (w.cell? ⟨(E.m st).1, (E.m st).2 + off * sz + i * sz + j, none⟩).getD .nilFunc)
                (by rw [hlen]; exact hcap) (fun z hz => (hel z hz).1) ?_ ?_ ?_
              · rw [hlen] at this; exact this
              · intro i j hi hj
                obtain ⟨z, hz⟩ : ∃ z, ((es.drop off).take len)[i]? = some z := ⟨_, List.getElem?_eq_getElem hi⟩
                obtain ⟨q, hq⟩ : ∃ q, z.cells[j]? = some q := ⟨_, List.getElem?_eq_getElem (by rw [(hel z (List.mem_of_getElem? hz)).1]; exact hj)⟩
                obtain ⟨u, hu', _, _⟩ := cell i z hz j q hq
                rw [hu']
                exact hk.rest rfl _ _ _ hbk.base hu'
              · intro i z hz j q hq
                exact (hel z (List.mem_of_getElem? hz)).2 q (List.mem_of_getElem? hq)
              · intro i z hz j q hq
                obtain ⟨u, hu', hrel, h1⟩ := cell i z hz j q hq
                rw [hu']
                exact Rel.of_cl1 (E := E) (E' := (envK K).cl) hk.K hrel h1
        · cases hc
    | _ => simp only [co1] at hc
  | _ => cases y <;> simp only [co1] at hc

theorem co1_one {blk : Option (Nat → Option Blk)} {x y : AV} (hc : co1 blk x y) (hx : x.one = true) : y.one = true := by
  cases x <;> cases y <;> first
    | rfl
    | (simp only [co1] at hc; done)
    | (simp only [co1] at hc; subst hc; exact hx)
    | (simp [AV.one] at hx; done)
    | (rename_i a b c d; cases b <;> cases d <;> simp_all [co1, AV.one])

theorem co_rel (H : HConc E B h w) {K : Nat → Nat → Option Value} {blk : Option (Nat → Option Blk)} (hk : Knows E B w K blk.isSome) (hb : ∀ b, blk = some b → b = h.blk) {x y : AV} {v : Value} (hc : co blk x y) (hr : Rel E x v) :
    Rel (envK K) y v := by
  by_cases hx : ∃ xs, x = .agg xs
  · obtain ⟨xs, rfl⟩ := hx
    cases y with
    | agg ys =>
      obtain ⟨e1, e2⟩ := coL_get hc
      cases hr with
      | agg _ vs hs h1 hr =>
        have get : ∀ (j : Nat) (y : AV), ys[j]? = some y → ∃ x, xs[j]? = some x := fun j y hy => ⟨_, List.getElem?_eq_getElem (by rw [e1]; exact (List.getElem?_eq_some_iff.1 hy).1)⟩
        refine .agg ys vs (by rw [← e1]; exact hs) ?_ ?_
        · intro j y hy
          obtain ⟨x, hx⟩ := get j y hy
          exact co1_one (e2 j x y hx hy) (h1 j x hx)
        · intro j y u hy hu
          obtain ⟨x, hx⟩ := get j y hy
          exact co1_rel H hk hb (e2 j x y hx hy) (hr j x u hx hu)
    | _ => exact absurd hc (by simp [co, co1])
  · have : co1 blk x y := by
      cases x <;> first | exact hc | exact absurd ⟨_, rfl⟩ hx
    exact co1_rel H hk hb this hr

theorem coT_rel (H : HConc E B h w) {K : Nat → Nat → Option Value} {blk : Option (Nat → Option Blk)} (hk : Knows E B w K blk.isSome) (hb : ∀ b, blk = some b → b = h.blk) {x y : AV} {v : Value} (hc : coT blk x y) (hr : Rel E x v) :
    Rel (envK K) y v := by
  by_cases hx : ∃ xs, x = .tup xs
  · obtain ⟨xs, rfl⟩ := hx
    cases y with
    | tup ys =>
      obtain ⟨e1, e2⟩ := coL_get hc
      cases hr with
      | tup _ vs hs hr =>
        refine .tup ys vs (by rw [← e1]; exact hs) ?_
        intro j y u hy hu
        obtain ⟨x, hx⟩ : ∃ x, xs[j]? = some x := ⟨_, List.getElem?_eq_getElem (by rw [e1]; exact (List.getElem?_eq_some_iff.1 hy).1)⟩
        exact co_rel H hk hb (e2 j x y hx hy) (hr j x u hx hu)
    | _ => exact absurd hc (by simp [coT, co, co1])
  · have : co blk x y := by
      cases x <;> first | exact hc | exact absurd ⟨_, rfl⟩ hx
    exact co_rel H hk hb this hr

end

def initS (args : List AV) : St := ⟨fun t => args.getD t (.tup []), fun _ => none, fun _ => none, 0⟩

/-- How a contract is shown. -/
theorem pc_of_V {P : Program} {f : FuncId} (fn : Func) (hf : P.funcs[f]? = some fn) (hname : fn.name ≠ "runtime.NumGoroutine") (c : Code) (hb : fn.body = some c) (base : Nat) (hint : List (Nat × Nat)) (ac : AC) (hc : cCode P fn.ntmps base hint c = some ac)
    (al : List ARes) (hal : cRes P fn.ntmps fn.results.toList = some al) (args : List AV) (hn : args.length ≤ fn.ntmps) (r : AV)
    (hV : V P ac (fun e S => match e with
      | .exit _ => False
      | _ => ∃ v, resOf S al = some v ∧ coT (some S.blk) v r) (initS args)) : PC P f args r := by
  refine ⟨⟨fn, hf, by simp [hb], hname⟩, fun K w vs hK hsz hrel => ?_⟩
  have C : Conc ⟨K, envK K, 0⟩ (envK K) w.heap.size w fn.ntmps (initS args) { tmps := vs ++ Array.replicate (fn.ntmps - vs.size) undef, defers := [] } w := by
    refine ⟨⟨hK, ?_, ?_, ?_, ?_, ?_, ?_, ?_⟩, Below.refl _ _, Nat.le_refl _, rfl, ?_, ?_, fun _ _ _ => rfl, .refl _, fun s hs => .inl hs, Nat.le_refl _⟩
    · intro nm b x; cases x
    · intro nm b x; cases x
    · intro nm b x; cases x
    · intro nm b x; cases x
    · intro nm nm' b b' _ x; cases x
    · intro nm nm' b b' x; cases x
    · intro nm nm' b b' _ _ x; cases x
    · simp; omega
    · intro t ht
      show Rel (envK K) (args.getD t (.tup [])) _
      by_cases hta : t < args.length
      · have e1 : args[t]? = some args[t] := List.getElem?_eq_getElem hta
        have e2 : vs[t]? = some vs[t] := Array.getElem?_eq_getElem (by omega)
        have : (vs ++ Array.replicate (fn.ntmps - vs.size) undef).getD t undef = vs[t] := by
          rw [Array.getD_eq_getD_getElem?, Array.getElem?_append_left (by omega), e2]; rfl
        rw [this, List.getD_eq_getElem?_getD, e1]
        exact hrel t _ _ e1 e2
      · have e1 : args.getD t (.tup []) = .tup [] := by rw [List.getD_eq_getElem?_getD, List.getElem?_eq_none (by omega)]; rfl
        have : (vs ++ Array.replicate (fn.ntmps - vs.size) undef).getD t undef = undef := by
          rw [Array.getD_eq_getD_getElem?, Array.getElem?_append_right (by omega), Array.getElem?_replicate]
          split <;> rfl
        rw [this, e1]
        exact .tup [] #[] rfl (by simp)
  refine calls_of_wp hf hb (wp_mono (V_sound base hint c ac hc _ _ hV (envK K) _ w C (fun s hs => hs.elim)) ?_)
  rintro e a' w' ⟨E', S', C', hu', hk⟩
  have fin : (∃ v, resOf S' al = some v ∧ coT (some S'.blk) v r) → a'.defers = [] ∧ ∃ v, (results fn a'.tmps).run P w' = .ok v w' ∧ (∃ u, Ending.returned v = .returned u ∧ Below w.heap.size w w' ∧ Rel (envK (over K w w')) r u) := by
    rintro ⟨v, hv, hco⟩
    obtain ⟨u, hu, hru⟩ := results_ok C' fn al hal v hv
    refine ⟨C'.df, u, hu, u, rfl, C'.bel, ?_⟩
    refine coT_rel C'.H (K := over K w w') ⟨?_, ?_⟩ (fun b hb => by cases hb; rfl) hco hru
    · intro b o x hx
      unfold over
      by_cases hlt : b < w.heap.size
      · rw [if_pos hlt]; exact (C'.kb b o hlt).symm.trans hx
      · rw [if_neg hlt]; exact C'.H.K b o x hx
    · intro _ b o x hbo hx
      unfold over
      rw [if_neg (by omega)]; exact hx
  cases e with
  | normal => exact fin hk
  | ret => exact fin hk
  | exit i => exact hk.elim
  | goto l => exact hk.elim
  | panic ch => exact hk.elim
  | outgrown => exact hk.elim

/-! ### How a contract is used -/

theorem pcall_of_pc {P : Program} {f : FuncId} {cargs : List AV} {r : AV} (h : PC P f cargs r) {caps vals : List AV} (hco : coL (co none) (vals ++ caps) cargs) : PCallP P (.fn f caps) vals r := by
  obtain ⟨hent, hc⟩ := h
  refine ⟨f, caps, rfl, hent, fun E w args hK hsz hrel => ?_⟩
  obtain ⟨e1, e2⟩ := coL_get hco
  refine hc E.K w args hK (by rw [hsz, e1]) ?_
  intro j y u hy hu
  obtain ⟨x, hx⟩ : ∃ x, (vals ++ caps)[j]? = some x := ⟨_, List.getElem?_eq_getElem (by rw [e1]; exact (List.getElem?_eq_some_iff.1 hy).1)⟩
  have H : HConc E w.heap.size ⟨fun _ => none, fun _ => none⟩ w := ⟨hK, by simp, by simp, by simp, by simp, by simp, by simp, by simp⟩
  exact co_rel H (K := E.K) ⟨fun _ _ _ q => q, by simp⟩ (by simp) (e2 j x y hx hy) (hrel j x u hx hu)

theorem call_of_pc {P : Program} {f : FuncId} {cargs : List AV} {r : AV} (h : PC P f cargs r) {caps vals : List AV} (hco : coL (co none) (vals ++ caps) cargs) {S : St} {k : AV → St → Prop} (hk : k r S) : CallP P (.fn f caps) vals S k :=
  CallP_of_PCallP (pcall_of_pc h hco) hk

/-- A result that is no list. -/
def flat1 : AV → Bool
  | .bool _ | .int _ _ | .str _ | .nilp | .nilf | .nils => true
  | _ => false
def flatA : AV → Bool
  | .agg cs => cs.all flat1
  | v => flat1 v
def flat : AV → Bool
  | .tup vs => vs.all flatA
  | v => flatA v

theorem flat1_rel {E E' : Env} {x : AV} {v : Value} (h : Rel E x v) (h1 : flat1 x = true) : Rel E' x v := by
  cases x <;> first | (simp [flat1] at h1; done) | (cases h; constructor)

theorem flatA_rel {E E' : Env} {x : AV} {v : Value} (h : Rel E x v) (h1 : flatA x = true) : Rel E' x v := by
  cases x with
  | agg cs =>
    cases h with
    | agg _ vs hs h2 hr =>
      exact .agg cs vs hs h2 (fun j y u hy hu => flat1_rel (hr j y u hy hu) (List.all_eq_true.1 h1 y (List.mem_of_getElem? hy)))
  | _ => exact flat1_rel h h1

theorem flat_rel {E E' : Env} {x : AV} {v : Value} (h : Rel E x v) (h1 : flat x = true) : Rel E' x v := by
  by_cases hx : ∃ cs, x = .tup cs
  · obtain ⟨cs, rfl⟩ := hx
    cases h with
    | tup _ vs hs hr =>
      exact .tup cs vs hs (fun j y u hy hu => flatA_rel (hr j y u hy hu) (List.all_eq_true.1 h1 y (List.mem_of_getElem? hy)))
  · have : flatA x = true := by cases x <;> first | exact h1 | exact absurd ⟨_, rfl⟩ hx
    exact flatA_rel h this

/-- A call that reads lists in mutable blocks, and answers no list. -/
theorem callH_of_pc {P : Program} {f : FuncId} {cargs : List AV} {r : AV} (h : PC P f cargs r) {caps vals : List AV} {S : St} (hco : coL (co (some S.blk)) (vals ++ caps) cargs) (hflat : flat r = true) {k : AV → St → Prop} (hk : k r S) : CallP P (.fn f caps) vals S k := by
  obtain ⟨hent, hc⟩ := h
  refine ⟨f, caps, rfl, hent, fun E B W w args H hW hB hu hsz hrel => ?_⟩
  obtain ⟨e1, e2⟩ := coL_get hco
  refine (hc (fun b o => w.cell? ⟨b, o, none⟩) w args (fun b o v q => q) (by rw [hsz, e1]) ?_).mono ?_
  · intro j y u hy hu
    obtain ⟨x, hx⟩ : ∃ x, (vals ++ caps)[j]? = some x := ⟨_, List.getElem?_eq_getElem (by rw [e1]; exact (List.getElem?_eq_some_iff.1 hy).1)⟩
    exact co_rel H (K := fun b o => w.cell? ⟨b, o, none⟩) ⟨H.K, fun _ _ _ _ _ q => q⟩ (fun b q => by cases q; rfl) (e2 j x y hx hy) (hrel j x u hx hu)
  · rintro e w' ⟨v, rfl, hbel, hr⟩
    have hle : B ≤ w.heap.size := Nat.le_trans hB hW.size
    exact ⟨v, E, r, S, rfl, .refl E, H.grow (fun k hk => hbel.block k hk), hW.trans (hbel.mono hle), fun _ _ _ => rfl, fun s hs => ⟨.inl hs, hu s hs⟩, Nat.le_refl _, rfl, flat_rel hr hflat, hk⟩

end Go.Gv

/- How contracts are shown by one fact of the program's tables; what a walk by rewriting uses. No condition beyond those that each law names. -/
set_option linter.unusedVariables false
set_option linter.unusedSimpArgs false
namespace Go.Gv
open Go.RowKit

/-- A function's abstract code. -/
def getF (P : Program) (f base : Nat) (hint : List (Nat × Nat)) : Option (String × Nat × AC × List ARes) :=
  (P.funcs[f]?).bind fun fn => fn.body.bind fun c => (cCode P fn.ntmps base hint c).bind fun ac => (cRes P fn.ntmps fn.results.toList).map fun al => (fn.name, fn.ntmps, ac, al)

def Ends (al : List ARes) (r : AV) : Ex → St → Prop
  | .exit _, _ => False
  | _, S => ∃ v, resOf S al = some v ∧ coT (some S.blk) v r

theorem pc_of_get {P : Program} {f base : Nat} {hint : List (Nat × Nat)} {name : String} {n : Nat} {ac : AC} {al : List ARes} (h : getF P f base hint = some (name, n, ac, al)) (hname : name ≠ "runtime.NumGoroutine")
    (args : List AV) (hn : args.length ≤ n) (r : AV) (hV : V P ac (Ends al r) (initS args)) : PC P f args r := by
  unfold getF at h
  rcases hf : P.funcs[f]? with _ | fn
  · rw [hf] at h; simp at h
  rw [hf] at h
  simp only [Option.bind_some] at h
  rcases hb : fn.body with _ | c
  · rw [hb] at h; simp at h
  rw [hb] at h
  simp only [Option.bind_some] at h
  rcases hc : cCode P fn.ntmps base hint c with _ | ac'
  · rw [hc] at h; simp at h
  rw [hc] at h
  simp only [Option.bind_some] at h
  rcases hal : cRes P fn.ntmps fn.results.toList with _ | al'
  · rw [hal] at h; simp at h
  rw [hal] at h
  simp only [Option.map_some, Option.some.injEq, Prod.mk.injEq] at h
  obtain ⟨h1, h2, h3, h4⟩ := h
  subst h1; subst h2; subst h3; subst h4
  refine pc_of_V fn hf hname c hb base hint _ hc _ hal args hn r ?_
  refine Eq.mp (congrArg (fun κ => V P ac' κ (initS args)) ?_) hV
  funext e S
  cases e <;> rfl

/-! ### Rewriting -/

theorem V_reg (P : Program) (ops : List AI) (κ : Ex → St → Prop) (S : St) : V P (.reg ops) κ S = regV P S.clk ops (κ .normal) (S.bump ops.length) := rfl
theorem upd_lit {α : Type} (f : Nat → α) (i : Nat) (v : α) (j : Nat) : upd f i v j = if j = i then v else f j := rfl

theorem V_cond (P : Program) (c : X) (a b : AC) (κ : Ex → St → Prop) (S : St) (t : Bool) (h : c.ev S.t = .bool t) (h1 : t = true → V P a κ S) (h2 : t = false → V P b κ S) : V P (.cond c a b) κ S := by
  simp only [V, h]
  cases t with
  | true => simpa using h1 rfl
  | false => simpa using h2 rfl

/-- What a loop's body must come to. -/
def Lp (κ : Ex → St → Prop) (J : St → Prop) : Ex → St → Prop
  | .normal, S => J S
  | .exit i, S => κ (.exit i) S
  | .ret, S => κ .ret S

theorem CallP.mono {P : Program} {fv : AV} {vals : List AV} {S : St} {k k' : AV → St → Prop} (hk : ∀ r S', k r S' → k' r S') (h : CallP P fv vals S k) : CallP P fv vals S k' := by
  obtain ⟨f, caps, h1, h2, h3⟩ := h
  refine ⟨f, caps, h1, h2, fun E B W w args a1 a2 a3 a4 a5 a6 => (h3 E B W w args a1 a2 a3 a4 a5 a6).mono ?_⟩
  rintro e w' ⟨v, E', r, S', b1, b2, b3, b4, b5, b6, b7, b8, b9, b10⟩
  exact ⟨v, E', r, S', b1, b2, b3, b4, b5, b6, b7, b8, b9, hk r S' b10⟩
theorem runV_mono {P : Program} {st : Nat} {ai : AI} {S : St} {k k' : St → Prop} (hk : ∀ S', k S' → k' S') (h : runV P st ai S k) : runV P st ai S k' := by
  unfold runV at h ⊢
  split at h
  · exact CallP.mono (fun r S' q => hk _ q) h
  · rename_i op he
    cases hx : ex S.t S.blk S.tok st op with
    | none => rw [hx] at h; exact h
    | some e => rw [hx] at h; exact hk _ h
  · rename_i kd neg x he
    cases hx : ex S.t S.blk S.tok st (.nilq kd neg x) with
    | none => rw [hx] at h; exact ⟨h.1, fun b => hk _ (h.2 b)⟩
    | some e => rw [hx] at h; exact hk _ h
theorem stepV_mono {P : Program} {st : Nat} {ai : AI} {S : St} {k k' : St → Prop} (hk : ∀ S', k S' → k' S') (h : stepV P st ai S k) : stepV P st ai S k' := by
  unfold stepV at h ⊢
  cases hg : guardV S.t ai.g with
  | none => rw [hg] at h; exact h
  | some b =>
    rw [hg] at h
    cases b with
    | true => exact runV_mono hk h
    | false => exact hk _ h
theorem regV_mono {P : Program} : ∀ (l : List AI) {st : Nat} {S : St} {k k' : St → Prop}, (∀ S', k S' → k' S') → regV P st l k S → regV P st l k' S
  | [], _, S, _, _, hk, h => hk S h
  | i :: l, st, S, _, _, hk, h => stepV_mono (fun S' q => regV_mono l hk q) h
theorem regDV_mono {P : Program} {pre : List (List Nat)} : ∀ (l : List AI) {st j : Nat} {log : List (AI × Fp)} {S : St} {k k' : St → Prop}, (∀ S', k S' → k' S') → regDV P pre st j l log k S → regDV P pre st j l log k' S
  | [], _, _, _, S, _, _, hk, h => hk S h
  | i :: l, st, j, log, S, _, _, hk, h => by
    obtain ⟨e, h1, h2, h3⟩ := h
    exact ⟨e, h1, h2, regDV_mono l hk h3⟩
theorem V_mono {P : Program} : ∀ (ac : AC) {κ κ' : Ex → St → Prop} {S : St}, (∀ e S, κ e S → κ' e S) → V P ac κ S → V P ac κ' S
  | .skip, _, _, S, hk, h => hk _ S h
  | .seq a b, _, _, S, hk, h => by
    refine V_mono a ?_ h
    intro e S' q
    cases e with
    | normal => exact V_mono b hk q
    | exit i => exact hk _ _ q
    | ret => exact hk _ _ q
  | .cond c a b, _, _, S, hk, h => by
    unfold V at h ⊢
    split at h
    · rename_i t he
      cases t with
      | true => exact V_mono a hk h
      | false => exact V_mono b hk h
    · exact h.elim
  | .block id a, _, _, S, hk, h => by
    refine V_mono a ?_ h
    intro e S' q
    cases e with
    | normal => exact hk _ _ q
    | exit i =>
      dsimp only at q ⊢
      split at q
      · rename_i e; rw [if_pos e]; exact hk _ _ q
      · rename_i e; rw [if_neg e]; exact hk _ _ q
    | ret => exact hk _ _ q
  | .loop a, _, _, S, hk, h => by
    obtain ⟨I, m, h0, hs⟩ := h
    refine ⟨I, m, h0, fun m S' hI => V_mono a ?_ (hs m S' hI)⟩
    intro e S'' q
    cases e with
    | normal => exact q
    | exit i => exact hk _ _ q
    | ret => exact hk _ _ q
  | .exit id, _, _, S, hk, h => hk _ S h
  | .ret, _, _, S, hk, h => hk _ S h
  | .bad, _, _, S, hk, h => h.elim
  | .gh a, _, _, S, hk, h => let ⟨S', h1, h2⟩ := h; ⟨S', h1, V_mono a hk h2⟩
  | .reg ops, _, _, S, hk, h => regV_mono ops (fun S' q => hk _ S' q) h
  | .regd ops pre, _, _, S, hk, h => regDV_mono ops (fun S' q => hk _ S' q) h
  | .regi ops pre, _, _, S, hk, h => by
    obtain ⟨I, i1, i2, i3⟩ := h
    exact ⟨I, i1, i2, fun D S' q r => hk _ S' (i3 D S' q r)⟩

/-- A loop by a measure; at its head the state may be told in another way. -/
theorem V_loopW {P : Program} {a : AC} {κ : Ex → St → Prop} {S : St} (I : Nat → St → Prop) (m : Nat) (h0 : ∃ S1, Wk S S1 ∧ I m S1)
    (hs : ∀ m S', I m S' → V P a (Lp κ fun S'' => ∃ m' S2, m' < m ∧ Wk S'' S2 ∧ I m' S2) S') : V P (.loop a) κ S := by
  refine ⟨I, m, h0, fun m S' h => ?_⟩
  refine Eq.mp (congrArg (fun κ => V P a κ S') ?_) (hs m S' h)
  funext e S
  cases e <;> rfl

theorem V_loop {P : Program} {a : AC} {κ : Ex → St → Prop} {S : St} (I : Nat → St → Prop) (m : Nat) (h0 : I m S)
    (hs : ∀ m S', I m S' → V P a (Lp κ fun S'' => ∃ m', m' < m ∧ I m' S'') S') : V P (.loop a) κ S := by
  refine V_loopW I m ⟨S, .refl S, h0⟩ (fun m S' h => V_mono a ?_ (hs m S' h))
  intro e S'' q
  cases e with
  | normal => obtain ⟨m', h1, h2⟩ := q; exact ⟨m', S'', h1, .refl _, h2⟩
  | exit i => exact q
  | ret => exact q

/-- A loop that counts up. -/
theorem V_count {P : Program} {a : AC} {κ : Ex → St → Prop} {S : St} (J : Nat → St → Prop) (n : Nat) (h0 : J 0 S)
    (hs : ∀ i S', i ≤ n → J i S' → V P a (Lp κ fun S'' => i < n ∧ J (i + 1) S'') S') : V P (.loop a) κ S := by
  refine V_loop (fun m S => ∃ i, i ≤ n ∧ m = n - i ∧ J i S) n ⟨0, by omega, by omega, h0⟩ ?_
  rintro m S' ⟨i, h1, h2, h3⟩
  refine V_mono a ?_ (hs i S' h1 h3)
  intro e S'' q
  cases e with
  | normal => exact ⟨n - (i + 1), by have := q.1; omega, i + 1, q.1, rfl, q.2⟩
  | exit i => exact q
  | ret => exact q

/-- A loop that counts up; behind a round the state may be told in another way. -/
theorem V_countW {P : Program} {a : AC} {κ : Ex → St → Prop} {S : St} (J : Nat → St → Prop) (n : Nat) (h0 : ∃ S1, Wk S S1 ∧ J 0 S1)
    (hs : ∀ i S', i ≤ n → J i S' → V P a (Lp κ fun S'' => i < n ∧ ∃ S2, Wk S'' S2 ∧ J (i + 1) S2) S') : V P (.loop a) κ S := by
  refine V_loopW (fun m S => ∃ i, i ≤ n ∧ m = n - i ∧ J i S) n (let ⟨S1, h1, h2⟩ := h0; ⟨S1, h1, 0, by omega, by omega, h2⟩) ?_
  rintro m S' ⟨i, h1, h2, h3⟩
  refine V_mono a ?_ (hs i S' h1 h3)
  intro e S'' q
  cases e with
  | normal => obtain ⟨q1, S2, q2, q3⟩ := q; exact ⟨n - (i + 1), S2, by omega, q2, i + 1, q1, rfl, q3⟩
  | exit i => exact q
  | ret => exact q

end Go.Gv

/- The program's own data as abstract values, and what the walks rewrite with. No condition beyond those that each law names. -/
set_option linter.unusedVariables false
set_option linter.unusedSimpArgs false
namespace Go.Gv

attribute [simp] guardV X.ev.eq_1 X.ev.eq_2 St.bump St.put.eq_1 St.put.eq_2 St.app appB.eq_1 appB.eq_2 appT.eq_1 appT.eq_2
@[simp] theorem intBin_add (k : IntKind) (a b : Int) : intBin .add k a b = some (.int k (k.wrap (a + b))) := rfl
@[simp] theorem intBin_sub (k : IntKind) (a b : Int) : intBin .sub k a b = some (.int k (k.wrap (a - b))) := rfl
@[simp] theorem intBin_mul (k : IntKind) (a b : Int) : intBin .mul k a b = some (.int k (k.wrap (a * b))) := rfl
@[simp] theorem intBin_quo (k : IntKind) (a b : Int) : intBin .quo k a b = if b = 0 then none else some (.int k (k.wrap (a.tdiv b))) := rfl
@[simp] theorem intBin_rem (k : IntKind) (a b : Int) : intBin .rem k a b = if b = 0 then none else some (.int k (a.tmod b)) := rfl
@[simp] theorem intBin_and (k : IntKind) (a b : Int) : intBin .and k a b = some (.int k (bitAnd k a b)) := rfl
@[simp] theorem intBin_or (k : IntKind) (a b : Int) : intBin .or k a b = some (.int k (bitOr k a b)) := rfl
@[simp] theorem intBin_xor (k : IntKind) (a b : Int) : intBin .xor k a b = some (.int k (bitXor k a b)) := rfl
@[simp] theorem intBin_andNot (k : IntKind) (a b : Int) : intBin .andNot k a b = some (.int k (bitAndNot k a b)) := rfl
@[simp] theorem intBin_lss (k : IntKind) (a b : Int) : intBin .lss k a b = some (.bool (decide (a < b))) := rfl
@[simp] theorem intBin_leq (k : IntKind) (a b : Int) : intBin .leq k a b = some (.bool (decide (a ≤ b))) := rfl
@[simp] theorem intBin_gtr (k : IntKind) (a b : Int) : intBin .gtr k a b = some (.bool (decide (a > b))) := rfl
@[simp] theorem intBin_geq (k : IntKind) (a b : Int) : intBin .geq k a b = some (.bool (decide (a ≥ b))) := rfl
@[simp] theorem intBin_eql (k : IntKind) (a b : Int) : intBin .eql k a b = some (.bool (decide (a = b))) := rfl
@[simp] theorem intBin_neq (k : IntKind) (a b : Int) : intBin .neq k a b = some (.bool (!decide (a = b))) := rfl
attribute [simp] resOf.eq_1 resL.eq_1 resL.eq_2 resOf1.eq_1 resOf1.eq_2 resOf1.eq_3 initS upd_lit
attribute [simp] ex.eq_1 ex.eq_2 ex.eq_3 ex.eq_4 ex.eq_5 ex.eq_6 ex.eq_7 ex.eq_8 ex.eq_9 ex.eq_10 ex.eq_11 ex.eq_12 ex.eq_13 ex.eq_14 ex.eq_15 ex.eq_16 ex.eq_17 ex.eq_18 ex.eq_19 ex.eq_20 ex.eq_21 ex.eq_22 ex.eq_23 ex.eq_24 ex.eq_25 ex.eq_26 ex.eq_27 ex.eq_28 ex.eq_29 ex.eq_30 ex.eq_31 ex.eq_32 ex.eq_33 ex.eq_34
attribute [simp] ldOne ldAgg getB setCells.eq_1 fillA.eq_1 fillA.eq_2 optNat.eq_1 optNat.eq_2

@[simp] theorem undB_nilq (f : Nat → AV) (neg : Bool) (x : X) : undB f (.nilq 0 neg x) = undV (x.ev f) := rfl
@[simp] theorem undB_nilq1 (f : Nat → AV) (k : Nat) (neg : Bool) (x : X) : undB f (.nilq (k + 1) neg x) = false := rfl
attribute [simp] undV

section
variable {k : IntKind} {n : Int} {b : Bool} {cs xs : List AV} {s : ByteArray} {nm st sz i off len : Nat} {f : FuncId}
@[simp] theorem ends_normal (al : List ARes) (r : AV) (S : St) : Ends al r .normal S = ∃ v, resOf S al = some v ∧ coT (some S.blk) v r := rfl
@[simp] theorem ends_ret (al : List ARes) (r : AV) (S : St) : Ends al r .ret S = ∃ v, resOf S al = some v ∧ coT (some S.blk) v r := rfl
@[simp] theorem ends_exit (al : List ARes) (r : AV) (S : St) (i : Nat) : Ends al r (.exit i) S = False := rfl
@[simp] theorem lp_normal (κ : Ex → St → Prop) (J : St → Prop) (S : St) : Lp κ J .normal S = J S := rfl
@[simp] theorem lp_exit (κ : Ex → St → Prop) (J : St → Prop) (i : Nat) (S : St) : Lp κ J (.exit i) S = κ (.exit i) S := rfl
@[simp] theorem lp_ret (κ : Ex → St → Prop) (J : St → Prop) (S : St) : Lp κ J .ret S = κ .ret S := rfl
@[simp] theorem cells_agg : (AV.agg cs).cells = cs := rfl
@[simp] theorem cells_int : (AV.int k n).cells = [.int k n] := rfl
@[simp] theorem cells_bool : (AV.bool b).cells = [.bool b] := rfl
@[simp] theorem cells_str : (AV.str s).cells = [.str s] := rfl
@[simp] theorem cells_nils : AV.nils.cells = [.nils] := rfl
@[simp] theorem cells_nilp : AV.nilp.cells = [.nilp] := rfl
@[simp] theorem cells_nilf : AV.nilf.cells = [.nilf] := rfl
@[simp] theorem cells_lst : (AV.lst sz xs).cells = [.lst sz xs] := rfl
@[simp] theorem cells_acc : (AV.acc nm st sz xs).cells = [.acc nm st sz xs] := rfl
@[simp] theorem cells_sl : (AV.sl nm st sz off len).cells = [.sl nm st sz off len] := rfl
@[simp] theorem cells_ptr : (AV.ptr nm st sz i off).cells = [.ptr nm st sz i off] := rfl
@[simp] theorem cells_kp : (AV.kp cs off).cells = [.kp cs off] := rfl
@[simp] theorem cells_fn : (AV.fn f cs).cells = [.fn f cs] := rfl
@[simp] theorem one_int : (AV.int k n).one = true := rfl
@[simp] theorem one_bool : (AV.bool b).one = true := rfl
@[simp] theorem one_str : (AV.str s).one = true := rfl
@[simp] theorem one_nils : AV.nils.one = true := rfl
@[simp] theorem one_nilp : AV.nilp.one = true := rfl
@[simp] theorem one_nilf : AV.nilf.one = true := rfl
@[simp] theorem one_lst : (AV.lst sz xs).one = true := rfl
@[simp] theorem one_acc : (AV.acc nm st sz xs).one = true := rfl
@[simp] theorem one_sl : (AV.sl nm st sz off len).one = true := rfl
@[simp] theorem one_ptr : (AV.ptr nm st sz i off).one = true := rfl
@[simp] theorem one_kp : (AV.kp cs off).one = true := rfl
@[simp] theorem one_fn : (AV.fn f cs).one = true := rfl
@[simp] theorem cl1_int : (AV.int k n).cl1 = true := rfl
@[simp] theorem cl1_bool : (AV.bool b).cl1 = true := rfl
@[simp] theorem cl1_str : (AV.str s).cl1 = true := rfl
@[simp] theorem cl1_nils : AV.nils.cl1 = true := rfl
@[simp] theorem cl1_nilp : AV.nilp.cl1 = true := rfl
@[simp] theorem cl1_nilf : AV.nilf.cl1 = true := rfl
@[simp] theorem cl1_lst : (AV.lst sz xs).cl1 = true := rfl
@[simp] theorem cl1_acc : (AV.acc nm st sz xs).cl1 = false := rfl
@[simp] theorem cl1_sl : (AV.sl nm st sz off len).cl1 = false := rfl
@[simp] theorem cl1_kp : (AV.kp cs off).cl1 = true := rfl
@[simp] theorem norm1_int : norm1 (AV.int k n) = AV.int k n := rfl
@[simp] theorem norm1_bool : norm1 (AV.bool b) = .bool b := rfl
@[simp] theorem norm1_str : norm1 (AV.str s) = .str s := rfl
@[simp] theorem norm1_nils : norm1 AV.nils = .nils := rfl
@[simp] theorem norm1_lst : norm1 (AV.lst sz xs) = .lst sz xs := rfl
@[simp] theorem norm1_acc : norm1 (AV.acc nm st sz xs) = .lst sz xs := rfl
@[simp] theorem norm1_sl : norm1 (AV.sl nm st sz off len) = .sl nm st sz off len := rfl
@[simp] theorem normE_agg : normE (AV.agg cs) = .agg (cs.map norm1) := rfl
@[simp] theorem normE_int : normE (AV.int k n) = AV.int k n := rfl
@[simp] theorem normE_bool : normE (AV.bool b) = .bool b := rfl
@[simp] theorem normE_str : normE (AV.str s) = .str s := rfl
@[simp] theorem normE_lst : normE (AV.lst sz xs) = .lst sz xs := rfl
@[simp] theorem normE_acc : normE (AV.acc nm st sz xs) = .lst sz xs := rfl
@[simp] theorem normE_nils : normE AV.nils = .nils := rfl
@[simp] theorem asNat_iv : asNat (AV.int k n) = if 0 ≤ n then some n.toNat else none := rfl
@[simp] theorem lenOf_nils : lenOf .nils = some 0 := rfl
@[simp] theorem lenOf_lst : lenOf (.lst sz xs) = some xs.length := rfl
@[simp] theorem lenOf_acc : lenOf (.acc nm st sz xs) = some xs.length := rfl
@[simp] theorem lenOf_sl : lenOf (.sl nm st sz off len) = some len := rfl
variable {blk : Nat → Option Blk} {tok : Nat → Option Tok} {s' : Nat} {ty : TypeId}
@[simp] theorem cellsAt_ptr : cellsAt blk (.ptr nm st sz i off) = (getB blk nm st sz).bind fun es => (es[i]?).map fun x => (x.cells, off) := rfl
@[simp] theorem cellsAt_kp : cellsAt blk (.kp cs off) = some (cs, off) := rfl
@[simp] theorem listOf_nils : listOf blk sz .nils = some [] := rfl
@[simp] theorem listOf_lst : listOf blk sz (.lst s' xs) = if s' = sz then some xs else none := rfl
@[simp] theorem listOf_acc : listOf blk sz (.acc nm st s' xs) = if s' = sz then some xs else none := rfl
theorem listOf_sl : listOf blk sz (.sl nm st s' off len) = if s' = sz then (getB blk nm st s').bind fun es => if off + len ≤ es.length ∧ (((es.drop off).take len).all fun x => x.cells.all AV.cl1) = true then some ((es.drop off).take len) else none else none := rfl
@[simp] theorem listM_nils : listM blk sz .nils = some [] := rfl
@[simp] theorem listM_lst : listM blk sz (.lst s' xs) = if s' = sz then some xs else none := rfl
@[simp] theorem listM_acc : listM blk sz (.acc nm st s' xs) = if s' = sz then some xs else none := rfl
@[simp] theorem listM_sl : listM blk sz (.sl nm st s' off len) = if s' = sz then (getB blk nm st s').bind fun es => if off + len ≤ es.length then some ((es.drop off).take len) else none else none := rfl
@[simp] theorem appwBase_nils : appwBase blk sz .nils = some ([], none) := rfl
@[simp] theorem appwBase_sl : appwBase blk sz (.sl nm st s' off len) = if s' = sz then (getB blk nm st s').bind fun es => if off + len ≤ es.length then some ((es.drop off).take len, some nm) else none else none := rfl
@[simp] theorem nilA_nils : nilA 0 .nils = some true := rfl
@[simp] theorem nilA_nilp : nilA 1 .nilp = some true := rfl
@[simp] theorem nilA_nilf : nilA 2 .nilf = some true := rfl
@[simp] theorem nilA_ptr : nilA 1 (.ptr nm st sz i off) = some false := rfl
@[simp] theorem nilA_kp : nilA 1 (.kp cs off) = some false := rfl
@[simp] theorem nilA_fn : nilA 2 (.fn f cs) = some false := rfl
@[simp] theorem nilA_cons {x : AV} : nilA 0 (.lst sz (x :: xs)) = some false := rfl
@[simp] theorem nilA_acc {x : AV} : nilA 0 (.acc nm st sz (x :: xs)) = some false := rfl
@[simp] theorem nilA_sl : nilA 0 (.sl nm st sz off len) = if 0 < len then some false else none := rfl
@[simp] theorem appBase_nils : appBase tok sz ty .nils = some ([], none) := rfl
@[simp] theorem appBase_acc : appBase tok sz ty (.acc nm st s' xs) = match tok nm with
    | some t => if t.st = st ∧ t.sz = sz ∧ s' = sz ∧ t.ty = ty then some (xs, some nm) else none
    | none => none := rfl
@[simp] theorem idxA_lst : idxA blk sz (.lst s' xs) i = if s' = sz then (xs[i]?).map fun x => .kp x.cells 0 else none := rfl
@[simp] theorem idxA_acc : idxA blk sz (.acc nm st s' xs) i = if s' = sz then (xs[i]?).map fun x => .kp x.cells 0 else none := rfl
@[simp] theorem idxA_sl {j : Nat} : idxA blk sz (.sl nm st s' off len) j = if s' = sz ∧ j < len then some (.ptr nm st s' (off + j) 0) else none := rfl
variable {k' : IntKind} {n' : Int} {b' : Bool} {cs' xs' : List AV} {t t' : ByteArray} {B : Option (Nat → Option Blk)} {g : FuncId}
@[simp] theorem eq1_int : eq1 false (.int k n) (.int k' n') = if k = k' then some (decide (n = n')) else none := rfl
@[simp] theorem eq1_bool : eq1 true (.bool b) (.bool b') = some (b == b') := rfl
@[simp] theorem co1_int : co1 B (.int k n) (.int k' n') = (k = k' ∧ n = n') := rfl
@[simp] theorem co1_bool : co1 B (.bool b) (.bool b') = (b = b') := rfl
@[simp] theorem co1_str : co1 B (.str t) (.str t') = (t = t') := rfl
@[simp] theorem co1_nils : co1 B .nils .nils = True := rfl
@[simp] theorem co1_nilp : co1 B .nilp .nilp = True := rfl
@[simp] theorem co1_nilf : co1 B .nilf .nilf = True := rfl
@[simp] theorem co1_nils_lst : co1 B .nils (.lst s' xs) = (xs = []) := rfl
@[simp] theorem co1_lst : co1 B (.lst sz xs) (.lst s' xs') = (sz = s' ∧ xs = xs') := rfl
@[simp] theorem co1_acc : co1 B (.acc nm st sz xs) (.lst s' xs') = (sz = s' ∧ xs = xs') := rfl
@[simp] theorem co1_sl : co1 (some blk) (.sl nm st sz off len) (.lst s' xs') = (sz = s' ∧ listOf blk sz (.sl nm st sz off len) = some xs') := rfl
@[simp] theorem co1_fn : co1 B (.fn f []) (.fn g []) = (f = g) := rfl
@[simp] theorem coL_nil {R : AV → AV → Prop} : coL R [] [] = True := rfl
@[simp] theorem coL_cons {R : AV → AV → Prop} {x y : AV} {xs ys : List AV} : coL R (x :: xs) (y :: ys) = (R x y ∧ coL R xs ys) := rfl
@[simp] theorem co_agg : co B (.agg cs) (.agg cs') = coL (co1 B) cs cs' := rfl
@[simp] theorem coT_tup : coT B (.tup cs) (.tup cs') = coL (co B) cs cs' := rfl
@[simp] theorem coT_agg : coT B (.agg cs) (.agg cs') = coL (co1 B) cs cs' := rfl
@[simp] theorem co_int {y : AV} : co B (.int k n) y = co1 B (.int k n) y := by cases y <;> rfl
@[simp] theorem co_bool {y : AV} : co B (.bool b) y = co1 B (.bool b) y := by cases y <;> rfl
@[simp] theorem co_str {y : AV} : co B (.str t) y = co1 B (.str t) y := by cases y <;> rfl
@[simp] theorem co_nils {y : AV} : co B .nils y = co1 B .nils y := by cases y <;> rfl
@[simp] theorem co_lst {y : AV} : co B (.lst sz xs) y = co1 B (.lst sz xs) y := by cases y <;> rfl
@[simp] theorem co_acc {y : AV} : co B (.acc nm st sz xs) y = co1 B (.acc nm st sz xs) y := by cases y <;> rfl
@[simp] theorem co_sl {y : AV} : co B (.sl nm st sz off len) y = co1 B (.sl nm st sz off len) y := by cases y <;> rfl
@[simp] theorem co_fn {y : AV} : co B (.fn f cs) y = co1 B (.fn f cs) y := by cases y <;> rfl
@[simp] theorem coT_int {y : AV} : coT B (.int k n) y = co1 B (.int k n) y := by cases y <;> rfl
@[simp] theorem coT_bool {y : AV} : coT B (.bool b) y = co1 B (.bool b) y := by cases y <;> rfl
@[simp] theorem coT_str {y : AV} : coT B (.str t) y = co1 B (.str t) y := by cases y <;> rfl
@[simp] theorem coT_nils {y : AV} : coT B .nils y = co1 B .nils y := by cases y <;> rfl
@[simp] theorem coT_lst {y : AV} : coT B (.lst sz xs) y = co1 B (.lst sz xs) y := by cases y <;> rfl
@[simp] theorem coT_acc {y : AV} : coT B (.acc nm st sz xs) y = co1 B (.acc nm st sz xs) y := by cases y <;> rfl
@[simp] theorem coT_sl {y : AV} : coT B (.sl nm st sz off len) y = co1 B (.sl nm st sz off len) y := by cases y <;> rfl
@[simp] theorem coT_fn {y : AV} : coT B (.fn f cs) y = co1 B (.fn f cs) y := by cases y <;> rfl
end

abbrev iv (n : Int) : AV := .int .i64 n
abbrev ints (l : List Int) : AV := .lst 1 (l.map iv)

structure Ins where
  op : Int
  a : Int
deriving DecidableEq
structure Hnd where
  args : Int
  code : List Ins
deriving DecidableEq
structure Actr where
  regs : List Int
  cap : Int
  timer : Int
  armed : Bool
deriving DecidableEq
structure Nt where
  to : Int
  hd : Int
  args : List Int
deriving DecidableEq
structure Prg where
  hs : List Hnd
  as : List Actr
  boot : List Nt
  fuel : Int
deriving DecidableEq

@[simp] def Ins.av (i : Ins) : AV := .agg [iv i.op, iv i.a]
@[simp] def Hnd.av (h : Hnd) : AV := .agg [iv h.args, .lst 2 (h.code.map Ins.av)]
@[simp] def Actr.av (a : Actr) : AV := .agg [ints a.regs, iv a.cap, iv a.timer, .bool a.armed]
@[simp] def Nt.av (n : Nt) : AV := .agg [iv n.to, iv n.hd, ints n.args]
@[simp] def Prg.av (p : Prg) : AV := .agg [.lst 2 (p.hs.map Hnd.av), .lst 4 (p.as.map Actr.av), .lst 3 (p.boot.map Nt.av), iv p.fuel]

@[simp] theorem eqL_ii (k k' : IntKind) (a b c d : Int) : eqL [false, false] [.int k a, .int k' b] [.int k c, .int k' d] = some (decide (a = c) && decide (b = d)) := by
  by_cases h : a = c <;> by_cases h' : b = d <;> simp [eqL, h, h']
@[simp] theorem eqL_iii (k k' k'' : IntKind) (a b c d e f : Int) : eqL [false, false, false] [.int k a, .int k' b, .int k'' e] [.int k c, .int k' d, .int k'' f] = some (decide (a = c) && (decide (b = d) && decide (e = f))) := by
  by_cases h : a = c <;> by_cases h' : b = d <;> by_cases h'' : e = f <;> simp [eqL, h, h', h'']
theorem wrap_in (n : Int) (h1 : -9223372036854775808 ≤ n) (h2 : n ≤ 9223372036854775807) : IntKind.i64.wrap n = n := IntWalk.i64_in n ⟨h1, h2⟩
theorem wrap_succ (i n : Nat) (h : i < n) (hn : n < 4611686018427387904) : IntKind.i64.wrap ((i : Int) + 1) = ((i + 1 : Nat) : Int) := by
  rw [wrap_in _ (by omega) (by omega)]; rfl

end Go.Gv

/- Walking regions whose order is drawn; calls of functions by their own abstract code. No condition beyond those that each law names. -/
set_option linter.unusedVariables false
set_option linter.unusedSimpArgs false
namespace Go.Gv

def chk (pre : List Nat) (log : List (AI × Fp)) (i : AI) (fp : Fp) : Bool := log.zipIdx.all fun p => pre.contains p.2 || apartI p.1.1 i p.1.2 fp

/-! ### Walking by rewriting: what comes behind is not looked into before it is reached -/

inductive Dep {α : Type} (a : α) : Type where
  | mk
inductive Dep2 (p q : Prop) : Type where
  | mk

def condG (b : Bool) (p q : Prop) (u : Dep2 p q) : Prop := if b = true then p else q
@[simp] theorem condG_true (p q : Prop) (u : Dep2 p q) : condG true p q u = p := by simp [condG]
@[simp] theorem condG_false (p q : Prop) (u : Dep2 p q) : condG false p q u = q := by simp [condG]
@[simp] theorem condG_not (b : Bool) (p q : Prop) (u : Dep2 p q) : condG (!b) p q u = condG b q p .mk := by cases b <;> simp
@[simp] theorem condG_and (a b : Bool) (p q : Prop) (u : Dep2 p q) : condG (a && b) p q u = condG a (condG b p q .mk) q .mk := by cases a <;> simp
@[simp] theorem condG_or (a b : Bool) (p q : Prop) (u : Dep2 p q) : condG (a || b) p q u = condG a p (condG b p q .mk) .mk := by cases a <;> simp
theorem split {P p q : Prop} {d : Decidable P} {u : Dep2 p q} (h1 : P → p) (h2 : ¬ P → q) : condG (decide P) p q u := by
  by_cases h : P
  · simpa [h] using h1 h
  · simpa [h] using h2 h
theorem condG_split {b : Bool} {p q : Prop} {u : Dep2 p q} (h1 : b = true → p) (h2 : b = false → q) : condG b p q u := by
  cases b with
  | true => simpa [condG] using h1 rfl
  | false => simpa [condG] using h2 rfl
def condA (v : AV) (p q : Prop) (u : Dep2 p q) : Prop := match v with
  | .bool b => condG b p q .mk
  | _ => False
@[simp] theorem condA_bool (b : Bool) (p q : Prop) (u : Dep2 p q) : condA (.bool b) p q u = condG b p q .mk := rfl
def guardG (v : Option Bool) (p q : Prop) (u : Dep2 p q) : Prop := match v with
  | some b => condG b p q .mk
  | none => False
@[simp] theorem guardG_some (b : Bool) (p q : Prop) (u : Dep2 p q) : guardG (some b) p q u = condG b p q .mk := rfl
def optG {α : Type} (o : Option α) (k : α → Prop) (u : Dep k) : Prop := match o with
  | some e => k e
  | none => False
@[simp] theorem optG_some {α : Type} (e : α) (k : α → Prop) (u : Dep k) : optG (some e) k u = k e := rfl
/-- An operation whose answer may not be known. -/
def opG (o : Option Eff) (b : Bool) (k : Eff → Prop) (u : Dep k) : Prop := match o with
  | some e => k e
  | none => b = true ∧ ∀ b : Bool, k { v := .bool b }
@[simp] theorem opG_false (o : Option Eff) (k : Eff → Prop) (u : Dep k) : opG o false k u = optG o k .mk := by cases o <;> simp [opG, optG]
@[simp] theorem opG_some (e : Eff) (b : Bool) (k : Eff → Prop) (u : Dep k) : opG (some e) b k u = k e := rfl
theorem opG_none (k : Eff → Prop) (u : Dep k) (h1 : k { v := .bool true }) (h2 : k { v := .bool false }) : opG none true k u := ⟨rfl, fun b => by cases b <;> assumption⟩
def CallG (P : Program) (fv : AV) (vals : List AV) (S : St) (k : AV → St → Prop) (u : Dep k) : Prop := CallP P fv vals S k
theorem call {P : Program} {f : FuncId} {cargs : List AV} {r : AV} (h : PC P f cargs r) {caps vals : List AV} {S : St} {k : AV → St → Prop} {u : Dep k} (hco : coL (co none) (vals ++ caps) cargs) (hk : k r S) : CallG P (.fn f caps) vals S k u :=
  call_of_pc h hco hk
theorem callH {P : Program} {f : FuncId} {cargs : List AV} {r : AV} (h : PC P f cargs r) {caps vals : List AV} {S : St} {k : AV → St → Prop} {u : Dep k} (hco : coL (co (some S.blk)) (vals ++ caps) cargs) (hflat : flat r = true) (hk : k r S) : CallG P (.fn f caps) vals S k u :=
  callH_of_pc h hco hflat hk
def callD (P : Program) (fv : AV) (vals : List AV) (blk : Nat → Option Blk) (k : Eff → Prop) (u : Dep k) : Prop := ∃ e, LCallP P fv vals blk e ∧ k e
theorem calld {P : Program} {f : FuncId} {cargs : List AV} {r : AV} (h : PC P f cargs r) {caps vals : List AV} {blk : Nat → Option Blk} {k : Eff → Prop} {u : Dep k} (hco : coL (co none) (vals ++ caps) cargs) (hk : k ⟨r, [], []⟩) : callD P (.fn f caps) vals blk k u :=
  ⟨_, .pure (pcall_of_pc h hco) blk, hk⟩
def LoopG (P : Program) (a : AC) (κ : Ex → St → Prop) (S : St) (u : Dep κ) : Prop := V P (.loop a) κ S
def regG (P : Program) (st : Nat) (l : List AI) (S : St) (k : St → Prop) (u : Dep k) : Prop := regV P st l k S
def regDG (P : Program) (pre : List (List Nat)) (st j : Nat) (l : List AI) (log : List (AI × Fp)) (S : St) (k : St → Prop) (u : Dep k) : Prop := regDV P pre st j l log k S
def seqK (P : Program) (b : AC) (κ : Ex → St → Prop) : Ex → St → Prop
  | .normal, S => V P b κ S
  | .exit i, S => κ (.exit i) S
  | .ret, S => κ .ret S
def blockK (id : Nat) (κ : Ex → St → Prop) : Ex → St → Prop
  | .normal, S => κ .normal S
  | .exit i, S => if i = id then κ .normal S else κ (.exit i) S
  | .ret, S => κ .ret S
@[simp ↓] theorem seqK_normal (P : Program) (b : AC) (κ : Ex → St → Prop) (S : St) : seqK P b κ .normal S = V P b κ S := rfl
@[simp ↓] theorem seqK_exit (P : Program) (b : AC) (κ : Ex → St → Prop) (i : Nat) (S : St) : seqK P b κ (.exit i) S = κ (.exit i) S := rfl
@[simp ↓] theorem seqK_ret (P : Program) (b : AC) (κ : Ex → St → Prop) (S : St) : seqK P b κ .ret S = κ .ret S := rfl
@[simp ↓] theorem blockK_normal (id : Nat) (κ : Ex → St → Prop) (S : St) : blockK id κ .normal S = κ .normal S := rfl
@[simp ↓] theorem blockK_exit (id : Nat) (κ : Ex → St → Prop) (i : Nat) (S : St) : blockK id κ (.exit i) S = condG (decide (i = id)) (κ .normal S) (κ (.exit i) S) .mk := by simp [blockK, condG]
@[simp ↓] theorem blockK_ret (id : Nat) (κ : Ex → St → Prop) (S : St) : blockK id κ .ret S = κ .ret S := rfl
@[simp ↓] theorem V_skip (P : Program) (κ : Ex → St → Prop) (S : St) : V P .skip κ S = κ .normal S := rfl
@[simp ↓] theorem V_exit (P : Program) (i : Nat) (κ : Ex → St → Prop) (S : St) : V P (.exit i) κ S = κ (.exit i) S := rfl
@[simp ↓] theorem V_ret (P : Program) (κ : Ex → St → Prop) (S : St) : V P .ret κ S = κ .ret S := rfl
@[simp ↓] theorem V_seq (P : Program) (a b : AC) (κ : Ex → St → Prop) (S : St) : V P (.seq a b) κ S = V P a (seqK P b κ) S := by
  refine congrArg (fun κ => V P a κ S) ?_
  funext e S; cases e <;> rfl
@[simp ↓] theorem V_block (P : Program) (id : Nat) (a : AC) (κ : Ex → St → Prop) (S : St) : V P (.block id a) κ S = V P a (blockK id κ) S := by
  refine congrArg (fun κ => V P a κ S) ?_
  funext e S; cases e <;> rfl
@[simp ↓] theorem V_condG (P : Program) (c : X) (a b : AC) (κ : Ex → St → Prop) (S : St) : V P (.cond c a b) κ S = condA (c.ev S.t) (V P a κ S) (V P b κ S) .mk := by
  simp only [V, condA, condG] <;> cases c.ev S.t <;> rfl
@[simp ↓] theorem V_loopG (P : Program) (a : AC) (κ : Ex → St → Prop) (S : St) : V P (.loop a) κ S = LoopG P a κ S .mk := rfl
@[simp ↓] theorem V_regG (P : Program) (ops : List AI) (κ : Ex → St → Prop) (S : St) : V P (.reg ops) κ S = regG P S.clk ops (S.bump ops.length) (κ .normal) .mk := rfl
@[simp ↓] theorem V_regdG (P : Program) (ops : List AI) (pre : List (List Nat)) (κ : Ex → St → Prop) (S : St) : V P (.regd ops pre) κ S = regDG P pre S.clk 0 ops [] (S.bump ops.length) (κ .normal) .mk := rfl
def GhG (P : Program) (a : AC) (κ : Ex → St → Prop) (S : St) (u : Dep κ) : Prop := ∃ S', Wk S S' ∧ V P a κ S'
def regIG (P : Program) (pre : List (List Nat)) (st : Nat) (ops : List AI) (S : St) (k : St → Prop) (u : Dep k) : Prop := regI P pre st ops k S
@[simp ↓] theorem V_regiG (P : Program) (ops : List AI) (pre : List (List Nat)) (κ : Ex → St → Prop) (S : St) : V P (.regi ops pre) κ S = regIG P pre S.clk ops (S.bump ops.length) (κ .normal) .mk := rfl
@[simp ↓] theorem V_ghG (P : Program) (a : AC) (κ : Ex → St → Prop) (S : St) : V P (.gh a) κ S = GhG P a κ S .mk := rfl
theorem ghost {P : Program} {a : AC} {κ : Ex → St → Prop} {S : St} {u : Dep κ} (S' : St) (h : Wk S S') (hv : V P a κ S') : GhG P a κ S u := ⟨S', h, hv⟩
@[simp] theorem regG_nil (P : Program) (st : Nat) (S : St) (k : St → Prop) (u : Dep k) : regG P st [] S k u = k S := rfl
theorem stepV_none (P : Program) (st : Nat) (d : Option Nat) (x : AK) (S : St) (k : St → Prop) : stepV P st ⟨d, none, x⟩ S k = runV P st ⟨d, none, x⟩ S k := by simp [stepV, guardV]
@[simp] theorem regG_op (P : Program) (st : Nat) (d : Option Nat) (o : AOp) (l : List AI) (S : St) (k : St → Prop) (u : Dep k) :
    regG P st (⟨d, none, .op o⟩ :: l) S k u = optG (ex S.t S.blk S.tok st o) (fun e => regG P (st + 1) l (S.app d e) k .mk) .mk := by
  simp only [regG, regV, stepV_none, runV, optG]
  cases ex S.t S.blk S.tok st o <;> rfl
@[simp] theorem regG_nq (P : Program) (st : Nat) (d : Option Nat) (kd : Nat) (neg : Bool) (x : X) (l : List AI) (S : St) (k : St → Prop) (u : Dep k) :
    regG P st (⟨d, none, .nq kd neg x⟩ :: l) S k u = opG (ex S.t S.blk S.tok st (.nilq kd neg x)) (undB S.t (.nilq kd neg x)) (fun e => regG P (st + 1) l (S.app d e) k .mk) .mk := by
  simp only [regG, regV, stepV_none, runV, opG]
  cases ex S.t S.blk S.tok st (.nilq kd neg x) <;> rfl
@[simp] theorem regG_call (P : Program) (st : Nat) (d : Option Nat) (f : X) (args : List X) (l : List AI) (S : St) (k : St → Prop) (u : Dep k) :
    regG P st (⟨d, none, .call f args⟩ :: l) S k u = CallG P (f.ev S.t) (args.map fun x => x.ev S.t) S (fun r S' => regG P (st + 1) l (S'.put d r) k .mk) .mk := by
  simp only [regG, regV, stepV_none]
  rfl
@[simp] theorem regG_guard (P : Program) (st : Nat) (d : Option Nat) (g : Nat × Bool) (o : AK) (l : List AI) (S : St) (k : St → Prop) (u : Dep k) :
    regG P st (⟨d, some g, o⟩ :: l) S k u = guardG (guardV S.t (some g)) (regG P st (⟨d, none, o⟩ :: l) S k .mk) (regG P (st + 1) l (S.put d (.tup [])) k .mk) .mk := by
  simp only [regG, regV, stepV, runV, guardG, condG]
  cases guardV S.t (some g) <;> simp [guardV]


@[simp] theorem regDG_nil (P : Program) (pre : List (List Nat)) (st j : Nat) (log : List (AI × Fp)) (S : St) (k : St → Prop) (u : Dep k) : regDG P pre st j [] log S k u = k S := rfl
@[simp] theorem regDG_op (P : Program) (pre : List (List Nat)) (st j : Nat) (d : Option Nat) (o : AOp) (l : List AI) (log : List (AI × Fp)) (S : St) (k : St → Prop) (u : Dep k) :
    regDG P pre st j (⟨d, none, .op o⟩ :: l) log S k u = optG (ex S.t S.blk S.tok st o) (fun e =>
      condG (chk (pre.getD j []) log ⟨d, none, .op o⟩ (fpOf S.t ⟨d, none, .op o⟩ e)) (regDG P pre (st + 1) (j + 1) l (log ++ [(⟨d, none, .op o⟩, fpOf S.t ⟨d, none, .op o⟩ e)]) (S.app d e) k .mk) False .mk) .mk := by
  apply propext
  constructor
  · rintro ⟨e, h1, h2, h3⟩
    have : ex S.t S.blk S.tok st o = some e := h1
    rw [this]
    have h2 : chk (pre.getD j []) log ⟨d, none, .op o⟩ (fpOf S.t ⟨d, none, .op o⟩ e) = true := h2
    simp only [optG, h2, condG_true]
    exact h3
  · intro h
    cases hx : ex S.t S.blk S.tok st o with
    | none => rw [hx] at h; exact h.elim
    | some e =>
      rw [hx] at h
      cases hc : chk (pre.getD j []) log ⟨d, none, .op o⟩ (fpOf S.t ⟨d, none, .op o⟩ e) with
      | true => simp only [optG, hc, condG_true] at h; exact ⟨e, hx, hc, h⟩
      | false => simp only [optG, hc, condG_false] at h
@[simp] theorem regDG_nq (P : Program) (pre : List (List Nat)) (st j : Nat) (d : Option Nat) (kd : Nat) (neg : Bool) (x : X) (l : List AI) (log : List (AI × Fp)) (S : St) (k : St → Prop) (u : Dep k) :
    regDG P pre st j (⟨d, none, .nq kd neg x⟩ :: l) log S k u = optG (ex S.t S.blk S.tok st (.nilq kd neg x)) (fun e =>
      condG (chk (pre.getD j []) log ⟨d, none, .nq kd neg x⟩ (fpOf S.t ⟨d, none, .nq kd neg x⟩ e)) (regDG P pre (st + 1) (j + 1) l (log ++ [(⟨d, none, .nq kd neg x⟩, fpOf S.t ⟨d, none, .nq kd neg x⟩ e)]) (S.app d e) k .mk) False .mk) .mk := by
  apply propext
  constructor
  · rintro ⟨e, h1, h2, h3⟩
    have : ex S.t S.blk S.tok st (.nilq kd neg x) = some e := h1
    rw [this]
    have h2 : chk (pre.getD j []) log ⟨d, none, .nq kd neg x⟩ (fpOf S.t ⟨d, none, .nq kd neg x⟩ e) = true := h2
    simp only [optG, h2, condG_true]
    exact h3
  · intro h
    cases hx : ex S.t S.blk S.tok st (.nilq kd neg x) with
    | none => rw [hx] at h; exact h.elim
    | some e =>
      rw [hx] at h
      cases hc : chk (pre.getD j []) log ⟨d, none, .nq kd neg x⟩ (fpOf S.t ⟨d, none, .nq kd neg x⟩ e) with
      | true => simp only [optG, hc, condG_true] at h; exact ⟨e, hx, hc, h⟩
      | false => simp only [optG, hc, condG_false] at h
@[simp] theorem regDG_call (P : Program) (pre : List (List Nat)) (st j : Nat) (d : Option Nat) (f : X) (args : List X) (l : List AI) (log : List (AI × Fp)) (S : St) (k : St → Prop) (u : Dep k) :
    regDG P pre st j (⟨d, none, .call f args⟩ :: l) log S k u = callD P (f.ev S.t) (args.map fun x => x.ev S.t) S.blk (fun e =>
      condG (chk (pre.getD j []) log ⟨d, none, .call f args⟩ (fpOf S.t ⟨d, none, .call f args⟩ e)) (regDG P pre (st + 1) (j + 1) l (log ++ [(⟨d, none, .call f args⟩, fpOf S.t ⟨d, none, .call f args⟩ e)]) (S.app d e) k .mk) False .mk) .mk := by
  apply propext
  constructor
  · rintro ⟨e, h1, h2, h3⟩
    refine ⟨e, h1, ?_⟩
    have h2 : chk (pre.getD j []) log ⟨d, none, .call f args⟩ (fpOf S.t ⟨d, none, .call f args⟩ e) = true := h2
    simp only [h2, condG_true]
    exact h3
  · rintro ⟨e, h1, h⟩
    cases hc : chk (pre.getD j []) log ⟨d, none, .call f args⟩ (fpOf S.t ⟨d, none, .call f args⟩ e) with
    | true => simp only [hc, condG_true] at h; exact ⟨e, h1, hc, h⟩
    | false => simp only [hc, condG_false] at h
@[simp] theorem regDG_gop (P : Program) (pre : List (List Nat)) (st j : Nat) (d : Option Nat) (g : Nat × Bool) (o : AOp) (l : List AI) (log : List (AI × Fp)) (S : St) (k : St → Prop) (u : Dep k) :
    regDG P pre st j (⟨d, some g, .op o⟩ :: l) log S k u = guardG (guardV S.t (some g)) (optG (ex S.t S.blk S.tok st o) (fun e =>
      condG (chk (pre.getD j []) log ⟨d, some g, .op o⟩ (fpOf S.t ⟨d, some g, .op o⟩ e)) (regDG P pre (st + 1) (j + 1) l (log ++ [(⟨d, some g, .op o⟩, fpOf S.t ⟨d, some g, .op o⟩ e)]) (S.app d e) k .mk) False .mk) .mk)
      (condG (chk (pre.getD j []) log ⟨d, some g, .op o⟩ (fpOf S.t ⟨d, some g, .op o⟩ ⟨.tup [], [], []⟩)) (regDG P pre (st + 1) (j + 1) l (log ++ [(⟨d, some g, .op o⟩, fpOf S.t ⟨d, some g, .op o⟩ ⟨.tup [], [], []⟩)]) (S.app d ⟨.tup [], [], []⟩) k .mk) False .mk) .mk := by
  apply propext
  constructor
  · rintro ⟨e, h1, h2, h3⟩
    have h2 : chk (pre.getD j []) log ⟨d, some g, .op o⟩ (fpOf S.t ⟨d, some g, .op o⟩ e) = true := h2
    unfold Out at h1
    dsimp only at h1
    cases hg : guardV S.t (some g) with
    | none => rw [hg] at h1; exact h1.elim
    | some b =>
      rw [hg] at h1
      cases b with
      | true =>
        have h1 : ex S.t S.blk S.tok st o = some e := h1
        simp only [guardG_some, condG_true, h1, optG_some, h2]
        exact h3
      | false =>
        have h1 : e = ⟨.tup [], [], []⟩ := h1
        subst h1
        simp only [guardG_some, condG_false, condG_true, h2]
        exact h3
  · intro h
    cases hg : guardV S.t (some g) with
    | none => rw [hg] at h; exact h.elim
    | some b =>
      rw [hg] at h
      cases b with
      | true =>
        simp only [guardG_some, condG_true] at h
        cases hx : ex S.t S.blk S.tok st o with
        | none => rw [hx] at h; exact h.elim
        | some e =>
          rw [hx] at h
          simp only [optG_some] at h
          cases hc : chk (pre.getD j []) log ⟨d, some g, .op o⟩ (fpOf S.t ⟨d, some g, .op o⟩ e) with
          | true => simp only [hc, condG_true] at h; exact ⟨e, by unfold Out; dsimp only; rw [hg]; exact hx, hc, h⟩
          | false => simp only [hc, condG_false] at h
      | false =>
        simp only [guardG_some, condG_false] at h
        cases hc : chk (pre.getD j []) log ⟨d, some g, .op o⟩ (fpOf S.t ⟨d, some g, .op o⟩ ⟨.tup [], [], []⟩) with
        | true => simp only [hc, condG_true] at h; exact ⟨⟨.tup [], [], []⟩, by unfold Out; dsimp only; rw [hg]; rfl, hc, h⟩
        | false => simp only [hc, condG_false] at h
@[simp] theorem regDG_gnq (P : Program) (pre : List (List Nat)) (st j : Nat) (d : Option Nat) (g : Nat × Bool) (kd : Nat) (neg : Bool) (x : X) (l : List AI) (log : List (AI × Fp)) (S : St) (k : St → Prop) (u : Dep k) :
    regDG P pre st j (⟨d, some g, .nq kd neg x⟩ :: l) log S k u = guardG (guardV S.t (some g)) (optG (ex S.t S.blk S.tok st (.nilq kd neg x)) (fun e =>
      condG (chk (pre.getD j []) log ⟨d, some g, .nq kd neg x⟩ (fpOf S.t ⟨d, some g, .nq kd neg x⟩ e)) (regDG P pre (st + 1) (j + 1) l (log ++ [(⟨d, some g, .nq kd neg x⟩, fpOf S.t ⟨d, some g, .nq kd neg x⟩ e)]) (S.app d e) k .mk) False .mk) .mk)
      (condG (chk (pre.getD j []) log ⟨d, some g, .nq kd neg x⟩ (fpOf S.t ⟨d, some g, .nq kd neg x⟩ ⟨.tup [], [], []⟩)) (regDG P pre (st + 1) (j + 1) l (log ++ [(⟨d, some g, .nq kd neg x⟩, fpOf S.t ⟨d, some g, .nq kd neg x⟩ ⟨.tup [], [], []⟩)]) (S.app d ⟨.tup [], [], []⟩) k .mk) False .mk) .mk := by
  apply propext
  constructor
  · rintro ⟨e, h1, h2, h3⟩
    have h2 : chk (pre.getD j []) log ⟨d, some g, .nq kd neg x⟩ (fpOf S.t ⟨d, some g, .nq kd neg x⟩ e) = true := h2
    unfold Out at h1
    dsimp only at h1
    cases hg : guardV S.t (some g) with
    | none => rw [hg] at h1; exact h1.elim
    | some b =>
      rw [hg] at h1
      cases b with
      | true =>
        have h1 : ex S.t S.blk S.tok st (.nilq kd neg x) = some e := h1
        simp only [guardG_some, condG_true, h1, optG_some, h2]
        exact h3
      | false =>
        have h1 : e = ⟨.tup [], [], []⟩ := h1
        subst h1
        simp only [guardG_some, condG_false, condG_true, h2]
        exact h3
  · intro h
    cases hg : guardV S.t (some g) with
    | none => rw [hg] at h; exact h.elim
    | some b =>
      rw [hg] at h
      cases b with
      | true =>
        simp only [guardG_some, condG_true] at h
        cases hx : ex S.t S.blk S.tok st (.nilq kd neg x) with
        | none => rw [hx] at h; exact h.elim
        | some e =>
          rw [hx] at h
          simp only [optG_some] at h
          cases hc : chk (pre.getD j []) log ⟨d, some g, .nq kd neg x⟩ (fpOf S.t ⟨d, some g, .nq kd neg x⟩ e) with
          | true => simp only [hc, condG_true] at h; exact ⟨e, by unfold Out; dsimp only; rw [hg]; exact hx, hc, h⟩
          | false => simp only [hc, condG_false] at h
      | false =>
        simp only [guardG_some, condG_false] at h
        cases hc : chk (pre.getD j []) log ⟨d, some g, .nq kd neg x⟩ (fpOf S.t ⟨d, some g, .nq kd neg x⟩ ⟨.tup [], [], []⟩) with
        | true => simp only [hc, condG_true] at h; exact ⟨⟨.tup [], [], []⟩, by unfold Out; dsimp only; rw [hg]; rfl, hc, h⟩
        | false => simp only [hc, condG_false] at h
@[simp] theorem regDG_gcall (P : Program) (pre : List (List Nat)) (st j : Nat) (d : Option Nat) (g : Nat × Bool) (f : X) (args : List X) (l : List AI) (log : List (AI × Fp)) (S : St) (k : St → Prop) (u : Dep k) :
    regDG P pre st j (⟨d, some g, .call f args⟩ :: l) log S k u = guardG (guardV S.t (some g)) (callD P (f.ev S.t) (args.map fun x => x.ev S.t) S.blk (fun e =>
      condG (chk (pre.getD j []) log ⟨d, some g, .call f args⟩ (fpOf S.t ⟨d, some g, .call f args⟩ e)) (regDG P pre (st + 1) (j + 1) l (log ++ [(⟨d, some g, .call f args⟩, fpOf S.t ⟨d, some g, .call f args⟩ e)]) (S.app d e) k .mk) False .mk) .mk)
      (condG (chk (pre.getD j []) log ⟨d, some g, .call f args⟩ (fpOf S.t ⟨d, some g, .call f args⟩ ⟨.tup [], [], []⟩)) (regDG P pre (st + 1) (j + 1) l (log ++ [(⟨d, some g, .call f args⟩, fpOf S.t ⟨d, some g, .call f args⟩ ⟨.tup [], [], []⟩)]) (S.app d ⟨.tup [], [], []⟩) k .mk) False .mk) .mk := by
  apply propext
  constructor
  · rintro ⟨e, h1, h2, h3⟩
    have h2 : chk (pre.getD j []) log ⟨d, some g, .call f args⟩ (fpOf S.t ⟨d, some g, .call f args⟩ e) = true := h2
    unfold Out at h1
    dsimp only at h1
    cases hg : guardV S.t (some g) with
    | none => rw [hg] at h1; exact h1.elim
    | some b =>
      rw [hg] at h1
      cases b with
      | true =>
        have h1 : LCallP P (f.ev S.t) (args.map fun x => x.ev S.t) S.blk e := h1
        simp only [guardG_some, condG_true]
        refine ⟨e, h1, ?_⟩
        simp only [h2, condG_true]
        exact h3
      | false =>
        have h1 : e = ⟨.tup [], [], []⟩ := h1
        subst h1
        simp only [guardG_some, condG_false, condG_true, h2]
        exact h3
  · intro h
    cases hg : guardV S.t (some g) with
    | none => rw [hg] at h; exact h.elim
    | some b =>
      rw [hg] at h
      cases b with
      | true =>
        simp only [guardG_some, condG_true] at h
        obtain ⟨e, h1, h⟩ := h
        cases hc : chk (pre.getD j []) log ⟨d, some g, .call f args⟩ (fpOf S.t ⟨d, some g, .call f args⟩ e) with
        | true => simp only [hc, condG_true] at h; exact ⟨e, by unfold Out; dsimp only; rw [hg]; exact h1, hc, h⟩
        | false => simp only [hc, condG_false] at h
      | false =>
        simp only [guardG_some, condG_false] at h
        cases hc : chk (pre.getD j []) log ⟨d, some g, .call f args⟩ (fpOf S.t ⟨d, some g, .call f args⟩ ⟨.tup [], [], []⟩) with
        | true => simp only [hc, condG_true] at h; exact ⟨⟨.tup [], [], []⟩, by unfold Out; dsimp only; rw [hg]; rfl, hc, h⟩
        | false => simp only [hc, condG_false] at h

/-- A loop by a measure. -/
theorem loopM {P : Program} {a : AC} {κ : Ex → St → Prop} {S : St} {u : Dep κ} (I : Nat → St → Prop) (m : Nat) (h0 : I m S)
    (hs : ∀ m S', I m S' → V P a (Lp κ fun S'' => ∃ m', m' < m ∧ I m' S'') S') : LoopG P a κ S u := V_loop I m h0 hs
theorem loopMW {P : Program} {a : AC} {κ : Ex → St → Prop} {S : St} {u : Dep κ} (I : Nat → St → Prop) (m : Nat) (h0 : ∃ S1, Wk S S1 ∧ I m S1)
    (hs : ∀ m S', I m S' → V P a (Lp κ fun S'' => ∃ m' S2, m' < m ∧ Wk S'' S2 ∧ I m' S2) S') : LoopG P a κ S u := V_loopW I m h0 hs
theorem loopNW {P : Program} {a : AC} {κ : Ex → St → Prop} {S : St} {u : Dep κ} (J : Nat → St → Prop) (n : Nat) (h0 : ∃ S1, Wk S S1 ∧ J 0 S1)
    (hs : ∀ i S', i ≤ n → J i S' → V P a (Lp κ fun S'' => i < n ∧ ∃ S2, Wk S'' S2 ∧ J (i + 1) S2) S') : LoopG P a κ S u := V_countW J n h0 hs
/-- A loop that counts up. -/
theorem loopN {P : Program} {a : AC} {κ : Ex → St → Prop} {S : St} {u : Dep κ} (J : Nat → St → Prop) (n : Nat) (h0 : J 0 S)
    (hs : ∀ i S', i ≤ n → J i S' → V P a (Lp κ fun S'' => i < n ∧ J (i + 1) S'') S') : LoopG P a κ S u := V_count J n h0 hs

theorem sliceA_sl' {so : Option Nat} {nm st s off len : Nat} {lo hi : Option Nat} : sliceA so (.sl nm st s off len) lo hi = if so = some s ∧ lo.getD 0 ≤ hi.getD len ∧ hi.getD len ≤ len then some (.sl nm st s (off + lo.getD 0) (hi.getD len - lo.getD 0)) else none := rfl
theorem sliceA_lst' {so : Option Nat} {s : Nat} {xs : List AV} {lo hi : Option Nat} : sliceA so (.lst s xs) lo hi = if so = some s ∧ lo.getD 0 ≤ hi.getD xs.length ∧ hi.getD xs.length ≤ xs.length then some (.lst s ((xs.take (hi.getD xs.length)).drop (lo.getD 0))) else none := rfl
theorem sliceA_acc' {so : Option Nat} {nm st s : Nat} {xs : List AV} {lo hi : Option Nat} : sliceA so (.acc nm st s xs) lo hi = if so = some s ∧ lo.getD 0 ≤ hi.getD xs.length ∧ hi.getD xs.length ≤ xs.length then some (.lst s ((xs.take (hi.getD xs.length)).drop (lo.getD 0))) else none := rfl
theorem sliceA_nils' {so : Option Nat} {lo hi : Option Nat} : sliceA so .nils lo hi = if so ≠ none ∧ hi.getD 0 = 0 ∧ lo.getD 0 = 0 then some .nils else none := rfl
theorem sliceA_str' {so : Option Nat} {s : ByteArray} {lo hi : Option Nat} : sliceA so (.str s) lo hi = if so = none ∧ lo.getD 0 ≤ hi.getD s.size ∧ hi.getD s.size ≤ s.size then some (.str (s.extract (lo.getD 0) (hi.getD s.size))) else none := rfl
attribute [simp] sliceA_sl' sliceA_lst' sliceA_acc' sliceA_nils' sliceA_str'
attribute [simp] rxO txO AK.rxs AK.txs
attribute [simp] chk fpOf apartI Fp.apart disj AK.xs.eq_1 AK.xs.eq_2 AK.xs.eq_3 AI.slots rdV.eq_1 rdV.eq_2
attribute [simp] aopXs.eq_1 aopXs.eq_2 aopXs.eq_3 aopXs.eq_4 aopXs.eq_5 aopXs.eq_6 aopXs.eq_7 aopXs.eq_8 aopXs.eq_9 aopXs.eq_10 aopXs.eq_11 aopXs.eq_12 aopXs.eq_13 aopXs.eq_14 aopXs.eq_15 aopXs.eq_16 aopXs.eq_17 aopXs.eq_18 aopXs.eq_19 aopXs.eq_20 aopXs.eq_21 aopXs.eq_22 aopXs.eq_23 aopXs.eq_24 aopXs.eq_25 aopXs.eq_26 aopXs.eq_27 aopXs.eq_28 aopXs.eq_29 aopXs.eq_30 aopXs.eq_31 aopXs.eq_32
section
variable {k : IntKind} {n : Int} {b : Bool} {cs xs : List AV} {s : ByteArray} {nm st sz i off len : Nat} {f : FuncId}
@[simp] theorem rdV_int : rdV (.int k n) = [] := rfl
@[simp] theorem rdV_bool : rdV (.bool b) = [] := rfl
@[simp] theorem rdV_str : rdV (.str s) = [] := rfl
@[simp] theorem rdV_nils : rdV .nils = [] := rfl
@[simp] theorem rdV_nilp : rdV .nilp = [] := rfl
@[simp] theorem rdV_nilf : rdV .nilf = [] := rfl
@[simp] theorem rdV_lst : rdV (.lst sz xs) = [] := rfl
@[simp] theorem rdV_acc : rdV (.acc nm st sz xs) = [] := rfl
@[simp] theorem rdV_kp : rdV (.kp cs off) = [] := rfl
@[simp] theorem rdV_fn : rdV (.fn f cs) = [] := rfl
@[simp] theorem rdV_agg : rdV (.agg cs) = [] := rfl
@[simp] theorem rdV_tup : rdV (.tup cs) = [] := rfl
@[simp] theorem tkV_int : tkV (.int k n) = [] := rfl
@[simp] theorem tkV_bool : tkV (.bool b) = [] := rfl
@[simp] theorem tkV_str : tkV (.str s) = [] := rfl
@[simp] theorem tkV_nils : tkV .nils = [] := rfl
@[simp] theorem tkV_nilp : tkV .nilp = [] := rfl
@[simp] theorem tkV_nilf : tkV .nilf = [] := rfl
@[simp] theorem tkV_lst : tkV (.lst sz xs) = [] := rfl
@[simp] theorem tkV_acc : tkV (.acc nm st sz xs) = [nm] := rfl
@[simp] theorem tkV_kp : tkV (.kp cs off) = [] := rfl
@[simp] theorem tkV_fn : tkV (.fn f cs) = [] := rfl
@[simp] theorem tkV_agg : tkV (.agg cs) = [] := rfl
@[simp] theorem tkV_tup : tkV (.tup cs) = [] := rfl
@[simp] theorem tkV_ptr : tkV (.ptr nm st sz i off) = [] := rfl
@[simp] theorem tkV_sl : tkV (.sl nm st sz off len) = [] := rfl
end

/-! ### Spec of chapter 3 -/

def operandV (n : Int) : Int := if n = 1 then 1 else if n = 5 ∨ n = 6 then 2 else if n = 7 then 3 else if n = 20 ∨ n = 21 then 4 else if n = 22 then 5 else 0
theorem operandV_cases (n : Int) : operandV n = 0 ∨ operandV n = 1 ∨ operandV n = 2 ∨ operandV n = 3 ∨ operandV n = 4 ∨ operandV n = 5 := by unfold operandV; grind

def firstNZ : List Int → Int
  | [] => 0
  | x :: l => if x ≠ 0 then x else firstNZ l
theorem firstNZ_drop (l : List Int) (i : Nat) (h : i < l.length) : firstNZ (l.drop i) = if l[i] ≠ 0 then l[i] else firstNZ (l.drop (i + 1)) := by
  rw [List.drop_eq_getElem_cons h, firstNZ]
theorem firstNZ_end (l : List Int) (i : Nat) (h : l.length ≤ i) : firstNZ (l.drop i) = 0 := by rw [List.drop_of_length_le h]; rfl

def instrV (nh args n : Int) (i : Ins) : Int :=
  if ¬ (1 ≤ i.op ∧ i.op ≤ 25) ∨ (operandV i.op = 0 ∧ i.a ≠ 0) then 1
  else if operandV i.op = 4 ∧ (i.a < 0 ∨ i.a > n) then 4
  else if (operandV i.op = 2 ∧ (i.a < 0 ∨ i.a ≥ 8)) ∨ (operandV i.op = 3 ∧ (i.a < 0 ∨ i.a ≥ args)) then 6
  else if operandV i.op = 5 ∧ (i.a < 0 ∨ i.a ≥ nh) then 7 else 0

def handlerV (nh : Int) (h : Hnd) : Int :=
  if h.args < 0 ∨ h.args > 4 then 1 else if (h.code.length : Int) > 64 then 3 else firstNZ (h.code.map (instrV nh h.args h.code.length))

def actorV (hs : List Hnd) (a : Actr) : Int :=
  if (a.regs.length : Int) > 8 then 3 else if a.cap < 0 ∨ a.cap > 16 then 1
  else if a.timer ≠ -1 ∧ (a.timer < 0 ∨ a.timer ≥ hs.length ∨ (hs[a.timer.toNat]?.map Hnd.args).getD 0 ≠ 0) then 7
  else if a.armed = true ∧ a.timer = -1 then 1 else 0

def noteV (hs : List Hnd) (na : Int) (n : Nt) : Int :=
  if n.to < 0 ∨ n.to ≥ na ∨ n.hd < 0 ∨ n.hd ≥ hs.length then 7
  else if (n.args.length : Int) ≠ (hs[n.hd.toNat]?.map Hnd.args).getD 0 then 1 else 0

def checkV (p : Prg) : Int :=
  if (p.hs.length : Int) > 16 ∨ (p.as.length : Int) > 8 ∨ (p.boot.length : Int) > 16 then 3
  else if p.as.length = 0 ∨ p.fuel < 1 ∨ p.fuel > 256 then 1
  else if firstNZ (p.hs.map (handlerV p.hs.length)) ≠ 0 then firstNZ (p.hs.map (handlerV p.hs.length))
  else if firstNZ (p.as.map (actorV p.hs)) ≠ 0 then firstNZ (p.as.map (actorV p.hs))
  else firstNZ (p.boot.map (noteV p.hs p.as.length))

end Go.Gv
