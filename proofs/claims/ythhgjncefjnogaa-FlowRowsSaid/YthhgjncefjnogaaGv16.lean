/- What holds ahead of abstract code holds ahead of the model's code; and a function's contract by its abstract code. No condition beyond those that each law names. -/
import Derived.Test.YthhgjncefjnogaaGv15
set_option linter.unusedVariables false
set_option linter.unusedSimpArgs false
namespace Go.Gv
open Go.RowKit

inductive Ex where
  | normal
  | exit (id : Nat)
  | ret

def preOf : List (List Nat) → List Oper → List (List Nat)
  | acc, [] => acc
  | acc, o :: l =>
    let direct := (o.after.toList.filter fun e => Region.binds .any e).map (·.on)
    preOf (acc ++ [(direct ++ direct.flatMap fun j => acc.getD j []).eraseDups]) l

/-- Is a mark asked for ahead of a region? -/
def ghOf (hint : List (Nat × Nat)) (id : Nat) (a : AC) : AC := if (hint.lookup (1000000 + id)).isSome = true then .gh a else a

def cCode (P : Program) (n base : Nat) (hint : List (Nat × Nat)) : Code → Option AC
  | .skip => some .skip
  | .seq a b => (cCode P n base hint a).bind fun a => (cCode P n base hint b).map fun b => .seq a b
  | .cond c a b => (cX n c).bind fun c => (cCode P n base hint a).bind fun a => (cCode P n base hint b).map fun b => .cond c a b
  | .block id a => (cCode P n base hint a).map fun a => .block id a
  | .loop a => (cCode P n base hint a).map .loop
  | .exit id => some (.exit id)
  | .ret => some .ret
  | .region id ops draw => if draw = true then (if edgesOk (preOf [] ops.toList) 0 ops.toList = true ∧ P.follows .mixedOrders = true then (cIs P n base hint ops ops.toList).map fun l => ghOf hint id (.regd l (preOf [] ops.toList)) else none) else (cIs P n base hint ops ops.toList).map fun l => ghOf hint id (.reg l)
  | _ => some .bad

def St.bump (S : St) (k : Nat) : St := { S with clk := S.clk + k }

def V (P : Program) : AC → (Ex → St → Prop) → St → Prop
  | .skip, κ, S => κ .normal S
  | .seq a b, κ, S => V P a (fun e S' => match e with
    | .normal => V P b κ S'
    | .exit i => κ (.exit i) S'
    | .ret => κ .ret S') S
  | .cond c a b, κ, S => match c.ev S.t with
    | .bool t => if t = true then V P a κ S else V P b κ S
    | _ => False
  | .block id a, κ, S => V P a (fun e S' => match e with
    | .normal => κ .normal S'
    | .exit i => if i = id then κ .normal S' else κ (.exit i) S'
    | .ret => κ .ret S') S
  | .loop a, κ, S => ∃ (I : Nat → St → Prop) (m : Nat), (∃ S1, Wk S S1 ∧ I m S1) ∧ ∀ m S', I m S' → V P a (fun e S'' => match e with
    | .normal => ∃ m' S2, m' < m ∧ Wk S'' S2 ∧ I m' S2
    | .exit i => κ (.exit i) S''
    | .ret => κ .ret S'') S'
  | .exit id, κ, S => κ (.exit id) S
  | .ret, κ, S => κ .ret S
  | .gh a, κ, S => ∃ S', Wk S S' ∧ V P a κ S'
  | .bad, κ, S => False
  | .reg ops, κ, S => regV P S.clk ops (κ .normal) (S.bump ops.length)
  | .regd ops pre, κ, S => regDV P pre S.clk 0 ops [] (κ .normal) (S.bump ops.length)

section
variable {P : Program} {K0 : Gh} {B : Nat} {W : World} {n : Nat}

def Post (K0 : Gh) (B : Nat) (W : World) (n : Nat) (κ : Ex → St → Prop) : Exit → Act → World → Prop := fun e a w =>
  ∃ E S, Conc K0 E B W n S a w ∧ (∀ s, E.u s → s < S.clk) ∧ match e with
    | .normal => κ .normal S
    | .exit i => κ (.exit i) S
    | .ret => κ .ret S
    | _ => False

theorem Conc.bump {E : Env} {S : St} {a : Act} {w : World} (C : Conc K0 E B W n S a w) (k : Nat) : Conc K0 E B W n (S.bump k) a w := ⟨C.H, C.bel, C.le, C.df, C.sz, C.tm, C.kb, C.le0, C.u0, Nat.le_trans C.ck (Nat.le_add_right _ _)⟩

theorem Conc.drew {E : Env} {S : St} {a : Act} {w : World} (C : Conc K0 E B W n S a w) : Conc K0 E B W n S a { w with drawn := w.drawn + 1 } :=
  ⟨C.H.change C.H.K (fun _ _ _ => rfl) (fun _ _ _ _ _ => rfl), C.bel.drew, C.le, C.df, C.sz, C.tm, C.kb, C.le0, C.u0, C.ck⟩

theorem V_sound (base : Nat) (hint : List (Nat × Nat)) : ∀ (c : Code) (ac : AC), cCode P n base hint c = some ac → ∀ (κ : Ex → St → Prop) (S : St), V P ac κ S → ∀ (E : Env) (a : Act) (w : World), Conc K0 E B W n S a w → (∀ s, E.u s → s < S.clk) →
    c.wp P (Post K0 B W n κ) a w := by
  intro c
  induction c with
  | skip => intro ac hc κ S h E a w C hu; cases hc; exact wp_skip ⟨E, S, C, hu, h⟩
  | seq x y ihx ihy =>
    intro ac hc κ S h E a w C hu
    simp only [cCode, Option.bind_eq_some_iff, Option.map_eq_some_iff] at hc
    obtain ⟨ax, hax, ay, hay, rfl⟩ := hc
    refine wp_seq (wp_mono (ihx ax hax _ S h E a w C hu) ?_)
    rintro e a' w' ⟨E', S', C', hu', hk⟩
    cases e with
    | normal => exact ihy ay hay κ S' hk E' a' w' C' hu'
    | exit i => exact ⟨E', S', C', hu', hk⟩
    | ret => exact ⟨E', S', C', hu', hk⟩
    | goto l => exact hk.elim
    | panic ch => exact hk.elim
    | outgrown => exact hk.elim
  | cond x y z ihy ihz =>
    intro ac hc κ S h E a w C hu
    simp only [cCode, Option.bind_eq_some_iff, Option.map_eq_some_iff] at hc
    obtain ⟨cx, hcx, ay, hay, az, haz, rfl⟩ := hc
    simp only [V] at h
    split at h
    · rename_i t ht
      have hr := cX_ok C.tm hcx
      rw [ht] at hr
      refine wp_cond hr.bool_inv ?_
      split at h
      · rename_i hb; subst hb; exact ihy ay hay κ S h E a w C hu
      · rename_i hb
        have hb' : t = false := by simpa using hb
        subst hb'; exact ihz az haz κ S h E a w C hu
    · exact h.elim
  | block id x ih =>
    intro ac hc κ S h E a w C hu
    simp only [cCode, Option.map_eq_some_iff] at hc
    obtain ⟨ax, hax, rfl⟩ := hc
    refine wp_block (wp_mono (ih ax hax _ S h E a w C hu) ?_)
    rintro e a' w' ⟨E', S', C', hu', hk⟩
    cases e with
    | normal => exact ⟨E', S', C', hu', hk⟩
    | exit i =>
      simp only [Exit.inBlock] at hk ⊢
      split at hk
      · rename_i hi; rw [if_pos hi]; exact ⟨E', S', C', hu', hk⟩
      · rename_i hi; rw [if_neg hi]; exact ⟨E', S', C', hu', hk⟩
    | ret => exact ⟨E', S', C', hu', hk⟩
    | goto l => exact hk.elim
    | panic ch => exact hk.elim
    | outgrown => exact hk.elim
  | loop x ih =>
    intro ac hc κ S h E a w C hu
    simp only [cCode, Option.map_eq_some_iff] at hc
    obtain ⟨ax, hax, rfl⟩ := hc
    obtain ⟨I, m, ⟨S1, hk1, h0⟩, hr⟩ := h
    obtain ⟨E1, C1, hu1⟩ := C.wk hu hk1
    refine wp_loop_ghost (fun m a w => ∃ E S, Conc K0 E B W n S a w ∧ (∀ s, E.u s → s < S.clk) ∧ I m S) m ⟨E1, S1, C1, hu1, h0⟩ ?_
    rintro m a' w' ⟨E', S', C', hu', hI⟩
    refine wp_mono (ih ax hax _ S' (hr m S' hI) E' a' w' C' hu') ?_
    rintro e a'' w'' ⟨E'', S'', C'', hu'', hk⟩
    cases e with
    | normal => obtain ⟨m', S2, hm, hk2, hI'⟩ := hk; obtain ⟨E2, C2, hu2⟩ := C''.wk hu'' hk2; exact ⟨m', hm, E2, S2, C2, hu2, hI'⟩
    | exit i => exact ⟨E'', S'', C'', hu'', hk⟩
    | ret => exact ⟨E'', S'', C'', hu'', hk⟩
    | goto l => exact hk.elim
    | panic ch => exact hk.elim
    | outgrown => exact hk.elim
  | exit id => intro ac hc κ S h E a w C hu; cases hc; exact wp_exit ⟨E, S, C, hu, h⟩
  | ret => intro ac hc κ S h E a w C hu; cases hc; exact wp_ret ⟨E, S, C, hu, h⟩
  | region id ops draw =>
    intro ac hc κ S h E a w C hu
    simp only [cCode] at hc
    have marks : ∀ (ac' : AC), ghOf hint id ac' = ac → ∃ E S, Conc K0 E B W n S a w ∧ (∀ s, E.u s → s < S.clk) ∧ V P ac' κ S := by
      intro ac' e
      unfold ghOf at e
      split at e
      · subst e
        obtain ⟨S', hk, hv⟩ := h
        obtain ⟨E', C', hu'⟩ := C.wk hu hk
        exact ⟨E', S', C', hu', hv⟩
      · subst e; exact ⟨E, S, C, hu, h⟩
    split at hc
    · rename_i hd; subst hd
      split at hc
      · rename_i hq
        simp only [Option.map_eq_some_iff] at hc
        obtain ⟨l, hl, hac⟩ := hc
        obtain ⟨E, S, C, hu, h⟩ := marks _ hac
        obtain ⟨e1, _⟩ := cIs_get _ _ hl
        have e1' : l.length = ops.size := by simpa using e1
        simp only [V] at h
        obtain ⟨es, hS⟩ := shown_of P (preOf [] ops.toList) S.clk (S.bump l.length) (κ .normal) l [] [] [] (S.bump l.length) rfl rfl rfl (by simp) (by simp) (by simp) (by simpa using h)
        simp only [List.nil_append] at hS
        refine wp_region_any hq.2 ?_
        refine any_sound base hint ops l hl (preOf [] ops.toList) hq.1 S.clk es (S.bump l.length) (κ .normal) hS rfl C.ck _ (fun E' S' a' w' C' hu' hk => ⟨E', S', C', hu', hk⟩) ops.size _ E a _ (by simp) ?_ ?_ ?_ ?_
        · exact Nat.le_trans (List.length_filter_le _ _) (by simp)
        · intro i hi
          have : (Array.replicate ops.size false).getD i false = false := by
            simp only [Array.getD_eq_getD_getElem?, Array.getElem?_replicate]; split <;> rfl
          rw [this] at hi; cases hi
        · rw [foldS_none _ _ _ (fun i _ => by simp only [Array.getD_eq_getD_getElem?, Array.getElem?_replicate]; split <;> rfl)]
          exact (C.bump _).drew
        · intro s hs; exact .inl (hu s hs)
      · cases hc
    · rename_i hd
      have hd' : draw = false := by simpa using hd
      subst hd'
      simp only [Option.map_eq_some_iff] at hc
      obtain ⟨l, hl, hac⟩ := hc
      obtain ⟨E, S, C, hu, h⟩ := marks _ hac
      obtain ⟨e1, _⟩ := cIs_get _ _ hl
      have e1' : l.length = ops.size := by simpa using e1
      simp only [V] at h
      refine wp_region ?_
      rw [List.range_eq_range', ← e1']
      exact regV_sound base hint ops (κ .normal) _ (S.clk + l.length) (fun E' S' a' w' C' hu' hk => ⟨E', S', C', hu', hk⟩) l 0 S.clk E (S.bump l.length) a w (by simpa using hl) (C.bump _) C.ck (fun s hs => ⟨.inl (hu s hs), by have := hu s hs; simp [St.bump]; omega⟩) (Nat.le_refl _) (Nat.le_refl _) h
  | _ => intro ac hc κ S h; cases hc; exact h.elim

/-! ### Results, and contracts -/

inductive ARes where
  | tmp (t : Nat)
  | cell (agg : Option Nat) (t : Nat)

def cRes1 (P : Program) (n : Nat) : ResultVar → Option ARes
  | .tmp t => if t < n then some (.tmp t) else none
  | .cell t ty => if t < n then (P.underlying ty).bind fun d => if isAggD d = true then (P.info? ty).map fun i => .cell (some i.size) t else some (.cell none t) else none
def cRes (P : Program) (n : Nat) : List ResultVar → Option (List ARes)
  | [] => some []
  | r :: l => (cRes1 P n r).bind fun r => (cRes P n l).map fun l => r :: l

def resOf1 (S : St) : ARes → Option AV
  | .tmp t => some (S.t t)
  | .cell none t => ldOne S.blk (S.t t)
  | .cell (some n) t => ldAgg S.blk n (S.t t)
def resL (S : St) : List ARes → Option (List AV)
  | [] => some []
  | r :: l => (resOf1 S r).bind fun v => (resL S l).map fun l => v :: l
def resOf (S : St) (l : List ARes) : Option AV :=
  (resL S l).map fun vs => match vs with
    | [v] => v
    | vs => .tup vs

def resSem (tmps : Array Value) : ResultVar → Sem Value
  | .tmp t => pure (tmps.getD t undef)
  | .cell a t => do loadVar t (← asAddr (tmps.getD a undef))

theorem results_eq (fn : Func) (tmps : Array Value) : results fn tmps = (do
    let vs ← fn.results.mapM (resSem tmps)
    pure (if h : vs.size = 1 then vs[0] else .tuple vs)) := by
  unfold results
  congr 2

theorem res1_ok {E : Env} {S : St} {a : Act} {w : World} (C : Conc K0 E B W n S a w) (r : ResultVar) (ar : ARes) (hc : cRes1 P n r = some ar) (v : AV) (hv : resOf1 S ar = some v) :
    ∃ u, (resSem a.tmps r).run P w = .ok u w ∧ Rel E v u := by
  cases r with
  | tmp t =>
    simp only [cRes1] at hc
    split at hc
    · rename_i ht; cases hc; cases hv; exact ⟨_, rfl, C.tm t ht⟩
    · cases hc
  | cell x ty =>
    simp only [cRes1] at hc
    split at hc
    · rename_i hx
      simp only [Option.bind_eq_some_iff] at hc
      obtain ⟨d, hd, hc⟩ := hc
      have hr := C.tm x hx
      have conv : ∀ u, (Instr.loadAt ty (a.tmps.getD x undef)).run P w = .ok u w → (do loadVar ty (← asAddr (a.tmps.getD x undef)) : Sem Value).run P w = .ok u w := by
        intro u hu
        generalize a.tmps.getD x undef = v at hu ⊢
        cases v with
        | pointer q =>
          cases q with
          | some ad => simpa [Instr.loadAt, Instr.sureAddr, asAddr] using hu
          | none => simp [Instr.loadAt, Instr.sureAddr] at hu
        | _ => simp [Instr.loadAt, Instr.sureAddr] at hu
      split at hc
      · rename_i hagg
        simp only [Option.map_eq_some_iff] at hc
        obtain ⟨i, hi, rfl⟩ := hc
        obtain ⟨u, hu, hrel⟩ := load_agg (P := P) C.H hr i.size hv ty d i hd (by cases d <;> simp_all [isAggD]) hi rfl
        exact ⟨u, conv u hu, hrel⟩
      · rename_i hagg
        cases hc
        obtain ⟨u, hu, hrel⟩ := load_one (P := P) C.H hr hv ty d hd (by cases d <;> simp_all [isAggD])
        exact ⟨u, conv u hu, hrel⟩
    · cases hc

theorem resL_ok {E : Env} {S : St} {a : Act} {w : World} (C : Conc K0 E B W n S a w) : ∀ (l : List ResultVar) (al : List ARes), cRes P n l = some al → ∀ vs, resL S al = some vs →
    ∃ us : List Value, (l.mapM (resSem a.tmps)).run P w = .ok us w ∧ us.length = vs.length ∧
      ∀ (j : Nat) (y : AV) (u : Value), vs[j]? = some y → us[j]? = some u → Rel E y u
  | [], al, hc, vs, hv => by cases hc; cases hv; exact ⟨[], rfl, rfl, by simp⟩
  | r :: l, al, hc, vs, hv => by
    simp only [cRes, Option.bind_eq_some_iff, Option.map_eq_some_iff] at hc
    obtain ⟨ar, har, al', hal, rfl⟩ := hc
    simp only [resL, Option.bind_eq_some_iff, Option.map_eq_some_iff] at hv
    obtain ⟨v, hv1, vs', hvs, rfl⟩ := hv
    obtain ⟨u, hu, hrel⟩ := res1_ok C r ar har v hv1
    obtain ⟨us, h1, h2, h3⟩ := resL_ok C l al' hal vs' hvs
    refine ⟨u :: us, ?_, by simp [h2], fun j y z hy hz => ?_⟩
    · rw [List.mapM_cons, Sem.run_bind, hu]
      simp only [Result.andThen_ok, Sem.run_bind, h1, Sem.run_pure]
    · cases j with
      | zero => simp at hy hz; subst hy hz; exact hrel
      | succ j => exact h3 j y z (by simpa using hy) (by simpa using hz)

theorem results_ok {E : Env} {S : St} {a : Act} {w : World} (C : Conc K0 E B W n S a w) (fn : Func) (al : List ARes) (hc : cRes P n fn.results.toList = some al) (v : AV) (hv : resOf S al = some v) :
    ∃ u, (results fn a.tmps).run P w = .ok u w ∧ Rel E v u := by
  simp only [resOf, Option.map_eq_some_iff] at hv
  obtain ⟨vs, hvs, rfl⟩ := hv
  obtain ⟨us, h1, h2, h3⟩ := resL_ok C _ al hc vs hvs
  have hrun : (results fn a.tmps).run P w = .ok (if h : us.toArray.size = 1 then us.toArray[0] else .tuple us.toArray) w := by
    rw [results_eq, Array.mapM_eq_mapM_toList, Sem.run_bind, Sem.run_map, h1]
    simp only [Result.andThen_ok, Sem.run_pure]
  refine ⟨_, hrun, ?_⟩
  by_cases hl : us.length = 1
  · obtain ⟨u, rfl⟩ := List.length_eq_one_iff.1 hl
    obtain ⟨v, rfl⟩ := List.length_eq_one_iff.1 (h2.symm.trans hl)
    simpa using h3 0 v u rfl rfl
  · have hl' : ¬ us.toArray.size = 1 := by simpa using hl
    rw [dif_neg hl']
    have hv : (match vs with | [v] => v | vs => AV.tup vs) = .tup vs := by
      cases vs with
      | nil => rfl
      | cons x l =>
        cases l with
        | nil => simp at h2; omega
        | cons y l => rfl
    rw [hv]
    exact .tup vs us.toArray (by simp [h2]) (fun j y u hy hu => h3 j y u hy (by simpa using hu))

end
end Go.Gv
