/- Contracts of functions that write nothing that was there: how they are shown, and how they are used. No condition beyond those that each law names. -/
import Derived.Test.YthhgjncefjnogaaGv16
set_option linter.unusedVariables false
set_option linter.unusedSimpArgs false
namespace Go.Gv
open Go.RowKit

/-- A contract: on these closed values the function answers this, and writes nothing that was there. -/
def PC (P : Program) (f : FuncId) (args : List AV) (r : AV) : Prop :=
  enters P f ∧ ∀ (K : Nat → Nat → Option Value) (w : World) (vs : Array Value), (∀ b o v, K b o = some v → w.cell? ⟨b, o, none⟩ = some v) → vs.size = args.length →
    (∀ (j : Nat) (y : AV) (u : Value), args[j]? = some y → vs[j]? = some u → Rel (envK K) y u) →
    Calls P f vs w fun e w' => ∃ v, e = .returned v ∧ Below w.heap.size w w' ∧ Rel (envK (over K w w')) r v

/-- What stands for x may be taken for y. 'blk': lists in mutable blocks may be read, too. -/
def co1 (blk : Option (Nat → Option Blk)) : AV → AV → Prop
  | .bool a, .bool b => a = b
  | .int k a, .int k' b => k = k' ∧ a = b
  | .str a, .str b => a = b
  | .nilp, .nilp => True
  | .nilf, .nilf => True
  | .nils, .nils => True
  | .nils, .lst _ ys => ys = []
  | .lst s xs, .lst s' ys => s = s' ∧ xs = ys
  | .acc _ _ s xs, .lst s' ys => s = s' ∧ xs = ys
  | .sl nm st sz off len, .lst s' ys => sz = s' ∧ match blk with | some blk => listOf blk sz (.sl nm st sz off len) = some ys | none => False
  | .kp cs o, .kp cs' o' => cs = cs' ∧ o = o'
  | .raw v, .raw v' => v = v'
  | .fn f [], .fn g [] => f = g
  | _, _ => False

def coL (R : AV → AV → Prop) : List AV → List AV → Prop
  | [], [] => True
  | x :: xs, y :: ys => R x y ∧ coL R xs ys
  | _, _ => False

def co (blk : Option (Nat → Option Blk)) : AV → AV → Prop
  | .agg xs, .agg ys => coL (co1 blk) xs ys
  | x, y => co1 blk x y

def coT (blk : Option (Nat → Option Blk)) : AV → AV → Prop
  | .tup xs, .tup ys => coL (co blk) xs ys
  | x, y => co blk x y

theorem coL_get {R : AV → AV → Prop} : ∀ {xs ys : List AV}, coL R xs ys → xs.length = ys.length ∧ ∀ (j : Nat) (x y : AV), xs[j]? = some x → ys[j]? = some y → R x y
  | [], [], _ => ⟨rfl, by simp⟩
  | x :: xs, y :: ys, h => by
    obtain ⟨e1, e2⟩ := coL_get h.2
    refine ⟨by simp [e1], fun j a b ha hb => ?_⟩
    cases j with
    | zero => simp at ha hb; subst ha hb; exact h.1
    | succ j => exact e2 j a b (by simpa using ha) (by simpa using hb)
  | [], _ :: _, h => h.elim
  | _ :: _, [], h => h.elim

section
variable {E : Env} {B : Nat} {h : Hp} {w : World}

/-- In what is known besides. -/
structure Knows (E : Env) (B : Nat) (w : World) (L : Nat → Nat → Option Value) (rw : Bool) : Prop where
  K : ∀ b o u, E.K b o = some u → L b o = some u
  rest : rw = true → ∀ b o u, B ≤ b → w.cell? ⟨b, o, none⟩ = some u → L b o = some u

theorem cl_le_envK {K : Nat → Nat → Option Value} (hK : ∀ b o u, E.K b o = some u → K b o = some u) : E.cl.le (envK K) := ⟨hK, fun _ q => q.elim, fun _ q => q.elim, fun _ q => q.elim, fun _ q => q.elim⟩

theorem lst_envK {K : Nat → Nat → Option Value} (hK : ∀ b o u, E.K b o = some u → K b o = some u) {s : Nat} {xs : List AV} {v : Value} (hr : Rel E (.lst s xs) v) : Rel (envK K) (.lst s xs) v :=
  Rel.of_cl1 (E := E) (E' := envK K) hK hr rfl

theorem co1_rel (H : HConc E B h w) {K : Nat → Nat → Option Value} {blk : Option (Nat → Option Blk)} (hk : Knows E B w K blk.isSome) (hb : ∀ b, blk = some b → b = h.blk) {x y : AV} {v : Value} (hc : co1 blk x y) (hr : Rel E x v) :
    Rel (envK K) y v := by
  have cl : ∀ z, z = x → z.cl1 = true → Rel (envK K) z v := fun z e h1 => by subst e; exact Rel.of_cl1 (E := E) (E' := envK K) hk.K hr h1
  cases x with
  | bool a => cases y <;> simp only [co1] at hc; subst hc; exact cl _ rfl rfl
  | int k a => cases y <;> simp only [co1] at hc; obtain ⟨rfl, rfl⟩ := hc; exact cl _ rfl rfl
  | str a => cases y <;> simp only [co1] at hc; subst hc; exact cl _ rfl rfl
  | nilp => cases y <;> simp only [co1] at hc; exact cl _ rfl rfl
  | nilf => cases y <;> simp only [co1] at hc; exact cl _ rfl rfl
  | nils =>
    cases y <;> simp only [co1] at hc
    · exact cl _ rfl rfl
    · subst hc; rw [hr.nils_inv]; exact .lst0 _ _ _
  | lst s xs => cases y <;> simp only [co1] at hc; obtain ⟨rfl, rfl⟩ := hc; exact cl _ rfl rfl
  | acc nm st s xs =>
    cases y <;> simp only [co1] at hc; obtain ⟨rfl, rfl⟩ := hc
    cases hr with
    | acc _ _ _ _ _ _ _ hl => exact lst_envK hk.K hl
  | kp cs o => cases y <;> simp only [co1] at hc; obtain ⟨rfl, rfl⟩ := hc; exact cl _ rfl rfl
  | raw u => cases y <;> simp only [co1] at hc; subst hc; cases hr; exact .raw _
  | fn f caps =>
    cases caps with
    | cons c l => cases y <;> simp only [co1] at hc
    | nil =>
      cases y with
      | fn g caps' =>
        cases caps' with
        | nil => simp only [co1] at hc; subst hc; exact cl _ rfl rfl
        | cons c l => simp only [co1] at hc
      | _ => simp only [co1] at hc
  | sl nm st sz off len =>
    cases y with
    | lst s' ys =>
      simp only [co1] at hc
      obtain ⟨rfl, hc⟩ := hc
      cases blk with
      | none => exact hc.elim
      | some blk =>
        have hblk := hb blk rfl
        subst hblk
        simp only at hc
        have hlo := hc
        simp only [listOf, if_true, Option.bind_eq_some_iff] at hc
        obtain ⟨es, hes, hc⟩ := hc
        split at hc
        · rename_i hq
          obtain ⟨hle, hcl⟩ := hq
          cases hc
          have hbs := getB_some hes
          have hbk := H.bk nm _ hbs
          obtain ⟨cur, e, hg, hsz, hrow⟩ := hbk.row
          simp only at hg hsz hrow
          cases hr with
          | sl _ _ _ _ _ cap a hu hcap hc' ha =>
            have hlen : ((es.drop off).take len).length = len := by simp; omega
            by_cases hl0 : len = 0
            · subst hl0; simp only [List.take_zero]; exact .lst0 _ _ _
            · rw [ha (by omega)]
              have hidx : ∀ (i : Nat) (z : AV), ((es.drop off).take len)[i]? = some z → i < len ∧ es[off + i]? = some z := by
                intro i z hz
                rw [List.getElem?_take] at hz
                split at hz
                · rename_i hi; rw [List.getElem?_drop] at hz; exact ⟨hi, hz⟩
                · cases hz
              have hel : ∀ z ∈ (es.drop off).take len, ElemOk sz z := fun z hz => hbk.el z (List.mem_of_mem_drop (List.mem_of_mem_take hz))
              have cell : ∀ (i : Nat) (z : AV), ((es.drop off).take len)[i]? = some z → ∀ (j : Nat) (q : AV), z.cells[j]? = some q →
                  ∃ u, w.cell? ⟨(E.m st).1, (E.m st).2 + off * sz + i * sz + j, none⟩ = some u ∧ Rel E q u ∧ q.cl1 = true := by
                intro i z hz j q hq
                obtain ⟨hi, hz'⟩ := hidx i z hz
                obtain ⟨u, hu', hrel⟩ := hrow (off + i) z hz' j q hq
                refine ⟨u, ?_, hrel, ?_⟩
                · rw [show (E.m st).2 + off * sz + i * sz + j = (E.m st).2 + (off + i) * sz + j by rw [Nat.add_mul]; omega, cell_of_row w _ _ cur e (0, 0) hg]
                  exact hu'
                · exact List.all_eq_true.1 (List.all_eq_true.1 hcl z (List.mem_of_getElem? hz)) q (List.mem_of_getElem? hq)
              have := Rel.lst (E := envK K) ((es.drop off).take len) (E.m st).1 ((E.m st).2 + off * sz) sz cap (fun i j => (w.cell? ⟨(E.m st).1, (E.m st).2 + off * sz + i * sz + j, none⟩).getD .nilFunc)
                (by rw [hlen]; exact hcap) (fun z hz => (hel z hz).1) ?_ ?_ ?_
              · rw [hlen] at this; exact this
              · intro i j hi hj
                obtain ⟨z, hz⟩ : ∃ z, ((es.drop off).take len)[i]? = some z := ⟨_, List.getElem?_eq_getElem hi⟩
                obtain ⟨q, hq⟩ : ∃ q, z.cells[j]? = some q := ⟨_, List.getElem?_eq_getElem (by rw [(hel z (List.mem_of_getElem? hz)).1]; exact hj)⟩
                obtain ⟨u, hu', _, _⟩ := cell i z hz j q hq
                rw [hu']
                exact hk.rest rfl _ _ _ hbk.base hu'
              · intro i z hz j q hq
                exact (hel z (List.mem_of_getElem? hz)).2 q (List.mem_of_getElem? hq)
              · intro i z hz j q hq
                obtain ⟨u, hu', hrel, h1⟩ := cell i z hz j q hq
                rw [hu']
                exact Rel.of_cl1 (E := E) (E' := (envK K).cl) hk.K hrel h1
        · cases hc
    | _ => simp only [co1] at hc
  | _ => cases y <;> simp only [co1] at hc

theorem co1_one {blk : Option (Nat → Option Blk)} {x y : AV} (hc : co1 blk x y) (hx : x.one = true) : y.one = true := by
  cases x <;> cases y <;> first
    | rfl
    | (simp only [co1] at hc; done)
    | (simp only [co1] at hc; subst hc; exact hx)
    | (simp [AV.one] at hx; done)
    | (rename_i a b c d; cases b <;> cases d <;> simp_all [co1, AV.one])

theorem co_rel (H : HConc E B h w) {K : Nat → Nat → Option Value} {blk : Option (Nat → Option Blk)} (hk : Knows E B w K blk.isSome) (hb : ∀ b, blk = some b → b = h.blk) {x y : AV} {v : Value} (hc : co blk x y) (hr : Rel E x v) :
    Rel (envK K) y v := by
  by_cases hx : ∃ xs, x = .agg xs
  · obtain ⟨xs, rfl⟩ := hx
    cases y with
    | agg ys =>
      obtain ⟨e1, e2⟩ := coL_get hc
      cases hr with
      | agg _ vs hs h1 hr =>
        have get : ∀ (j : Nat) (y : AV), ys[j]? = some y → ∃ x, xs[j]? = some x := fun j y hy => ⟨_, List.getElem?_eq_getElem (by rw [e1]; exact (List.getElem?_eq_some_iff.1 hy).1)⟩
        refine .agg ys vs (by rw [← e1]; exact hs) ?_ ?_
        · intro j y hy
          obtain ⟨x, hx⟩ := get j y hy
          exact co1_one (e2 j x y hx hy) (h1 j x hx)
        · intro j y u hy hu
          obtain ⟨x, hx⟩ := get j y hy
          exact co1_rel H hk hb (e2 j x y hx hy) (hr j x u hx hu)
    | _ => exact absurd hc (by simp [co, co1])
  · have : co1 blk x y := by
      cases x <;> first | exact hc | exact absurd ⟨_, rfl⟩ hx
    exact co1_rel H hk hb this hr

theorem coT_rel (H : HConc E B h w) {K : Nat → Nat → Option Value} {blk : Option (Nat → Option Blk)} (hk : Knows E B w K blk.isSome) (hb : ∀ b, blk = some b → b = h.blk) {x y : AV} {v : Value} (hc : coT blk x y) (hr : Rel E x v) :
    Rel (envK K) y v := by
  by_cases hx : ∃ xs, x = .tup xs
  · obtain ⟨xs, rfl⟩ := hx
    cases y with
    | tup ys =>
      obtain ⟨e1, e2⟩ := coL_get hc
      cases hr with
      | tup _ vs hs hr =>
        refine .tup ys vs (by rw [← e1]; exact hs) ?_
        intro j y u hy hu
        obtain ⟨x, hx⟩ : ∃ x, xs[j]? = some x := ⟨_, List.getElem?_eq_getElem (by rw [e1]; exact (List.getElem?_eq_some_iff.1 hy).1)⟩
        exact co_rel H hk hb (e2 j x y hx hy) (hr j x u hx hu)
    | _ => exact absurd hc (by simp [coT, co, co1])
  · have : co blk x y := by
      cases x <;> first | exact hc | exact absurd ⟨_, rfl⟩ hx
    exact co_rel H hk hb this hr

end

def initS (args : List AV) : St := ⟨fun t => args.getD t (.tup []), fun _ => none, fun _ => none, 0⟩

/-- How a contract is shown. -/
theorem pc_of_V {P : Program} {f : FuncId} (fn : Func) (hf : P.funcs[f]? = some fn) (hname : fn.name ≠ "runtime.NumGoroutine") (c : Code) (hb : fn.body = some c) (base : Nat) (hint : List (Nat × Nat)) (ac : AC) (hc : cCode P fn.ntmps base hint c = some ac)
    (al : List ARes) (hal : cRes P fn.ntmps fn.results.toList = some al) (args : List AV) (hn : args.length ≤ fn.ntmps) (r : AV)
    (hV : V P ac (fun e S => match e with
      | .exit _ => False
      | _ => ∃ v, resOf S al = some v ∧ coT (some S.blk) v r) (initS args)) : PC P f args r := by
  refine ⟨⟨fn, hf, by simp [hb], hname⟩, fun K w vs hK hsz hrel => ?_⟩
  have C : Conc ⟨K, envK K, 0⟩ (envK K) w.heap.size w fn.ntmps (initS args) { tmps := vs ++ Array.replicate (fn.ntmps - vs.size) undef, defers := [] } w := by
    refine ⟨⟨hK, ?_, ?_, ?_, ?_, ?_, ?_, ?_⟩, Below.refl _ _, Nat.le_refl _, rfl, ?_, ?_, fun _ _ _ => rfl, .refl _, fun s hs => .inl hs, Nat.le_refl _⟩
    · intro nm b x; cases x
    · intro nm b x; cases x
    · intro nm b x; cases x
    · intro nm b x; cases x
    · intro nm nm' b b' _ x; cases x
    · intro nm nm' b b' x; cases x
    · intro nm nm' b b' _ _ x; cases x
    · simp; omega
    · intro t ht
      show Rel (envK K) (args.getD t (.tup [])) _
      by_cases hta : t < args.length
      · have e1 : args[t]? = some args[t] := List.getElem?_eq_getElem hta
        have e2 : vs[t]? = some vs[t] := Array.getElem?_eq_getElem (by omega)
        have : (vs ++ Array.replicate (fn.ntmps - vs.size) undef).getD t undef = vs[t] := by
          rw [Array.getD_eq_getD_getElem?, Array.getElem?_append_left (by omega), e2]; rfl
        rw [this, List.getD_eq_getElem?_getD, e1]
        exact hrel t _ _ e1 e2
      · have e1 : args.getD t (.tup []) = .tup [] := by rw [List.getD_eq_getElem?_getD, List.getElem?_eq_none (by omega)]; rfl
        have : (vs ++ Array.replicate (fn.ntmps - vs.size) undef).getD t undef = undef := by
          rw [Array.getD_eq_getD_getElem?, Array.getElem?_append_right (by omega), Array.getElem?_replicate]
          split <;> rfl
        rw [this, e1]
        exact .tup [] #[] rfl (by simp)
  refine calls_of_wp hf hb (wp_mono (V_sound base hint c ac hc _ _ hV (envK K) _ w C (fun s hs => hs.elim)) ?_)
  rintro e a' w' ⟨E', S', C', hu', hk⟩
  have fin : (∃ v, resOf S' al = some v ∧ coT (some S'.blk) v r) → a'.defers = [] ∧ ∃ v, (results fn a'.tmps).run P w' = .ok v w' ∧ (∃ u, Ending.returned v = .returned u ∧ Below w.heap.size w w' ∧ Rel (envK (over K w w')) r u) := by
    rintro ⟨v, hv, hco⟩
    obtain ⟨u, hu, hru⟩ := results_ok C' fn al hal v hv
    refine ⟨C'.df, u, hu, u, rfl, C'.bel, ?_⟩
    refine coT_rel C'.H (K := over K w w') ⟨?_, ?_⟩ (fun b hb => by cases hb; rfl) hco hru
    · intro b o x hx
      unfold over
      by_cases hlt : b < w.heap.size
      · rw [if_pos hlt]; exact (C'.kb b o hlt).symm.trans hx
      · rw [if_neg hlt]; exact C'.H.K b o x hx
    · intro _ b o x hbo hx
      unfold over
      rw [if_neg (by omega)]; exact hx
  cases e with
  | normal => exact fin hk
  | ret => exact fin hk
  | exit i => exact hk.elim
  | goto l => exact hk.elim
  | panic ch => exact hk.elim
  | outgrown => exact hk.elim

/-! ### How a contract is used -/

theorem pcall_of_pc {P : Program} {f : FuncId} {cargs : List AV} {r : AV} (h : PC P f cargs r) {caps vals : List AV} (hco : coL (co none) (vals ++ caps) cargs) : PCallP P (.fn f caps) vals r := by
  obtain ⟨hent, hc⟩ := h
  refine ⟨f, caps, rfl, hent, fun E w args hK hsz hrel => ?_⟩
  obtain ⟨e1, e2⟩ := coL_get hco
  refine hc E.K w args hK (by rw [hsz, e1]) ?_
  intro j y u hy hu
  obtain ⟨x, hx⟩ : ∃ x, (vals ++ caps)[j]? = some x := ⟨_, List.getElem?_eq_getElem (by rw [e1]; exact (List.getElem?_eq_some_iff.1 hy).1)⟩
  have H : HConc E w.heap.size ⟨fun _ => none, fun _ => none⟩ w := ⟨hK, by simp, by simp, by simp, by simp, by simp, by simp, by simp⟩
  exact co_rel H (K := E.K) ⟨fun _ _ _ q => q, by simp⟩ (by simp) (e2 j x y hx hy) (hrel j x u hx hu)

theorem call_of_pc {P : Program} {f : FuncId} {cargs : List AV} {r : AV} (h : PC P f cargs r) {caps vals : List AV} (hco : coL (co none) (vals ++ caps) cargs) {S : St} {k : AV → St → Prop} (hk : k r S) : CallP P (.fn f caps) vals S k :=
  CallP_of_PCallP (pcall_of_pc h hco) hk

/-- A result that is no list. -/
def flat1 : AV → Bool
  | .bool _ | .int _ _ | .str _ | .nilp | .nilf | .nils => true
  | _ => false
def flatA : AV → Bool
  | .agg cs => cs.all flat1
  | v => flat1 v
def flat : AV → Bool
  | .tup vs => vs.all flatA
  | v => flatA v

theorem flat1_rel {E E' : Env} {x : AV} {v : Value} (h : Rel E x v) (h1 : flat1 x = true) : Rel E' x v := by
  cases x <;> first | (simp [flat1] at h1; done) | (cases h; constructor)

theorem flatA_rel {E E' : Env} {x : AV} {v : Value} (h : Rel E x v) (h1 : flatA x = true) : Rel E' x v := by
  cases x with
  | agg cs =>
    cases h with
    | agg _ vs hs h2 hr =>
      exact .agg cs vs hs h2 (fun j y u hy hu => flat1_rel (hr j y u hy hu) (List.all_eq_true.1 h1 y (List.mem_of_getElem? hy)))
  | _ => exact flat1_rel h h1

theorem flat_rel {E E' : Env} {x : AV} {v : Value} (h : Rel E x v) (h1 : flat x = true) : Rel E' x v := by
  by_cases hx : ∃ cs, x = .tup cs
  · obtain ⟨cs, rfl⟩ := hx
    cases h with
    | tup _ vs hs hr =>
      exact .tup cs vs hs (fun j y u hy hu => flatA_rel (hr j y u hy hu) (List.all_eq_true.1 h1 y (List.mem_of_getElem? hy)))
  · have : flatA x = true := by cases x <;> first | exact h1 | exact absurd ⟨_, rfl⟩ hx
    exact flatA_rel h this

/-- A call that reads lists in mutable blocks, and answers no list. -/
theorem callH_of_pc {P : Program} {f : FuncId} {cargs : List AV} {r : AV} (h : PC P f cargs r) {caps vals : List AV} {S : St} (hco : coL (co (some S.blk)) (vals ++ caps) cargs) (hflat : flat r = true) {k : AV → St → Prop} (hk : k r S) : CallP P (.fn f caps) vals S k := by
  obtain ⟨hent, hc⟩ := h
  refine ⟨f, caps, rfl, hent, fun E B W w args H hW hB hu hsz hrel => ?_⟩
  obtain ⟨e1, e2⟩ := coL_get hco
  refine (hc (fun b o => w.cell? ⟨b, o, none⟩) w args (fun b o v q => q) (by rw [hsz, e1]) ?_).mono ?_
  · intro j y u hy hu
    obtain ⟨x, hx⟩ : ∃ x, (vals ++ caps)[j]? = some x := ⟨_, List.getElem?_eq_getElem (by rw [e1]; exact (List.getElem?_eq_some_iff.1 hy).1)⟩
    exact co_rel H (K := fun b o => w.cell? ⟨b, o, none⟩) ⟨H.K, fun _ _ _ _ _ q => q⟩ (fun b q => by cases q; rfl) (e2 j x y hx hy) (hrel j x u hx hu)
  · rintro e w' ⟨v, rfl, hbel, hr⟩
    have hle : B ≤ w.heap.size := Nat.le_trans hB hW.size
    exact ⟨v, E, r, S, rfl, .refl E, H.grow (fun k hk => hbel.block k hk), hW.trans (hbel.mono hle), fun _ _ _ => rfl, fun s hs => ⟨.inl hs, hu s hs⟩, Nat.le_refl _, rfl, flat_rel hr hflat, hk⟩

end Go.Gv
