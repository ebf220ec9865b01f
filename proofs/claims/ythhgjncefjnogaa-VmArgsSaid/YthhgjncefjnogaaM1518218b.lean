/- Texts of this proof, one behind the other. What is proved, and on which conditions, stands ahead of each. -/
import Derived.Test.YthhgjncefjnogaaM965de4d
import Derived.Test.YthhgjncefjnogaaProg
import Derived.Test.YthhgjncefjnogaaM133aa504
import Derived.Test.YthhgjncefjnogaaM71decca
import Derived.Test.YthhgjncefjnogaaM14f54ad7

/- All that is known at a point may be taken as fixed from there on: mutable blocks become plain lists. No condition beyond those that each law names. -/
set_option linter.unusedVariables false
set_option linter.unusedSimpArgs false
namespace Go.Gv
section
variable {E : Env} {B : Nat} {h : Hp} {w : World}

/-- A list's elements, one by one. -/
theorem dcoK_list {K : Nat → Nat → Option Value} {blk : Nat → Option Blk} {d : Nat} (ih : ∀ (x y : AV) (v : Value), dco blk d x y → Rel E x v → Rel (envK K) y v)
    {xs ys : List AV} {b o sz cap : Nat} (f : Nat → Nat → Value) (hcap : xs.length ≤ cap) (hsz : ∀ x ∈ xs, x.cells.length = sz)
    (hk : ∀ i j : Nat, i < xs.length → j < sz → K b (o + i * sz + j) = some (f i j))
    (h1 : ∀ (i : Nat) (x : AV), xs[i]? = some x → ∀ (j : Nat) (y : AV), x.cells[j]? = some y → y.one = true)
    (hr : ∀ (i : Nat) (x : AV), xs[i]? = some x → ∀ (j : Nat) (y : AV), x.cells[j]? = some y → Rel E y (f i j))
    (hc : coL (elemR (dco blk d)) xs ys) : Rel (envK K) (.lst sz ys) (.slice (some ⟨b, o, none⟩) xs.length cap) := by
  obtain ⟨e1, e2⟩ := coL_get hc
  have pair : ∀ (i : Nat) (y : AV), ys[i]? = some y → ∃ x, xs[i]? = some x ∧ elemR (dco blk d) x y := by
    intro i y hy
    obtain ⟨x, hx⟩ : ∃ x, xs[i]? = some x := ⟨_, List.getElem?_eq_getElem (by rw [e1]; exact (List.getElem?_eq_some_iff.1 hy).1)⟩
    exact ⟨x, hx, e2 i x y hx hy⟩
  have ones : ∀ (i : Nat) (x : AV), xs[i]? = some x → ∀ z ∈ x.cells, z.one = true := by
    intro i x hx z hz
    obtain ⟨j, hj⟩ := List.getElem?_of_mem hz
    exact h1 i x hx j z hj
  have cell : ∀ (i : Nat) (y : AV), ys[i]? = some y → ∀ (j : Nat) (q : AV), y.cells[j]? = some q → ∃ p x, xs[i]? = some x ∧ x.cells[j]? = some p ∧ dco blk d p q := by
    intro i y hy j q hq
    obtain ⟨x, hx, hxy⟩ := pair i y hy
    obtain ⟨c1, c2⟩ := elemR_cells hxy (ones i x hx)
    obtain ⟨p, hp⟩ : ∃ p, x.cells[j]? = some p := ⟨_, List.getElem?_eq_getElem (by rw [c1]; exact (List.getElem?_eq_some_iff.1 hq).1)⟩
    exact ⟨p, x, hx, hp, c2 j p q hp hq⟩
  rw [e1]
  refine Rel.lst ys b o sz cap f (by rw [← e1]; exact hcap) ?_ ?_ ?_ ?_
  · intro y hy
    obtain ⟨i, hi⟩ := List.getElem?_of_mem hy
    obtain ⟨x, hx, hxy⟩ := pair i y hi
    rw [← (elemR_cells hxy (ones i x hx)).1]
    exact hsz x (List.mem_of_getElem? hx)
  · intro i j hi hj
    exact hk i j (by rw [e1]; exact hi) hj
  · intro i y hy j q hq
    obtain ⟨p, x, hx, hp, hpq⟩ := cell i y hy j q hq
    exact dco_one d hpq (h1 i x hx j p hp)
  · intro i y hy j q hq
    obtain ⟨p, x, hx, hp, hpq⟩ := cell i y hy j q hq
    exact ih p q _ hpq (hr i x hx j p hp)

theorem dcoK_rel {K : Nat → Nat → Option Value} (H : HConc E B h w) (kn1 : Knows E B w K true) : ∀ (d : Nat) (x y : AV) (v : Value), dco h.blk d x y → Rel E x v → Rel (envK K) y v := by
  have kn : Knows E B w K (none : Option (Nat → Option Blk)).isSome := ⟨kn1.K, by simp⟩
  have base : ∀ (x y : AV) (v : Value), co1 none x y → Rel E x v → Rel (envK K) y v := fun x y v hc hr => co1_rel H kn (by simp) hc hr
  have lsts : ∀ (d : Nat), (∀ (x y : AV) (v : Value), dco h.blk d x y → Rel E x v → Rel (envK K) y v) → ∀ (s : Nat) (xs ys : List AV) (v : Value), Rel E (.lst s xs) v → (xs = ys ∨ coL (elemR (dco h.blk d)) xs ys) → Rel (envK K) (.lst s ys) v := by
    intro d ih s xs ys v hr hc
    rcases hc with rfl | hc
    · exact lst_envK (K := K) kn1.K hr
    · cases hr with
      | lst0 _ a cap =>
        cases ys with
        | nil => exact .lst0 _ _ _
        | cons y ys => exact hc.elim
      | lst _ b o _ cap f hcap hsz hk h1 hr =>
        exact dcoK_list ih f hcap hsz (fun i j hi hj => kn1.K _ _ _ (hk i j hi hj)) h1 (fun i x hx j y hy => (hr i x hx j y hy).mono (Env.cl_le E)) hc
  intro d
  induction d with
  | zero => exact base
  | succ d ih =>
    intro x y v hc hr
    unfold dco at hc
    split at hc
    · subst hc; rw [hr.nils_inv]; exact .lst0 _ _ _
    · obtain ⟨rfl, hc⟩ := hc
      exact lsts d ih _ _ _ v hr hc
    · obtain ⟨rfl, hc⟩ := hc
      cases hr with
      | acc _ _ _ _ _ _ _ hl => exact lsts d ih _ _ _ v hl hc
    · rename_i nm st s off len s' ys
      obtain ⟨rfl, es, hes, hle, hc⟩ := hc
      have hbs := getB_some hes
      have hbk := H.bk nm _ hbs
      obtain ⟨cur, e, hg, hsz, hrow⟩ := hbk.row
      simp only at hg hsz hrow
      cases hr with
      | sl _ _ _ _ _ cap a hu hcap hc' ha =>
        have hlen : ((es.drop off).take len).length = len := by simp; omega
        by_cases hl0 : len = 0
        · subst hl0
          rw [List.take_zero] at hc
          cases ys with
          | nil => exact .lst0 _ _ _
          | cons y ys => exact hc.elim
        · rw [ha (by omega)]
          have hidx : ∀ (i : Nat) (z : AV), ((es.drop off).take len)[i]? = some z → i < len ∧ es[off + i]? = some z := by
            intro i z hz
            rw [List.getElem?_take] at hz
            split at hz
            · rename_i hi; rw [List.getElem?_drop] at hz; exact ⟨hi, hz⟩
            · cases hz
          have hel : ∀ z ∈ (es.drop off).take len, ElemOk s z := fun z hz => hbk.el z (List.mem_of_mem_drop (List.mem_of_mem_take hz))
          have cell : ∀ (i : Nat) (z : AV), ((es.drop off).take len)[i]? = some z → ∀ (j : Nat) (q : AV), z.cells[j]? = some q →
              ∃ u, w.cell? ⟨(E.m st).1, (E.m st).2 + off * s + i * s + j, none⟩ = some u ∧ Rel E q u := by
            intro i z hz j q hq
            obtain ⟨hi, hz'⟩ := hidx i z hz
            obtain ⟨u, hu', hrel⟩ := hrow (off + i) z hz' j q hq
            refine ⟨u, ?_, hrel⟩
            rw [show (E.m st).2 + off * s + i * s + j = (E.m st).2 + (off + i) * s + j by rw [Nat.add_mul]; omega, cell_of_row w _ _ cur e (0, 0) hg]
            exact hu'
          have := dcoK_list (b := (E.m st).1) (o := (E.m st).2 + off * s) (sz := s) (cap := cap) ih (fun i j => (w.cell? ⟨(E.m st).1, (E.m st).2 + off * s + i * s + j, none⟩).getD .nilFunc) (by rw [hlen]; exact hcap) (fun z hz => (hel z hz).1) ?_ ?_ ?_ hc
          · rw [hlen] at this; exact this
          · intro i j hi hj
            obtain ⟨z, hz⟩ : ∃ z, ((es.drop off).take len)[i]? = some z := ⟨_, List.getElem?_eq_getElem hi⟩
            obtain ⟨q, hq⟩ : ∃ q, z.cells[j]? = some q := ⟨_, List.getElem?_eq_getElem (by rw [(hel z (List.mem_of_getElem? hz)).1]; exact hj)⟩
            obtain ⟨u, hu', _⟩ := cell i z hz j q hq
            rw [hu']; exact kn1.rest rfl _ _ _ hbk.base hu'
          · intro i z hz j q hq
            exact (hel z (List.mem_of_getElem? hz)).2 q (List.mem_of_getElem? hq)
          · intro i z hz j q hq
            obtain ⟨u, hu', hrel⟩ := cell i z hz j q hq
            rw [hu']
            exact hrel
    · exact base x y v hc hr
theorem dcoKE_rel {K : Nat → Nat → Option Value} (H : HConc E B h w) (kn1 : Knows E B w K true) (d : Nat) (x y : AV) (v : Value) (hc : elemR (dco h.blk d) x y) (hr : Rel E x v) : Rel (envK K) y v := by
  unfold elemR at hc
  split at hc
  · rename_i xs ys
    obtain ⟨e1, e2⟩ := coL_get hc
    cases hr with
    | agg _ vs hs h1 hr =>
      have pair : ∀ (j : Nat) (y : AV), ys[j]? = some y → ∃ x, xs[j]? = some x ∧ dco h.blk d x y := by
        intro j y hy
        obtain ⟨x, hx⟩ : ∃ x, xs[j]? = some x := ⟨_, List.getElem?_eq_getElem (by rw [e1]; exact (List.getElem?_eq_some_iff.1 hy).1)⟩
        exact ⟨x, hx, e2 j x y hx hy⟩
      refine .agg ys vs (by rw [← e1]; exact hs) (fun j y hy => ?_) (fun j y u hy hu => ?_)
      · obtain ⟨x, hx, hxy⟩ := pair j y hy
        exact dco_one d hxy (h1 j x hx)
      · obtain ⟨x, hx, hxy⟩ := pair j y hy
        exact dcoK_rel H kn1 d x y u hxy (hr j x u hx hu)
  · exact dcoK_rel H kn1 d _ _ v hc hr
end
/-- What a value becomes where all is fixed. -/
def Frz (blk : Nat → Option Blk) (d : Nat) (x y : AV) : Prop :=
  y = .junk ∨ elemR (dco blk d) x y ∨ ∃ nm st sz i off es e cs, x = .ptr nm st sz i off ∧ blk nm = some ⟨st, sz, es⟩ ∧ es[i]? = some e ∧ coL (dco blk d) e.cells cs ∧ y = .kp cs off
theorem wk_freeze {S : St} (d : Nat) (T : Nat → AV) (hT : ∀ t, Frz S.blk d (S.t t) (T t)) : Wk S ⟨T, fun _ => none, fun _ => none, S.clk⟩ := by
  refine ⟨Nat.le_refl _, fun E B w H hu => ?_⟩
  let K : Nat → Nat → Option Value := fun b o => if b < B then E.K b o else w.cell? ⟨b, o, none⟩
  have hK : ∀ b o u, E.K b o = some u → K b o = some u := by
    intro b o u q
    show (if b < B then E.K b o else w.cell? ⟨b, o, none⟩) = some u
    split
    · exact q
    · exact H.K b o u q
  have hrest : ∀ b o u, B ≤ b → w.cell? ⟨b, o, none⟩ = some u → K b o = some u := by
    intro b o u hb q
    show (if b < B then E.K b o else w.cell? ⟨b, o, none⟩) = some u
    rw [if_neg (by omega)]; exact q
  have hin : ∀ b o u, K b o = some u → w.cell? ⟨b, o, none⟩ = some u := by
    intro b o u q
    have q' : (if b < B then E.K b o else w.cell? ⟨b, o, none⟩) = some u := q
    split at q'
    · exact H.K b o u q'
    · exact q'
  have kn : Knows E B w K true := ⟨hK, fun _ => hrest⟩
  refine ⟨{ E with K := K }, ⟨hK, fun _ _ => rfl, fun _ _ => rfl, fun _ _ => rfl, fun _ q => q⟩, ⟨hin, fun nm b q => (by cases q), fun nm b q => (by cases q), fun nm b q => (by cases q), fun nm b q => (by cases q), fun nm nm' b b' _ q => (by cases q), fun nm nm' b t q => (by cases q), fun nm nm' t t' g _ q => (by cases q)⟩, fun b o hb => ?_, fun _ q => q, fun t v hr => ?_⟩
  · show (if b < B then E.K b o else w.cell? ⟨b, o, none⟩) = E.K b o
    rw [if_pos hb]
  · show Rel { E with K := K } (T t) v
    rcases hT t with q | q | ⟨nm, st, sz, i, off, es, e, cs, hx, hb, he, hc, hy⟩
    · rw [q]; exact .junk v
    · exact Rel.of_envK (K := K) (dcoKE_rel H kn d _ _ v q hr) (fun _ _ _ q => q)
    · rw [hx] at hr
      rw [hy]
      have hbk := H.bk nm _ hb
      obtain ⟨cur, c, hg, hsz, hrow⟩ := hbk.row
      simp only at hg hsz hrow
      cases hr with
      | ptr _ _ _ _ _ hu' =>
        obtain ⟨e1, e2⟩ := coL_get hc
        have hel := hbk.el e (List.mem_of_getElem? he)
        have cell : ∀ (j : Nat) (p : AV), e.cells[j]? = some p → ∃ u, w.cell? ⟨(E.m st).1, (E.m st).2 + i * sz + j, none⟩ = some u ∧ Rel E p u := by
          intro j p hp
          obtain ⟨u, hu1, hu2⟩ := hrow i e he j p hp
          refine ⟨u, ?_, hu2⟩
          rw [cell_of_row w _ _ cur c (0, 0) hg]
          exact hu1
        have pair : ∀ (j : Nat) (y : AV), cs[j]? = some y → ∃ p, e.cells[j]? = some p ∧ dco S.h.blk d p y := by
          intro j y hy
          obtain ⟨p, hp⟩ : ∃ p, e.cells[j]? = some p := ⟨_, List.getElem?_eq_getElem (by rw [e1]; exact (List.getElem?_eq_some_iff.1 hy).1)⟩
          exact ⟨p, hp, e2 j p y hp hy⟩
        refine .kp cs off _ _ (fun j => (w.cell? ⟨(E.m st).1, (E.m st).2 + i * sz + j, none⟩).getD .nilFunc) (fun j hj => ?_) (fun j y hy => ?_) (fun j y hy => ?_)
        · obtain ⟨p, hp⟩ : ∃ p, e.cells[j]? = some p := ⟨_, List.getElem?_eq_getElem (by rw [e1]; exact hj)⟩
          obtain ⟨u, hu1, _⟩ := cell j p hp
          rw [hu1]
          exact hrest _ _ _ hbk.base hu1
        · obtain ⟨p, hp, hpy⟩ := pair j y hy
          exact dco_one d hpy (hel.2 p (List.mem_of_getElem? hp))
        · obtain ⟨p, hp, hpy⟩ := pair j y hy
          obtain ⟨u, hu1, hu2⟩ := cell j p hp
          rw [hu1]
          exact Rel.of_envK (K := K) (dcoK_rel H kn d p y u hpy hu2) (fun _ _ _ q => q)
end Go.Gv

/- vm.Run by its own code, where its arguments lie in a block of the caller's. Conditions: those that the law names. -/
set_option linter.unusedVariables false
set_option linter.unusedSimpArgs false
namespace Go.Gv
open Go.Proofs

def mrunB_r0 : List AI := [⟨(some 5), none, (.op (.box 45005 4 (.t 0)))⟩, ⟨(some 7), none, (.op (.box 45007 5 (.t 2)))⟩, ⟨(some 10), none, (.op (.new 45010 7 (.agg [.nils, (.bool false), (.int .i64 0), (.int .i64 0), (.int .i64 0), .nils, (.int .i64 0)])))⟩]
def mrunB_r1 : List AI := [⟨(some 11), none, (.op (.load (some 4) (.t 5)))⟩, ⟨(some 12), none, (.op (.mv (.t 1)))⟩, ⟨(some 13), none, (.op (.load (some 5) (.t 7)))⟩, ⟨(some 14), none, (.op (.mv (.t 3)))⟩, ⟨(some 15), none, (.op (.mv (.t 4)))⟩, ⟨(some 16), none, (.call (.c (.fn 42 [])) [(.t 11), (.t 12), (.t 13), (.t 14), (.t 15)])⟩, ⟨(some 17), none, (.op (.not (.t 16)))⟩]
def mrunB_r2 : List AI := [⟨(some 18), none, (.op (.build [.nils, (.bool false), (.int .i64 0), (.int .i64 0), (.int .i64 0), .nils, (.int .i64 0)] []))⟩, ⟨none, none, (.op (.store 7 (.t 10) (.t 18)))⟩]
def mrunB_r3 : List AI := [⟨(some 19), none, (.op (.load (some 4) (.t 5)))⟩, ⟨(some 20), none, (.op (.mv (.t 1)))⟩, ⟨(some 21), none, (.op (.load (some 5) (.t 7)))⟩, ⟨(some 22), none, (.op (.mv (.t 3)))⟩, ⟨(some 23), none, (.op (.mv (.t 4)))⟩, ⟨(some 24), none, (.call (.c (.fn 84 [])) [(.t 19), (.t 20), (.t 21), (.t 22), (.t 23)])⟩, ⟨none, none, (.op (.store 7 (.t 10) (.t 24)))⟩]
def mrunB_c : AC := (.seq (.reg mrunB_r0) (.seq (.seq (.reg mrunB_r1) (.cond (.t 17) (.seq (.reg mrunB_r2) .ret) .skip)) (.seq (.reg mrunB_r3) .ret)))
def mrunB_res : List ARes := [(.cell (some 7) 10)]
set_option maxRecDepth 100000 in
theorem mrunB_get : getF Try.prog 45 45000 [] = some ("gavotte/vm.Run", 25, mrunB_c, mrunB_res) := by kernel_rfl
attribute [simp] mrunB_r0 mrunB_r1 mrunB_r2 mrunB_r3 mrunB_res

theorem call_co {P : Program} {f : FuncId} (d : Nat) {vals vals' : List AV} {S : St} {k : AV → St → Prop} {u : Dep k} (hl : vals.length = vals'.length) (hco : ∀ (j : Nat) (x y : AV), vals[j]? = some x → vals'[j]? = some y → x = y ∨ elemR (dco (fun _ => none) d) x y)
    (h : CallG P (.fn f []) vals' S k u) : CallG P (.fn f []) vals S k u := by
  obtain ⟨g, caps, hf, hent, hc⟩ := h
  refine ⟨g, caps, hf, hent, fun E B W w args H hW hB hu hsz hrel => ?_⟩
  obtain ⟨rfl, rfl⟩ : f = g ∧ [] = caps := by cases hf; exact ⟨rfl, rfl⟩
  refine hc E B W w args H hW hB hu (by simpa [hl] using hsz) ?_
  intro j y u' hy hu'
  simp only [List.append_nil] at hy hrel
  obtain ⟨x, hx⟩ : ∃ x, vals[j]? = some x := ⟨_, List.getElem?_eq_getElem (by rw [hl]; exact (List.getElem?_eq_some_iff.1 hy).1)⟩
  have hr := hrel j x u' hx hu'
  rcases hco j x y hx hy with q | q
  · rw [← q]; exact hr
  · exact Rel.of_envK (K := E.K) (dccE_rel (w := w) d x y u' q H.K hr) (fun _ _ _ q => q)
/-- The names that the caller's are. -/
def La (n : Nat) : Bool := !(decide (16000 ≤ n) && decide (n < 16100) || decide (n = 1000016008))
/-- The caller's, and Run's. -/
def Lr (n : Nat) : Bool := !(decide (16000 ≤ n) && decide (n < 16100) || decide (45000 ≤ n) && decide (n < 45020) || decide (n = 1000016008))
theorem Lr_Lm {n : Nat} (h : Lr n = false) : Lm n = false := by
  simp [Lr] at h
  simp [Lm]; omega
theorem La_Lr {n : Nat} (h : La n = false) : Lr n = false := by
  simp [La] at h
  simp [Lr]; omega
theorem ne_of_La {n : Nat} (hn : La n = false) (i : Nat) (hi : La i = true) : (n = i) = False := eq_false (fun e => by rw [← e, hn] at hi; cases hi)
theorem ne_of_Lr {n : Nat} (hn : Lr n = false) (i : Nat) (hi : Lr i = true) : (n = i) = False := eq_false (fun e => by rw [← e, hn] at hi; cases hi)
def FrA (L : Nat → Bool) (S S' : St) : Prop := (∀ n, L n = false → S'.blk n = S.blk n) ∧ (∀ n, L n = false → S'.tok n = S.tok n) ∧ S.clk ≤ S'.clk
def l0 : Lcl := ⟨[], false, 0, 0, 0⟩
def fxB (p : Prg) (who : Int) (args : List Int) (sa : Nat) : Fx := ⟨p, who, args, 0, 0, 0, .sl 1000016008 sa 1 0 args.length⟩
theorem doV_fxB (p : Prg) (who : Int) (args : List Int) (sa : Nat) (i : Ins) (m : Mach) : doV (fxB p who args sa) i m = doV (fxOf p who l0 args) i m := rfl
theorem runG_fxB (p : Prg) (who : Int) (args : List Int) (sa : Nat) (code : List Ins) : ∀ (f : Nat) (m : Mach) (s : Int), runG (fxB p who args sa) code f m s = runG (fxOf p who l0 args) code f m s
  | 0, _, _ => rfl
  | f + 1, m, s => by
    rw [runG, runG]
    simp only [doV_fxB, runG_fxB p who args sa code f]
    rfl
theorem RFix.fxB {p : Prg} {who : Int} {args : List Int} {code : List Ins} (h : RFix (fxOf p who l0 args) code) (sa : Nat) : RFix (fxB p who args sa) code := ⟨h.ok, h.good, h.ins, h.who, h.fuel⟩
theorem MI.fxB {p : Prg} {who : Int} {args : List Int} {code : List Ins} {m : Mach} {s : Int} (h : MI (fxOf p who l0 args) code m s) (sa : Nat) : MI (fxB p who args sa) code m s := ⟨h.pc, h.st, h.rl, h.nl, h.s0⟩
def GIv (F : Fx) (p : Prg) (x : Hnd) (R : Option Mach × Int × Int) (S0 : St) (f : Nat) (S : St) : Prop :=
  ∃ m s a b c d, MS F d m S ∧ S.t 12 = .ptr 84026 d 14 0 0 ∧ S.t 13 = iv s ∧ S.t 11 = .lst 2 (x.code.map Ins.av) ∧ S.t 5 = .ptr 84005 a 4 0 0 ∧ S.t 7 = .ptr 84007 b 5 0 0 ∧ S.t 10 = .ptr 84010 c 7 0 0 ∧
    S.blk 84005 = some ⟨a, 4, [p.av]⟩ ∧ S.blk 84007 = some ⟨b, 5, [l0.av]⟩ ∧ S.blk 84010 = some ⟨c, 7, [.agg [.nils, .bool false, iv 0, iv 0, iv 0, .nils, iv 0]]⟩ ∧ 0 ≤ s ∧ s ≤ p.fuel ∧ (f : Int) = p.fuel - s + 1 ∧ runG F x.code f m s = R ∧ RunOk F x.code f m s ∧ (m.notes.length : Int) ≤ s ∧ FrA Lr S0 S
theorem go_v (p : Prg) (who : Int) (h : Int) (args : List Int) (x : Hnd) (h0 : 0 ≤ h) (hx : p.hs[h.toNat]? = some x) (hf : 0 ≤ p.fuel ∧ p.fuel ≤ 1000) (sa : Nat)
    (hok : RunOk (fxB p who args sa) x.code (p.fuel.toNat + 1) (m0Of l0) 0) (R : Option Mach × Int × Int) (hRR : runG (fxB p who args sa) x.code (p.fuel.toNat + 1) (m0Of l0) 0 = R)
    {S : St} {k : AV → St → Prop} {u : Dep k} (hbA : S.blk 1000016008 = some ⟨sa, 1, args.map iv⟩)
    (hk1 : ∀ m d s, R = (some m, d, s) → ∀ rv nv S', rv.cells = [rv] → rv.one = true → AccIs S' nv 110052 3 40 (m.notes.map Nt.av) → S'.t = S.t → FrA Lr S S' → k (.agg [rv, .bool m.armed, iv 0, iv (w64 m.notes.length), iv 0, nv, iv s]) S')
    (hk2 : ∀ d s, R = (none, d, s) → ∀ S', S'.t = S.t → FrA Lr S S' → k (.agg [ints [], .bool false, iv d, iv 0, iv 0, .nils, iv s]) S') :
    CallG Try.prog (.fn 84 []) [p.av, iv who, l0.av, iv h, .sl 1000016008 sa 1 0 args.length] S k u := by
  refine callV mgo_get (by simp) (by simp) ?_
  unfold mgo_c
  simp [h0, hx]
  simp [l0, Lcl.av]
  refine clonem_v [] (by simp) ?_
  rintro v S1 ⟨ht1, hb1, hk1', hc1⟩ hM hR
  simp at hM
  have hp : S1.blk 84005 = some ⟨S.clk, 4, [p.av]⟩ := by rw [hb1 84005 rfl]; simp [Prg.av]
  have hq : S1.blk 84007 = some ⟨S.clk + 1, 5, [l0.av]⟩ := by rw [hb1 84007 rfl]; simp [Lcl.av, l0]
  have hz : S1.blk 84010 = some ⟨S.clk + 1 + 1, 7, [.agg [.nils, .bool false, iv 0, iv 0, iv 0, .nils, iv 0]]⟩ := by rw [hb1 84010 rfl]; simp
  have hF0 : FrA Lr S S1 := ⟨fun n hn => by rw [hb1 n (Lr_Lm hn)]; simp [ne_of_Lr hn, Lr], fun n hn => by rw [hk1' n (Lr_Lm hn)], by simp at hc1; omega⟩
  obtain ⟨v1, v2⟩ := hR.out
  simp [ht1, hM, v1, v2]
  have hFv : (fxB p who args sa).argv = .sl 1000016008 sa 1 0 (fxB p who args sa).args.length := rfl
  have hFa : (fxB p who args sa).args = args := rfl
  have hFp : (fxB p who args sa).p = p := rfl
  have f1 : (fxB p who args sa).d = 0 := rfl
  have f2 : (fxB p who args sa).s = 0 := rfl
  have f3 : (fxB p who args sa).o = 0 := rfl
  refine loopM (GIv (fxB p who args sa) p x R S) (p.fuel.toNat + 1) ?_ ?_
  · refine ⟨m0Of l0, 0, S.clk, S.clk + 1, S.clk + 1 + 1, S.clk + 3 + 7 + 1 + 1 + 1 + 1 + 1, ?_, by simp, by simp, by simp, by simp, by simp, by simp, by simp [hp], by simp [hq], by simp [hz], by omega, by omega, by omega, hRR, hok, by simp [m0Of], ?_⟩
    · refine MS.mk' (upd_same _ _ _) ?_ (.inl ⟨rfl, rfl⟩) (.inl ⟨rfl, rfl⟩)
      simpa [RegIs, m0Of, l0] using hR
    · exact ⟨fun n hn => by simp [hF0.1 n hn, ne_of_Lr hn, Lr], fun n hn => by simp [hF0.2.1 n hn, ne_of_Lr hn, Lr], by have := hF0.2.2; simp; omega⟩
  · clear hR hM hp hq hz hb1 hk1' hc1 ht1 hF0 S1 hRR hok v1 v2 v
    generalize hF : fxB p who args sa = F at *
    rintro f S1 ⟨m, s, a, b, c, d, hMS, g12, g13, g11, g5, g7, g10, b5, b7, b10, s0, s1, hfs, hrun, hok, hnl, hFA⟩
    obtain ⟨f, rfl⟩ : ∃ f', f = f' + 1 := ⟨f - 1, by omega⟩
    obtain ⟨r, sk, nt, hb, hr, hs, hn⟩ := hMS
    have hA : S1.blk 1000016008 = some ⟨sa, 1, F.args.map iv⟩ := by rw [hFA.1 1000016008 rfl, hFa]; exact hbA
    by_cases hpc : 0 ≤ m.pc ∧ m.pc < x.code.length
    · by_cases hsf : s < p.fuel
      · have hat : m.pc.toNat < x.code.length := by omega
        have hget : x.code[m.pc.toNat]? = some x.code[m.pc.toNat] := List.getElem?_eq_getElem hat
        obtain ⟨hdo, hnx⟩ := hok hpc (by rw [hFp]; exact hsf) _ hget
        have ws : IntKind.i64.wrap (s + 1) = s + 1 := wrap_in _ (by omega) (by omega)
        have hstep : runG F x.code (f + 1) m s = if (doV F x.code[m.pc.toNat] m).2 ≠ 0 then (none, (doV F x.code[m.pc.toNat] m).2, s + 1) else runG F x.code f (doV F x.code[m.pc.toNat] m).1 (s + 1) := by
          rw [runG, if_pos hpc, if_pos (by rw [hFp]; exact hsf), hget]
        rw [hstep] at hrun
        simp [mgo_l0, g12, g13, g11, g5, b5, hb, hpc, hsf, ws, hat]
        refine do_v F d m x.code[m.pc.toNat] hdo (.inr ⟨sa, hFv, by simp [hA]⟩) (MS.to ⟨r, sk, nt, hb, hr, hs, hn⟩) ?_
        rintro S2 ⟨ht1, hb1, hk1', hc1⟩ hM1
        have c5 : S2.blk 84005 = some ⟨a, 4, [p.av]⟩ := by rw [hb1 84005 rfl]; simpa using b5
        have c7 : S2.blk 84007 = some ⟨b, 5, [l0.av]⟩ := by rw [hb1 84007 rfl]; simpa using b7
        have c10 : S2.blk 84010 = some ⟨c, 7, [.agg [.nils, .bool false, iv 0, iv 0, iv 0, .nils, iv 0]]⟩ := by rw [hb1 84010 rfl]; simpa using b10
        have hF2 : FrA Lr S S2 := ⟨fun n hn => by rw [hb1 n (Lr_Lm hn)]; simpa using hFA.1 n hn, fun n hn => by rw [hk1' n (Lr_Lm hn)]; simpa using hFA.2.1 n hn, by have := hFA.2.2; simp at hc1; omega⟩
        by_cases hd : (doV F x.code[m.pc.toNat] m).2 = 0
        · rw [if_neg (by rw [hd]; simp)] at hrun
          simp [ht1, hd, g12, g11, g5, g7, g10]
          exact ⟨f, by omega, _, s + 1, a, b, c, d, hM1.to, by simp [g12], by simp, by simp [g11], by simp [g5], by simp [g7], by simp [g10], c5, c7, c10, by omega, by omega, by omega, hrun, hnx hd, by have := doV_notes F x.code[m.pc.toNat] m; omega, ⟨hF2.1, hF2.2.1, by have := hF2.2.2; simp; omega⟩⟩
        · rw [if_pos hd] at hrun
          simp [ht1, hd, g12, g11, g5, g7, g10, c7, l0]
          refine call (cloneInts_pc [] (by simp)) (by simp) ?_
          simp [ht1, g7, g10, c7, c10, Lcl.av, l0]
          refine hk2 _ _ hrun.symm _ rfl ⟨fun n hn => by simp [hF2.1 n hn, ne_of_Lr hn, Lr], fun n hn => by simp [hF2.2.1 n hn, ne_of_Lr hn, Lr], by have := hF2.2.2; simp; omega⟩
      · have hrn : runG F x.code (f + 1) m s = (none, 2, s) := by
          rw [runG, if_pos hpc, if_neg (by rw [hFp]; exact hsf)]
        rw [hrn] at hrun
        simp [mgo_l0, g12, g13, g11, g5, g7, b5, b7, hb, hpc, hsf, Lcl.av, l0]
        refine call (cloneInts_pc [] (by simp)) (by simp) ?_
        simp [g7, g10, g13, b7, b10, Lcl.av, l0]
        refine hk2 _ _ hrun.symm _ rfl ⟨fun n hn => by simp [hFA.1 n hn, ne_of_Lr hn, Lr], fun n hn => by simp [hFA.2.1 n hn, ne_of_Lr hn, Lr], by have := hFA.2.2; simp; omega⟩
    · have hrn : runG F x.code (f + 1) m s = (some m, 0, s) := by rw [runG, if_neg hpc]
      rw [hrn] at hrun
      obtain ⟨r1, r2⟩ := hr.out
      have hnl2 : lenOf nt = some m.notes.length := by
        rcases hn with ⟨rfl, e'⟩ | ⟨sn, rfl, hn⟩
        · have : m.notes = [] := by simpa using e'
          simp [lenOf, this]
        · simp [lenOf]
      have hno : nt.cells = [nt] ∧ nt.one = true := by
        rcases hn with ⟨rfl, e'⟩ | ⟨sn, rfl, hn⟩ <;> exact ⟨rfl, rfl⟩
      by_cases h1 : 0 ≤ m.pc
      · simp [mgo_l0, g12, g11, g10, g13, b10, hb, h1, show ¬ m.pc < x.code.length by omega, f1, f2, f3, hnl2, hno.1, hno.2, r1, r2]
        exact hk1 m 0 s hrun.symm r nt _ r2 r1 (by simpa [AccIs] using hn) rfl ⟨fun n hn => by simp [hFA.1 n hn, ne_of_Lr hn, Lr], fun n hn => by simp [hFA.2.1 n hn, ne_of_Lr hn, Lr], by have := hFA.2.2; simp; omega⟩
      · simp [mgo_l0, g12, g11, g10, g13, b10, hb, h1, f1, f2, f3, hnl2, hno.1, hno.2, r1, r2]
        exact hk1 m 0 s hrun.symm r nt _ r2 r1 (by simpa [AccIs] using hn) rfl ⟨fun n hn => by simp [hFA.1 n hn, ne_of_Lr hn, Lr], fun n hn => by simp [hFA.2.1 n hn, ne_of_Lr hn, Lr], by have := hFA.2.2; simp; omega⟩
theorem run_v (p : Prg) (who : Int) (h : Int) (args : List Int) (sa : Nat) (hm : mayV p who l0 h args) (x : Hnd) (hx : p.hs[h.toNat]? = some x) (R : Option Mach × Int × Int) (hRR : runG (fxOf p who l0 args) x.code (p.fuel.toNat + 1) (m0Of l0) 0 = R)
    {S : St} {k : AV → St → Prop} {u : Dep k} (hbA : S.blk 1000016008 = some ⟨sa, 1, args.map iv⟩)
    (hk1 : ∀ m d s, R = (some m, d, s) → ∀ rv nv S', rv.cells = [rv] → rv.one = true → AccIs S' nv 110052 3 40 (m.notes.map Nt.av) → S'.t = S.t → FrA La S S' → k (.agg [rv, .bool m.armed, iv 0, iv (w64 m.notes.length), iv 0, nv, iv s]) S')
    (hk2 : ∀ d s, R = (none, d, s) → ∀ S', S'.t = S.t → FrA La S S' → k (.agg [ints [], .bool false, iv d, iv 0, iv 0, .nils, iv s]) S') :
    CallG Try.prog (.fn 45 []) [p.av, iv who, l0.av, iv h, .sl 1000016008 sa 1 0 args.length] S k u := by
  obtain ⟨x', hx', _, _, hro, hmi, hf1, hf2, _⟩ := hm.ro
  have hxx : x' = x := by rw [hx] at hx'; exact (Option.some.inj hx').symm
  subst hxx
  have h0 := hm.2.2.2.1
  refine callV mrunB_get (by simp) (by simp) ?_
  unfold mrunB_c
  have hli : ∀ blk : Nat → Option Blk, blk 1000016008 = some ⟨sa, 1, args.map iv⟩ → listOf blk 1 (.sl 1000016008 sa 1 0 args.length) = some (args.map iv) := fun blk hb => list_ints args blk 1000016008 sa hb
  simp [l0, Lcl.av]
  refine callH (may_pc p who l0 h args) (by simp [l0, Lcl.av, hli, hbA]) rfl ?_
  simp [hm]
  refine go_v p who h args x' h0 hx ⟨by omega, by omega⟩ sa ((hro.fxB sa).run _ _ _ (hmi.fxB sa)) R (by rw [runG_fxB]; exact hRR) (by simp [hbA]) ?_ ?_
  · intro m d s e rv nv S' q1 q2 q3 q4 q5
    have c10 := q5.1 45010 rfl
    simp at c10
    have n1 : nv.one = true := by rcases q3 with ⟨rfl, _⟩ | ⟨_, rfl, _⟩ <;> rfl
    simp [q4, c10, q1, q2, n1]
    exact hk1 m d s e rv nv _ q1 q2 (by simpa [AccIs] using q3) rfl ⟨fun n hn => by simp [q5.1 n (La_Lr hn), ne_of_La hn, La], fun n hn => by simp [q5.2.1 n (La_Lr hn), ne_of_La hn, La], by have := q5.2.2; simp at this; simp; omega⟩
  · intro d s e S' q4 q5
    have c10 := q5.1 45010 rfl
    simp at c10
    simp [q4, c10]
    exact hk2 d s e _ rfl ⟨fun n hn => by simp [q5.1 n (La_Lr hn), ne_of_La hn, La], fun n hn => by simp [q5.2.1 n (La_Lr hn), ne_of_La hn, La], by have := q5.2.2; simp at this; simp; omega⟩

end Go.Gv

/- The law VmArgs answers true. Condition: the list is no longer than a machine bears. -/
set_option linter.unusedVariables false
set_option linter.unusedSimpArgs false
namespace Go.Gv
open Go.Proofs

def vargs_r0 : List AI := [⟨(some 4), none, (.op (.mv (.c (.bool false))))⟩]
def vargs_r1 : List AI := [⟨(some 11), none, (.op (.mv (.t 0)))⟩, ⟨(some 12), none, (.op (.len (.t 11)))⟩, ⟨(some 13), none, (.op (.ibin .gtr (.t 12) (.c (.int .i64 4))))⟩]
def vargs_r2 : List AI := [⟨(some 14), none, (.call (.c (.fn 41 [])) [])⟩, ⟨(some 4), none, (.op (.mv (.t 14)))⟩]
def vargs_r3 : List AI := [⟨(some 5), none, (.op (.mv (.c .nils)))⟩]
def vargs_r4 : List AI := [⟨(some 6), none, (.op (.mv (.c (.int .i64 0))))⟩]
def vargs_r5 : List AI := [⟨(some 15), none, (.op (.mv (.t 6)))⟩, ⟨(some 16), none, (.op (.mv (.t 0)))⟩, ⟨(some 17), none, (.op (.len (.t 16)))⟩, ⟨(some 18), none, (.op (.ibin .lss (.t 15) (.t 17)))⟩]
def vargs_r6 : List AI := [⟨(some 21), none, (.op (.mv (.t 5)))⟩, ⟨(some 22), none, (.op (.mv (.t 6)))⟩, ⟨(some 23), none, (.op (.build [(.int .i64 0), (.int .i64 0)] [(0, (1, (.c (.int .i64 7)))), (1, (1, (.t 22)))]))⟩, ⟨(some 24), none, (.op (.bsl 16024 2 35 1 (.agg [(.int .i64 0), (.int .i64 0)]) [(0, (.t 23))]))⟩, ⟨(some 25), none, (.op (.app 16005 2 35 16 (.t 21) (.t 24)))⟩, ⟨(some 5), none, (.op (.mv (.t 25)))⟩]
def vargs_r7 : List AI := [⟨(some 19), none, (.op (.mv (.t 6)))⟩, ⟨(some 20), none, (.op (.ibin .add (.t 19) (.c (.int .i64 1))))⟩, ⟨(some 6), none, (.op (.mv (.t 20)))⟩]
def vargs_l0 : AC := (.seq (.seq (.reg vargs_r5) (.cond (.t 18) .skip (.exit 0))) (.seq (.block 1 (.reg vargs_r6)) (.reg vargs_r7)))
def vargs_r8 : List AI := [⟨(some 26), none, (.op (.mv (.t 5)))⟩, ⟨(some 27), none, (.op (.mv (.t 1)))⟩, ⟨(some 28), none, (.op (.build [(.int .i64 0), (.int .i64 0)] [(0, (1, (.c (.int .i64 1)))), (1, (1, (.t 27)))]))⟩, ⟨(some 29), none, (.op (.build [(.int .i64 0), (.int .i64 0)] [(0, (1, (.c (.int .i64 22))))]))⟩, ⟨(some 30), none, (.op (.bsl 16030 2 35 2 (.agg [(.int .i64 0), (.int .i64 0)]) [(0, (.t 28)), (1, (.t 29))]))⟩, ⟨(some 31), none, (.op (.app 16031 2 35 16 (.t 26) (.t 30)))⟩, ⟨(some 5), none, (.op (.mv (.t 31)))⟩]
def vargs_r9 : List AI := [⟨(some 32), none, (.op (.mv (.t 0)))⟩, ⟨(some 33), none, (.op (.len (.t 32)))⟩, ⟨(some 34), none, (.op (.mv (.t 5)))⟩, ⟨(some 35), none, (.op (.build [(.int .i64 0), .nils] [(0, (1, (.t 33))), (1, (1, (.t 34)))]))⟩, ⟨(some 36), none, (.op (.bsl 16036 2 33 1 (.agg [(.int .i64 0), .nils]) [(0, (.t 35))]))⟩, ⟨(some 37), none, (.op (.build [.nils, (.int .i64 0), (.int .i64 0), (.bool false)] [(2, (1, (.c (.int .i64 (-1)))))]))⟩, ⟨(some 38), none, (.op (.build [.nils, (.int .i64 0), (.int .i64 0), (.bool false)] [(2, (1, (.c (.int .i64 (-1)))))]))⟩, ⟨(some 39), none, (.op (.bsl 16039 4 38 2 (.agg [.nils, (.int .i64 0), (.int .i64 0), (.bool false)]) [(0, (.t 37)), (1, (.t 38))]))⟩, ⟨(some 40), none, (.op (.build [.nils, .nils, .nils, (.int .i64 0)] [(0, (1, (.t 36))), (1, (1, (.t 39))), (3, (1, (.c (.int .i64 50))))]))⟩, ⟨(some 7), none, (.op (.new 16007 4 (.agg [.nils, .nils, .nils, (.int .i64 0)])))⟩, ⟨none, none, (.op (.store 4 (.t 7) (.t 40)))⟩]
def vargs_r10 : List AI := [⟨(some 41), none, (.op (.bslm 1000016008 1 3 0 (.int .i64 0) []))⟩, ⟨(some 42), none, (.op (.mv (.t 0)))⟩, ⟨(some 43), none, (.op (.appw 1000016008 1 3 8 (.t 41) (.t 42)))⟩, ⟨(some 8), none, (.op (.mv (.t 43)))⟩]
def vargs_r11 : List AI := [⟨(some 44), none, (.op (.load (some 4) (.t 7)))⟩, ⟨(some 45), none, (.op (.build [.nils, (.bool false), (.int .i64 0), (.int .i64 0), (.int .i64 0)] []))⟩, ⟨(some 46), none, (.op (.mv (.t 8)))⟩, ⟨(some 47), none, (.call (.c (.fn 45 [])) [(.t 44), (.c (.int .i64 1)), (.t 45), (.c (.int .i64 0)), (.t 46)])⟩, ⟨(some 9), none, (.op (.new 16009 7 (.agg [.nils, (.bool false), (.int .i64 0), (.int .i64 0), (.int .i64 0), .nils, (.int .i64 0)])))⟩, ⟨none, none, (.op (.store 7 (.t 9) (.t 47)))⟩]
def vargs_r12 : List AI := [⟨(some 10), none, (.op (.mv (.c (.int .i64 0))))⟩]
def vargs_r13 : List AI := [⟨(some 48), none, (.op (.mv (.t 10)))⟩, ⟨(some 49), none, (.op (.mv (.t 8)))⟩, ⟨(some 50), none, (.op (.len (.t 49)))⟩, ⟨(some 51), none, (.op (.ibin .lss (.t 48) (.t 50)))⟩]
def vargs_r14 : List AI := [⟨(some 54), none, (.op (.mv (.t 8)))⟩, ⟨(some 55), none, (.op (.mv (.t 10)))⟩, ⟨(some 56), none, (.op (.idx 1 (.t 54) (.t 55)))⟩, ⟨(some 57), none, (.op (.load none (.t 56)))⟩, ⟨(some 58), none, (.op (.mv (.t 0)))⟩, ⟨(some 59), none, (.op (.mv (.t 10)))⟩, ⟨(some 60), none, (.op (.idx 1 (.t 58) (.t 59)))⟩, ⟨(some 61), none, (.op (.load none (.t 60)))⟩, ⟨(some 62), none, (.op (.ibin .neq (.t 57) (.t 61)))⟩]
def vargs_p14 : List (List Nat) := [[], [], [0, 1], [2, 0, 1], [], [], [4, 5], [6, 4, 5], [3, 7, 2, 0, 1, 6, 4, 5]]
def vargs_r15 : List AI := [⟨(some 4), none, (.op (.mv (.c (.bool false))))⟩]
def vargs_r16 : List AI := [⟨(some 63), none, (.op (.mv (.t 8)))⟩, ⟨(some 64), none, (.op (.mv (.t 10)))⟩, ⟨(some 65), none, (.op (.idx 1 (.t 63) (.t 64)))⟩, ⟨(some 66), none, (.op (.load none (.t 65)))⟩, ⟨(some 67), none, (.op (.ibin .add (.t 66) (.c (.int .i64 1))))⟩, ⟨(some 68), none, (.op (.idx 1 (.t 63) (.t 64)))⟩, ⟨none, none, (.op (.store 1 (.t 68) (.t 67)))⟩]
def vargs_r17 : List AI := [⟨(some 52), none, (.op (.mv (.t 10)))⟩, ⟨(some 53), none, (.op (.ibin .add (.t 52) (.c (.int .i64 1))))⟩, ⟨(some 10), none, (.op (.mv (.t 53)))⟩]
def vargs_l1 : AC := (.seq (.seq (.reg vargs_r13) (.cond (.t 51) .skip (.exit 2))) (.seq (.block 3 (.seq (.seq (.regd vargs_r14 vargs_p14) (.cond (.t 62) (.seq (.reg vargs_r15) .ret) .skip)) (.reg vargs_r16))) (.reg vargs_r17)))
def vargs_r18 : List AI := [⟨(some 69), none, (.op (.mv (.t 1)))⟩, ⟨(some 70), none, (.op (.ibin .neq (.t 69) (.c (.int .i64 0))))⟩, ⟨(some 71), none, (.op (.mv (.t 70)))⟩, ⟨(some 72), (some (71, true)), (.op (.mv (.t 1)))⟩, ⟨(some 73), (some (71, true)), (.op (.ibin .neq (.t 72) (.c (.int .i64 1))))⟩, ⟨(some 74), none, (.op (.pick (.t 71) (.t 73) (.c (.bool false))))⟩]
def vargs_r19 : List AI := [⟨(some 75), none, (.op (.fld 0 (.t 9)))⟩, ⟨(some 76), none, (.op (.fld 2 (.t 75)))⟩, ⟨(some 77), none, (.op (.load none (.t 76)))⟩, ⟨(some 78), none, (.op (.ibin .eql (.t 77) (.c (.int .i64 4))))⟩, ⟨(some 79), none, (.op (.mv (.t 78)))⟩, ⟨(some 80), (some (79, true)), (.op (.fld 5 (.t 9)))⟩, ⟨(some 81), (some (79, true)), (.op (.load none (.t 80)))⟩, ⟨(some 82), (some (79, true)), (.op (.len (.t 81)))⟩, ⟨(some 83), (some (79, true)), (.op (.ibin .eql (.t 82) (.c (.int .i64 0))))⟩, ⟨(some 84), none, (.op (.pick (.t 79) (.t 83) (.c (.bool false))))⟩, ⟨(some 85), none, (.op (.mv (.t 84)))⟩, ⟨(some 86), (some (85, true)), (.op (.fld 6 (.t 9)))⟩, ⟨(some 87), (some (85, true)), (.op (.load none (.t 86)))⟩, ⟨(some 88), (some (85, true)), (.op (.mv (.t 0)))⟩, ⟨(some 89), (some (85, true)), (.op (.len (.t 88)))⟩, ⟨(some 90), (some (85, true)), (.op (.ibin .add (.t 89) (.c (.int .i64 2))))⟩, ⟨(some 91), (some (85, true)), (.op (.ibin .eql (.t 87) (.t 90)))⟩, ⟨(some 92), none, (.op (.pick (.t 85) (.t 91) (.c (.bool false))))⟩, ⟨(some 93), none, (.op (.mv (.t 92)))⟩, ⟨(some 94), (some (93, true)), (.call (.c (.fn 41 [])) [])⟩, ⟨(some 95), none, (.op (.pick (.t 93) (.t 94) (.c (.bool false))))⟩, ⟨(some 4), none, (.op (.mv (.t 95)))⟩]
def vargs_r20 : List AI := [⟨(some 96), none, (.op (.fld 5 (.t 9)))⟩, ⟨(some 97), none, (.op (.load none (.t 96)))⟩, ⟨(some 98), none, (.op (.len (.t 97)))⟩, ⟨(some 99), none, (.op (.ibin .eql (.t 98) (.c (.int .i64 1))))⟩, ⟨(some 100), none, (.op (.mv (.t 99)))⟩, ⟨(some 101), (some (100, true)), (.op (.fld 5 (.t 9)))⟩, ⟨(some 102), (some (100, true)), (.op (.load none (.t 101)))⟩, ⟨(some 103), (some (100, true)), (.op (.idx 3 (.t 102) (.c (.int .i64 0))))⟩, ⟨(some 104), (some (100, true)), (.op (.load (some 3) (.t 103)))⟩, ⟨(some 105), (some (100, true)), (.op (.mv (.t 1)))⟩, ⟨(some 106), (some (100, true)), (.op (.mv (.t 0)))⟩, ⟨(some 107), (some (100, true)), (.op (.build [(.int .i64 0), (.int .i64 0), .nils] [(0, (1, (.t 105))), (2, (1, (.t 106)))]))⟩, ⟨(some 108), (some (100, true)), (.call (.c (.fn 49 [])) [(.t 104), (.t 107)])⟩, ⟨(some 109), none, (.op (.pick (.t 100) (.t 108) (.c (.bool false))))⟩, ⟨(some 110), none, (.op (.mv (.t 109)))⟩, ⟨(some 111), (some (110, true)), (.call (.c (.fn 41 [])) [])⟩, ⟨(some 112), none, (.op (.pick (.t 110) (.t 111) (.c (.bool false))))⟩, ⟨(some 4), none, (.op (.mv (.t 112)))⟩]
def vargs_c : AC := (.seq (.reg vargs_r0) (.seq (.seq (.reg vargs_r1) (.cond (.t 13) (.seq (.reg vargs_r2) .ret) .skip)) (.seq (.reg vargs_r3) (.seq (.seq (.reg vargs_r4) (.block 0 (.loop vargs_l0))) (.seq (.reg vargs_r8) (.seq (.reg vargs_r9) (.seq (.reg vargs_r10) (.seq (.reg vargs_r11) (.seq (.seq (.reg vargs_r12) (.block 2 (.loop vargs_l1))) (.seq (.seq (.reg vargs_r18) (.cond (.t 74) (.seq (.reg vargs_r19) .ret) .skip)) (.seq (.reg vargs_r20) .ret)))))))))))
def vargs_res : List ARes := [(.tmp 4)]
set_option maxRecDepth 100000 in
theorem vargs_get : getF Try.prog 16 16000 [(25, 5), (41, 1000000008), (43, 1000000008)] = some ("gavotte/gavottelaw6.VmArgs", 113, vargs_c, vargs_res) := by kernel_rfl
attribute [simp] vargs_r0 vargs_r1 vargs_r2 vargs_r3 vargs_r4 vargs_r5 vargs_r6 vargs_r7 vargs_r8 vargs_r9 vargs_r10 vargs_r11 vargs_r12 vargs_r13 vargs_r14 vargs_p14 vargs_r15 vargs_r16 vargs_r17 vargs_r18 vargs_r19 vargs_r20 vargs_res

def argI (n : Nat) : List Ins := (List.range n).map fun i : Nat => ⟨7, (i : Int)⟩
theorem argI_av (n : Nat) : (argI (n + 1)).map Ins.av = (argI n).map Ins.av ++ [.agg [iv 7, iv n]] := by simp [argI, List.range_succ]
theorem argI_len (n : Nat) : (argI n).length = n := by simp [argI]
def argC (n : Nat) (to : Int) : List Ins := argI n ++ [⟨1, to⟩, ⟨22, 0⟩]
def argP (n : Nat) (to : Int) : Prg := ⟨[⟨n, argC n to⟩], [⟨[], 0, -1, false⟩, ⟨[], 0, -1, false⟩], [], 50⟩
theorem arg_flow (n : Nat) (h : n ≤ 4) (to : Int) : flowV (argP n to) = 0 := by
  rcases n with _ | _ | _ | _ | _ | n <;> first | omega | kernel_rfl
theorem arg_may (l : List Int) (h : l.length ≤ 4) (to : Int) : mayV (argP l.length to) 1 l0 0 l :=
  ⟨arg_flow _ h to, by omega, by simp [argP], by omega, by simp [argP], by simp [argP, argsOf], by simp [l0], rfl⟩
theorem arg_pre (l : List Int) (h : l.length ≤ 4) (to : Int) : runG (fxOf (argP l.length to) 1 l0 l) (argC l.length to) 51 (m0Of l0) 0 = runG (fxOf (argP l.length to) 1 l0 l) (argC l.length to) (50 - l.length) ⟨(l.length : Int) + 1, l ++ [to], [], [], false⟩ ((l.length : Int) + 1) := by
  rcases l with _ | ⟨a, _ | ⟨b, _ | ⟨c, _ | ⟨d, _ | ⟨e, l⟩⟩⟩⟩⟩
  · kernel_rfl
  · kernel_rfl
  · kernel_rfl
  · kernel_rfl
  · kernel_rfl
  · exfalso; simp at h
theorem arg_ok (l : List Int) (h : l.length ≤ 4) (to : Int) (ht : to = 0 ∨ to = 1) : runG (fxOf (argP l.length to) 1 l0 l) (argC l.length to) 51 (m0Of l0) 0 = (some ⟨(l.length : Int) + 2, [], [], [⟨to, 0, l⟩], false⟩, 0, (l.length : Int) + 2) := by
  rcases ht with rfl | rfl <;> rcases l with _ | ⟨a, _ | ⟨b, _ | ⟨c, _ | ⟨d, _ | ⟨e, l⟩⟩⟩⟩⟩ <;> first | (exfalso; simp at h; done) | kernel_rfl
theorem arg_lost (l : List Int) (h : l.length ≤ 4) (to : Int) (ht : ¬ (to = 0 ∨ to = 1)) : runG (fxOf (argP l.length to) 1 l0 l) (argC l.length to) 51 (m0Of l0) 0 = (none, 4, (l.length : Int) + 2) := by
  rw [arg_pre l h to]
  obtain ⟨f, hf⟩ : ∃ f, 50 - l.length = f + 1 := ⟨49 - l.length, by omega⟩
  have hi : (argC l.length to)[((l.length : Int) + 1).toNat]? = some ⟨22, 0⟩ := by
    rw [show ((l.length : Int) + 1).toNat = l.length + 1 by omega]
    simp [argC, argI_len, List.getElem?_append_right]
  have hd : doV (fxOf (argP l.length to) 1 l0 l) ⟨22, 0⟩ ⟨(l.length : Int) + 1, l ++ [to], [], [], false⟩ = (⟨(l.length : Int) + 1 + 1, l, [], [], false⟩, 4) := by
    have hc : to < 0 ∨ 2 ≤ to := by omega
    simp [doV, top, fxOf, argP, hc]
  have hl : (argC l.length to).length = l.length + 2 := by simp [argC, argI_len]
  rw [hf, runG, if_pos ⟨by simp only; omega, by simp only; omega⟩, if_pos (by simp only [fxOf, argP]; omega), hi]
  simp only [hd]
  rw [if_pos (by simp), show (l.length : Int) + 1 + 1 = (l.length : Int) + 2 by omega]
/-- What was handed in, changed up to i. -/
def gv (l : List Int) (i : Nat) : List Int := (l.take i).map (fun x => IntKind.i64.wrap (x + 1)) ++ l.drop i
theorem gv_len (l : List Int) (i : Nat) : (gv l i).length = l.length := by simp [gv]; omega
theorem gv_get (l : List Int) (i : Nat) (h : i < l.length) : (gv l i)[i]? = some l[i] := by
  have : ((l.take i).map (fun x => IntKind.i64.wrap (x + 1))).length = i := by simp; omega
  unfold gv
  rw [List.getElem?_append_right (by omega), this]
  simp [h]
theorem gv_set (l : List Int) (i : Nat) (h : i < l.length) : (gv l i).set i (IntKind.i64.wrap (l[i] + 1)) = gv l (i + 1) := by
  have hl : ((l.take i).map (fun x => IntKind.i64.wrap (x + 1))).length = i := by simp; omega
  unfold gv
  rw [List.set_append_right _ _ (by omega), hl, Nat.sub_self, List.drop_eq_getElem_cons h, List.set_cons_zero, List.take_succ_eq_append_getElem h, List.map_append, List.append_assoc]
  rfl
set_option maxHeartbeats 1000000 in
theorem vmArgs_pc (l : List Int) (to : Int) : PC Try.prog 16 [ints l, iv to] (.bool true) := by
  refine pc_of_get vargs_get (by simp) _ (by simp) _ ?_
  unfold vargs_c
  simp
  by_cases h1 : (4 : Int) < l.length
  · simp [h1]; refine call awake6_pc (by simp) ?_; simp
  have hl : l.length ≤ 4 := by omega
  simp [h1]
  refine loopN (fun i S => S.t 6 = iv i ∧ S.t 0 = ints l ∧ S.t 1 = iv to ∧ S.t 4 = .bool false ∧ AccIs S (S.t 5) 16005 2 35 ((argI i).map Ins.av)) l.length ?_ ?_
  · simp [AccIs, argI]
  rintro i S hi ⟨g1, g0, g2, g4, hv⟩
  have hml : ((argI i).map Ins.av).length = i := by simp [argI_len]
  by_cases hlt : i < l.length
  · have ws := wrap_succ i _ hlt (by omega)
    have e := argI_av i
    have z : (i + 1) * 16 ≤ 140737488355328 := by omega
    generalize (argI i).map Ins.av = C at *
    generalize (argI (i + 1)).map Ins.av = C' at *
    rcases hv with ⟨q1, q2⟩ | ⟨st, q1, q2⟩
    · simp [vargs_l0, g0, g1, g2, hlt, ws, q1]
      simp [AccIs, e, q2, g4]
    · simp [vargs_l0, g0, g1, g2, hlt, ws, q1, q2, hml, z]
      simp [AccIs, e, g4]
  · have e1 : i = l.length := by omega
    subst e1
    have z : (l.length + 2) * 16 ≤ 140737488355328 := by omega
    have z2 : l.length * 8 ≤ 140737488355328 := by omega
    have hcc : (argC l.length to).map Ins.av = (argI l.length).map Ins.av ++ [.agg [iv 1, iv to], .agg [iv 22, iv 0]] := by
      unfold argC; rw [List.map_append]; rfl
    generalize (argI l.length).map Ins.av = C at *
    rcases hv with ⟨q1, q2⟩ | ⟨st, q1, q2⟩
    · simp [vargs_l0, g0, g1, g2, q1, q2, hml, z, z2]
      by_cases h01 : to = 0 ∨ to = 1
      · refine call_co 2 (vals' := [(argP l.length to).av, iv 1, l0.av, iv 0, .sl 1000016008 (S.clk + 4 + 7 + 11 + 1 + 1) 1 0 l.length]) rfl ?_ (run_v (argP l.length to) 1 0 l (S.clk + 4 + 7 + 11 + 1 + 1) (arg_may l hl to) ⟨l.length, argC l.length to⟩ rfl _ (arg_ok l hl to h01) (by simp) ?_ ?_)
        · rintro (_ | _ | _ | _ | _ | j) x y hx hy <;> simp at hx hy <;> subst hx <;> subst hy
          · exact .inr (by simp [argP, hcc, q2, dco, elemR, coL, co1])
          · exact .inl rfl
          · exact .inr (by simp [l0, Lcl.av, dco, elemR, coL, co1])
          · exact .inl rfl
          · exact .inl rfl
        · intro m d s e rv nv S' p1 p2 p3 p4 p5
          cases e
          have c8 := p5.1 1000016008 rfl
          simp at c8
          rcases p3 with ⟨r1, r2⟩ | ⟨sn, r1, r2⟩
          · simp at r2
          subst r1
          simp [p4, p1, p2]
          have wl2 : IntKind.i64.wrap ((l.length : Int) + 2) = (l.length : Int) + 2 := wrap_in _ (by clear z z2; omega) (by clear z z2; omega)
          refine loopN (fun i S2 => S2.t 10 = iv i ∧ S2.t 0 = ints l ∧ S2.t 1 = iv to ∧ S2.t 8 = .sl 1000016008 (S.clk + 4 + 7 + 11 + 1 + 1) 1 0 l.length ∧ S2.t 4 = .bool false ∧ S2.blk 1000016008 = some ⟨(S.clk + 4 + 7 + 11 + 1 + 1), 1, (gv l i).map iv⟩ ∧ ∃ s9, S2.t 9 = .ptr 16009 s9 7 0 0 ∧ S2.blk 16009 = some ⟨s9, 7, [.agg [rv, .bool false, iv 0, iv (w64 1), iv 0, .acc 110052 sn 3 [(⟨to, 0, l⟩ : Nt).av], iv ((l.length : Int) + 2)]]⟩) l.length ?_ ?_
          · simp [g0, g2, g4, c8, gv]
          · generalize (S.clk + 4 + 7 + 11 + 1 + 1) = SA at *
            clear c8 p4 p5
            rintro i S2 hi ⟨k10, k0, k1, k8, k4, kb, s9, k9, kc⟩
            by_cases hlt2 : i < l.length
            · have ws := wrap_succ i _ hlt2 (by clear z z2; omega)
              have gl := gv_len l i
              have gg := gv_get l i hlt2
              have gg2 : (gv l i)[i]'(by rw [gl]; exact hlt2) = l[i] := by
                rw [List.getElem?_eq_getElem (by rw [gl]; exact hlt2)] at gg
                exact Option.some.inj gg
              have gs := gv_set l i hlt2
              have gs2 : ((gv l i).map iv).set i (.int .i64 (IntKind.i64.wrap (l[i] + 1))) = (gv l (i + 1)).map iv := by rw [← gs, List.map_set]
              simp [vargs_l1, k10, k0, k1, k8, kb, hlt2, ws, gg2, gl]
              simp [gs2, k4, k9, kc]
            · have e1 : i = l.length := by clear z z2; omega
              subst e1
              have hb : l.length < 4611686018427387904 := by clear z z2; omega
              rcases h01 with rfl | rfl
              · simp [vargs_l1, k10, k0, k1, k8, k9, kc]
                refine call (rsameNote_pc ⟨0, 0, l⟩ ⟨0, 0, l⟩ hb) (by simp) ?_
                simp
                refine call awake6_pc (by simp) ?_
                simp
              · simp [vargs_l1, k10, k0, k1, k8, k9, kc]
                refine call (rsameNote_pc ⟨1, 0, l⟩ ⟨1, 0, l⟩ hb) (by simp) ?_
                simp
                refine call awake6_pc (by simp) ?_
                simp
        · intro d s e
          cases e
      · refine call_co 2 (vals' := [(argP l.length to).av, iv 1, l0.av, iv 0, .sl 1000016008 (S.clk + 4 + 7 + 11 + 1 + 1) 1 0 l.length]) rfl ?_ (run_v (argP l.length to) 1 0 l (S.clk + 4 + 7 + 11 + 1 + 1) (arg_may l hl to) ⟨l.length, argC l.length to⟩ rfl _ (arg_lost l hl to h01) (by simp) ?_ ?_)
        · rintro (_ | _ | _ | _ | _ | j) x y hx hy <;> simp at hx hy <;> subst hx <;> subst hy
          · exact .inr (by simp [argP, hcc, q2, dco, elemR, coL, co1])
          · exact .inl rfl
          · exact .inr (by simp [l0, Lcl.av, dco, elemR, coL, co1])
          · exact .inl rfl
          · exact .inl rfl
        · intro m d s e
          cases e
        · intro d s e S' p4 p5
          cases e
          have c8 := p5.1 1000016008 rfl
          simp at c8
          simp [p4]
          have wl2 : IntKind.i64.wrap ((l.length : Int) + 2) = (l.length : Int) + 2 := wrap_in _ (by clear z z2; omega) (by clear z z2; omega)
          refine loopN (fun i S2 => S2.t 10 = iv i ∧ S2.t 0 = ints l ∧ S2.t 1 = iv to ∧ S2.t 8 = .sl 1000016008 (S.clk + 4 + 7 + 11 + 1 + 1) 1 0 l.length ∧ S2.t 4 = .bool false ∧ S2.blk 1000016008 = some ⟨(S.clk + 4 + 7 + 11 + 1 + 1), 1, (gv l i).map iv⟩ ∧ ∃ s9, S2.t 9 = .ptr 16009 s9 7 0 0 ∧ S2.blk 16009 = some ⟨s9, 7, [.agg [ints [], .bool false, iv 4, iv 0, iv 0, .nils, iv ((l.length : Int) + 2)]]⟩) l.length ?_ ?_
          · simp [g0, g2, g4, c8, gv]
          · generalize (S.clk + 4 + 7 + 11 + 1 + 1) = SA at *
            clear c8 p4 p5
            rintro i S2 hi ⟨k10, k0, k1, k8, k4, kb, s9, k9, kc⟩
            by_cases hlt2 : i < l.length
            · have ws := wrap_succ i _ hlt2 (by clear z z2; omega)
              have gl := gv_len l i
              have gg := gv_get l i hlt2
              have gg2 : (gv l i)[i]'(by rw [gl]; exact hlt2) = l[i] := by
                rw [List.getElem?_eq_getElem (by rw [gl]; exact hlt2)] at gg
                exact Option.some.inj gg
              have gs := gv_set l i hlt2
              have gs2 : ((gv l i).map iv).set i (.int .i64 (IntKind.i64.wrap (l[i] + 1))) = (gv l (i + 1)).map iv := by rw [← gs, List.map_set]
              simp [vargs_l1, k10, k0, k1, k8, kb, hlt2, ws, gg2, gl]
              simp [gs2, k4, k9, kc]
            · have e1 : i = l.length := by clear z z2; omega
              subst e1
              have t0 : to ≠ 0 := fun e => h01 (.inl e)
              have t1 : to ≠ 1 := fun e => h01 (.inr e)
              simp [vargs_l1, k10, k0, k1, k8, k9, kc, t0, t1, wl2]
              refine call awake6_pc (by simp) ?_
              simp
    · simp [vargs_l0, g0, g1, g2, q1, q2, hml, z, z2]
      by_cases h01 : to = 0 ∨ to = 1
      · refine call_co 2 (vals' := [(argP l.length to).av, iv 1, l0.av, iv 0, .sl 1000016008 (S.clk + 4 + 7 + 11 + 1 + 1) 1 0 l.length]) rfl ?_ (run_v (argP l.length to) 1 0 l (S.clk + 4 + 7 + 11 + 1 + 1) (arg_may l hl to) ⟨l.length, argC l.length to⟩ rfl _ (arg_ok l hl to h01) (by simp) ?_ ?_)
        · rintro (_ | _ | _ | _ | _ | j) x y hx hy <;> simp at hx hy <;> subst hx <;> subst hy
          · exact .inr (by simp [argP, hcc, q2, dco, elemR, coL, co1])
          · exact .inl rfl
          · exact .inr (by simp [l0, Lcl.av, dco, elemR, coL, co1])
          · exact .inl rfl
          · exact .inl rfl
        · intro m d s e rv nv S' p1 p2 p3 p4 p5
          cases e
          have c8 := p5.1 1000016008 rfl
          simp at c8
          rcases p3 with ⟨r1, r2⟩ | ⟨sn, r1, r2⟩
          · simp at r2
          subst r1
          simp [p4, p1, p2]
          have wl2 : IntKind.i64.wrap ((l.length : Int) + 2) = (l.length : Int) + 2 := wrap_in _ (by clear z z2; omega) (by clear z z2; omega)
          refine loopN (fun i S2 => S2.t 10 = iv i ∧ S2.t 0 = ints l ∧ S2.t 1 = iv to ∧ S2.t 8 = .sl 1000016008 (S.clk + 4 + 7 + 11 + 1 + 1) 1 0 l.length ∧ S2.t 4 = .bool false ∧ S2.blk 1000016008 = some ⟨(S.clk + 4 + 7 + 11 + 1 + 1), 1, (gv l i).map iv⟩ ∧ ∃ s9, S2.t 9 = .ptr 16009 s9 7 0 0 ∧ S2.blk 16009 = some ⟨s9, 7, [.agg [rv, .bool false, iv 0, iv (w64 1), iv 0, .acc 110052 sn 3 [(⟨to, 0, l⟩ : Nt).av], iv ((l.length : Int) + 2)]]⟩) l.length ?_ ?_
          · simp [g0, g2, g4, c8, gv]
          · generalize (S.clk + 4 + 7 + 11 + 1 + 1) = SA at *
            clear c8 p4 p5
            rintro i S2 hi ⟨k10, k0, k1, k8, k4, kb, s9, k9, kc⟩
            by_cases hlt2 : i < l.length
            · have ws := wrap_succ i _ hlt2 (by clear z z2; omega)
              have gl := gv_len l i
              have gg := gv_get l i hlt2
              have gg2 : (gv l i)[i]'(by rw [gl]; exact hlt2) = l[i] := by
                rw [List.getElem?_eq_getElem (by rw [gl]; exact hlt2)] at gg
                exact Option.some.inj gg
              have gs := gv_set l i hlt2
              have gs2 : ((gv l i).map iv).set i (.int .i64 (IntKind.i64.wrap (l[i] + 1))) = (gv l (i + 1)).map iv := by rw [← gs, List.map_set]
              simp [vargs_l1, k10, k0, k1, k8, kb, hlt2, ws, gg2, gl]
              simp [gs2, k4, k9, kc]
            · have e1 : i = l.length := by clear z z2; omega
              subst e1
              have hb : l.length < 4611686018427387904 := by clear z z2; omega
              rcases h01 with rfl | rfl
              · simp [vargs_l1, k10, k0, k1, k8, k9, kc]
                refine call (rsameNote_pc ⟨0, 0, l⟩ ⟨0, 0, l⟩ hb) (by simp) ?_
                simp
                refine call awake6_pc (by simp) ?_
                simp
              · simp [vargs_l1, k10, k0, k1, k8, k9, kc]
                refine call (rsameNote_pc ⟨1, 0, l⟩ ⟨1, 0, l⟩ hb) (by simp) ?_
                simp
                refine call awake6_pc (by simp) ?_
                simp
        · intro d s e
          cases e
      · refine call_co 2 (vals' := [(argP l.length to).av, iv 1, l0.av, iv 0, .sl 1000016008 (S.clk + 4 + 7 + 11 + 1 + 1) 1 0 l.length]) rfl ?_ (run_v (argP l.length to) 1 0 l (S.clk + 4 + 7 + 11 + 1 + 1) (arg_may l hl to) ⟨l.length, argC l.length to⟩ rfl _ (arg_lost l hl to h01) (by simp) ?_ ?_)
        · rintro (_ | _ | _ | _ | _ | j) x y hx hy <;> simp at hx hy <;> subst hx <;> subst hy
          · exact .inr (by simp [argP, hcc, q2, dco, elemR, coL, co1])
          · exact .inl rfl
          · exact .inr (by simp [l0, Lcl.av, dco, elemR, coL, co1])
          · exact .inl rfl
          · exact .inl rfl
        · intro m d s e
          cases e
        · intro d s e S' p4 p5
          cases e
          have c8 := p5.1 1000016008 rfl
          simp at c8
          simp [p4]
          have wl2 : IntKind.i64.wrap ((l.length : Int) + 2) = (l.length : Int) + 2 := wrap_in _ (by clear z z2; omega) (by clear z z2; omega)
          refine loopN (fun i S2 => S2.t 10 = iv i ∧ S2.t 0 = ints l ∧ S2.t 1 = iv to ∧ S2.t 8 = .sl 1000016008 (S.clk + 4 + 7 + 11 + 1 + 1) 1 0 l.length ∧ S2.t 4 = .bool false ∧ S2.blk 1000016008 = some ⟨(S.clk + 4 + 7 + 11 + 1 + 1), 1, (gv l i).map iv⟩ ∧ ∃ s9, S2.t 9 = .ptr 16009 s9 7 0 0 ∧ S2.blk 16009 = some ⟨s9, 7, [.agg [ints [], .bool false, iv 4, iv 0, iv 0, .nils, iv ((l.length : Int) + 2)]]⟩) l.length ?_ ?_
          · simp [g0, g2, g4, c8, gv]
          · generalize (S.clk + 4 + 7 + 11 + 1 + 1) = SA at *
            clear c8 p4 p5
            rintro i S2 hi ⟨k10, k0, k1, k8, k4, kb, s9, k9, kc⟩
            by_cases hlt2 : i < l.length
            · have ws := wrap_succ i _ hlt2 (by clear z z2; omega)
              have gl := gv_len l i
              have gg := gv_get l i hlt2
              have gg2 : (gv l i)[i]'(by rw [gl]; exact hlt2) = l[i] := by
                rw [List.getElem?_eq_getElem (by rw [gl]; exact hlt2)] at gg
                exact Option.some.inj gg
              have gs := gv_set l i hlt2
              have gs2 : ((gv l i).map iv).set i (.int .i64 (IntKind.i64.wrap (l[i] + 1))) = (gv l (i + 1)).map iv := by rw [← gs, List.map_set]
              simp [vargs_l1, k10, k0, k1, k8, kb, hlt2, ws, gg2, gl]
              simp [gs2, k4, k9, kc]
            · have e1 : i = l.length := by clear z z2; omega
              subst e1
              have t0 : to ≠ 0 := fun e => h01 (.inl e)
              have t1 : to ≠ 1 := fun e => h01 (.inr e)
              simp [vargs_l1, k10, k0, k1, k8, k9, kc, t0, t1, wl2]
              refine call awake6_pc (by simp) ?_
              simp

end Go.Gv
