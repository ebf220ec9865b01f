/- Texts of this proof, one behind the other. What is proved, and on which conditions, stands ahead of each. -/
import Derived.Test.YtpaeffcpdpblcaaProg
import Derived.Test.YtpaeffcpdpblcaaM6508f07
import Derived.Test.YtpaeffcpdpblcaaM826ae8e

/- Plain law: a program each of whose numbers is one greater is another one, unless it has nothing. No condition. -/
set_option linter.unusedVariables false
set_option linter.unusedSimpArgs false
namespace Go.Gv
open Go.Proofs


def w1 (x : Int) : Int := IntKind.i64.wrap (x + 1)
theorem w1_ne (x : Int) : w1 x ≠ x := by
  unfold w1
  simp [IntKind.wrap, IntKind.signed, IntKind.bits]
  omega
def chI (i : Ins) : Ins := ⟨i.op, w1 i.a⟩
def chH (h : Hnd) : Hnd := ⟨w1 h.args, h.code.map chI⟩
def chA (a : Actr) : Actr := ⟨a.regs.map w1, w1 a.cap, a.timer, a.armed⟩
def chN (n : Nt) : Nt := ⟨w1 n.to, n.hd, n.args.map w1⟩
def chP (p : Prg) : Prg := ⟨p.hs.map chH, p.as.map chA, p.boot.map chN, p.fuel⟩
theorem map_ne {α : Type} (f : α → α) (h : ∀ x, f x ≠ x) : ∀ l : List α, l.map f = l ↔ l = []
  | [] => by simp
  | x :: l => by
    simp only [List.map_cons, List.cons.injEq, reduceCtorEq, iff_false]
    exact fun q => h x q.1
theorem chH_ne (h : Hnd) : chH h ≠ h := fun q => w1_ne h.args (congrArg Hnd.args q)
theorem chA_ne (a : Actr) : chA a ≠ a := fun q => w1_ne a.cap (congrArg Actr.cap q)
theorem chN_ne (n : Nt) : chN n ≠ n := fun q => w1_ne n.to (congrArg Nt.to q)
theorem chP_eq (p : Prg) : p = chP p ↔ p.hs = [] ∧ p.as = [] ∧ p.boot = [] := by
  constructor
  · intro q
    have q1 := congrArg Prg.hs q
    have q2 := congrArg Prg.as q
    have q3 := congrArg Prg.boot q
    exact ⟨(map_ne chH chH_ne _).1 q1.symm, (map_ne chA chA_ne _).1 q2.symm, (map_ne chN chN_ne _).1 q3.symm⟩
  · rintro ⟨a, b, c⟩
    obtain ⟨x1, x2, x3, x4⟩ := p
    simp only at a b c
    subst a b c
    rfl

end Go.Gv

/- Contracts of functions that change memory: what stays. No condition beyond those that each law names. -/
set_option linter.unusedVariables false
set_option linter.unusedSimpArgs false
namespace Go.Gv

/-- But for the names L all is as it was. -/
structure Fr (L : Nat → Bool) (S S' : St) : Prop where
  t : S'.t = S.t
  b : ∀ n, L n = false → S'.blk n = S.blk n
  k : ∀ n, L n = false → S'.tok n = S.tok n
  c : S.clk ≤ S'.clk
theorem Fr.refl (L : Nat → Bool) (S : St) : Fr L S S := ⟨rfl, fun _ _ => rfl, fun _ _ => rfl, Nat.le_refl _⟩
theorem Fr.trans {L : Nat → Bool} {S S' S'' : St} (h : Fr L S S') (k : Fr L S' S'') : Fr L S S'' :=
  ⟨k.t.trans h.t, fun n hn => (k.b n hn).trans (h.b n hn), fun n hn => (k.k n hn).trans (h.k n hn), Nat.le_trans h.c k.c⟩
theorem Fr.mono {L L' : Nat → Bool} (hl : ∀ n, L' n = false → L n = false) {S S' : St} (h : Fr L S S') : Fr L' S S' :=
  ⟨h.t, fun n hn => h.b n (hl n hn), fun n hn => h.k n (hl n hn), h.c⟩

/-- The blocks, tokens and the clock but for the names L (the slots are not looked at). -/
structure Fh (L : Nat → Bool) (S S' : St) : Prop where
  b : ∀ n, L n = false → S'.blk n = S.blk n
  k : ∀ n, L n = false → S'.tok n = S.tok n
  c : S.clk ≤ S'.clk
theorem Fh.refl (L : Nat → Bool) (S : St) : Fh L S S := ⟨fun _ _ => rfl, fun _ _ => rfl, Nat.le_refl _⟩
theorem Fh.trans {L : Nat → Bool} {S S' S'' : St} (h : Fh L S S') (k : Fh L S' S'') : Fh L S S'' :=
  ⟨fun n hn => (k.b n hn).trans (h.b n hn), fun n hn => (k.k n hn).trans (h.k n hn), Nat.le_trans h.c k.c⟩
theorem Fr.h {L : Nat → Bool} {S S' : St} (h : Fr L S S') : Fh L S S' := ⟨h.b, h.k, h.c⟩
theorem Fh.r {L : Nat → Bool} {S S' : St} (h : Fh L S S') (ht : S'.t = S.t) : Fr L S S' := ⟨ht, h.b, h.k, h.c⟩

theorem upd_out {α : Type} {L : Nat → Bool} {n : Nat} (hn : L n = false) {f : Nat → α} {i : Nat} {v : α} (hi : L i = true) : upd f i v n = f n :=
  upd_ne _ _ _ _ (fun e => by subst e; rw [hn] at hi; cases hi)
theorem Fh.step {L : Nat → Bool} {S S' : St} (h : Fh L S S') {t : Nat → AV} {b : Nat → Option Blk} {k : Nat → Option Tok} {c : Nat} (hb : ∀ n, L n = false → b n = S'.blk n) (hk : ∀ n, L n = false → k n = S'.tok n) (hc : S'.clk ≤ c) :
    Fh L S ⟨t, b, k, c⟩ := ⟨fun n hn => (hb n hn).trans (h.b n hn), fun n hn => (hk n hn).trans (h.k n hn), Nat.le_trans h.c hc⟩
theorem Fh.here {L : Nat → Bool} {S : St} {t : Nat → AV} {b : Nat → Option Blk} {k : Nat → Option Tok} {c : Nat} (hb : ∀ n, L n = false → b n = S.blk n) (hk : ∀ n, L n = false → k n = S.tok n) (hc : S.clk ≤ c) :
    Fh L S ⟨t, b, k, c⟩ := (Fh.refl L S).step hb hk hc

section
variable {k : IntKind} {n : Int} {b : Bool} {cs xs : List AV} {s : ByteArray} {nm st sz i off len o : Nat} {f : FuncId} {v : AV}
@[simp] theorem setCells_int : setCells (.int k n) o [v] = v := rfl
@[simp] theorem setCells_bool : setCells (.bool b) o [v] = v := rfl
@[simp] theorem setCells_str : setCells (.str s) o [v] = v := rfl
@[simp] theorem setCells_nils : setCells .nils o [v] = v := rfl
@[simp] theorem setCells_nilp : setCells .nilp o [v] = v := rfl
@[simp] theorem setCells_nilf : setCells .nilf o [v] = v := rfl
@[simp] theorem setCells_lst : setCells (.lst sz xs) o [v] = v := rfl
@[simp] theorem setCells_acc : setCells (.acc nm st sz xs) o [v] = v := rfl
@[simp] theorem setCells_sl : setCells (.sl nm st sz off len) o [v] = v := rfl
@[simp] theorem setCells_ptr : setCells (.ptr nm st sz i off) o [v] = v := rfl
@[simp] theorem setCells_kp : setCells (.kp cs off) o [v] = v := rfl
@[simp] theorem setCells_fn : setCells (.fn f cs) o [v] = v := rfl
end

theorem max_if (p q : Int) : (if q > p then q else p) = max p q := by rw [Int.max_def]; split <;> split <;> omega
theorem min_if (p q : Int) : (if q < p then q else p) = min p q := by rw [Int.min_def]; split <;> split <;> omega
@[simp] theorem mmI_nil (mx : Bool) (k : IntKind) (p : Int) : mmI mx k p [] = some p := rfl
@[simp] theorem mmI_max (k : IntKind) (p q : Int) (l : List AV) : mmI true k p (.int k q :: l) = mmI true k (max p q) l := by simp only [mmI, if_true, max_if]
@[simp] theorem mmI_min (k : IntKind) (p q : Int) (l : List AV) : mmI false k p (.int k q :: l) = mmI false k (min p q) l := by simp only [mmI, if_true, Bool.false_eq_true, if_false, min_if]

/-- The names of one function (or of some that follow one another). -/
def rng (a b : Nat) (n : Nat) : Bool := decide (a ≤ n) && decide (n < b)
end Go.Gv

/- Calls whose arguments are closed but for a coercion in depth (nil for an empty list in a list). -/
namespace Go.Gv
section
variable {E : Env} {B : Nat} {h : Hp} {w : World}
theorem dcl_list {K : Nat → Nat → Option Value} {blk : Nat → Option Blk} {d : Nat} (ih : ∀ (x y : AV) (v : Value), dco blk d x y → Rel E x v → Rel (envK (K)) y v)
    {xs ys : List AV} {b o sz cap : Nat} (f : Nat → Nat → Value) (hcap : xs.length ≤ cap) (hsz : ∀ x ∈ xs, x.cells.length = sz)
    (hk : ∀ i j : Nat, i < xs.length → j < sz → K b (o + i * sz + j) = some (f i j))
    (h1 : ∀ (i : Nat) (x : AV), xs[i]? = some x → ∀ (j : Nat) (y : AV), x.cells[j]? = some y → y.one = true)
    (hr : ∀ (i : Nat) (x : AV), xs[i]? = some x → ∀ (j : Nat) (y : AV), x.cells[j]? = some y → Rel E y (f i j))
    (hc : coL (elemR (dco blk d)) xs ys) : Rel (envK (K)) (.lst sz ys) (.slice (some ⟨b, o, none⟩) xs.length cap) := by
  obtain ⟨e1, e2⟩ := coL_get hc
  have pair : ∀ (i : Nat) (y : AV), ys[i]? = some y → ∃ x, xs[i]? = some x ∧ elemR (dco blk d) x y := by
    intro i y hy
    obtain ⟨x, hx⟩ : ∃ x, xs[i]? = some x := ⟨_, List.getElem?_eq_getElem (by rw [e1]; exact (List.getElem?_eq_some_iff.1 hy).1)⟩
    exact ⟨x, hx, e2 i x y hx hy⟩
  have ones : ∀ (i : Nat) (x : AV), xs[i]? = some x → ∀ z ∈ x.cells, z.one = true := by
    intro i x hx z hz
    obtain ⟨j, hj⟩ := List.getElem?_of_mem hz
    exact h1 i x hx j z hj
  have cell : ∀ (i : Nat) (y : AV), ys[i]? = some y → ∀ (j : Nat) (q : AV), y.cells[j]? = some q → ∃ p x, xs[i]? = some x ∧ x.cells[j]? = some p ∧ dco blk d p q := by
    intro i y hy j q hq
    obtain ⟨x, hx, hxy⟩ := pair i y hy
    obtain ⟨c1, c2⟩ := elemR_cells hxy (ones i x hx)
    obtain ⟨p, hp⟩ : ∃ p, x.cells[j]? = some p := ⟨_, List.getElem?_eq_getElem (by rw [c1]; exact (List.getElem?_eq_some_iff.1 hq).1)⟩
    exact ⟨p, x, hx, hp, c2 j p q hp hq⟩
  rw [e1]
  refine Rel.lst ys b o sz cap f (by rw [← e1]; exact hcap) ?_ ?_ ?_ ?_
  · intro y hy
    obtain ⟨i, hi⟩ := List.getElem?_of_mem hy
    obtain ⟨x, hx, hxy⟩ := pair i y hi
    rw [← (elemR_cells hxy (ones i x hx)).1]
    exact hsz x (List.mem_of_getElem? hx)
  · intro i j hi hj
    exact hk i j (by rw [e1]; exact hi) hj
  · intro i y hy j q hq
    obtain ⟨p, x, hx, hp, hpq⟩ := cell i y hy j q hq
    exact dco_one d hpq (h1 i x hx j p hp)
  · intro i y hy j q hq
    obtain ⟨p, x, hx, hp, hpq⟩ := cell i y hy j q hq
    exact ih p q _ hpq (hr i x hx j p hp)


theorem dcc_rel : ∀ (d : Nat) (x y : AV) (v : Value), dco (fun _ => none) d x y → (∀ b o u, E.K b o = some u → w.cell? ⟨b, o, none⟩ = some u) → Rel E x v → Rel (envK E.K) y v := by
  have base : ∀ (x y : AV) (v : Value), co1 none x y → (∀ b o u, E.K b o = some u → w.cell? ⟨b, o, none⟩ = some u) → Rel E x v → Rel (envK E.K) y v := by
    intro x y v hc hK hr
    have H : HConc E w.heap.size ⟨fun _ => none, fun _ => none⟩ w := ⟨hK, by simp, by simp, by simp, by simp, by simp, by simp, by simp⟩
    exact co1_rel H (K := E.K) ⟨fun _ _ _ q => q, by simp⟩ (by simp) hc hr
  have lsts : ∀ (d : Nat), (∀ (x y : AV) (v : Value), dco (fun _ => none) d x y → Rel E x v → Rel (envK E.K) y v) → ∀ (s : Nat) (xs ys : List AV) (v : Value), Rel E (.lst s xs) v → (xs = ys ∨ coL (elemR (dco (fun _ => none) d)) xs ys) → Rel (envK E.K) (.lst s ys) v := by
    intro d ih s xs ys v hr hc
    rcases hc with rfl | hc
    · exact lst_envK (K := E.K) (fun _ _ _ q => q) hr
    · cases hr with
      | lst0 _ a cap =>
        cases ys with
        | nil => exact .lst0 _ _ _
        | cons y ys => exact hc.elim
      | lst _ b o _ cap f hcap hsz hk h1 hr =>
        exact dcl_list ih f hcap hsz hk h1 (fun i x hx j y hy => (hr i x hx j y hy).mono (Env.cl_le E)) hc
  intro d
  induction d with
  | zero => exact base
  | succ d ih =>
    intro x y v hc hK hr
    have ih' := fun (x y : AV) (v : Value) q r => ih x y v q hK r
    unfold dco at hc
    split at hc
    · subst hc; rw [hr.nils_inv]; exact .lst0 _ _ _
    · obtain ⟨rfl, hc⟩ := hc
      exact lsts d ih' _ _ _ v hr hc
    · obtain ⟨rfl, hc⟩ := hc
      cases hr with
      | acc _ _ _ _ _ _ _ hl => exact lsts d ih' _ _ _ v hl hc
    · obtain ⟨_, es, hes, _⟩ := hc
      exact absurd hes (by simp [getB])
    · exact base x y v hc hK hr
theorem dccE_rel (d : Nat) (x y : AV) (v : Value) (hc : elemR (dco (fun _ => none) d) x y) (hK : ∀ b o u, E.K b o = some u → w.cell? ⟨b, o, none⟩ = some u) (hr : Rel E x v) : Rel (envK E.K) y v := by
  unfold elemR at hc
  split at hc
  · rename_i xs ys
    obtain ⟨e1, e2⟩ := coL_get hc
    cases hr with
    | agg _ vs hs h1 hr =>
      have pair : ∀ (j : Nat) (y : AV), ys[j]? = some y → ∃ x, xs[j]? = some x ∧ dco (fun _ => none) d x y := by
        intro j y hy
        obtain ⟨x, hx⟩ : ∃ x, xs[j]? = some x := ⟨_, List.getElem?_eq_getElem (by rw [e1]; exact (List.getElem?_eq_some_iff.1 hy).1)⟩
        exact ⟨x, hx, e2 j x y hx hy⟩
      refine .agg ys vs (by rw [← e1]; exact hs) (fun j y hy => ?_) (fun j y u hy hu => ?_)
      · obtain ⟨x, hx, hxy⟩ := pair j y hy
        exact dco_one d hxy (h1 j x hx)
      · obtain ⟨x, hx, hxy⟩ := pair j y hy
        exact dcc_rel d x y u hxy hK (hr j x u hx hu)
  · exact dcc_rel d _ _ v hc hK hr
end
theorem pcall_deep {P : Program} {f : FuncId} {cargs : List AV} {r : AV} (h : PC P f cargs r) (d : Nat) {caps vals : List AV} (hco : coL (elemR (dco (fun _ => none) d)) (vals ++ caps) cargs) : PCallP P (.fn f caps) vals r := by
  obtain ⟨hent, hc⟩ := h
  refine ⟨f, caps, rfl, hent, fun E w args hK hsz hrel => ?_⟩
  obtain ⟨e1, e2⟩ := coL_get hco
  refine hc E.K w args hK (by rw [hsz, e1]) ?_
  intro j y u hy hu
  obtain ⟨x, hx⟩ : ∃ x, (vals ++ caps)[j]? = some x := ⟨_, List.getElem?_eq_getElem (by rw [e1]; exact (List.getElem?_eq_some_iff.1 hy).1)⟩
  exact dccE_rel (w := w) d x y u (e2 j x y hx hy) hK (hrel j x u hx hu)
/-- A call whose arguments fit in depth d. -/
theorem callC {P : Program} {f : FuncId} {cargs : List AV} {r : AV} (h : PC P f cargs r) (d : Nat) {caps vals : List AV} {S : St} {k : AV → St → Prop} {u : Dep k} (hco : coL (elemR (dco (fun _ => none) d)) (vals ++ caps) cargs) (hk : k r S) : CallG P (.fn f caps) vals S k u :=
  CallP_of_PCallP (pcall_deep h d hco) hk
theorem calldC {P : Program} {f : FuncId} {cargs : List AV} {r : AV} (h : PC P f cargs r) (d : Nat) {caps vals : List AV} {blk : Nat → Option Blk} {k : Eff → Prop} {u : Dep k} (hco : coL (elemR (dco (fun _ => none) d)) (vals ++ caps) cargs) (hk : k ⟨r, [], []⟩) : callD P (.fn f caps) vals blk k u :=
  ⟨_, .pure (pcall_deep h d hco) blk, hk⟩
end Go.Gv

/- Drawn regions whose last operation waits for all others, and may change memory. No condition beyond those that each law names. -/
set_option linter.unusedVariables false
set_option linter.unusedSimpArgs false
namespace Go.Gv
theorem drawn_step {P : Program} {pre : List (List Nat)} {st0 : Nat} {ais : List AI} {es : List Eff} {S0 : St} {k : St → Prop} (hS : Shown P pre st0 ais es S0 k) (D : Nat → Bool)
    (hcl : ∀ i, D i = true → ∀ p ∈ pre.getD i [], D p = true) (j : Nat) (ai : AI) (hai : ais[j]? = some ai) (hjf : D j = false) (hpreD : ∀ p ∈ pre.getD j [], D p = true) :
    ∃ e : Eff, stepV P (st0 + j) ai (foldS D 0 (ais.zip es) S0) (fun S' => S' = foldS (fun i => (i == j) || D i) 0 (ais.zip es) S0) := by
  have hjl : j < ais.length := (List.getElem?_eq_some_iff.1 hai).1
  obtain ⟨e, he⟩ : ∃ e, es[j]? = some e := ⟨_, List.getElem?_eq_getElem (by rw [hS.len]; omega)⟩
  have hout := hS.out j ai e hai he
  have getz : ∀ (m : Nat) (p : AI × Eff), (ais.zip es)[m]? = some p → ais[m]? = some p.1 ∧ es[m]? = some p.2 := by
    intro m p hp
    rw [List.getElem?_zip_eq_some] at hp
    exact hp
  have apartAt : ∀ (m : Nat) (p : AI × Eff), (ais.zip es)[m]? = some p → m ≠ j → (D m ≠ decide (m < j)) →
      Apart p.1 ai (fpOf (foldS (fun i => decide (i < m)) 0 (ais.zip es) S0).t p.1 p.2) (fpOf (foldS (fun i => decide (i < j)) 0 (ais.zip es) S0).t ai e) ∨
      Apart ai p.1 (fpOf (foldS (fun i => decide (i < j)) 0 (ais.zip es) S0).t ai e) (fpOf (foldS (fun i => decide (i < m)) 0 (ais.zip es) S0).t p.1 p.2) := by
    intro m p hp hne hdiff
    obtain ⟨g1, g2⟩ := getz m p hp
    rcases Nat.lt_or_gt_of_ne hne with hlt | hgt
    · refine .inl (hS.apart m j p.1 ai p.2 e hlt g1 hai g2 he (fun q => ?_))
      rw [hpreD m q] at hdiff
      simp [hlt] at hdiff
    · refine .inr (hS.apart j m ai p.1 e p.2 hgt hai g1 he g2 (fun q => ?_))
      have hm : D m = true := by
        cases hx : D m with
        | true => rfl
        | false => rw [hx] at hdiff; simp at hdiff; omega
      have := hcl m hm j q
      rw [hjf] at this; cases this
  have hdif : ∀ m, m ≠ j → decide (decide (m < j) = D m) = false → D m ≠ decide (m < j) := by
    intro m _ hq
    simp only [decide_eq_false_iff_not] at hq; exact fun q => hq q.symm
  have hout' : Out P (foldS D 0 (ais.zip es) S0) (st0 + j) ai e := by
    refine hout.congr ?_ ?_ ?_
    · intro x hx
      refine agree_t x _ 0 _ _ rfl (fun m p hp hd => ?_)
      simp only [Nat.zero_add]
      by_cases hm : m = j
      · subst hm; rw [hjf]; simp
      · cases hq : decide (decide (m < j) = D m) with
        | true => simpa using hq
        | false =>
          rcases apartAt m p hp hm (hdif m hm hq) with q | q
          · exact absurd hx (q.s1 x hd)
          · exact absurd hx (q.s3 x hd)
    · intro x hx
      refine agree_b x _ 0 _ _ rfl (fun m p hp hd => ?_)
      simp only [Nat.zero_add]
      by_cases hm : m = j
      · subst hm; rw [hjf]; simp
      · cases hq : decide (decide (m < j) = D m) with
        | true => simpa using hq
        | false =>
          rcases apartAt m p hp hm (hdif m hm hq) with q | q
          · exact absurd hx (disj_mem q.b1 hd)
          · exact absurd hd (disj_mem q.b3 hx)
    · intro x hx
      refine agree_k x _ 0 _ _ rfl (fun m p hp hd => ?_)
      simp only [Nat.zero_add]
      by_cases hm : m = j
      · subst hm; rw [hjf]; simp
      · cases hq : decide (decide (m < j) = D m) with
        | true => simpa using hq
        | false =>
          rcases apartAt m p hp hm (hdif m hm hq) with q | q
          · exact absurd hx (disj_mem q.t1 hd)
          · exact absurd hd (disj_mem q.t3 hx)
  have hins : (foldS D 0 (ais.zip es) S0).app ai.dst e = foldS (fun i => (i == j) || D i) 0 (ais.zip es) S0 := by
    refine foldS_insert j ai e hjf (by simp) (fun i hi => by simp [hi]) _ 0 S0 (Nat.zero_le _) ?_ ?_
    · rw [Nat.sub_zero, List.getElem?_zip_eq_some]; exact ⟨hai, he⟩
    · intro m p hm hD hp
      rw [Nat.sub_zero] at hp
      obtain ⟨g1, g2⟩ := getz m p hp
      have hapm := hS.apart j m ai p.1 e p.2 hm hai g1 he g2 (fun q => by have := hcl m hD j q; rw [hjf] at this; cases this)
      exact ⟨hapm.s2, hapm.b2, hapm.t2⟩
  refine ⟨e, ?_⟩
  rw [← hins]
  unfold Out at hout'
  unfold stepV
  split at hout'
  · rename_i b hb
    simp only [hb]
    split at hout'
    · rename_i hbt
      rw [if_pos hbt]
      unfold runV
      cases hk : ai.k with
      | op ao => rw [hk] at hout'; simp only at hout' ⊢; rw [hout']
      | nq kd neg x => rw [hk] at hout'; simp only at hout' ⊢; rw [hout']
      | call fx l =>
        rw [hk] at hout'
        simp only at hout' ⊢
        refine (hout' _ (fun _ _ => rfl)).weaken ?_
        rintro r S' ⟨rfl, rfl⟩
        cases ai.dst <;> rfl
    · rename_i hbt
      rw [if_neg hbt, hout']
      cases ai.dst <;> rfl
  · exact hout'.elim

theorem regI_last {P : Program} {pre : List (List Nat)} {st0 : Nat} {ops : List AI} {last : AI} {k : St → Prop} {S0 : St} (hp : ((List.range ops.length).all fun i => (pre.getD ops.length []).contains i) = true)
    (h : regDV P pre st0 0 ops [] (fun S' => stepV P (st0 + ops.length) last S' k) S0) : regI P pre st0 (ops ++ [last]) k S0 := by
  obtain ⟨es, hS⟩ := shown_of P pre st0 S0 _ ops [] [] [] S0 rfl rfl rfl (by simp) (by simp) (by simp) (by simpa using h)
  simp only [List.nil_append] at hS
  have hpn : ∀ i, i < ops.length → i ∈ pre.getD ops.length [] := by
    intro i hi
    have := List.all_eq_true.1 hp i (List.mem_range.2 hi)
    simpa using this
  refine ⟨fun D S => (D ops.length = false ∧ S = foldS D 0 (ops.zip es) S0) ∨ (D ops.length = true ∧ k S), .inl ⟨rfl, (foldS_none _ _ _ (fun _ _ => rfl)).symm⟩, ?_, ?_⟩
  · intro D S' j ai hj hDj hpre hcl hI
    by_cases hjl : j < ops.length
    · rw [List.getElem?_append_left hjl] at hj
      rcases hI with ⟨h1, rfl⟩ | ⟨h1, h2⟩
      · obtain ⟨e, hs⟩ := drawn_step hS D hcl j ai hj hDj hpre
        refine stepV_mono ?_ hs
        rintro S'' rfl
        refine .inl ⟨?_, rfl⟩
        simp [h1]; omega
      · have := hcl _ h1 j (hpn j hjl)
        rw [hDj] at this; cases this
    · have hjn : j = ops.length := by
        have := (List.getElem?_eq_some_iff.1 hj).1
        simp at this; omega
      subst hjn
      rw [List.getElem?_append_right (Nat.le_refl _)] at hj
      simp at hj
      subst hj
      rcases hI with ⟨h1, rfl⟩ | ⟨h1, h2⟩
      · have e : foldS D 0 (ops.zip es) S0 = foldS (fun _ => true) 0 (ops.zip es) S0 := foldS_congr _ _ _ (fun i _ hi => by
          simp [hS.len] at hi
          exact hpre i (hpn i hi))
        rw [e]
        exact stepV_mono (fun S'' q => .inr ⟨by simp, q⟩) hS.fin
      · rw [hDj] at h1; cases h1
  · intro D S' hD hI
    rcases hI with ⟨h1, _⟩ | ⟨_, h2⟩
    · have := hD ops.length (by simp)
      rw [h1] at this; cases this
    · exact h2
/-- The rule, for a walk: the last operation by itself behind the others. -/
theorem regi_last {P : Program} {pre : List (List Nat)} {st0 : Nat} {all : List AI} {S0 : St} {k : St → Prop} {u : Dep k} (ops : List AI) (last : AI) (he : all = ops ++ [last])
    (hp : ((List.range ops.length).all fun i => (pre.getD ops.length []).contains i) = true) (h : regDG P pre st0 0 ops [] S0 (fun S' => regG P (st0 + ops.length) [last] S' k .mk) .mk) : regIG P pre st0 all S0 k u := by
  subst he
  exact regI_last hp h
theorem regi_end {P : Program} {pre : List (List Nat)} {st0 : Nat} {all : List AI} {S0 : St} {k : St → Prop} {u : Dep k} (hne : all ≠ [])
    (hp : ((List.range (all.length - 1)).all fun i => (pre.getD (all.length - 1) []).contains i) = true) (h : regDG P pre st0 0 all.dropLast [] S0 (fun S' => regG P (st0 + (all.length - 1)) [all.getLast hne] S' k .mk) .mk) : regIG P pre st0 all S0 k u :=
  regi_last all.dropLast (all.getLast hne) (List.dropLast_concat_getLast hne).symm (by rw [List.length_dropLast]; exact hp) (by rw [List.length_dropLast]; exact h)

/-! ### Regions by an invariant -/

/-- The slots that are written, each with what it comes to: those of the done ones hold it. -/
def SF (tbl : List (Nat × AV)) (D : Nat → Bool) (S : St) : Prop := ∀ (j d : Nat) (v : AV), tbl[j]? = some (d, v) → D j = true → S.t d = v
theorem SF.start (tbl : List (Nat × AV)) (S : St) : SF tbl (fun _ => false) S := fun _ _ _ _ h => by cases h
theorem SF.ins {tbl : List (Nat × AV)} {D : Nat → Bool} {S S' : St} (h : SF tbl D S) (hn : (tbl.map (·.1)).Nodup) {j d : Nat} {v : AV} (hj : tbl[j]? = some (d, v)) (hd : S'.t d = v) (ho : ∀ x, x ≠ d → S'.t x = S.t x) : SF tbl (fun i => (i == j) || D i) S' := by
  intro j' d' v' h' hD
  by_cases e : j' = j
  · subst e
    rw [hj] at h'; cases h'
    exact hd
  · have hD' : D j' = true := by simpa [e] using hD
    rw [ho d' ?_]
    · exact h j' d' v' h' hD'
    · rintro rfl
      have e1 : (tbl.map (·.1))[j]? = some d' := by rw [List.getElem?_map, hj]; rfl
      have e2 : (tbl.map (·.1))[j']? = some d' := by rw [List.getElem?_map, h']; rfl
      obtain ⟨l1, q1⟩ := List.getElem?_eq_some_iff.1 e1
      obtain ⟨l2, q2⟩ := List.getElem?_eq_some_iff.1 e2
      rcases Nat.lt_or_gt_of_ne e with hlt | hgt
      · exact List.pairwise_iff_getElem.1 hn j' j l2 l1 hlt (by rw [q1, q2])
      · exact List.pairwise_iff_getElem.1 hn j j' l1 l2 hgt (by rw [q1, q2])
theorem SF.keep {tbl : List (Nat × AV)} {D : Nat → Bool} {S S' : St} (h : SF tbl D S) {j : Nat} (hj : tbl[j]? = none) (ho : S'.t = S.t) : SF tbl (fun i => (i == j) || D i) S' := by
  intro j' d' v' h' hD
  by_cases e : j' = j
  · subst e; rw [hj] at h'; cases h'
  · rw [ho]; exact h j' d' v' h' (by simpa [e] using hD)
theorem stepV_op {P : Program} {st : Nat} {d : Option Nat} {op : AOp} {S : St} {k : St → Prop} (e : Eff) (h : ex S.t S.blk S.tok st op = some e) (hk : k (S.app d e)) : stepV P st ⟨d, none, .op op⟩ S k := by
  simp only [stepV, guardV, if_true, runV, h]
  exact hk
theorem stepV_call {P : Program} {st : Nat} {d : Option Nat} {fx : X} {l : List X} {S : St} {k : St → Prop} (h : CallG P (fx.ev S.t) (l.map (·.ev S.t)) S (fun r S' => k (S'.put d r)) .mk) : stepV P st ⟨d, none, .call fx l⟩ S k := by
  simp only [stepV, guardV, if_true, runV]
  exact h
end Go.Gv

/- All that is known at a point may be taken as fixed from there on: mutable blocks become plain lists. No condition beyond those that each law names. -/
set_option linter.unusedVariables false
set_option linter.unusedSimpArgs false
namespace Go.Gv
section
variable {E : Env} {B : Nat} {h : Hp} {w : World}

/-- A list's elements, one by one. -/
theorem dcoK_list {K : Nat → Nat → Option Value} {blk : Nat → Option Blk} {d : Nat} (ih : ∀ (x y : AV) (v : Value), dco blk d x y → Rel E x v → Rel (envK K) y v)
    {xs ys : List AV} {b o sz cap : Nat} (f : Nat → Nat → Value) (hcap : xs.length ≤ cap) (hsz : ∀ x ∈ xs, x.cells.length = sz)
    (hk : ∀ i j : Nat, i < xs.length → j < sz → K b (o + i * sz + j) = some (f i j))
    (h1 : ∀ (i : Nat) (x : AV), xs[i]? = some x → ∀ (j : Nat) (y : AV), x.cells[j]? = some y → y.one = true)
    (hr : ∀ (i : Nat) (x : AV), xs[i]? = some x → ∀ (j : Nat) (y : AV), x.cells[j]? = some y → Rel E y (f i j))
    (hc : coL (elemR (dco blk d)) xs ys) : Rel (envK K) (.lst sz ys) (.slice (some ⟨b, o, none⟩) xs.length cap) := by
  obtain ⟨e1, e2⟩ := coL_get hc
  have pair : ∀ (i : Nat) (y : AV), ys[i]? = some y → ∃ x, xs[i]? = some x ∧ elemR (dco blk d) x y := by
    intro i y hy
    obtain ⟨x, hx⟩ : ∃ x, xs[i]? = some x := ⟨_, List.getElem?_eq_getElem (by rw [e1]; exact (List.getElem?_eq_some_iff.1 hy).1)⟩
    exact ⟨x, hx, e2 i x y hx hy⟩
  have ones : ∀ (i : Nat) (x : AV), xs[i]? = some x → ∀ z ∈ x.cells, z.one = true := by
    intro i x hx z hz
    obtain ⟨j, hj⟩ := List.getElem?_of_mem hz
    exact h1 i x hx j z hj
  have cell : ∀ (i : Nat) (y : AV), ys[i]? = some y → ∀ (j : Nat) (q : AV), y.cells[j]? = some q → ∃ p x, xs[i]? = some x ∧ x.cells[j]? = some p ∧ dco blk d p q := by
    intro i y hy j q hq
    obtain ⟨x, hx, hxy⟩ := pair i y hy
    obtain ⟨c1, c2⟩ := elemR_cells hxy (ones i x hx)
    obtain ⟨p, hp⟩ : ∃ p, x.cells[j]? = some p := ⟨_, List.getElem?_eq_getElem (by rw [c1]; exact (List.getElem?_eq_some_iff.1 hq).1)⟩
    exact ⟨p, x, hx, hp, c2 j p q hp hq⟩
  rw [e1]
  refine Rel.lst ys b o sz cap f (by rw [← e1]; exact hcap) ?_ ?_ ?_ ?_
  · intro y hy
    obtain ⟨i, hi⟩ := List.getElem?_of_mem hy
    obtain ⟨x, hx, hxy⟩ := pair i y hi
    rw [← (elemR_cells hxy (ones i x hx)).1]
    exact hsz x (List.mem_of_getElem? hx)
  · intro i j hi hj
    exact hk i j (by rw [e1]; exact hi) hj
  · intro i y hy j q hq
    obtain ⟨p, x, hx, hp, hpq⟩ := cell i y hy j q hq
    exact dco_one d hpq (h1 i x hx j p hp)
  · intro i y hy j q hq
    obtain ⟨p, x, hx, hp, hpq⟩ := cell i y hy j q hq
    exact ih p q _ hpq (hr i x hx j p hp)

theorem dcoK_rel {K : Nat → Nat → Option Value} (H : HConc E B h w) (kn1 : Knows E B w K true) : ∀ (d : Nat) (x y : AV) (v : Value), dco h.blk d x y → Rel E x v → Rel (envK K) y v := by
  have kn : Knows E B w K (none : Option (Nat → Option Blk)).isSome := ⟨kn1.K, by simp⟩
  have base : ∀ (x y : AV) (v : Value), co1 none x y → Rel E x v → Rel (envK K) y v := fun x y v hc hr => co1_rel H kn (by simp) hc hr
  have lsts : ∀ (d : Nat), (∀ (x y : AV) (v : Value), dco h.blk d x y → Rel E x v → Rel (envK K) y v) → ∀ (s : Nat) (xs ys : List AV) (v : Value), Rel E (.lst s xs) v → (xs = ys ∨ coL (elemR (dco h.blk d)) xs ys) → Rel (envK K) (.lst s ys) v := by
    intro d ih s xs ys v hr hc
    rcases hc with rfl | hc
    · exact lst_envK (K := K) kn1.K hr
    · cases hr with
      | lst0 _ a cap =>
        cases ys with
        | nil => exact .lst0 _ _ _
        | cons y ys => exact hc.elim
      | lst _ b o _ cap f hcap hsz hk h1 hr =>
        exact dcoK_list ih f hcap hsz (fun i j hi hj => kn1.K _ _ _ (hk i j hi hj)) h1 (fun i x hx j y hy => (hr i x hx j y hy).mono (Env.cl_le E)) hc
  intro d
  induction d with
  | zero => exact base
  | succ d ih =>
    intro x y v hc hr
    unfold dco at hc
    split at hc
    · subst hc; rw [hr.nils_inv]; exact .lst0 _ _ _
    · obtain ⟨rfl, hc⟩ := hc
      exact lsts d ih _ _ _ v hr hc
    · obtain ⟨rfl, hc⟩ := hc
      cases hr with
      | acc _ _ _ _ _ _ _ hl => exact lsts d ih _ _ _ v hl hc
    · rename_i nm st s off len s' ys
      obtain ⟨rfl, es, hes, hle, hc⟩ := hc
      have hbs := getB_some hes
      have hbk := (H.bk nm _ hbs).r (getB_pos hes)
      obtain ⟨cur, e, hg, hsz, hrow⟩ := hbk.row
      simp only at hg hsz hrow
      cases hr with
      | sl _ _ _ _ _ cap a hu hcap hc' ha =>
        have hlen : ((es.drop off).take len).length = len := by simp; omega
        by_cases hl0 : len = 0
        · subst hl0
          rw [List.take_zero] at hc
          cases ys with
          | nil => exact .lst0 _ _ _
          | cons y ys => exact hc.elim
        · rw [ha (by omega)]
          have hidx : ∀ (i : Nat) (z : AV), ((es.drop off).take len)[i]? = some z → i < len ∧ es[off + i]? = some z := by
            intro i z hz
            rw [List.getElem?_take] at hz
            split at hz
            · rename_i hi; rw [List.getElem?_drop] at hz; exact ⟨hi, hz⟩
            · cases hz
          have hel : ∀ z ∈ (es.drop off).take len, ElemOk s z := fun z hz => hbk.el z (List.mem_of_mem_drop (List.mem_of_mem_take hz))
          have cell : ∀ (i : Nat) (z : AV), ((es.drop off).take len)[i]? = some z → ∀ (j : Nat) (q : AV), z.cells[j]? = some q →
              ∃ u, w.cell? ⟨(E.m st).1, (E.m st).2 + off * s + i * s + j, none⟩ = some u ∧ Rel E q u := by
            intro i z hz j q hq
            obtain ⟨hi, hz'⟩ := hidx i z hz
            obtain ⟨u, hu', hrel⟩ := hrow (off + i) z hz' j q hq
            refine ⟨u, ?_, hrel⟩
            rw [show (E.m st).2 + off * s + i * s + j = (E.m st).2 + (off + i) * s + j by rw [Nat.add_mul]; omega, cell_of_row w _ _ cur e (0, 0) hg]
            exact hu'
          have := dcoK_list (b := (E.m st).1) (o := (E.m st).2 + off * s) (sz := s) (cap := cap) ih (fun i j => (w.cell? ⟨(E.m st).1, (E.m st).2 + off * s + i * s + j, none⟩).getD .nilFunc) (by rw [hlen]; exact hcap) (fun z hz => (hel z hz).1) ?_ ?_ ?_ hc
          · rw [hlen] at this; exact this
          · intro i j hi hj
            obtain ⟨z, hz⟩ : ∃ z, ((es.drop off).take len)[i]? = some z := ⟨_, List.getElem?_eq_getElem hi⟩
            obtain ⟨q, hq⟩ : ∃ q, z.cells[j]? = some q := ⟨_, List.getElem?_eq_getElem (by rw [(hel z (List.mem_of_getElem? hz)).1]; exact hj)⟩
            obtain ⟨u, hu', _⟩ := cell i z hz j q hq
            rw [hu']; exact kn1.rest rfl _ _ _ hbk.base hu'
          · intro i z hz j q hq
            exact (hel z (List.mem_of_getElem? hz)).2 q (List.mem_of_getElem? hq)
          · intro i z hz j q hq
            obtain ⟨u, hu', hrel⟩ := cell i z hz j q hq
            rw [hu']
            exact hrel
    · exact base x y v hc hr
theorem dcoKE_rel {K : Nat → Nat → Option Value} (H : HConc E B h w) (kn1 : Knows E B w K true) (d : Nat) (x y : AV) (v : Value) (hc : elemR (dco h.blk d) x y) (hr : Rel E x v) : Rel (envK K) y v := by
  unfold elemR at hc
  split at hc
  · rename_i xs ys
    obtain ⟨e1, e2⟩ := coL_get hc
    cases hr with
    | agg _ vs hs h1 hr =>
      have pair : ∀ (j : Nat) (y : AV), ys[j]? = some y → ∃ x, xs[j]? = some x ∧ dco h.blk d x y := by
        intro j y hy
        obtain ⟨x, hx⟩ : ∃ x, xs[j]? = some x := ⟨_, List.getElem?_eq_getElem (by rw [e1]; exact (List.getElem?_eq_some_iff.1 hy).1)⟩
        exact ⟨x, hx, e2 j x y hx hy⟩
      refine .agg ys vs (by rw [← e1]; exact hs) (fun j y hy => ?_) (fun j y u hy hu => ?_)
      · obtain ⟨x, hx, hxy⟩ := pair j y hy
        exact dco_one d hxy (h1 j x hx)
      · obtain ⟨x, hx, hxy⟩ := pair j y hy
        exact dcoK_rel H kn1 d x y u hxy (hr j x u hx hu)
  · exact dcoK_rel H kn1 d _ _ v hc hr
end
/-- What a value becomes where all is fixed. -/
def Frz (blk : Nat → Option Blk) (d : Nat) (x y : AV) : Prop :=
  y = .junk ∨ elemR (dco blk d) x y ∨ ∃ nm st sz i off es e cs, x = .ptr nm st sz i off ∧ sz ≠ 0 ∧ blk nm = some ⟨st, sz, es⟩ ∧ es[i]? = some e ∧ coL (dco blk d) e.cells cs ∧ y = .kp cs off
theorem wk_freeze {S : St} (d : Nat) (T : Nat → AV) (hT : ∀ t, Frz S.blk d (S.t t) (T t)) : Wk S ⟨T, fun _ => none, fun _ => none, S.clk⟩ := by
  refine ⟨Nat.le_refl _, fun E B w H hu => ?_⟩
  let K : Nat → Nat → Option Value := fun b o => if b < B then E.K b o else w.cell? ⟨b, o, none⟩
  have hK : ∀ b o u, E.K b o = some u → K b o = some u := by
    intro b o u q
    show (if b < B then E.K b o else w.cell? ⟨b, o, none⟩) = some u
    split
    · exact q
    · exact H.K b o u q
  have hrest : ∀ b o u, B ≤ b → w.cell? ⟨b, o, none⟩ = some u → K b o = some u := by
    intro b o u hb q
    show (if b < B then E.K b o else w.cell? ⟨b, o, none⟩) = some u
    rw [if_neg (by omega)]; exact q
  have hin : ∀ b o u, K b o = some u → w.cell? ⟨b, o, none⟩ = some u := by
    intro b o u q
    have q' : (if b < B then E.K b o else w.cell? ⟨b, o, none⟩) = some u := q
    split at q'
    · exact H.K b o u q'
    · exact q'
  have kn : Knows E B w K true := ⟨hK, fun _ => hrest⟩
  refine ⟨{ E with K := K }, ⟨hK, fun _ _ => rfl, fun _ _ => rfl, fun _ _ => rfl, fun _ q => q⟩, ⟨hin, fun nm b q => (by cases q), fun nm b q => (by cases q), fun nm b q => (by cases q), fun nm b q => (by cases q), fun nm nm' b b' _ q => (by cases q), fun nm nm' b t q => (by cases q), fun nm nm' t t' g _ q => (by cases q)⟩, fun b o hb => ?_, fun _ q => q, fun t v hr => ?_⟩
  · show (if b < B then E.K b o else w.cell? ⟨b, o, none⟩) = E.K b o
    rw [if_pos hb]
  · show Rel { E with K := K } (T t) v
    rcases hT t with q | q | ⟨nm, st, sz, i, off, es, e, cs, hx, hs0, hb, he, hc, hy⟩
    · rw [q]; exact .junk v
    · exact Rel.of_envK (K := K) (dcoKE_rel H kn d _ _ v q hr) (fun _ _ _ q => q)
    · rw [hx] at hr
      rw [hy]
      have hbk := (H.bk nm _ hb).r hs0
      obtain ⟨cur, c, hg, hsz, hrow⟩ := hbk.row
      simp only at hg hsz hrow
      cases hr with
      | ptr _ _ _ _ _ hu' =>
        obtain ⟨e1, e2⟩ := coL_get hc
        have hel := hbk.el e (List.mem_of_getElem? he)
        have cell : ∀ (j : Nat) (p : AV), e.cells[j]? = some p → ∃ u, w.cell? ⟨(E.m st).1, (E.m st).2 + i * sz + j, none⟩ = some u ∧ Rel E p u := by
          intro j p hp
          obtain ⟨u, hu1, hu2⟩ := hrow i e he j p hp
          refine ⟨u, ?_, hu2⟩
          rw [cell_of_row w _ _ cur c (0, 0) hg]
          exact hu1
        have pair : ∀ (j : Nat) (y : AV), cs[j]? = some y → ∃ p, e.cells[j]? = some p ∧ dco S.h.blk d p y := by
          intro j y hy
          obtain ⟨p, hp⟩ : ∃ p, e.cells[j]? = some p := ⟨_, List.getElem?_eq_getElem (by rw [e1]; exact (List.getElem?_eq_some_iff.1 hy).1)⟩
          exact ⟨p, hp, e2 j p y hp hy⟩
        refine .kp cs off _ _ (fun j => (w.cell? ⟨(E.m st).1, (E.m st).2 + i * sz + j, none⟩).getD .nilFunc) (fun j hj => ?_) (fun j y hy => ?_) (fun j y hy => ?_)
        · obtain ⟨p, hp⟩ : ∃ p, e.cells[j]? = some p := ⟨_, List.getElem?_eq_getElem (by rw [e1]; exact hj)⟩
          obtain ⟨u, hu1, _⟩ := cell j p hp
          rw [hu1]
          exact hrest _ _ _ hbk.base hu1
        · obtain ⟨p, hp, hpy⟩ := pair j y hy
          exact dco_one d hpy (hel.2 p (List.mem_of_getElem? hp))
        · obtain ⟨p, hp, hpy⟩ := pair j y hy
          obtain ⟨u, hu1, hu2⟩ := cell j p hp
          rw [hu1]
          exact Rel.of_envK (K := K) (dcoK_rel H kn d p y u hpy hu2) (fun _ _ _ q => q)
end Go.Gv

/- One cell of a mutable block set. No condition beyond those that each law names. -/
set_option linter.unusedVariables false
set_option linter.unusedSimpArgs false
namespace Go.Gv
open Go.RowKit
theorem setCell_row {w : World} {b p : Nat} {cur : Array Value} {ty : TypeId} (hh : w.heap[b]? = some (.cells cur ty (0, 0))) (v : Value) : w.setCell ⟨b, p, none⟩ v = w.setRow b (cur.setIfInBounds p v) := by
  unfold World.setCell World.setRow
  congr 1
  apply Array.ext_getElem?
  intro k
  rw [Array.getElem?_modify, Array.getElem?_modify]
  by_cases hk : b = k
  · subst hk
    simp [hh]
  · simp [hk]
theorem blk_setCell {B : Nat} {W : World} {E : Env} {h : Hp} {w : World} (H : HConc E B h w) (hW : Below B W w) {nm st sz i off : Nat} {es : List AV} {e x : AV} {vx : Value}
    (hx : Rel E x vx) (hg : getB h.blk nm st sz = some es) (he : es[i]? = some e) (h1 : x.one = true) (hle : off < e.cells.length) :
    HConc E B (h.setB nm (some ⟨st, sz, es.set i (setCells e off [x])⟩)) (w.setCell ⟨(E.m st).1, (E.m st).2 + i * sz + off, none⟩ vx) ∧ Below B W (w.setCell ⟨(E.m st).1, (E.m st).2 + i * sz + off, none⟩ vx) := by
  have hb := getB_some hg
  have hs0 := getB_pos hg
  have hbk := (H.bk nm _ hb).r hs0
  have hbu := H.bu nm _ hb
  obtain ⟨cur, ty, hh, hsz, hr⟩ := hbk.row
  simp only at hh hsz hr hbu
  have hcpl : es.length ≤ E.cp st := hbk.len
  have hsz0 := hsz
  have hsz : (E.m st).2 + es.length * sz ≤ cur.size := by have := Nat.mul_le_mul_right sz hcpl; omega
  have hel : ElemOk sz e := hbk.el e (List.mem_of_getElem? he)
  have hil : i < es.length := (List.getElem?_eq_some_iff.1 he).1
  obtain ⟨q1, q2⟩ := setCells_get e off sz [x] hel (by simp [h1]) (by simp) (by simp; omega)
  simp only [List.length_cons, List.length_nil, Nat.zero_add] at q2
  have hmul : i * sz + e.cells.length ≤ es.length * sz := by
    have : (i + 1) * sz ≤ es.length * sz := Nat.mul_le_mul_right _ hil
    rw [Nat.add_mul] at this
    rw [hel.1]; omega
  rw [setCell_row hh]
  generalize hcur' : cur.setIfInBounds ((E.m st).2 + i * sz + off) vx = cur'
  have hsize : cur'.size = cur.size := by rw [← hcur']; simp
  have hget : ∀ p, cur'[p]? = if p < (E.m st).2 + i * sz + off then cur[p]? else if p < (E.m st).2 + i * sz + off + 1 then some vx else cur[p]? := by
    intro p
    rw [← hcur', Array.getElem?_setIfInBounds]
    by_cases hp : (E.m st).2 + i * sz + off = p
    · subst hp
      rw [if_pos rfl, if_pos (by omega), if_neg (by omega), if_pos (by omega)]
    · rw [if_neg hp]
      by_cases hp2 : p < (E.m st).2 + i * sz + off
      · rw [if_pos hp2]
      · rw [if_neg hp2, if_neg (by omega)]
  refine ⟨?_, ?_⟩
  · have H1 : HConc E B (h.setB nm none) (w.setRow (E.m st).1 cur') := by
      refine (H.dropB nm).change ?_ ?_ ?_
      · intro b o v hk
        have hne : b ≠ (E.m st).1 := fun q => by rw [q, hbk.noK o] at hk; cases hk
        rw [cell_setRow_other w _ _ _ hne]
        exact H.K b o v hk
      · intro n b hb'
        have : n ≠ nm ∧ h.blk n = some b := by
          simp only [Hp.setB, upd] at hb'
          split at hb'
          · simp at hb'
          · rename_i hne; exact ⟨hne, hb'⟩
        exact setRow_other w _ _ _ (H.bb n nm b _ this.1 this.2 hb)
      · intro n t' g ht' hg'
        exact setRow_other w _ _ _ (fun q => H.bt nm n _ t' hb ht' (by rw [hg', q]))
    refine H1.putB ⟨st, sz, _⟩ hbu (.row hs0 ⟨hbk.base, ?_, by simp only [List.length_set]; exact hbk.len, ?_, hbk.noK⟩) (fun n b' hn hb' => by have := H.bb n nm b' _ hn hb' hb; exact this) (fun n t' ht' => by have := H.bt nm n _ t' hb ht'; exact this)
    · intro y hy
      rcases List.mem_or_eq_of_mem_set hy with hy | hy
      · exact hbk.el y hy
      · rw [hy]; exact q1
    · refine ⟨cur', ty, setRow_heap w _ cur _ ty _ hh, by rw [hsize]; exact hsz0, ?_⟩
      intro i' y hy j z hz
      show ∃ u, cur'[(E.m st).2 + i' * sz + j]? = some u ∧ Rel E z u
      have hy : (es.set i (setCells e off [x]))[i']? = some y := hy
      rw [List.getElem?_set] at hy
      by_cases hii : i = i'
      · subst hii
        simp only [if_true, hil] at hy
        cases hy
        rw [q2] at hz
        have hjl : j < sz := by rw [← q1.1]; exact (List.getElem?_eq_some_iff.1 ((q2 j).trans hz)).1
        rw [hget]
        by_cases p1 : j < off
        · rw [if_pos p1] at hz
          rw [if_pos (by omega)]
          exact hr i e he j z hz
        · rw [if_neg p1] at hz
          rw [if_neg (by omega)]
          by_cases p2 : j < off + 1
          · rw [if_pos p2] at hz
            rw [if_pos (by omega)]
            have hjo : j = off := by omega
            subst hjo
            simp at hz
            subst hz
            exact ⟨vx, rfl, hx⟩
          · rw [if_neg p2] at hz
            rw [if_neg (by omega)]
            exact hr i e he j z hz
      · rw [if_neg hii] at hy
        obtain ⟨u, hu', hrel⟩ := hr i' y hy j z hz
        refine ⟨u, ?_, hrel⟩
        have hely : ElemOk sz y := hbk.el y (List.mem_of_getElem? hy)
        have hj : j < sz := by rw [← hely.1]; exact (List.getElem?_eq_some_iff.1 hz).1
        rw [hget]
        by_cases hlt : i' < i
        · have : (i' + 1) * sz ≤ i * sz := Nat.mul_le_mul_right _ hlt
          rw [Nat.add_mul] at this
          rw [if_pos (by omega)]
          exact hu'
        · have : (i + 1) * sz ≤ i' * sz := Nat.mul_le_mul_right _ (by omega)
          rw [Nat.add_mul] at this
          have hes := hel.1
          rw [if_neg (by omega), if_neg (by omega)]
          exact hu'
  · refine hW.trans ⟨rfl, rfl, rfl, by simp, fun k hk => setRow_other w _ _ _ (fun q => ?_)⟩
    have := hbk.base
    simp only at this
    omega
end Go.Gv

/- Maps in walks; calls that leave all but some names as it was, as calls of drawn regions. No condition beyond those that each law names. -/
set_option linter.unusedVariables false
set_option linter.unusedSimpArgs false
namespace Go.Gv
open Go.RowKit

section
variable {f : Nat → AV} {blk : Nat → Option Blk} {tok : Nat → Option Tok} {st nm s : Nat} {m x v z : X} {k : IntKind} {zv : AV}
@[simp] theorem ex_mkm : ex f blk tok st (.mkm nm) = some { v := .mp nm st, wb := [(nm, some ⟨st, 0, []⟩)] } := rfl
@[simp] theorem ex_mget : ex f blk tok st (.mget k zv m x) = match m.ev f, x.ev f with
    | .mp nm s, .int k' a => if k' = k then (getM blk nm s).bind fun es => (findM k a es).map fun r => { v := r.getD zv } else none
    | _, _ => none := rfl
@[simp] theorem ex_mput : ex f blk tok st (.mput m x v) = match m.ev f, x.ev f with
    | .mp nm s, .int k a => (getM blk nm s).bind fun es => match findM k a es with
      | some none => if (v.ev f).one = true then some { v := .junk, wb := [(nm, some ⟨s, 0, es ++ [.agg [.int k a, v.ev f]]⟩)] } else none
      | _ => none
    | _, _ => none := rfl
@[simp] theorem aopXs_mkm : aopXs (.mkm nm) = [] := rfl
@[simp] theorem aopXs_mget : aopXs (.mget k zv m x) = [m, x] := rfl
@[simp] theorem aopXs_mput : aopXs (.mput m x v) = [m, x, v] := rfl
end
attribute [simp] getM
@[simp] theorem rdV_mp {nm st : Nat} : rdV (.mp nm st) = [nm] := rfl
@[simp] theorem tkV_mp {nm st : Nat} : tkV (.mp nm st) = [] := rfl
@[simp] theorem cells_mp {nm st : Nat} : (AV.mp nm st).cells = [.mp nm st] := rfl
@[simp] theorem one_mp {nm st : Nat} : (AV.mp nm st).one = true := rfl
@[simp] theorem lenOf_mp {nm st : Nat} : lenOf (.mp nm st) = none := rfl

/-- A set of numbers as a map's entries. -/
def setM (l : List Int) : List AV := l.map fun h => .agg [.int .i64 h, .bool true]
@[simp] theorem setM_nil : setM [] = [] := rfl
theorem setM_snoc (l : List Int) (h : Int) : setM l ++ [.agg [.int .i64 h, .bool true]] = setM (l ++ [h]) := by simp [setM]
theorem findM_set (a : Int) : ∀ l : List Int, findM .i64 a (setM l) = some (if a ∈ l then some (.bool true) else none)
  | [] => by simp [setM, findM]
  | h :: l => by
    have ih := findM_set a l
    simp only [setM] at ih
    simp only [setM, List.map_cons, findM, if_true]
    by_cases e : a = h
    · simp [e]
    · simp [e, ih]

theorem Rel.narrow {E E' : Env} {y : AV} {u' : Value} (h : Rel E' y u') : ∀ {u : Value}, Rel E y u → Rel { E' with u := E.u } y u' := by
  induction h with
  | @junk E' v => intro u q; exact .junk v
  | @raw E' v => intro u q; exact .raw v
  | @bool E' b => intro u q; exact .bool b
  | @int E' k n => intro u q; exact .int k n
  | @str E' s => intro u q; exact .str s
  | @nilp E' => intro u q; exact .nilp
  | @nilf E' => intro u q; exact .nilf
  | @nils E' => intro u q; exact .nils
  | @ptr E' nm st sz i off _ =>
    intro u q
    cases q with
    | ptr _ _ _ _ _ hu => exact Rel.ptr (E := { E' with u := E.u }) nm st sz i off hu
  | @kp E' cs off b o f hk h1 hr => intro u q; exact Rel.kp (E := { E' with u := E.u }) cs off b o f hk h1 hr
  | @lst0 E' sz a cap => intro u q; exact .lst0 sz a cap
  | @lst E' xs b o sz cap f hcap hsz hk h1 hr => intro u q; exact Rel.lst (E := { E' with u := E.u }) xs b o sz cap f hcap hsz hk h1 hr
  | @acc E' nm st sz xs v hu hv h ih =>
    intro u q
    cases q with
    | acc _ _ _ _ _ hu' _ q' => exact Rel.acc (E := { E' with u := E.u }) nm st sz xs v hu' hv (ih q')
  | @sl E' nm st sz off len cap a hu hcap hc ha =>
    intro u q
    cases q with
    | sl _ _ _ _ _ _ _ hu' _ _ _ => exact Rel.sl (E := { E' with u := E.u }) nm st sz off len cap a hu' hcap hc ha
  | @mp E' nm st hu =>
    intro u q
    cases q with
    | mp _ _ hu' => exact Rel.mp (E := { E' with u := E.u }) nm st hu'
  | @fn E' f caps vs hs _ ih =>
    intro u q
    cases q with
    | fn _ _ vs' hs' hr' =>
      refine Rel.fn (E := { E' with u := E.u }) f caps vs hs (fun j y v hy hv => ?_)
      obtain ⟨v', hv'⟩ : ∃ v', vs'[j]? = some v' := ⟨_, Array.getElem?_eq_getElem (by rw [← hs']; exact (List.getElem?_eq_some_iff.1 hy).1)⟩
      exact ih j y v hy hv (hr' j y v' hy hv')
  | @agg E' cs vs hs h1 _ ih =>
    intro u q
    cases q with
    | agg _ vs' hs' _ hr' =>
      refine Rel.agg (E := { E' with u := E.u }) cs vs hs h1 (fun j y v hy hv => ?_)
      obtain ⟨v', hv'⟩ : ∃ v', vs'[j]? = some v' := ⟨_, Array.getElem?_eq_getElem (by rw [← hs']; exact (List.getElem?_eq_some_iff.1 hy).1)⟩
      exact ih j y v hy hv (hr' j y v' hy hv')
  | @tup E' cs vs hs _ ih =>
    intro u q
    cases q with
    | tup _ vs' hs' hr' =>
      refine Rel.tup (E := { E' with u := E.u }) cs vs hs (fun j y v hy hv => ?_)
      obtain ⟨v', hv'⟩ : ∃ v', vs'[j]? = some v' := ⟨_, Array.getElem?_eq_getElem (by rw [← hs']; exact (List.getElem?_eq_some_iff.1 hy).1)⟩
      exact ih j y v hy hv (hr' j y v' hy hv')

theorem EntsRel.narrow {E E' : Env} : ∀ {xs : List AV} {ms ms' : List MapEntry}, EntsRel E' xs ms' → EntsRel E xs ms → EntsRel { E' with u := E.u } xs ms'
  | [], _, [], _, _ => trivial
  | [], _, _ :: _, h, _ => h.elim
  | _ :: _, [], _, _, h => h.elim
  | _ :: _, _ :: _, [], h, _ => h.elim
  | x :: xs, m :: ms, m' :: ms', ⟨⟨k, a, z, h1, h2, h3, h4⟩, h5⟩, ⟨⟨k', a', z', q1, q2, q3, q4⟩, q5⟩ => by
    subst h1
    cases q1
    exact ⟨⟨k, a, z, rfl, h2, h3, h4.narrow q4⟩, h5.narrow q5⟩

/-- A call whose outcome is closed, and that leaves all blocks as they were but for some, which are forgotten: no stamp of its own is left. -/
theorem CallP.localize {P : Program} {fv : AV} {vals : List AV} {T : St} {k0 : AV → St → Prop} (h : CallP P fv vals T k0) (r0 : AV) (blk' : Nat → Option Blk) (tok' : Nat → Option Tok) (h1 : r0.cl1 = true)
    (hk : ∀ r S, k0 r S → (∀ (E : Env) (v : Value), Rel E r v → Rel E r0 v) ∧ (∀ n b, blk' n = some b → S.blk n = some b ∧ T.blk n = some b) ∧ (∀ n t, tok' n = some t → S.tok n = some t ∧ T.tok n = some t)) :
    CallP P fv vals T fun r S => r = r0 ∧ S = ⟨T.t, blk', tok', T.clk⟩ := by
  obtain ⟨f, caps, q1, q2, q3⟩ := h
  refine ⟨f, caps, q1, q2, fun E B W w args H hW hB hu hsz hrel => (q3 E B W w args H hW hB hu hsz hrel).mono ?_⟩
  rintro e w' ⟨v, E', r, S', rfl, a2, a3, a4, a5, a6, a7, a8, a9, a10⟩
  obtain ⟨b1, b2, b3⟩ := hk r S' a10
  have hcell : ∀ b o u, ({ E' with u := E.u } : Env).K b o = some u → w'.cell? ⟨b, o, none⟩ = some u := a3.K
  refine ⟨v, { E' with u := E.u }, r0, ⟨T.t, blk', tok', T.clk⟩, rfl, ⟨a2.K, a2.m, a2.hd, a2.cp, fun s hs => hs⟩, ⟨hcell, ?_, ?_, ?_, ?_, ?_, ?_, ?_⟩, a4, a5, fun s hs => ⟨.inl hs, hu s hs⟩, Nat.le_refl _, rfl, ?_, rfl, rfl⟩
  · exact fun n b hb => H.bu n b (b2 n b hb).2
  · intro n b hb
    obtain ⟨hb1, hb2⟩ := b2 n b hb
    have B' := a3.bk n b hb1
    have B0 := H.bk n b hb2
    have em := a2.m _ (H.bu n b hb2)
    cases B' with
    | row h0 R =>
      have R0 := B0.r h0
      obtain ⟨cur, ty, c1, c2, c3⟩ := R.row
      obtain ⟨_, _, _, _, d3⟩ := R0.row
      refine .row h0 ⟨R.base, R.el, R.len, ⟨cur, ty, c1, c2, fun i x hx j y hy => ?_⟩, R.noK⟩
      obtain ⟨u, g1, g2⟩ := c3 i x hx j y hy
      obtain ⟨u0, _, g3⟩ := d3 i x hx j y hy
      exact ⟨u, g1, g2.narrow g3⟩
    | map h0 M =>
      obtain ⟨arr, c, c1, c2⟩ := M.mp
      obtain ⟨st, sz, es⟩ := b
      simp only at h0
      subst h0
      obtain ⟨arr0, c0, _, d2⟩ := B0.mp.mp
      exact .map rfl ⟨M.base, ⟨arr, c, c1, c2.narrow d2⟩, M.noK⟩
  · exact fun n t ht => H.tu n t (b3 n t ht).2
  · exact fun n t ht => a3.tk n t (b3 n t ht).1
  · exact fun n n' b b' hn hb hb' => a3.bb n n' b b' hn (b2 n b hb).1 (b2 n' b' hb').1
  · exact fun n n' b t hb ht => a3.bt n n' b t (b2 n b hb).1 (b3 n' t ht).1
  · exact fun n n' t t' g hn ht ht' hg => a3.tt n n' t t' g hn (b3 n t ht).1 (b3 n' t' ht').1 hg
  · exact Rel.of_cl1 (E := E') (E' := { E' with u := E.u }) (fun _ _ _ q => q) (b1 E' v a9) h1

theorem appB_fold (f : Nat → Option Blk) : ∀ (l : List Nat) (n : Nat), appB f (l.map fun x => (x, none)) n = if n ∈ l then none else f n := by
  intro l
  induction l generalizing f with
  | nil => intro n; simp [appB]
  | cons x l ih =>
    intro n
    simp only [List.map_cons, appB, ih, upd]
    by_cases h1 : n ∈ l
    · simp [h1]
    · by_cases h2 : n = x
      · simp [h2]
      · simp [h1, h2]
theorem appT_fold (f : Nat → Option Tok) : ∀ (l : List Nat) (n : Nat), appT f (l.map fun x => (x, none)) n = if n ∈ l then none else f n := by
  intro l
  induction l generalizing f with
  | nil => intro n; simp [appT]
  | cons x l ih =>
    intro n
    simp only [List.map_cons, appT, ih, upd]
    by_cases h1 : n ∈ l
    · simp [h1]
    · by_cases h2 : n = x
      · simp [h2]
      · simp [h1, h2]

/-- The names Lb and Lt apart, all is as it was. -/
structure Frl (Lb Lt : List Nat) (S S' : St) : Prop where
  b : ∀ n, n ∉ Lb → S'.blk n = S.blk n
  k : ∀ n, n ∉ Lt → S'.tok n = S.tok n

/-- What a call that forgets names does. -/
def effL (Lb Lt : List Nat) (r : AV) : Eff := { v := r, wb := Lb.map fun n => (n, none), wt := Lt.map fun n => (n, none) }

theorem LCallP.of {P : Program} {fv : AV} {vals : List AV} {blk : Nat → Option Blk} (Lb Lt : List Nat) (r0 : AV) (h1 : r0.cl1 = true)
    (h : ∀ T : St, (∀ n ∈ (fv :: vals).flatMap rdV, T.blk n = blk n) → CallP P fv vals T fun r S => (∀ (E : Env) (v : Value), Rel E r v → Rel E r0 v) ∧ Frl Lb Lt T S) :
    LCallP P fv vals blk (effL Lb Lt r0) := by
  intro T hT
  refine ((h T hT).localize r0 (appB T.blk (Lb.map fun n => (n, none))) (appT T.tok (Lt.map fun n => (n, none))) h1 ?_).weaken ?_
  · rintro r S ⟨h2, hF⟩
    refine ⟨h2, fun n b hb => ?_, fun n t ht => ?_⟩
    · rw [appB_fold] at hb
      split at hb
      · cases hb
      · rename_i hn; exact ⟨by rw [hF.b n hn]; exact hb, hb⟩
    · rw [appT_fold] at ht
      split at ht
      · cases ht
      · rename_i hn; exact ⟨by rw [hF.k n hn]; exact ht, ht⟩
  · rintro r S ⟨rfl, rfl⟩
    exact ⟨rfl, rfl⟩
theorem callL {P : Program} {fv : AV} {vals : List AV} {blk : Nat → Option Blk} {e : Eff} {k : Eff → Prop} {u : Dep k} (h : LCallP P fv vals blk e) (hk : k e) : callD P fv vals blk k u := ⟨e, h, hk⟩
theorem callLG {P : Program} {fv : AV} {vals : List AV} {S : St} {e : Eff} {k : AV → St → Prop} {u : Dep k} (h : LCallP P fv vals S.blk e) (hk : k e.v (S.app none e)) : CallG P fv vals S k u :=
  CallP.weaken (h S fun _ _ => rfl) (by rintro r S' ⟨rfl, rfl⟩; exact hk)
attribute [simp] effL

/-- A call's end told in another way: its outcome, and the heap. -/
theorem CallP.told1 {P : Program} {fv : AV} {vals : List AV} {S : St} {k k' : AV → St → Prop} (h : CallP P fv vals S k')
    (hk : ∀ r S', k' r S' → ∃ r' S'', (∀ (E : Env) (B : Nat) (w : World), HConc E B S'.h w → (∀ s, E.u s → s < S'.clk) → ∃ E', E.le E' ∧ HConc E' B S''.h w ∧ (∀ b o, b < B → E'.K b o = E.K b o) ∧ (∀ s, E'.u s → E.u s) ∧ ∀ v, Rel E r v → Rel E' r' v) ∧
      S'.clk ≤ S''.clk ∧ S''.t = S'.t ∧ k r' S'') : CallP P fv vals S k := by
  obtain ⟨f, caps, h1, h2, h3⟩ := h
  refine ⟨f, caps, h1, h2, fun E B W w args H hW hB hu hsz hr => (h3 E B W w args H hW hB hu hsz hr).mono ?_⟩
  rintro e w' ⟨v, E', r, S', a1, a2, a3, a4, a5, a6, a7, a8, a9, a10⟩
  obtain ⟨r', S'', b1, b2, b3, b4⟩ := hk r S' a10
  obtain ⟨E'', c1, c2, c3, c4, c5⟩ := b1 E' B w' a3 (fun s hs => (a6 s hs).2)
  exact ⟨v, E'', r', S'', a1, a2.trans c1, c2, a4, fun b o hb => (c3 b o hb).trans (a5 b o hb), fun s hs => ⟨(a6 s (c4 s hs)).1, Nat.lt_of_lt_of_le (a6 s (c4 s hs)).2 b2⟩, Nat.le_trans a7 b2, b3.trans a8, c5 v a9, b4⟩

/-- A call whose arguments are taken coarser. -/
theorem call_coarse {P : Program} {f : FuncId} (d : Nat) {vals vals' : List AV} {S : St} {k : AV → St → Prop} {u : Dep k} (hl : vals.length = vals'.length) (hco : ∀ (j : Nat) (x y : AV), vals[j]? = some x → vals'[j]? = some y → x = y ∨ elemR (dco (fun _ => none) d) x y)
    (h : CallG P (.fn f []) vals' S k u) : CallG P (.fn f []) vals S k u := by
  obtain ⟨g, caps, hf, hent, hc⟩ := h
  refine ⟨g, caps, hf, hent, fun E B W w args H hW hB hu hsz hrel => ?_⟩
  obtain ⟨rfl, rfl⟩ : f = g ∧ [] = caps := by cases hf; exact ⟨rfl, rfl⟩
  refine hc E B W w args H hW hB hu (by simpa [hl] using hsz) ?_
  intro j y u' hy hu'
  simp only [List.append_nil] at hy hrel
  obtain ⟨x, hx⟩ : ∃ x, vals[j]? = some x := ⟨_, List.getElem?_eq_getElem (by rw [hl]; exact (List.getElem?_eq_some_iff.1 hy).1)⟩
  have hr := hrel j x u' hx hu'
  rcases hco j x y hx hy with q | q
  · rw [← q]; exact hr
  · exact Rel.of_envK (K := E.K) (dccE_rel (w := w) d x y u' q H.K hr) (fun _ _ _ q => q)

/-- A block that is written no more, and of which a part is kept as a list. -/
theorem freeze_out {E : Env} {B : Nat} {h : Hp} {w : World} (H : HConc E B h w) {nm st sz : Nat} (hs0 : sz ≠ 0) {es : List AV} (hb : h.blk nm = some ⟨st, sz, es⟩) (hcl : closedL es) :
    ∃ E', E.le E' ∧ HConc E' B (h.setB nm none) w ∧ (∀ b o, b < B → E'.K b o = E.K b o) ∧ (∀ s, E'.u s → E.u s) ∧ ∀ (off len : Nat) (v : Value), off + len ≤ es.length → Rel E (.sl nm st sz off len) v → Rel E' (.lst sz ((es.drop off).take len)) v := by
  obtain ⟨E', c1, c2, c3, c4, c5⟩ := frz_ok H hs0 hb hcl
  refine ⟨E', c1.le, ?_, c2, c3, fun off len v hle hr => ?_⟩
  · refine (H.dropB nm).env c1.le c4 (fun n b x j => ?_) (fun n t g x hg j => ?_)
    · simp only [Hp.setB, upd] at x
      split at x
      · cases x
      · rename_i hne
        rw [c5 _ _ (H.bb n nm b _ hne x hb)]
        exact (H.bk n b x).noK j
    · exact c5 _ _ (fun q => H.bt nm n _ t hb x (by rw [hg, q]))
  · have := c1.rel _ v rfl hr
    have e : fzc nm st sz es (.sl nm st sz off len) = .lst sz ((es.drop off).take len) := by simp [fzc, fz0, hle]
    rw [e] at this
    exact this

/-! ### Coarser cells -/
theorem Rel.lst_of_acc {E : Env} {nm st sz : Nat} {xs : List AV} {v : Value} (h : Rel E (.acc nm st sz xs) v) : Rel E (.lst sz xs) v := by
  cases h with
  | acc _ _ _ _ _ _ _ hl => exact hl
theorem Rel.lst_of_nils {E : Env} {sz : Nat} {v : Value} (h : Rel E .nils v) : Rel E (.lst sz []) v := by
  cases h with
  | nils => exact .lst0 sz none 0

/-- One block's cells told more coarsely. -/
theorem Wkh.coarse {c : Nat} {h : Hp} {nm st sz : Nat} (hs0 : sz ≠ 0) {cs cs' : List AV} (hb : h.blk nm = some ⟨st, sz, [.agg cs]⟩) (hl : cs'.length = cs.length)
    (hc : ∀ (j : Nat) (x y : AV), cs[j]? = some x → cs'[j]? = some y → y.one = true ∧ ∀ (E : Env) (v : Value), Rel E x v → Rel E y v) : Wkh c c h (h.setB nm (some ⟨st, sz, [.agg cs']⟩)) id := by
  refine ⟨Nat.le_refl _, fun E B w H hu => ⟨E, .refl E, ?_, fun _ _ _ => rfl, fun _ q => q, fun _ _ q => q⟩⟩
  have hbk := (H.bk nm _ hb).r hs0
  refine (H.dropB nm).putB ⟨st, sz, [.agg cs']⟩ (show E.u st from H.bu nm _ hb) (.row hs0 ⟨hbk.base, ?_, hbk.len, ?_, hbk.noK⟩) (fun n b' hn hb' => by have := H.bb n nm b' _ hn hb' hb; exact this) (fun n t' ht' => by have := H.bt nm n _ t' hb ht'; exact this)
  · intro x hx
    simp only [List.mem_singleton] at hx
    subst hx
    have he := hbk.el (.agg cs) (by simp)
    refine ⟨by have := he.1; simp only [AV.cells] at this ⊢; omega, fun y hy => ?_⟩
    obtain ⟨j, hj⟩ := List.getElem?_of_mem hy
    have hj' : cs'[j]? = some y := hj
    obtain ⟨x, hx⟩ : ∃ x, cs[j]? = some x := ⟨_, List.getElem?_eq_getElem (by rw [← hl]; exact (List.getElem?_eq_some_iff.1 hj').1)⟩
    exact (hc j x y hx hj').1
  · obtain ⟨cur, ty, c1, c2, c3⟩ := hbk.row
    refine ⟨cur, ty, c1, c2, fun i x hx j y hy => ?_⟩
    cases i with
    | succ i => simp at hx
    | zero =>
      simp at hx
      subst hx
      have hj' : cs'[j]? = some y := hy
      obtain ⟨x, hx⟩ : ∃ x, cs[j]? = some x := ⟨_, List.getElem?_eq_getElem (by rw [← hl]; exact (List.getElem?_eq_some_iff.1 hj').1)⟩
      obtain ⟨u, g1, g2⟩ := c3 0 (.agg cs) rfl j x hx
      exact ⟨u, g1, (hc j x y hx hj').2 E u g2⟩
end Go.Gv

/- Other names for lists that may be appended to; arguments of a struct taken coarser. No condition beyond those that each law names. -/
set_option linter.unusedVariables false
set_option linter.unusedSimpArgs false
namespace Go.Gv
open Go.RowKit

def rt0 (a b : Nat) : AV → AV
  | .acc nm st sz xs => .acc (if nm = a then b else nm) st sz xs
  | v => v
def rtc (a b : Nat) : AV → AV
  | .fn f caps => .fn f (caps.map (rt0 a b))
  | v => rt0 a b v
theorem rt_map (E : Env) (a b : Nat) : CellMap E E (rtc a b) := by
  have f0 : ∀ (x : AV) (v : Value), Rel E x v → Rel E (rt0 a b x) v := by
    intro x v h
    cases x with
    | acc nm st sz xs => cases h with | acc _ _ _ _ _ hu hv hl => exact .acc _ st sz xs v hu hv hl
    | _ => exact h
  refine ⟨?_, ?_, ?_, fun _ _ => rfl, .refl E⟩
  · intro x v h1 hrel
    cases x with
    | fn f caps =>
      cases hrel with
      | fn _ _ vs hs hr' =>
        refine .fn f _ vs (by simpa using hs) ?_
        intro j y u hy hu
        rw [List.getElem?_map] at hy
        cases hc : caps[j]? with
        | none => simp [hc] at hy
        | some z => simp only [hc, Option.map_some, Option.some.injEq] at hy; rw [← hy]; exact f0 z u (hr' j z u hc hu)
    | _ => exact f0 _ v hrel
  · intro x h1
    cases x <;> first | rfl | exact h1
  · intro x h1
    cases x <;> first | rfl | (simp [AV.one] at h1)

def Hp.renT (h : Hp) (a b : Nat) : Hp := ⟨fun n => (h.blk n).map (mapB (rtc a b)), fun n => if n = b then h.tok a else if n = a then none else h.tok n⟩

theorem Wkh.renT {c : Nat} {h : Hp} (a b : Nat) (hab : a ≠ b) : Wkh c c h (h.renT a b) (mapV (rtc a b)) := by
  refine ⟨Nat.le_refl _, fun E B w H hu => ?_⟩
  have hM := rt_map E a b
  have getb : ∀ n bl, (h.renT a b).blk n = some bl → ∃ b0, h.blk n = some b0 ∧ bl = mapB (rtc a b) b0 := by
    intro n bl hn
    simp only [Hp.renT, Option.map_eq_some_iff] at hn
    obtain ⟨b0, h1, h2⟩ := hn
    exact ⟨b0, h1, h2.symm⟩
  have gett : ∀ n t, (h.renT a b).tok n = some t → ∃ m, h.tok m = some t ∧ m = (if n = b then a else n) ∧ n ≠ a := by
    intro n t hn
    simp only [Hp.renT] at hn
    split at hn
    · rename_i e; exact ⟨a, hn, by rw [if_pos e], fun q => hab (q.symm.trans e)⟩
    · rename_i e
      split at hn
      · cases hn
      · rename_i e2; exact ⟨n, hn, by rw [if_neg e], e2⟩
  refine ⟨E, .refl E, ⟨H.K, ?_, ?_, ?_, ?_, ?_, ?_, ?_⟩, fun _ _ _ => rfl, fun _ h => h, fun x v hv => hM.relV hv⟩
  · intro n bl hn
    obtain ⟨b0, h0, rfl⟩ := getb n bl hn
    exact H.bu n b0 h0
  · intro n bl hn
    obtain ⟨b0, h0, rfl⟩ := getb n bl hn
    exact hM.blkOk (H.bu n b0 h0) (H.bk n b0 h0) (H.bk n b0 h0).noK
  · intro n t hn
    obtain ⟨m, h0, _⟩ := gett n t hn
    exact H.tu m t h0
  · intro n t hn
    obtain ⟨m, h0, _⟩ := gett n t hn
    exact H.tk m t h0
  · intro n n' bl bl' hn h1 h2
    obtain ⟨b0, h0, rfl⟩ := getb n bl h1
    obtain ⟨b0', h0', rfl⟩ := getb n' bl' h2
    exact H.bb n n' b0 b0' hn h0 h0'
  · intro n n' bl t h1 h2
    obtain ⟨b0, h0, rfl⟩ := getb n bl h1
    obtain ⟨m, ht, _⟩ := gett n' t h2
    exact H.bt n m b0 t h0 ht
  · intro n n' t t' g hn h1 h2 hg
    obtain ⟨m, ht, e1, e2⟩ := gett n t h1
    obtain ⟨m', ht', e1', e2'⟩ := gett n' t' h2
    refine H.tt m m' t t' g ?_ ht ht' hg
    rw [e1, e1']
    intro q
    split at q <;> split at q
    · rename_i x y; exact hn (x.trans y.symm)
    · exact e2' q.symm
    · exact e2 q
    · exact hn q

/-- A struct's cells taken coarser, one by one. -/
theorem call_cells {P : Program} {f : FuncId} (d : Nat) {cs cs' : List AV} {S : St} {k : AV → St → Prop} {u : Dep k} (hl : cs.length = cs'.length) (h1 : ∀ y ∈ cs', y.one = true)
    (hco : ∀ (j : Nat) (x y : AV), cs[j]? = some x → cs'[j]? = some y → x = y ∨ dco (fun _ => none) d x y) (h : CallG P (.fn f []) [.agg cs'] S k u) : CallG P (.fn f []) [.agg cs] S k u := by
  obtain ⟨g, caps, hf, hent, hc⟩ := h
  refine ⟨g, caps, hf, hent, fun E B W w args H hW hB hu hsz hrel => ?_⟩
  obtain ⟨rfl, rfl⟩ : f = g ∧ [] = caps := by cases hf; exact ⟨rfl, rfl⟩
  refine hc E B W w args H hW hB hu (by simpa using hsz) ?_
  intro j y u' hy hu'
  match j with
  | j + 1 => simp at hy
  | 0 =>
    simp at hy
    subst hy
    have hr := hrel 0 (.agg cs) u' rfl hu'
    cases hr with
    | agg _ vs hs h1' hr =>
      refine .agg cs' vs (by rw [← hl]; exact hs) (fun j y hy => h1 y (List.mem_of_getElem? hy)) (fun j y v hy hv => ?_)
      obtain ⟨x, hx⟩ : ∃ x, cs[j]? = some x := ⟨_, List.getElem?_eq_getElem (by rw [hl]; exact (List.getElem?_eq_some_iff.1 hy).1)⟩
      have hxr := hr j x v hx hv
      rcases hco j x y hx hy with q | q
      · rw [← q]; exact hxr
      · exact Rel.of_envK (K := E.K) (dcc_rel (w := w) d x y v q H.K hxr) (fun _ _ _ q => q)
end Go.Gv

/- A block by another name at a call's end; drawn regions whose end stands in order. No condition beyond those that each law names. -/
set_option linter.unusedVariables false
set_option linter.unusedSimpArgs false
namespace Go.Gv
/-- The block a, by the name b. -/
def Hp.mvn (h : Hp) (a b : Nat) : Hp := ⟨fun n => if n = b then h.blk a else if n = a then none else h.blk n, h.tok⟩
theorem HConc.mvn {E : Env} {B : Nat} {h : Hp} {w : World} (a b : Nat) (hab : a ≠ b) (H : HConc E B h w) : HConc E B (h.mvn a b) w := by
  have get : ∀ n bl, (h.mvn a b).blk n = some bl → ∃ m, h.blk m = some bl ∧ m = (if n = b then a else n) ∧ n ≠ a := by
    intro n bl hn
    simp only [Hp.mvn] at hn
    split at hn
    · rename_i e
      exact ⟨a, hn, by rw [if_pos e], fun q => hab (q.symm.trans e)⟩
    · rename_i e
      split at hn
      · cases hn
      · rename_i e2
        exact ⟨n, hn, by rw [if_neg e], e2⟩
  refine ⟨H.K, ?_, ?_, H.tu, H.tk, ?_, ?_, H.tt⟩
  · intro n bl hn
    obtain ⟨m, h0, _⟩ := get n bl hn
    exact H.bu m bl h0
  · intro n bl hn
    obtain ⟨m, h0, _⟩ := get n bl hn
    exact H.bk m bl h0
  · intro n n' bl bl' hn hb1 hb2
    obtain ⟨m, h0, e, e'⟩ := get n bl hb1
    obtain ⟨m', h0', e2, e2'⟩ := get n' bl' hb2
    refine H.bb m m' bl bl' ?_ h0 h0'
    rw [e, e2]
    intro q
    split at q <;> split at q
    · rename_i q1 q2; exact hn (q1.trans q2.symm)
    · exact e2' q.symm
    · exact e' q
    · exact hn q
  · intro n n' bl t hb1 ht
    obtain ⟨m, h0, _⟩ := get n bl hb1
    exact H.bt m n' bl t h0 ht

/-- A list of which each part may be written: nil, or a block from its start. -/
def MutIs (S : St) (nm sz : Nat) (v : AV) (xs : List AV) : Prop := (v = .nils ∧ xs = []) ∨ ∃ st, v = .sl nm st sz 0 xs.length ∧ S.blk nm = some ⟨st, sz, xs⟩
theorem MutIs.at {S S' : St} {nm sz : Nat} {v : AV} {xs : List AV} (h : MutIs S nm sz v xs) (hb : S'.blk nm = S.blk nm) : MutIs S' nm sz v xs := by
  rcases h with h | ⟨st, h1, h2⟩
  · exact .inl h
  · exact .inr ⟨st, h1, hb.trans h2⟩
theorem MutIs.one {S : St} {nm sz : Nat} {v : AV} {xs : List AV} (h : MutIs S nm sz v xs) : v.one = true := by
  rcases h with ⟨rfl, _⟩ | ⟨st, rfl, _⟩ <;> rfl
theorem MutIs.cells {S : St} {nm sz : Nat} {v : AV} {xs : List AV} (h : MutIs S nm sz v xs) : v.cells = [v] := by
  rcases h with ⟨rfl, _⟩ | ⟨st, rfl, _⟩ <;> rfl

/-- A call that answers a list by the name a: it may be taken by the name b. -/
theorem CallP.mvn {P : Program} {fv : AV} {vals : List AV} {S : St} (a b : Nat) (hab : a ≠ b) {sz : Nat} {xs : List AV} {k : AV → St → Prop}
    (h : CallP P fv vals S fun r S' => MutIs S' a sz r xs ∧ S'.t = S.t ∧ S'.tok = S.tok ∧ S.clk ≤ S'.clk ∧ ∀ n, n ≠ a → S'.blk n = S.blk n)
    (hk : ∀ r S', MutIs S' b sz r xs → S'.t = S.t → S'.tok = S.tok → S.clk ≤ S'.clk → (∀ n, n ≠ a → n ≠ b → S'.blk n = S.blk n) → k r S') : CallP P fv vals S k := by
  refine h.told1 ?_
  rintro r S' ⟨h1, h2, h3, h4, h5⟩
  have hf : ∀ n, n ≠ a → n ≠ b → (S'.h.mvn a b).blk n = S.blk n := by
    intro n n1 n2
    simp only [Hp.mvn, St.h, if_neg n1, if_neg n2]
    exact h5 n n1
  rcases h1 with ⟨rfl, rfl⟩ | ⟨st, rfl, hb⟩
  · exact ⟨.nils, ⟨S'.t, (S'.h.mvn a b).blk, S'.tok, S'.clk⟩, fun E B w H hu => ⟨E, .refl E, H.mvn a b hab, fun _ _ _ => rfl, fun _ q => q, fun _ q => q⟩, Nat.le_refl _, rfl,
      hk _ _ (.inl ⟨rfl, rfl⟩) h2 h3 h4 hf⟩
  · refine ⟨.sl b st sz 0 xs.length, ⟨S'.t, (S'.h.mvn a b).blk, S'.tok, S'.clk⟩, fun E B w H hu => ⟨E, .refl E, H.mvn a b hab, fun _ _ _ => rfl, fun _ q => q, fun v q => ?_⟩, Nat.le_refl _, rfl,
      hk _ _ (.inr ⟨st, rfl, ?_⟩) h2 h3 h4 hf⟩
    · cases q with
      | sl _ _ _ _ _ cap a' hu' hc1 hc2 ha => exact .sl b st sz 0 xs.length cap a' hu' hc1 hc2 ha
    · simp only [Hp.mvn, St.h, if_true]
      exact hb
theorem callMv {P : Program} {fv : AV} {vals : List AV} {S : St} (a b : Nat) (hab : a ≠ b) {sz : Nat} {xs : List AV} {k : AV → St → Prop} {u : Dep k}
    (h : CallG P fv vals S (fun r S' => MutIs S' a sz r xs ∧ S'.t = S.t ∧ S'.tok = S.tok ∧ S.clk ≤ S'.clk ∧ ∀ n, n ≠ a → S'.blk n = S.blk n) .mk)
    (hk : ∀ r S', MutIs S' b sz r xs → S'.t = S.t → S'.tok = S.tok → S.clk ≤ S'.clk → (∀ n, n ≠ a → n ≠ b → S'.blk n = S.blk n) → k r S') : CallG P fv vals S k u :=
  CallP.mvn a b hab h hk

/-- The end of a drawn region that stands in order behind all that is ahead of it. -/
theorem regI_cut {P : Program} {pre : List (List Nat)} {st0 : Nat} {A B : List AI} {k : St → Prop} {S0 : St}
    (hp : ((List.range B.length).all fun b => (List.range (A.length + b)).all fun i => (pre.getD (A.length + b) []).contains i) = true)
    (h : regI P pre st0 A (fun S' => regV P (st0 + A.length) B k S') S0) : regI P pre st0 (A ++ B) k S0 := by
  have hpn : ∀ b, b < B.length → ∀ i, i < A.length + b → i ∈ pre.getD (A.length + b) [] := by
    intro b hb i hi
    have h1 := List.all_eq_true.1 hp b (List.mem_range.2 hb)
    have h2 := List.all_eq_true.1 h1 i (List.mem_range.2 hi)
    simpa using h2
  obtain ⟨I, h0, hs, hf⟩ := h
  refine ⟨fun D S => ((∀ j, A.length ≤ j → D j = false) ∧ I D S) ∨ ∃ m, 0 < m ∧ (∀ j, D j = decide (j < A.length + m)) ∧ regV P (st0 + A.length + m) (B.drop m) k S, .inl ⟨fun _ _ => rfl, h0⟩, ?_, ?_⟩
  · intro D S' j ai hj hDj hpre hcl hI
    have hjl := (List.getElem?_eq_some_iff.1 hj).1
    rw [List.length_append] at hjl
    rcases hI with ⟨g1, g2⟩ | ⟨m, g0, g1, g2⟩
    · by_cases hlt : j < A.length
      · rw [List.getElem?_append_left hlt] at hj
        refine stepV_mono ?_ (hs D S' j ai hj hDj hpre hcl g2)
        intro S'' q
        refine .inl ⟨fun j' hj' => ?_, q⟩
        simp [g1 j' hj']; omega
      · have hj0 : j = A.length := by
          by_cases e : j = A.length
          · exact e
          · have := hpre A.length (by have := hpn (j - A.length) (by omega) A.length (by omega); rwa [show A.length + (j - A.length) = j by omega] at this)
            rw [g1 _ (Nat.le_refl _)] at this; cases this
        subst hj0
        rw [List.getElem?_append_right (Nat.le_refl _), Nat.sub_self] at hj
        have hall : ∀ i, i < A.length → D i = true := fun i hi => hpre i (by have := hpn 0 (by omega) i (by omega); rwa [Nat.add_zero] at this)
        have hk := hf D S' hall g2
        obtain ⟨B', rfl⟩ : ∃ B', B = ai :: B' := by
          cases B with
          | nil => simp at hj
          | cons x B' => simp at hj; subst hj; exact ⟨B', rfl⟩
        refine stepV_mono ?_ hk
        intro S'' q
        refine .inr ⟨1, by omega, fun i => ?_, q⟩
        show (i == A.length || D i) = _
        by_cases e : i < A.length
        · rw [hall i e]; simp; omega
        · by_cases e2 : i = A.length
          · subst e2; simp
          · rw [g1 i (by omega), show (i == A.length) = false by simpa using e2, decide_eq_false (show ¬ i < A.length + 1 by omega)]; rfl
    · have hjn : j = A.length + m := by
        have a1 : ¬ j < A.length + m := by
          intro q; rw [g1 j] at hDj; simp at hDj; omega
        by_cases e : j = A.length + m
        · exact e
        · have := hpre (A.length + m) (by have := hpn (j - A.length) (by omega) (A.length + m) (by omega); rwa [show A.length + (j - A.length) = j by omega] at this)
          rw [g1] at this; simp at this
      subst hjn
      rw [List.getElem?_append_right (by omega), show A.length + m - A.length = m by omega] at hj
      have hm : m < B.length := by omega
      have hd : B.drop m = ai :: B.drop (m + 1) := by
        rw [List.drop_eq_getElem_cons hm]
        rw [List.getElem?_eq_getElem hm] at hj
        cases hj; rfl
      rw [hd] at g2
      rw [show st0 + (A.length + m) = st0 + A.length + m by omega]
      refine stepV_mono ?_ g2
      intro S'' q
      refine .inr ⟨m + 1, by omega, fun i => ?_, q⟩
      show (i == A.length + m || D i) = _
      rw [g1 i]
      by_cases e2 : i = A.length + m
      · subst e2; simp
      · by_cases e : i < A.length + m
        · rw [decide_eq_true e, decide_eq_true (show i < A.length + (m + 1) by omega), Bool.or_true]
        · rw [show (i == A.length + m) = false by simpa using e2, decide_eq_false e, decide_eq_false (show ¬ i < A.length + (m + 1) by omega)]; rfl
  · intro D S' hD hI
    rcases hI with ⟨g1, g2⟩ | ⟨m, g0, g1, g2⟩
    · cases B with
      | nil => exact hf D S' (fun j hj => hD j (by simpa using hj)) g2
      | cons x B' =>
        have := hD A.length (by simp)
        rw [g1 _ (Nat.le_refl _)] at this; cases this
    · have hm : B.length ≤ m := by
        by_cases e : m < B.length
        · have := hD (A.length + m) (by simp; omega)
          rw [g1] at this; simp at this
        · omega
      rw [List.drop_of_length_le hm] at g2
      exact g2
/-- The rule, for a walk. -/
theorem regi_cut {P : Program} {pre : List (List Nat)} {st0 : Nat} {all : List AI} {S0 : St} {k : St → Prop} {u : Dep k} (A B : List AI) (he : all = A ++ B)
    (hp : ((List.range B.length).all fun b => (List.range (A.length + b)).all fun i => (pre.getD (A.length + b) []).contains i) = true)
    (h : regIG P pre st0 A S0 (fun S' => regG P (st0 + A.length) B S' k .mk) .mk) : regIG P pre st0 all S0 k u := by
  subst he
  exact regI_cut hp h
end Go.Gv
