/- Abstract values and what they stand for: the base of the proofs of this seat. No condition: definitions and their first laws. -/
import Derived.Calls
import Derived.Orders
import Derived.Below
import Derived.Laws.AppendOwn
import Derived.Laws.Rows
import Derived.Laws.Sem
import Derived.Deep.LoopGhost
import Derived.KernelRfl
set_option linter.unusedVariables false
set_option linter.unusedSimpArgs false
namespace Go.Gv
open Go.RowKit

/-- Abstract values. -/
inductive AV where
  | bool (b : Bool)
  | int (k : IntKind) (n : Int)
  | str (s : ByteArray)
  | nilp
  | nilf
  | nils
  | ptr (nm st sz i off : Nat)
  | kp (cs : List AV) (off : Nat)
  | lst (sz : Nat) (xs : List AV)
  | acc (nm st sz : Nat) (xs : List AV)
  | sl (nm st sz off len : Nat)
  | fn (f : FuncId) (caps : List AV)
  | agg (cs : List AV)
  | tup (vs : List AV)
  | raw (v : Value)
  | junk

def AV.cells : AV → List AV
  | .agg cs => cs
  | v => [v]

/-- Is it the value of one cell? -/
def AV.one : AV → Bool
  | .agg _ | .tup _ | .junk => false
  | .raw v => v.oneCell'
  | _ => true

/-- What is known: cells that never change, where mutable blocks and headers lie, which stamps are used. -/
structure Env where
  K : Nat → Nat → Option Value
  m : Nat → Nat × Nat
  hd : Nat → Value
  cp : Nat → Nat
  u : Nat → Prop

/-- What is known of immutable cells alone. -/
def Env.cl (E : Env) : Env := { E with u := fun _ => False }

inductive Rel : Env → AV → Value → Prop
  | junk {E : Env} (v : Value) : Rel E .junk v
  | raw {E : Env} (v : Value) : Rel E (.raw v) v
  | bool {E : Env} (b : Bool) : Rel E (.bool b) (.bool b)
  | int {E : Env} (k : IntKind) (n : Int) : Rel E (.int k n) (.int k n)
  | str {E : Env} (s : ByteArray) : Rel E (.str s) (.string s)
  | nilp {E : Env} : Rel E .nilp (.pointer none)
  | nilf {E : Env} : Rel E .nilf .nilFunc
  | nils {E : Env} : Rel E .nils (.slice none 0 0)
  | ptr {E : Env} (nm st sz i off : Nat) (hu : E.u st) : Rel E (.ptr nm st sz i off) (.pointer (some ⟨(E.m st).1, (E.m st).2 + i * sz + off, none⟩))
  | kp {E : Env} (cs : List AV) (off b o : Nat) (f : Nat → Value) (hk : ∀ j : Nat, j < cs.length → E.K b (o + j) = some (f j))
      (h1 : ∀ (j : Nat) (y : AV), cs[j]? = some y → y.one = true) (hr : ∀ (j : Nat) (y : AV), cs[j]? = some y → Rel E.cl y (f j)) :
      Rel E (.kp cs off) (.pointer (some ⟨b, o + off, none⟩))
  | lst0 {E : Env} (sz : Nat) (a : Option Addr) (cap : Nat) : Rel E (.lst sz []) (.slice a 0 cap)
  | lst {E : Env} (xs : List AV) (b o sz cap : Nat) (f : Nat → Nat → Value) (hcap : xs.length ≤ cap) (hsz : ∀ x ∈ xs, x.cells.length = sz)
      (hk : ∀ i j : Nat, i < xs.length → j < sz → E.K b (o + i * sz + j) = some (f i j))
      (h1 : ∀ (i : Nat) (x : AV), xs[i]? = some x → ∀ (j : Nat) (y : AV), x.cells[j]? = some y → y.one = true)
      (hr : ∀ (i : Nat) (x : AV), xs[i]? = some x → ∀ (j : Nat) (y : AV), x.cells[j]? = some y → Rel E.cl y (f i j)) :
      Rel E (.lst sz xs) (.slice (some ⟨b, o, none⟩) xs.length cap)
  | acc {E : Env} (nm st sz : Nat) (xs : List AV) (v : Value) (hu : E.u st) (hv : v = E.hd st) (h : Rel E (.lst sz xs) v) : Rel E (.acc nm st sz xs) v
  | sl {E : Env} (nm st sz off len cap : Nat) (a : Option Addr) (hu : E.u st) (hcap : len ≤ cap) (hc : off + cap ≤ E.cp st) (ha : 0 < cap → a = some ⟨(E.m st).1, (E.m st).2 + off * sz, none⟩) :
      Rel E (.sl nm st sz off len) (.slice a len cap)
  | fn {E : Env} (f : FuncId) (caps : List AV) (vs : Array Value) (hs : caps.length = vs.size) (hr : ∀ (j : Nat) (y : AV) (v : Value), caps[j]? = some y → vs[j]? = some v → Rel E y v) :
      Rel E (.fn f caps) (.func (.func f) #[] vs)
  | agg {E : Env} (cs : List AV) (vs : Array Value) (hs : cs.length = vs.size) (h1 : ∀ (j : Nat) (y : AV), cs[j]? = some y → y.one = true)
      (hr : ∀ (j : Nat) (y : AV) (v : Value), cs[j]? = some y → vs[j]? = some v → Rel E y v) : Rel E (.agg cs) (.agg vs)
  | tup {E : Env} (cs : List AV) (vs : Array Value) (hs : cs.length = vs.size) (hr : ∀ (j : Nat) (y : AV) (v : Value), cs[j]? = some y → vs[j]? = some v → Rel E y v) :
      Rel E (.tup cs) (.tuple vs)

structure Env.le (E E' : Env) : Prop where
  K : ∀ b o v, E.K b o = some v → E'.K b o = some v
  m : ∀ s, E.u s → E'.m s = E.m s
  hd : ∀ s, E.u s → E'.hd s = E.hd s
  cp : ∀ s, E.u s → E'.cp s = E.cp s
  u : ∀ s, E.u s → E'.u s

theorem Env.le.refl (E : Env) : E.le E := ⟨fun _ _ _ h => h, fun _ _ => rfl, fun _ _ => rfl, fun _ _ => rfl, fun _ h => h⟩
theorem Env.le.trans {E F G : Env} (h : E.le F) (k : F.le G) : E.le G :=
  ⟨fun b o v x => k.K b o v (h.K b o v x), fun s x => (k.m s (h.u s x)).trans (h.m s x), fun s x => (k.hd s (h.u s x)).trans (h.hd s x), fun s x => (k.cp s (h.u s x)).trans (h.cp s x), fun s x => k.u s (h.u s x)⟩

theorem Env.le.cl {E E' : Env} (h : E.le E') : E.cl.le E'.cl := ⟨h.K, fun _ x => x.elim, fun _ x => x.elim, fun _ x => x.elim, fun _ x => x.elim⟩
theorem Env.cl_le (E : Env) : E.cl.le E := ⟨fun _ _ _ h => h, fun _ x => x.elim, fun _ x => x.elim, fun _ x => x.elim, fun _ x => x.elim⟩

theorem Rel.mono {E E' : Env} (hE : E.le E') {x : AV} {v : Value} (h : Rel E x v) : Rel E' x v := by
  induction h generalizing E' with
  | junk v => exact .junk v
  | raw v => exact .raw v
  | bool b => exact .bool b
  | int k n => exact .int k n
  | str s => exact .str s
  | nilp => exact .nilp
  | nilf => exact .nilf
  | nils => exact .nils
  | ptr nm st sz i off hu => rw [← hE.m st hu]; exact .ptr nm st sz i off (hE.u st hu)
  | kp cs off b o f hk h1 _ ih => exact .kp cs off b o f (fun j hj => hE.K _ _ _ (hk j hj)) h1 (fun j y hy => ih j y hy hE.cl)
  | lst0 sz a cap => exact .lst0 sz a cap
  | lst xs b o sz cap f hcap hsz hk h1 _ ih => exact .lst xs b o sz cap f hcap hsz (fun i j hi hj => hE.K _ _ _ (hk i j hi hj)) h1 (fun i x hx j y hy => ih i x hx j y hy hE.cl)
  | acc nm st sz xs v hu hv _ ih => exact .acc nm st sz xs v (hE.u st hu) (by rw [hE.hd st hu]; exact hv) (ih hE)
  | sl nm st sz off len cap a hu hcap hc ha => exact .sl nm st sz off len cap a (hE.u st hu) hcap (by rw [hE.cp st hu]; exact hc) (by rw [hE.m st hu]; exact ha)
  | fn f caps vs hs _ ih => exact .fn f caps vs hs (fun j y v hy hv => ih j y v hy hv hE)
  | agg cs vs hs h1 _ ih => exact .agg cs vs hs h1 (fun j y v hy hv => ih j y v hy hv hE)
  | tup cs vs hs _ ih => exact .tup cs vs hs (fun j y v hy hv => ih j y v hy hv hE)

/-- A one-cell value that hangs on nothing that may change. -/
def AV.cl1 : AV → Bool
  | .bool _ | .int _ _ | .str _ | .nilp | .nilf | .nils | .kp _ _ | .lst _ _ => true
  | .raw v => v.oneCell'
  | .fn _ [] => true
  | _ => false

theorem AV.one_of_cl1 {x : AV} (h : x.cl1 = true) : x.one = true := by
  cases x <;> first | rfl | exact h | (simp [AV.cl1] at h)

theorem Rel.of_cl1 {E E' : Env} (hK : ∀ b o v, E.K b o = some v → E'.K b o = some v) {x : AV} {v : Value} (h : Rel E x v) (h1 : x.cl1 = true) : Rel E' x v := by
  have hE : E.cl.le E' := ⟨hK, fun _ x => x.elim, fun _ x => x.elim, fun _ x => x.elim, fun _ x => x.elim⟩
  have hE' : E.cl.le E'.cl := ⟨hK, fun _ x => x.elim, fun _ x => x.elim, fun _ x => x.elim, fun _ x => x.elim⟩
  cases h with
  | kp cs off b o f hk h1' hr => exact .kp cs off b o f (fun j hj => hK _ _ _ (hk j hj)) h1' (fun j y hy => (hr j y hy).mono hE')
  | lst0 sz a cap => exact .lst0 sz a cap
  | lst xs b o sz cap f hcap hsz hk h1' hr => exact .lst xs b o sz cap f hcap hsz (fun i j hi hj => hK _ _ _ (hk i j hi hj)) h1' (fun i x hx j y hy => (hr i x hx j y hy).mono hE')
  | fn f caps vs hs hr =>
    cases caps with
    | nil => exact .fn f [] vs hs (by simp)
    | cons c l => simp [AV.cl1] at h1
  | bool b => exact .bool b
  | int k n => exact .int k n
  | str s => exact .str s
  | nilp => exact .nilp
  | nilf => exact .nilf
  | nils => exact .nils
  | raw v => exact .raw v
  | _ => simp [AV.cl1] at h1

/-- A mutable block's contents: stamp, cells of an element, elements. -/
structure Blk where
  st : Nat
  sz : Nat
  es : List AV
/-- A slice that may be appended to: stamp, cells of an element. -/
structure Tok where
  st : Nat
  sz : Nat
  ty : TypeId
structure Hp where
  blk : Nat → Option Blk
  tok : Nat → Option Tok

def upd {α : Type} (f : Nat → α) (i : Nat) (v : α) : Nat → α := fun j => if j = i then v else f j
theorem upd_same {α : Type} (f : Nat → α) (i : Nat) (v : α) : upd f i v i = v := by simp [upd]
theorem upd_ne {α : Type} (f : Nat → α) (i : Nat) (v : α) (j : Nat) (h : j ≠ i) : upd f i v j = f j := by simp [upd, h]

def ElemOk (sz : Nat) (x : AV) : Prop := x.cells.length = sz ∧ ∀ y ∈ x.cells, y.one = true

structure BlkOk (E : Env) (B : Nat) (w : World) (st sz : Nat) (es : List AV) : Prop where
  base : B ≤ (E.m st).1
  el : ∀ x ∈ es, ElemOk sz x
  len : es.length ≤ E.cp st
  row : ∃ cur e, w.heap[(E.m st).1]? = some (.cells cur e (0, 0)) ∧ (E.m st).2 + E.cp st * sz ≤ cur.size ∧
    ∀ (i : Nat) (x : AV), es[i]? = some x → ∀ (j : Nat) (y : AV), x.cells[j]? = some y → ∃ u, cur[(E.m st).2 + i * sz + j]? = some u ∧ Rel E y u
  noK : ∀ j, E.K (E.m st).1 j = none

def TokOk (E : Env) (B : Nat) (w : World) (sz : Nat) (ty : TypeId) (v : Value) : Prop :=
  ∃ n cs, w.ownsRow B ty sz v n cs ∧ ∀ g j, v.ownBlock = some g → n * sz ≤ j → E.K g j = none

structure HConc (E : Env) (B : Nat) (h : Hp) (w : World) : Prop where
  K : ∀ b o v, E.K b o = some v → w.cell? ⟨b, o, none⟩ = some v
  bu : ∀ nm b, h.blk nm = some b → E.u b.st
  bk : ∀ nm b, h.blk nm = some b → BlkOk E B w b.st b.sz b.es
  tu : ∀ nm t, h.tok nm = some t → E.u t.st
  tk : ∀ nm t, h.tok nm = some t → TokOk E B w t.sz t.ty (E.hd t.st)
  bb : ∀ nm nm' b b', nm ≠ nm' → h.blk nm = some b → h.blk nm' = some b' → (E.m b.st).1 ≠ (E.m b'.st).1
  bt : ∀ nm nm' b t, h.blk nm = some b → h.tok nm' = some t → (E.hd t.st).ownBlock ≠ some (E.m b.st).1
  tt : ∀ nm nm' t t' g, nm ≠ nm' → h.tok nm = some t → h.tok nm' = some t' → (E.hd t.st).ownBlock = some g → (E.hd t'.st).ownBlock ≠ some g

theorem BlkOk.same {E : Env} {B : Nat} {w w' : World} {st sz : Nat} {es : List AV} (h : BlkOk E B w st sz es) (hw : w'.heap[(E.m st).1]? = w.heap[(E.m st).1]?) : BlkOk E B w' st sz es :=
  ⟨h.base, h.el, h.len, by rw [hw]; exact h.row, h.noK⟩

theorem World.ownsRow.at {w w' : World} {B sz n : Nat} {ty : TypeId} {v : Value} {cs : List Value} (h : w.ownsRow B ty sz v n cs) (hw : ∀ g, v.ownBlock = some g → w'.heap[g]? = w.heap[g]?) : w'.ownsRow B ty sz v n cs := by
  obtain ⟨h1, h2⟩ := h
  refine ⟨h1, ?_⟩
  rcases h2 with h2 | ⟨g, cap, cur, rfl, hb, hg, r⟩
  · exact .inl h2
  · exact .inr ⟨g, cap, cur, rfl, hb, by rw [hw g rfl]; exact hg, r⟩

theorem TokOk.same {E : Env} {B : Nat} {w w' : World} {sz : Nat} {ty : TypeId} {v : Value} (h : TokOk E B w sz ty v) (hw : ∀ g, v.ownBlock = some g → w'.heap[g]? = w.heap[g]?) : TokOk E B w' sz ty v := by
  obtain ⟨n, cs, h1, h2⟩ := h
  exact ⟨n, cs, World.ownsRow.at h1 hw, h2⟩

theorem HConc.change {E : Env} {B : Nat} {h : Hp} {w w' : World} (H : HConc E B h w) (hK : ∀ b o v, E.K b o = some v → w'.cell? ⟨b, o, none⟩ = some v)
    (hb : ∀ nm b, h.blk nm = some b → w'.heap[(E.m b.st).1]? = w.heap[(E.m b.st).1]?)
    (ht : ∀ nm t g, h.tok nm = some t → (E.hd t.st).ownBlock = some g → w'.heap[g]? = w.heap[g]?) : HConc E B h w' :=
  ⟨hK, H.bu, fun nm b hn => (H.bk nm b hn).same (hb nm b hn), H.tu, fun nm t hn => (H.tk nm t hn).same (fun g hg => ht nm t g hn hg), H.bb, H.bt, H.tt⟩

theorem BlkOk.lt {E : Env} {B : Nat} {w : World} {st sz : Nat} {es : List AV} (h : BlkOk E B w st sz es) : (E.m st).1 < w.heap.size := by
  obtain ⟨cur, e, hg, _⟩ := h.row
  exact (Array.getElem?_eq_some_iff.1 hg).1

theorem TokOk.lt {E : Env} {B : Nat} {w : World} {sz : Nat} {ty : TypeId} {v : Value} (h : TokOk E B w sz ty v) {g : Nat} (hg : v.ownBlock = some g) : B ≤ g ∧ g < w.heap.size := by
  obtain ⟨n, cs, h1, _⟩ := h
  exact h1.lt g hg

/-- The world has grown; what was there stays. -/
theorem HConc.grow {E : Env} {B : Nat} {h : Hp} {w w' : World} (H : HConc E B h w) (hw : ∀ k, k < w.heap.size → w'.heap[k]? = w.heap[k]?) : HConc E B h w' :=
  H.change (fun b o v hv => by
      have := H.K b o v hv
      have hlt := World.block_lt_of_cell? w _ this
      rw [World.cell?_of_block (w := w) (hw b hlt)]; exact this)
    (fun nm b hn => hw _ (H.bk nm b hn).lt) (fun nm t g hn hg => hw _ ((H.tk nm t hn).lt hg).2)

/-- Fewer mutable things. -/
theorem HConc.sub {E : Env} {B : Nat} {h h' : Hp} {w : World} (H : HConc E B h w) (hb : ∀ nm b, h'.blk nm = some b → h.blk nm = some b) (ht : ∀ nm t, h'.tok nm = some t → h.tok nm = some t) : HConc E B h' w :=
  ⟨H.K, fun nm b x => H.bu nm b (hb _ _ x), fun nm b x => H.bk nm b (hb _ _ x), fun nm b x => H.tu nm b (ht _ _ x), fun nm b x => H.tk nm b (ht _ _ x),
   fun nm nm' b b' hn x y => H.bb nm nm' b b' hn (hb _ _ x) (hb _ _ y), fun nm nm' b t x y => H.bt nm nm' b t (hb _ _ x) (ht _ _ y),
   fun nm nm' t t' g hn x y => H.tt nm nm' t t' g hn (ht _ _ x) (ht _ _ y)⟩

/-- More is known. -/
theorem HConc.env {E E' : Env} {B : Nat} {h : Hp} {w : World} (H : HConc E B h w) (hE : E.le E') (hK : ∀ b o v, E'.K b o = some v → w.cell? ⟨b, o, none⟩ = some v)
    (hb : ∀ nm b, h.blk nm = some b → ∀ j, E'.K (E.m b.st).1 j = none)
    (ht : ∀ nm t g, h.tok nm = some t → (E.hd t.st).ownBlock = some g → ∀ j, E'.K g j = E.K g j) : HConc E' B h w := by
  refine ⟨hK, fun nm b x => hE.u _ (H.bu nm b x), ?_, fun nm b x => hE.u _ (H.tu nm b x), ?_, ?_, ?_, ?_⟩
  · intro nm b x
    have hk := H.bk nm b x
    have em := hE.m _ (H.bu nm b x)
    have ec := hE.cp _ (H.bu nm b x)
    refine ⟨by rw [em]; exact hk.base, hk.el, by rw [ec]; exact hk.len, ?_, by rw [em]; exact hb nm b x⟩
    rw [em, ec]
    obtain ⟨cur, e, h1, h2, h3⟩ := hk.row
    exact ⟨cur, e, h1, h2, fun i y hy j z hz => let ⟨u, hu, hr⟩ := h3 i y hy j z hz; ⟨u, hu, hr.mono hE⟩⟩
  · intro nm t x
    rw [hE.hd _ (H.tu nm t x)]
    obtain ⟨n, cs, h1, h2⟩ := H.tk nm t x
    exact ⟨n, cs, h1, fun g j hg hj => by rw [ht nm t g x hg]; exact h2 g j hg hj⟩
  · intro nm nm' b b' hn x y
    rw [hE.m _ (H.bu _ _ x), hE.m _ (H.bu _ _ y)]
    exact H.bb nm nm' b b' hn x y
  · intro nm nm' b t x y
    rw [hE.m _ (H.bu _ _ x), hE.hd _ (H.tu _ _ y)]
    exact H.bt nm nm' b t x y
  · intro nm nm' t t' g hn x y
    rw [hE.hd _ (H.tu _ _ x), hE.hd _ (H.tu _ _ y)]
    exact H.tt nm nm' t t' g hn x y

def Env.withM (E : Env) (st : Nat) (p : Nat × Nat) (c : Nat) : Env := { E with m := upd E.m st p, cp := upd E.cp st c, u := fun s => s = st ∨ E.u s }
def Env.withHd (E : Env) (st : Nat) (v : Value) : Env := { E with hd := upd E.hd st v, u := fun s => s = st ∨ E.u s }
def Env.withK (E : Env) (K : Nat → Nat → Option Value) : Env := { E with K := K }

theorem Env.le_withM {E : Env} {st : Nat} (h : ¬ E.u st) (p : Nat × Nat) (c : Nat) : E.le (E.withM st p c) :=
  ⟨fun _ _ _ h => h, fun s hs => upd_ne _ _ _ _ (fun e => h (e ▸ hs)), fun _ _ => rfl, fun s hs => upd_ne _ _ _ _ (fun e => h (e ▸ hs)), fun _ h => .inr h⟩
theorem Env.le_withHd {E : Env} {st : Nat} (h : ¬ E.u st) (v : Value) : E.le (E.withHd st v) :=
  ⟨fun _ _ _ h => h, fun _ _ => rfl, fun s hs => upd_ne _ _ _ _ (fun e => h (e ▸ hs)), fun _ _ => rfl, fun _ h => .inr h⟩
theorem Env.le_withK {E : Env} {K : Nat → Nat → Option Value} (h : ∀ b o v, E.K b o = some v → K b o = some v) : E.le (E.withK K) :=
  ⟨h, fun _ _ => rfl, fun _ _ => rfl, fun _ _ => rfl, fun _ h => h⟩

def Hp.setB (h : Hp) (nm : Nat) (b : Option Blk) : Hp := ⟨upd h.blk nm b, h.tok⟩
def Hp.setT (h : Hp) (nm : Nat) (t : Option Tok) : Hp := ⟨h.blk, upd h.tok nm t⟩

theorem HConc.dropB {E : Env} {B : Nat} {h : Hp} {w : World} (H : HConc E B h w) (nm : Nat) : HConc E B (h.setB nm none) w :=
  H.sub (fun n b x => by simp only [Hp.setB, upd] at x; split at x <;> simp_all) (fun _ _ x => x)
theorem HConc.dropT {E : Env} {B : Nat} {h : Hp} {w : World} (H : HConc E B h w) (nm : Nat) : HConc E B (h.setT nm none) w :=
  H.sub (fun _ _ x => x) (fun n b x => by simp only [Hp.setT, upd] at x; split at x <;> simp_all)

/-- A block (again). -/
theorem HConc.putB {nm : Nat} {E : Env} {B : Nat} {h : Hp} {w : World} (H : HConc E B (h.setB nm none) w) (b : Blk) (hu : E.u b.st) (hb : BlkOk E B w b.st b.sz b.es)
    (h1 : ∀ n b', n ≠ nm → h.blk n = some b' → (E.m b'.st).1 ≠ (E.m b.st).1) (h2 : ∀ n t, h.tok n = some t → (E.hd t.st).ownBlock ≠ some (E.m b.st).1) : HConc E B (h.setB nm (some b)) w := by
  have key : ∀ n b', (h.setB nm (some b)).blk n = some b' → (n = nm ∧ b' = b) ∨ (n ≠ nm ∧ h.blk n = some b' ∧ (h.setB nm none).blk n = some b') := by
    intro n b' x
    simp only [Hp.setB, upd] at x ⊢
    by_cases e : n = nm
    · simp [e] at x; exact .inl ⟨e, x.symm⟩
    · simp [e] at x; exact .inr ⟨e, x, by simp [e, x]⟩
  refine ⟨H.K, ?_, ?_, H.tu, H.tk, ?_, ?_, H.tt⟩
  · intro n b' x
    rcases key n b' x with ⟨_, rfl⟩ | ⟨_, _, y⟩
    · exact hu
    · exact H.bu n b' y
  · intro n b' x
    rcases key n b' x with ⟨_, rfl⟩ | ⟨_, _, y⟩
    · exact hb
    · exact H.bk n b' y
  · intro n n' b' b'' hn x x'
    rcases key n b' x with ⟨e, rfl⟩ | ⟨e, hy, y⟩ <;> rcases key n' b'' x' with ⟨e', rfl⟩ | ⟨e', hy', y'⟩
    · exact absurd (e.trans e'.symm) hn
    · exact fun q => h1 n' b'' e' hy' q.symm
    · exact h1 n b' e hy
    · exact H.bb n n' b' b'' hn y y'
  · intro n n' b' t x x'
    rcases key n b' x with ⟨e, rfl⟩ | ⟨e, hy, y⟩
    · exact h2 n' t x'
    · exact H.bt n n' b' t y x'

theorem HConc.putT {nm : Nat} {E : Env} {B : Nat} {h : Hp} {w : World} (H : HConc E B (h.setT nm none) w) (t : Tok) (hu : E.u t.st) (ht : TokOk E B w t.sz t.ty (E.hd t.st))
    (h1 : ∀ n b, h.blk n = some b → (E.hd t.st).ownBlock ≠ some (E.m b.st).1) (h2 : ∀ n t' g, n ≠ nm → h.tok n = some t' → (E.hd t'.st).ownBlock = some g → (E.hd t.st).ownBlock ≠ some g) : HConc E B (h.setT nm (some t)) w := by
  have key : ∀ n b', (h.setT nm (some t)).tok n = some b' → (n = nm ∧ b' = t) ∨ (n ≠ nm ∧ h.tok n = some b' ∧ (h.setT nm none).tok n = some b') := by
    intro n b' x
    simp only [Hp.setT, upd] at x ⊢
    by_cases e : n = nm
    · simp [e] at x; exact .inl ⟨e, x.symm⟩
    · simp [e] at x; exact .inr ⟨e, x, by simp [e, x]⟩
  refine ⟨H.K, H.bu, H.bk, ?_, ?_, H.bb, ?_, ?_⟩
  · intro n b' x
    rcases key n b' x with ⟨_, rfl⟩ | ⟨_, _, y⟩
    · exact hu
    · exact H.tu n b' y
  · intro n b' x
    rcases key n b' x with ⟨_, rfl⟩ | ⟨_, _, y⟩
    · exact ht
    · exact H.tk n b' y
  · intro n n' b t' x x'
    rcases key n' t' x' with ⟨e, rfl⟩ | ⟨e, hy, y⟩
    · exact h1 n b x
    · exact H.bt n n' b t' x y
  · intro n n' t1 t2 g hn x x' hg
    rcases key n t1 x with ⟨e, rfl⟩ | ⟨e, hy, y⟩ <;> rcases key n' t2 x' with ⟨e', rfl⟩ | ⟨e', hy', y'⟩
    · exact absurd (e.trans e'.symm) hn
    · exact fun q => h2 n' t2 g e' hy' q hg
    · exact h2 n t1 g e hy hg
    · exact H.tt n n' t1 t2 g hn y y' hg

/-! ### What a related value looks like -/

theorem Rel.bool_inv {E : Env} {b : Bool} {v : Value} (h : Rel E (.bool b) v) : v = .bool b := by cases h; rfl
theorem Rel.int_inv {E : Env} {k : IntKind} {n : Int} {v : Value} (h : Rel E (.int k n) v) : v = .int k n := by cases h; rfl
theorem Rel.str_inv {E : Env} {s : ByteArray} {v : Value} (h : Rel E (.str s) v) : v = .string s := by cases h; rfl
theorem Rel.nils_inv {E : Env} {v : Value} (h : Rel E .nils v) : v = .slice none 0 0 := by cases h; rfl

theorem Rel.one {E : Env} {x : AV} {v : Value} (h : Rel E x v) (h1 : x.one = true) : v.oneCell' = true := by
  cases h <;> first
    | rfl
    | exact h1
    | (simp [AV.one] at h1; done)
    | (rename_i h; cases h <;> rfl)

theorem AV.cells_one {x : AV} (h : x.one = true) : x.cells = [x] := by
  cases x <;> first | rfl | (simp [AV.one] at h)

theorem Value.cells_one {v : Value} (h : v.oneCell' = true) : v.cells = #[v] := by
  cases v <;> first | rfl | (simp [Value.oneCell'] at h)

/-- The cells of a value that is no junk. -/
theorem Rel.cells {E : Env} {x : AV} {v : Value} (h : Rel E x v) (h1 : ∀ y ∈ x.cells, y.one = true) :
    v.cells.size = x.cells.length ∧ ∀ (j : Nat) (y : AV), x.cells[j]? = some y → ∃ u, v.cells[j]? = some u ∧ Rel E y u ∧ u.oneCell' = true := by
  by_cases hx : x.one = true
  · have e1 := AV.cells_one hx
    have hv := h.one hx
    rw [e1, Value.cells_one hv]
    refine ⟨rfl, fun j y hy => ?_⟩
    cases j with
    | zero => simp at hy; subst hy; exact ⟨v, rfl, h, hv⟩
    | succ j => simp at hy
  · cases h with
    | agg cs vs hs h1' hr =>
      refine ⟨hs.symm, fun j y hy => ?_⟩
      have hy' : cs[j]? = some y := hy
      have hj : j < vs.size := by rw [← hs]; exact (List.getElem?_eq_some_iff.1 hy').1
      refine ⟨vs[j], Array.getElem?_eq_getElem hj, hr j y _ hy' (Array.getElem?_eq_getElem hj), (hr j y _ hy' (Array.getElem?_eq_getElem hj)).one (h1' j y hy')⟩
    | tup cs vs hs hr => have := h1 (.tup cs) (by simp [AV.cells]); simp [AV.one] at this
    | junk v => have := h1 .junk (by simp [AV.cells]); simp [AV.one] at this
    | raw v => have := h1 (.raw v) (by simp [AV.cells]); exact absurd this hx
    | _ => simp [AV.one] at hx

end Go.Gv
