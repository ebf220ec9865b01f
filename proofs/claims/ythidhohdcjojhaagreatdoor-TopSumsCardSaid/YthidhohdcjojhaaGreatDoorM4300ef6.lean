/- Texts of this proof, one behind the other. What is proved, and on which conditions, stands ahead of each. -/
import Derived.Calls
import Derived.Orders
import Derived.Below
import Derived.Laws.AppendOwn
import Derived.Laws.Rows
import Derived.Laws.Sem
import Derived.Deep.LoopGhost
import Derived.KernelRfl

set_option linter.unusedVariables false
set_option linter.unusedSimpArgs false
namespace Go.Gv
open Go.RowKit
inductive AV where
 | bool (b : Bool)
 | int (k : IntKind) (n : Int)
 | str (s : ByteArray)
 | nilp
 | nilf
 | nils
 | ptr (nm st sz i off : Nat)
 | kp (cs : List AV) (off : Nat)
 | lst (sz : Nat) (xs : List AV)
 | acc (nm st sz : Nat) (xs : List AV)
 | sl (nm st sz off len : Nat)
 | fn (f : FuncId) (caps : List AV)
 | agg (cs : List AV)
 | tup (vs : List AV)
 | raw (v : Value)
 | mp (nm st : Nat)
 | junk
def AV.cells : AV -> List AV
 | .agg cs => cs
 | v => [v]
def AV.one : AV -> Bool
 | .agg _ | .tup _ | .junk => false
 | .raw v => v.oneCell'
 | _ => true
structure Env where
 K : Nat -> Nat -> Option Value
 m : Nat -> Nat × Nat
 hd : Nat -> Value
 cp : Nat -> Nat
 u : Nat -> Prop
def Env.cl (E : Env) : Env := { E with u := fun _ => False }
inductive Rel : Env -> AV -> Value -> Prop
 | junk {E : Env} (v : Value) : Rel E .junk v
 | raw {E : Env} (v : Value) : Rel E (.raw v) v
 | bool {E : Env} (b : Bool) : Rel E (.bool b) (.bool b)
 | int {E : Env} (k : IntKind) (n : Int) : Rel E (.int k n) (.int k n)
 | str {E : Env} (s : ByteArray) : Rel E (.str s) (.string s)
 | nilp {E : Env} : Rel E .nilp (.pointer none)
 | nilf {E : Env} : Rel E .nilf .nilFunc
 | nils {E : Env} : Rel E .nils (.slice none 0 0)
 | ptr {E : Env} (nm st sz i off : Nat) (hu : E.u st) : Rel E (.ptr nm st sz i off) (.pointer (some ⟨(E.m st).1, (E.m st).2 + i * sz + off, none⟩))
 | kp {E : Env} (cs : List AV) (off b o : Nat) (f : Nat -> Value) (hk : ∀ j : Nat, j < cs.length -> E.K b (o + j) = some (f j))
     (h1 : ∀ (j : Nat) (y : AV), cs[j]? = some y -> y.one = true) (hr : ∀ (j : Nat) (y : AV), cs[j]? = some y -> Rel E.cl y (f j)) :
     Rel E (.kp cs off) (.pointer (some ⟨b, o + off, none⟩))
 | lst0 {E : Env} (sz : Nat) (a : Option Addr) (cap : Nat) : Rel E (.lst sz []) (.slice a 0 cap)
 | lst {E : Env} (xs : List AV) (b o sz cap : Nat) (f : Nat -> Nat -> Value) (hcap : xs.length <= cap) (hsz : ∀ x ∈ xs, x.cells.length = sz)
     (hk : ∀ i j : Nat, i < xs.length -> j < sz -> E.K b (o + i * sz + j) = some (f i j))
     (h1 : ∀ (i : Nat) (x : AV), xs[i]? = some x -> ∀ (j : Nat) (y : AV), x.cells[j]? = some y -> y.one = true)
     (hr : ∀ (i : Nat) (x : AV), xs[i]? = some x -> ∀ (j : Nat) (y : AV), x.cells[j]? = some y -> Rel E.cl y (f i j)) :
     Rel E (.lst sz xs) (.slice (some ⟨b, o, none⟩) xs.length cap)
 | acc {E : Env} (nm st sz : Nat) (xs : List AV) (v : Value) (hu : E.u st) (hv : v = E.hd st) (h : Rel E (.lst sz xs) v) : Rel E (.acc nm st sz xs) v
 | sl {E : Env} (nm st sz off len cap : Nat) (a : Option Addr) (hu : E.u st) (hcap : len <= cap) (hc : off + cap <= E.cp st) (ha : 0 < cap -> a = some ⟨(E.m st).1, (E.m st).2 + off * sz, none⟩) (hm : cap <= maxLen := by first | assumption | omega | (simp only [maxLen] at *; omega)) :
     Rel E (.sl nm st sz off len) (.slice a len cap)
 | mp {E : Env} (nm st : Nat) (hu : E.u st) : Rel E (.mp nm st) (.map (some (E.m st).1))
 | fn {E : Env} (f : FuncId) (caps : List AV) (vs : Array Value) (hs : caps.length = vs.size) (hr : ∀ (j : Nat) (y : AV) (v : Value), caps[j]? = some y -> vs[j]? = some v -> Rel E y v) :
     Rel E (.fn f caps) (.func (.func f) #[] vs)
 | agg {E : Env} (cs : List AV) (vs : Array Value) (hs : cs.length = vs.size) (h1 : ∀ (j : Nat) (y : AV), cs[j]? = some y -> y.one = true)
     (hr : ∀ (j : Nat) (y : AV) (v : Value), cs[j]? = some y -> vs[j]? = some v -> Rel E y v) : Rel E (.agg cs) (.agg vs)
 | tup {E : Env} (cs : List AV) (vs : Array Value) (hs : cs.length = vs.size) (hr : ∀ (j : Nat) (y : AV) (v : Value), cs[j]? = some y -> vs[j]? = some v -> Rel E y v) :
     Rel E (.tup cs) (.tuple vs)
structure Env.le (E E' : Env) : Prop where
 K : ∀ b o v, E.K b o = some v -> E'.K b o = some v
 m : ∀ s, E.u s -> E'.m s = E.m s
 hd : ∀ s, E.u s -> E'.hd s = E.hd s
 cp : ∀ s, E.u s -> E'.cp s = E.cp s
 u : ∀ s, E.u s -> E'.u s
theorem Env.le.refl (E : Env) : E.le E := ⟨fun _ _ _ h => h, fun _ _ => rfl, fun _ _ => rfl, fun _ _ => rfl, fun _ h => h⟩
theorem Env.le.trans {E F G : Env} (h : E.le F) (k : F.le G) : E.le G :=
 ⟨fun b o v x => k.K b o v (h.K b o v x), fun s x => (k.m s (h.u s x)).trans (h.m s x), fun s x => (k.hd s (h.u s x)).trans (h.hd s x), fun s x => (k.cp s (h.u s x)).trans (h.cp s x), fun s x => k.u s (h.u s x)⟩
theorem Env.le.cl {E E' : Env} (h : E.le E') : E.cl.le E'.cl := ⟨h.K, fun _ x => x.elim, fun _ x => x.elim, fun _ x => x.elim, fun _ x => x.elim⟩
theorem Env.cl_le (E : Env) : E.cl.le E := ⟨fun _ _ _ h => h, fun _ x => x.elim, fun _ x => x.elim, fun _ x => x.elim, fun _ x => x.elim⟩
theorem Rel.mono {E E' : Env} (hE : E.le E') {x : AV} {v : Value} (h : Rel E x v) : Rel E' x v := by
 induction h generalizing E' with
 | junk v => exact .junk v
 | raw v => exact .raw v
 | bool b => exact .bool b
 | int k n => exact .int k n
 | str s => exact .str s
 | nilp => exact .nilp
 | nilf => exact .nilf
 | nils => exact .nils
 | ptr nm st sz i off hu => rw [<- hE.m st hu]; exact .ptr nm st sz i off (hE.u st hu)
 | kp cs off b o f hk h1 _ ih => exact .kp cs off b o f (fun j hj => hE.K _ _ _ (hk j hj)) h1 (fun j y hy => ih j y hy hE.cl)
 | lst0 sz a cap => exact .lst0 sz a cap
 | lst xs b o sz cap f hcap hsz hk h1 _ ih => exact .lst xs b o sz cap f hcap hsz (fun i j hi hj => hE.K _ _ _ (hk i j hi hj)) h1 (fun i x hx j y hy => ih i x hx j y hy hE.cl)
 | acc nm st sz xs v hu hv _ ih => exact .acc nm st sz xs v (hE.u st hu) (by rw [hE.hd st hu]; exact hv) (ih hE)
 | sl nm st sz off len cap a hu hcap hc ha => exact .sl nm st sz off len cap a (hE.u st hu) hcap (by rw [hE.cp st hu]; exact hc) (by rw [hE.m st hu]; exact ha)
 | mp nm st hu => have := Rel.mp (E := E') nm st (hE.u st hu); rw [hE.m st hu] at this; exact this
 | fn f caps vs hs _ ih => exact .fn f caps vs hs (fun j y v hy hv => ih j y v hy hv hE)
 | agg cs vs hs h1 _ ih => exact .agg cs vs hs h1 (fun j y v hy hv => ih j y v hy hv hE)
 | tup cs vs hs _ ih => exact .tup cs vs hs (fun j y v hy hv => ih j y v hy hv hE)
def AV.cl1 : AV -> Bool
 | .bool _ | .int _ _ | .str _ | .nilp | .nilf | .nils | .kp _ _ | .lst _ _ => true
 | .raw v => v.oneCell'
 | .fn _ [] => true
 | _ => false
theorem AV.one_of_cl1 {x : AV} (h : x.cl1 = true) : x.one = true := by
 cases x <;> first | rfl | exact h | (simp [AV.cl1] at h)
theorem Rel.of_cl1 {E E' : Env} (hK : ∀ b o v, E.K b o = some v -> E'.K b o = some v) {x : AV} {v : Value} (h : Rel E x v) (h1 : x.cl1 = true) : Rel E' x v := by
 have hE : E.cl.le E' := ⟨hK, fun _ x => x.elim, fun _ x => x.elim, fun _ x => x.elim, fun _ x => x.elim⟩
 have hE' : E.cl.le E'.cl := ⟨hK, fun _ x => x.elim, fun _ x => x.elim, fun _ x => x.elim, fun _ x => x.elim⟩
 cases h with
 | kp cs off b o f hk h1' hr => exact .kp cs off b o f (fun j hj => hK _ _ _ (hk j hj)) h1' (fun j y hy => (hr j y hy).mono hE')
 | lst0 sz a cap => exact .lst0 sz a cap
 | lst xs b o sz cap f hcap hsz hk h1' hr => exact .lst xs b o sz cap f hcap hsz (fun i j hi hj => hK _ _ _ (hk i j hi hj)) h1' (fun i x hx j y hy => (hr i x hx j y hy).mono hE')
 | fn f caps vs hs hr =>
   cases caps with
   | nil => exact .fn f [] vs hs (by simp)
   | cons c l => simp [AV.cl1] at h1
 | bool b => exact .bool b
 | int k n => exact .int k n
 | str s => exact .str s
 | nilp => exact .nilp
 | nilf => exact .nilf
 | nils => exact .nils
 | raw v => exact .raw v
 | _ => simp [AV.cl1] at h1
structure Blk where
 st : Nat
 sz : Nat
 es : List AV
structure Tok where
 st : Nat
 sz : Nat
 ty : TypeId
structure Hp where
 blk : Nat -> Option Blk
 tok : Nat -> Option Tok
def upd {α : Type} (f : Nat -> α) (i : Nat) (v : α) : Nat -> α := fun j => if j = i then v else f j
theorem upd_same {α : Type} (f : Nat -> α) (i : Nat) (v : α) : upd f i v i = v := by simp [upd]
theorem upd_ne {α : Type} (f : Nat -> α) (i : Nat) (v : α) (j : Nat) (h : j ≠ i) : upd f i v j = f j := by simp [upd, h]
def ElemOk (sz : Nat) (x : AV) : Prop := x.cells.length = sz /\ ∀ y ∈ x.cells, y.one = true
structure RowOk (E : Env) (B : Nat) (w : World) (st sz : Nat) (es : List AV) : Prop where
 base : B <= (E.m st).1
 el : ∀ x ∈ es, ElemOk sz x
 len : es.length <= E.cp st
 row : ∃ cur e, w.heap[(E.m st).1]? = some (.cells cur e (0, 0)) /\ (E.m st).2 + E.cp st * sz <= cur.size /\
   ∀ (i : Nat) (x : AV), es[i]? = some x -> ∀ (j : Nat) (y : AV), x.cells[j]? = some y -> ∃ u, cur[(E.m st).2 + i * sz + j]? = some u /\ Rel E y u
 noK : ∀ j, E.K (E.m st).1 j = none
def EntsRel (E : Env) : List AV -> List MapEntry -> Prop
 | [], [] => True
 | x :: xs, m :: ms => (∃ (k : IntKind) (a : Int) (z : AV), x = .agg [.int k a, z] /\ m.key = .int k a /\ z.one = true /\ Rel E z m.val) /\ EntsRel E xs ms
 | _, _ => False
theorem EntsRel.imp {E E' : Env} (h : ∀ (z : AV) (v : Value), Rel E z v -> Rel E' z v) : ∀ {xs : List AV} {ms : List MapEntry}, EntsRel E xs ms -> EntsRel E' xs ms
 | [], [], _ => trivial
 | x :: xs, m :: ms, ⟨⟨k, a, z, h1, h2, h3, h4⟩, h5⟩ => ⟨⟨k, a, z, h1, h2, h3, h _ _ h4⟩, EntsRel.imp h h5⟩
structure MapOk (E : Env) (B : Nat) (w : World) (st : Nat) (es : List AV) : Prop where
 base : B <= (E.m st).1
 mp : ∃ arr clock, w.heap[(E.m st).1]? = some (.map arr clock) /\ EntsRel E es arr.toList
 noK : ∀ j, E.K (E.m st).1 j = none
inductive BlkOk (E : Env) (B : Nat) (w : World) (st sz : Nat) (es : List AV) : Prop where
 | row (h0 : sz ≠ 0) (h : RowOk E B w st sz es)
 | map (h0 : sz = 0) (h : MapOk E B w st es)
theorem BlkOk.r {E : Env} {B : Nat} {w : World} {st sz : Nat} {es : List AV} (h : BlkOk E B w st sz es) (h0 : sz ≠ 0) : RowOk E B w st sz es := by
 cases h with
 | row _ h => exact h
 | map h1 _ => exact absurd h1 h0
theorem BlkOk.mp {E : Env} {B : Nat} {w : World} {st : Nat} {es : List AV} (h : BlkOk E B w st 0 es) : MapOk E B w st es := by
 cases h with
 | row h1 _ => exact absurd rfl h1
 | map _ h => exact h
theorem BlkOk.rc {E : Env} {B : Nat} {w : World} {st sz : Nat} {es : List AV} (h : BlkOk E B w st sz es) {cur : Array Value} {e : TypeId} {p : Nat × Nat} (hg : w.heap[(E.m st).1]? = some (.cells cur e p)) : sz ≠ 0 /\ RowOk E B w st sz es := by
 cases h with
 | row h0 h => exact ⟨h0, h⟩
 | map _ h => obtain ⟨_, _, h1, _⟩ := h.mp; rw [hg] at h1; cases h1
theorem BlkOk.base {E : Env} {B : Nat} {w : World} {st sz : Nat} {es : List AV} (h : BlkOk E B w st sz es) : B <= (E.m st).1 := by
 cases h with
 | row _ h => exact h.base
 | map _ h => exact h.base
theorem BlkOk.noK {E : Env} {B : Nat} {w : World} {st sz : Nat} {es : List AV} (h : BlkOk E B w st sz es) : ∀ j, E.K (E.m st).1 j = none := by
 cases h with
 | row _ h => exact h.noK
 | map _ h => exact h.noK
def FzOk (sz : Nat) (fz : Nat × Nat) (n : Nat) : Prop := fz = (0, 0) \/ (sz = 1 /\ n <= fz.1)
def OwnsM (w : World) (base : Nat) (e : TypeId) (size : Nat) (v : Value) (n : Nat) (xs : List Value) : Prop :=
 xs.length = n * size /\
 ((v = .slice none 0 0 /\ n = 0) \/
  ∃ g cap cur fz, v = .slice (some ⟨g, 0, none⟩) n cap /\ base <= g /\ w.heap[g]? = some (.cells cur e fz) /\ FzOk size fz cur.size /\ n <= cap /\ cap <= maxLen /\ cur.size = cap * size /\ cur.toList.take (n * size) = xs)
theorem OwnsM.of {w : World} {B : Nat} {e : TypeId} {sz n : Nat} {v : Value} {xs : List Value} (h : w.ownsRow B e sz v n xs) : OwnsM w B e sz v n xs := by
 refine ⟨h.1, ?_⟩
 rcases h.2 with h2 | ⟨g, cap, cur, h2, hb, hg, r⟩
 . exact .inl h2
 . exact .inr ⟨g, cap, cur, (0, 0), h2, hb, hg, .inl rfl, r⟩
theorem OwnsM.nil (w : World) (B : Nat) (e : TypeId) (sz : Nat) : OwnsM w B e sz (.slice none 0 0) 0 [] := ⟨by simp, .inl ⟨rfl, rfl⟩⟩
theorem OwnsM.lt {w : World} {B : Nat} {e : TypeId} {sz n : Nat} {v : Value} {xs : List Value} (h : OwnsM w B e sz v n xs) : ∀ k, v.ownBlock = some k -> B <= k /\ k < w.heap.size := by
 intro k hk
 rcases h.2 with ⟨rfl, _⟩ | ⟨g, cap, cur, fz, rfl, hb, hg, _⟩
 . simp [Value.ownBlock] at hk
 . simp [Value.ownBlock] at hk
   subst hk
   exact ⟨hb, (Array.getElem?_eq_some_iff.1 hg).1⟩
theorem OwnsM.cells {w : World} {B : Nat} {e : TypeId} {sz n : Nat} {v : Value} {xs : List Value} (h : OwnsM w B e sz v n xs) {g : Nat} (hg : v.ownBlock = some g) : ∀ j u, xs[j]? = some u -> w.cell? ((⟨g, 0, none⟩ : Addr).add j) = some u := by
 intro j u hu
 rcases h.2 with ⟨rfl, _⟩ | ⟨g', cap, cur, fz, rfl, _, hgg, _, _, _, _, ht⟩
 . simp [Value.ownBlock] at hg
 . simp [Value.ownBlock] at hg
   subst hg
   have hadd : (⟨g', 0, none⟩ : Addr).add j = ⟨g', j, none⟩ := by unfold Addr.add; split <;> simp_all
   rw [hadd, cell_of_row w g' j cur e fz hgg]
   rw [<- ht, List.getElem?_take] at hu
   split at hu
   . simpa using hu
   . cases hu
def TokOk (E : Env) (B : Nat) (w : World) (sz : Nat) (ty : TypeId) (v : Value) : Prop :=
 ∃ n cs, OwnsM w B ty sz v n cs /\ ∀ g j, v.ownBlock = some g -> n * sz <= j -> E.K g j = none
structure HConc (E : Env) (B : Nat) (h : Hp) (w : World) : Prop where
 K : ∀ b o v, E.K b o = some v -> w.cell? ⟨b, o, none⟩ = some v
 bu : ∀ nm b, h.blk nm = some b -> E.u b.st
 bk : ∀ nm b, h.blk nm = some b -> BlkOk E B w b.st b.sz b.es
 tu : ∀ nm t, h.tok nm = some t -> E.u t.st
 tk : ∀ nm t, h.tok nm = some t -> TokOk E B w t.sz t.ty (E.hd t.st)
 bb : ∀ nm nm' b b', nm ≠ nm' -> h.blk nm = some b -> h.blk nm' = some b' -> (E.m b.st).1 ≠ (E.m b'.st).1
 bt : ∀ nm nm' b t, h.blk nm = some b -> h.tok nm' = some t -> (E.hd t.st).ownBlock ≠ some (E.m b.st).1
 tt : ∀ nm nm' t t' g, nm ≠ nm' -> h.tok nm = some t -> h.tok nm' = some t' -> (E.hd t.st).ownBlock = some g -> (E.hd t'.st).ownBlock ≠ some g
theorem BlkOk.same {E : Env} {B : Nat} {w w' : World} {st sz : Nat} {es : List AV} (h : BlkOk E B w st sz es) (hw : w'.heap[(E.m st).1]? = w.heap[(E.m st).1]?) : BlkOk E B w' st sz es :=
 by
 cases h with
 | row h0 h => exact .row h0 ⟨h.base, h.el, h.len, by rw [hw]; exact h.row, h.noK⟩
 | map h0 h => exact .map h0 ⟨h.base, by rw [hw]; exact h.mp, h.noK⟩
theorem OwnsM.at {w w' : World} {B sz n : Nat} {ty : TypeId} {v : Value} {cs : List Value} (h : OwnsM w B ty sz v n cs) (hw : ∀ g, v.ownBlock = some g -> w'.heap[g]? = w.heap[g]?) : OwnsM w' B ty sz v n cs := by
 obtain ⟨h1, h2⟩ := h
 refine ⟨h1, ?_⟩
 rcases h2 with h2 | ⟨g, cap, cur, fz, rfl, hb, hg, r⟩
 . exact .inl h2
 . exact .inr ⟨g, cap, cur, fz, rfl, hb, by rw [hw g rfl]; exact hg, r⟩
theorem TokOk.same {E : Env} {B : Nat} {w w' : World} {sz : Nat} {ty : TypeId} {v : Value} (h : TokOk E B w sz ty v) (hw : ∀ g, v.ownBlock = some g -> w'.heap[g]? = w.heap[g]?) : TokOk E B w' sz ty v := by
 obtain ⟨n, cs, h1, h2⟩ := h
 exact ⟨n, cs, OwnsM.at h1 hw, h2⟩
theorem HConc.change {E : Env} {B : Nat} {h : Hp} {w w' : World} (H : HConc E B h w) (hK : ∀ b o v, E.K b o = some v -> w'.cell? ⟨b, o, none⟩ = some v)
   (hb : ∀ nm b, h.blk nm = some b -> w'.heap[(E.m b.st).1]? = w.heap[(E.m b.st).1]?)
   (ht : ∀ nm t g, h.tok nm = some t -> (E.hd t.st).ownBlock = some g -> w'.heap[g]? = w.heap[g]?) : HConc E B h w' :=
 ⟨hK, H.bu, fun nm b hn => (H.bk nm b hn).same (hb nm b hn), H.tu, fun nm t hn => (H.tk nm t hn).same (fun g hg => ht nm t g hn hg), H.bb, H.bt, H.tt⟩
theorem BlkOk.lt {E : Env} {B : Nat} {w : World} {st sz : Nat} {es : List AV} (h : BlkOk E B w st sz es) : (E.m st).1 < w.heap.size := by
 cases h with
 | row _ h => obtain ⟨cur, e, hg, _⟩ := h.row; exact (Array.getElem?_eq_some_iff.1 hg).1
 | map _ h => obtain ⟨arr, c, hg, _⟩ := h.mp; exact (Array.getElem?_eq_some_iff.1 hg).1
theorem TokOk.lt {E : Env} {B : Nat} {w : World} {sz : Nat} {ty : TypeId} {v : Value} (h : TokOk E B w sz ty v) {g : Nat} (hg : v.ownBlock = some g) : B <= g /\ g < w.heap.size := by
 obtain ⟨n, cs, h1, _⟩ := h
 exact h1.lt g hg
theorem HConc.grow {E : Env} {B : Nat} {h : Hp} {w w' : World} (H : HConc E B h w) (hw : ∀ k, k < w.heap.size -> w'.heap[k]? = w.heap[k]?) : HConc E B h w' :=
 H.change (fun b o v hv => by
     have := H.K b o v hv
     have hlt := World.block_lt_of_cell? w _ this
     rw [World.cell?_of_block (w := w) (hw b hlt)]; exact this)
   (fun nm b hn => hw _ (H.bk nm b hn).lt) (fun nm t g hn hg => hw _ ((H.tk nm t hn).lt hg).2)
theorem HConc.sub {E : Env} {B : Nat} {h h' : Hp} {w : World} (H : HConc E B h w) (hb : ∀ nm b, h'.blk nm = some b -> h.blk nm = some b) (ht : ∀ nm t, h'.tok nm = some t -> h.tok nm = some t) : HConc E B h' w :=
 ⟨H.K, fun nm b x => H.bu nm b (hb _ _ x), fun nm b x => H.bk nm b (hb _ _ x), fun nm b x => H.tu nm b (ht _ _ x), fun nm b x => H.tk nm b (ht _ _ x),
  fun nm nm' b b' hn x y => H.bb nm nm' b b' hn (hb _ _ x) (hb _ _ y), fun nm nm' b t x y => H.bt nm nm' b t (hb _ _ x) (ht _ _ y),
  fun nm nm' t t' g hn x y => H.tt nm nm' t t' g hn (ht _ _ x) (ht _ _ y)⟩
theorem HConc.env {E E' : Env} {B : Nat} {h : Hp} {w : World} (H : HConc E B h w) (hE : E.le E') (hK : ∀ b o v, E'.K b o = some v -> w.cell? ⟨b, o, none⟩ = some v)
   (hb : ∀ nm b, h.blk nm = some b -> ∀ j, E'.K (E.m b.st).1 j = none)
   (ht : ∀ nm t g, h.tok nm = some t -> (E.hd t.st).ownBlock = some g -> ∀ j, E'.K g j = E.K g j) : HConc E' B h w := by
 refine ⟨hK, fun nm b x => hE.u _ (H.bu nm b x), ?_, fun nm b x => hE.u _ (H.tu nm b x), ?_, ?_, ?_, ?_⟩
 . intro nm b x
   have hk := H.bk nm b x
   have em := hE.m _ (H.bu nm b x)
   have ec := hE.cp _ (H.bu nm b x)
   cases hk with
   | row h0 hk =>
     refine .row h0 ⟨by rw [em]; exact hk.base, hk.el, by rw [ec]; exact hk.len, ?_, by rw [em]; exact hb nm b x⟩
     rw [em, ec]
     obtain ⟨cur, e, h1, h2, h3⟩ := hk.row
     exact ⟨cur, e, h1, h2, fun i y hy j z hz => let ⟨u, hu, hr⟩ := h3 i y hy j z hz; ⟨u, hu, hr.mono hE⟩⟩
   | map h0 hk =>
     obtain ⟨arr, c, h1, h2⟩ := hk.mp
     exact .map h0 ⟨by rw [em]; exact hk.base, ⟨arr, c, by rw [em]; exact h1, h2.imp fun z v hz => hz.mono hE⟩, by rw [em]; exact hb nm b x⟩
 . intro nm t x
   rw [hE.hd _ (H.tu nm t x)]
   obtain ⟨n, cs, h1, h2⟩ := H.tk nm t x
   exact ⟨n, cs, h1, fun g j hg hj => by rw [ht nm t g x hg]; exact h2 g j hg hj⟩
 . intro nm nm' b b' hn x y
   rw [hE.m _ (H.bu _ _ x), hE.m _ (H.bu _ _ y)]
   exact H.bb nm nm' b b' hn x y
 . intro nm nm' b t x y
   rw [hE.m _ (H.bu _ _ x), hE.hd _ (H.tu _ _ y)]
   exact H.bt nm nm' b t x y
 . intro nm nm' t t' g hn x y
   rw [hE.hd _ (H.tu _ _ x), hE.hd _ (H.tu _ _ y)]
   exact H.tt nm nm' t t' g hn x y
def Env.withM (E : Env) (st : Nat) (p : Nat × Nat) (c : Nat) : Env := { E with m := upd E.m st p, cp := upd E.cp st c, u := fun s => s = st \/ E.u s }
def Env.withHd (E : Env) (st : Nat) (v : Value) : Env := { E with hd := upd E.hd st v, u := fun s => s = st \/ E.u s }
def Env.withK (E : Env) (K : Nat -> Nat -> Option Value) : Env := { E with K := K }
theorem Env.le_withM {E : Env} {st : Nat} (h : ¬ E.u st) (p : Nat × Nat) (c : Nat) : E.le (E.withM st p c) :=
 ⟨fun _ _ _ h => h, fun s hs => upd_ne _ _ _ _ (fun e => h (e ▸ hs)), fun _ _ => rfl, fun s hs => upd_ne _ _ _ _ (fun e => h (e ▸ hs)), fun _ h => .inr h⟩
theorem Env.le_withHd {E : Env} {st : Nat} (h : ¬ E.u st) (v : Value) : E.le (E.withHd st v) :=
 ⟨fun _ _ _ h => h, fun _ _ => rfl, fun s hs => upd_ne _ _ _ _ (fun e => h (e ▸ hs)), fun _ _ => rfl, fun _ h => .inr h⟩
theorem Env.le_withK {E : Env} {K : Nat -> Nat -> Option Value} (h : ∀ b o v, E.K b o = some v -> K b o = some v) : E.le (E.withK K) :=
 ⟨h, fun _ _ => rfl, fun _ _ => rfl, fun _ _ => rfl, fun _ h => h⟩
def Hp.setB (h : Hp) (nm : Nat) (b : Option Blk) : Hp := ⟨upd h.blk nm b, h.tok⟩
def Hp.setT (h : Hp) (nm : Nat) (t : Option Tok) : Hp := ⟨h.blk, upd h.tok nm t⟩
theorem HConc.dropB {E : Env} {B : Nat} {h : Hp} {w : World} (H : HConc E B h w) (nm : Nat) : HConc E B (h.setB nm none) w :=
 H.sub (fun n b x => by simp only [Hp.setB, upd] at x; split at x <;> simp_all) (fun _ _ x => x)
theorem HConc.dropT {E : Env} {B : Nat} {h : Hp} {w : World} (H : HConc E B h w) (nm : Nat) : HConc E B (h.setT nm none) w :=
 H.sub (fun _ _ x => x) (fun n b x => by simp only [Hp.setT, upd] at x; split at x <;> simp_all)
theorem HConc.putB {nm : Nat} {E : Env} {B : Nat} {h : Hp} {w : World} (H : HConc E B (h.setB nm none) w) (b : Blk) (hu : E.u b.st) (hb : BlkOk E B w b.st b.sz b.es)
   (h1 : ∀ n b', n ≠ nm -> h.blk n = some b' -> (E.m b'.st).1 ≠ (E.m b.st).1) (h2 : ∀ n t, h.tok n = some t -> (E.hd t.st).ownBlock ≠ some (E.m b.st).1) : HConc E B (h.setB nm (some b)) w := by
 have key : ∀ n b', (h.setB nm (some b)).blk n = some b' -> (n = nm /\ b' = b) \/ (n ≠ nm /\ h.blk n = some b' /\ (h.setB nm none).blk n = some b') := by
   intro n b' x
   simp only [Hp.setB, upd] at x ⊢
   by_cases e : n = nm
   . simp [e] at x; exact .inl ⟨e, x.symm⟩
   . simp [e] at x; exact .inr ⟨e, x, by simp [e, x]⟩
 refine ⟨H.K, ?_, ?_, H.tu, H.tk, ?_, ?_, H.tt⟩
 . intro n b' x
   rcases key n b' x with ⟨_, rfl⟩ | ⟨_, _, y⟩
   . exact hu
   . exact H.bu n b' y
 . intro n b' x
   rcases key n b' x with ⟨_, rfl⟩ | ⟨_, _, y⟩
   . exact hb
   . exact H.bk n b' y
 . intro n n' b' b'' hn x x'
   rcases key n b' x with ⟨e, rfl⟩ | ⟨e, hy, y⟩ <;> rcases key n' b'' x' with ⟨e', rfl⟩ | ⟨e', hy', y'⟩
   . exact absurd (e.trans e'.symm) hn
   . exact fun q => h1 n' b'' e' hy' q.symm
   . exact h1 n b' e hy
   . exact H.bb n n' b' b'' hn y y'
 . intro n n' b' t x x'
   rcases key n b' x with ⟨e, rfl⟩ | ⟨e, hy, y⟩
   . exact h2 n' t x'
   . exact H.bt n n' b' t y x'
theorem HConc.putT {nm : Nat} {E : Env} {B : Nat} {h : Hp} {w : World} (H : HConc E B (h.setT nm none) w) (t : Tok) (hu : E.u t.st) (ht : TokOk E B w t.sz t.ty (E.hd t.st))
   (h1 : ∀ n b, h.blk n = some b -> (E.hd t.st).ownBlock ≠ some (E.m b.st).1) (h2 : ∀ n t' g, n ≠ nm -> h.tok n = some t' -> (E.hd t'.st).ownBlock = some g -> (E.hd t.st).ownBlock ≠ some g) : HConc E B (h.setT nm (some t)) w := by
 have key : ∀ n b', (h.setT nm (some t)).tok n = some b' -> (n = nm /\ b' = t) \/ (n ≠ nm /\ h.tok n = some b' /\ (h.setT nm none).tok n = some b') := by
   intro n b' x
   simp only [Hp.setT, upd] at x ⊢
   by_cases e : n = nm
   . simp [e] at x; exact .inl ⟨e, x.symm⟩
   . simp [e] at x; exact .inr ⟨e, x, by simp [e, x]⟩
 refine ⟨H.K, H.bu, H.bk, ?_, ?_, H.bb, ?_, ?_⟩
 . intro n b' x
   rcases key n b' x with ⟨_, rfl⟩ | ⟨_, _, y⟩
   . exact hu
   . exact H.tu n b' y
 . intro n b' x
   rcases key n b' x with ⟨_, rfl⟩ | ⟨_, _, y⟩
   . exact ht
   . exact H.tk n b' y
 . intro n n' b t' x x'
   rcases key n' t' x' with ⟨e, rfl⟩ | ⟨e, hy, y⟩
   . exact h1 n b x
   . exact H.bt n n' b t' x y
 . intro n n' t1 t2 g hn x x' hg
   rcases key n t1 x with ⟨e, rfl⟩ | ⟨e, hy, y⟩ <;> rcases key n' t2 x' with ⟨e', rfl⟩ | ⟨e', hy', y'⟩
   . exact absurd (e.trans e'.symm) hn
   . exact fun q => h2 n' t2 g e' hy' q hg
   . exact h2 n t1 g e hy hg
   . exact H.tt n n' t1 t2 g hn y y' hg
theorem Rel.bool_inv {E : Env} {b : Bool} {v : Value} (h : Rel E (.bool b) v) : v = .bool b := by cases h; rfl
theorem Rel.int_inv {E : Env} {k : IntKind} {n : Int} {v : Value} (h : Rel E (.int k n) v) : v = .int k n := by cases h; rfl
theorem Rel.str_inv {E : Env} {s : ByteArray} {v : Value} (h : Rel E (.str s) v) : v = .string s := by cases h; rfl
theorem Rel.nils_inv {E : Env} {v : Value} (h : Rel E .nils v) : v = .slice none 0 0 := by cases h; rfl
theorem Rel.one {E : Env} {x : AV} {v : Value} (h : Rel E x v) (h1 : x.one = true) : v.oneCell' = true := by
 cases h <;> first
   | rfl
   | exact h1
   | (simp [AV.one] at h1; done)
   | (rename_i h; cases h <;> rfl)
theorem AV.cells_one {x : AV} (h : x.one = true) : x.cells = [x] := by
 cases x <;> first | rfl | (simp [AV.one] at h)
theorem Value.cells_one {v : Value} (h : v.oneCell' = true) : v.cells = #[v] := by
 cases v <;> first | rfl | (simp [Value.oneCell'] at h)
theorem Rel.cells {E : Env} {x : AV} {v : Value} (h : Rel E x v) (h1 : ∀ y ∈ x.cells, y.one = true) :
   v.cells.size = x.cells.length /\ ∀ (j : Nat) (y : AV), x.cells[j]? = some y -> ∃ u, v.cells[j]? = some u /\ Rel E y u /\ u.oneCell' = true := by
 by_cases hx : x.one = true
 . have e1 := AV.cells_one hx
   have hv := h.one hx
   rw [e1, Value.cells_one hv]
   refine ⟨rfl, fun j y hy => ?_⟩
   cases j with
   | zero => simp at hy; subst hy; exact ⟨v, rfl, h, hv⟩
   | succ j => simp at hy
 . cases h with
   | agg cs vs hs h1' hr =>
     refine ⟨hs.symm, fun j y hy => ?_⟩
     have hy' : cs[j]? = some y := hy
     have hj : j < vs.size := by rw [<- hs]; exact (List.getElem?_eq_some_iff.1 hy').1
     refine ⟨vs[j], Array.getElem?_eq_getElem hj, hr j y _ hy' (Array.getElem?_eq_getElem hj), (hr j y _ hy' (Array.getElem?_eq_getElem hj)).one (h1' j y hy')⟩
   | tup cs vs hs hr => have := h1 (.tup cs) (by simp [AV.cells]); simp [AV.one] at this
   | junk v => have := h1 .junk (by simp [AV.cells]); simp [AV.one] at this
   | raw v => have := h1 (.raw v) (by simp [AV.cells]); exact absurd this hx
   | _ => simp [AV.one] at hx
end Go.Gv

namespace Go.Gv
open Go.RowKit
inductive X where
 | t (n : Nat)
 | c (v : AV)
inductive AOp where
 | mv (x : X)
 | pick (c a b : X)
 | new (nm sz : Nat) (z : AV)
 | box (nm sz : Nat) (x : X)
 | build (zero : List AV) (parts : List (Nat × Nat × X))
 | bsl (nm sz : Nat) (ty : TypeId) (len : Nat) (z : AV) (parts : List (Nat × X))
 | load (agg : Option Nat) (x : X)
 | store (n : Nat) (a x : X)
 | ibin (op : BinOp) (x y : X)
 | eqv (neg : Bool) (x y : X)
 | eqs (ks : List Bool) (neg : Bool) (x y : X)
 | not (x : X)
 | neg (x : X)
 | len (x : X)
 | slen (x : X)
 | app (nm sz : Nat) (ty : TypeId) (byt : Nat) (s x : X)
 | appw (nm sz : Nat) (ty : TypeId) (byt : Nat) (s x : X)
 | slice (sz : Option Nat) (x : X) (lo hi : Option X)
 | fld (off : Nat) (x : X)
 | getf (agg : Option Nat) (off : Nat) (x : X)
 | idx (sz : Nat) (x i : X)
 | ext (x : X) (i : Nat)
 | conv (k : IntKind) (x : X)
 | mkf (f : FuncId) (caps : List X)
 | msl (nm sz byt : Nat) (z : AV) (l : X)
 | mm (max : Bool) (x : X) (l : List X)
 | bslm (nm sz : Nat) (ty : TypeId) (len : Nat) (z : AV) (parts : List (Nat × X))
 | cpy (sz : Nat) (x y : X)
 | shift (l : Bool) (x y : X)
 | sbin (op : BinOp) (x y : X)
 | nilq (kd : Nat) (neg : Bool) (x : X)
 | nilck (x : X)
 | mkm (nm : Nat)
 | mget (k : IntKind) (z : AV) (m x : X)
 | mput (m x v : X)
 | mark (x : X)
 | bys (x : X)
 | bad
inductive AK where
 | op (o : AOp)
 | call (f : X) (args : List X)
 | nq (kd : Nat) (neg : Bool) (x : X)
structure AI where
 dst : Option Nat
 g : Option (Nat × Bool)
 k : AK
abbrev oA (d : Nat) (x : AOp) : AI := ⟨some d, none, .op x⟩
abbrev oN (x : AOp) : AI := ⟨none, none, .op x⟩
abbrev oG (d g : Nat) (b : Bool) (x : AOp) : AI := ⟨some d, some (g, b), .op x⟩
abbrev oC (d : Nat) (f : X) (l : List X) : AI := ⟨some d, none, .call f l⟩
abbrev oM (d n : Nat) : AI := oA d (.mv (.t n))
abbrev oL (d n : Nat) : AI := oA d (.load none (.t n))
abbrev oF (d k n : Nat) : AI := oA d (.fld k (.t n))
abbrev oI (d : Nat) (z : Int) : AI := oA d (.mv (.c (.int .i64 z)))
abbrev oE (d n k : Nat) : AI := oA d (.ext (.t n) k)
abbrev oK (d n : Nat) : AI := oA d (.len (.t n))
abbrev oH (d n : Nat) : AI := oA d (.nilck (.t n))
abbrev oB (d : Nat) (o : BinOp) (a b : Nat) : AI := oA d (.ibin o (.t a) (.t b))
abbrev oZ (d : Nat) (o : BinOp) (a : Nat) (z : Int) : AI := oA d (.ibin o (.t a) (.c (.int .i64 z)))
abbrev gM (d g : Nat) (b : Bool) (n : Nat) : AI := oG d g b (.mv (.t n))
abbrev gL (d g : Nat) (b : Bool) (n : Nat) : AI := oG d g b (.load none (.t n))
abbrev gF (d g : Nat) (b : Bool) (k n : Nat) : AI := oG d g b (.fld k (.t n))
inductive AC where
 | skip
 | seq (a b : AC)
 | cond (c : X) (a b : AC)
 | block (id : Nat) (a : AC)
 | loop (a : AC)
 | exit (id : Nat)
 | ret
 | reg (ops : List AI)
 | regd (ops : List AI) (pre : List (List Nat))
 | regi (ops : List AI) (pre : List (List Nat))
 | gh (a : AC)
 | bad
structure St where
 t : Nat -> AV
 blk : Nat -> Option Blk
 tok : Nat -> Option Tok
 clk : Nat
def St.h (S : St) : Hp := ⟨S.blk, S.tok⟩
def X.ev (f : Nat -> AV) : X -> AV
 | .t n => f n
 | .c v => v
structure Eff where
 v : AV
 wb : List (Nat × Option Blk) := []
 wt : List (Nat × Option Tok) := []
def appB : (Nat -> Option Blk) -> List (Nat × Option Blk) -> (Nat -> Option Blk)
 | f, [] => f
 | f, (n, b) :: l => appB (upd f n b) l
def appT : (Nat -> Option Tok) -> List (Nat × Option Tok) -> (Nat -> Option Tok)
 | f, [] => f
 | f, (n, b) :: l => appT (upd f n b) l
def Hp.app (h : Hp) (e : Eff) : Hp := ⟨appB h.blk e.wb, appT h.tok e.wt⟩
def getB (blk : Nat -> Option Blk) (nm st sz : Nat) : Option (List AV) :=
 match blk nm with
 | some b => if b.st = st /\ b.sz = sz /\ sz ≠ 0 then some b.es else none
 | none => none
def cellsAt (blk : Nat -> Option Blk) : AV -> Option (List AV × Nat)
 | .ptr nm st sz i off => (getB blk nm st sz).bind fun es => (es[i]?).map fun x => (x.cells, off)
 | .kp cs off => some (cs, off)
 | _ => none
def ldOne (blk : Nat -> Option Blk) (a : AV) : Option AV := (cellsAt blk a).bind fun p => p.1[p.2]?
def ldAgg (blk : Nat -> Option Blk) (n : Nat) (a : AV) : Option AV :=
 (cellsAt blk a).bind fun p => if p.2 + n <= p.1.length then some (.agg ((p.1.drop p.2).take n)) else none
def setCells (x : AV) (off : Nat) (vs : List AV) : AV :=
 match x with
 | .agg cs => .agg (cs.take off ++ vs ++ cs.drop (off + vs.length))
 | _ => match vs with
   | [v] => v
   | _ => .junk
def getM (blk : Nat -> Option Blk) (nm st : Nat) : Option (List AV) :=
 match blk nm with
 | some b => if b.st = st /\ b.sz = 0 then some b.es else none
 | none => none
def findM (k : IntKind) (a : Int) : List AV -> Option (Option AV)
 | [] => some none
 | .agg [.int k' b, z] :: l => if k = k' then (if a = b then some (some z) else findM k a l) else none
 | _ => none
def listOf (blk : Nat -> Option Blk) (sz : Nat) : AV -> Option (List AV)
 | .nils => some []
 | .lst s xs => if s = sz then some xs else none
 | .acc _ _ s xs => if s = sz then some xs else none
 | .sl nm st s off len => if s = sz then (getB blk nm st s).bind fun es => if off + len <= es.length /\ (((es.drop off).take len).all fun x => x.cells.all AV.cl1) = true then some ((es.drop off).take len) else none else none
 | _ => none
def lenOf : AV -> Option Nat
 | .nils => some 0
 | .lst _ xs => some xs.length
 | .acc _ _ _ xs => some xs.length
 | .sl _ _ _ _ len => some len
 | _ => none
def appBase (tok : Nat -> Option Tok) (sz : Nat) (ty : TypeId) : AV -> Option (List AV × Option Nat)
 | .nils => some ([], none)
 | .acc nm st s xs => match tok nm with
   | some t => if t.st = st /\ t.sz = sz /\ s = sz /\ t.ty = ty then some (xs, some nm) else none
   | none => none
 | _ => none
def listM (blk : Nat -> Option Blk) (sz : Nat) : AV -> Option (List AV)
 | .nils => some []
 | .lst s xs => if s = sz then some xs else none
 | .acc _ _ s xs => if s = sz then some xs else none
 | .sl nm st s off len => if s = sz then (getB blk nm st s).bind fun es => if off + len <= es.length then some ((es.drop off).take len) else none else none
 | _ => none
def appwBase (blk : Nat -> Option Blk) (sz : Nat) : AV -> Option (List AV × Option Nat)
 | .nils => some ([], none)
 | .sl nm st s off len => if s = sz then (getB blk nm st s).bind fun es => if off + len <= es.length then some ((es.drop off).take len, some nm) else none else none
 | _ => none
def nilA : Nat -> AV -> Option Bool
 | 0, .nils => some true
 | 0, .lst _ (_ :: _) => some false
 | 0, .acc _ _ _ (_ :: _) => some false
 | 0, .sl _ _ _ _ len => if 0 < len then some false else none
 | 1, .nilp => some true
 | 1, .ptr _ _ _ _ _ => some false
 | 1, .kp _ _ => some false
 | 2, .nilf => some true
 | 2, .fn _ _ => some false
 | _, _ => none
def norm1 : AV -> AV
 | .acc _ _ sz xs => .lst sz xs
 | v => v
def normE : AV -> AV
 | .agg cs => .agg (cs.map norm1)
 | v => norm1 v
def fillA (sz : Nat) : List AV -> List (Nat × List AV) -> Option (List AV)
 | cs, [] => some cs
 | cs, (off, vs) :: l => if off + vs.length <= cs.length /\ vs.all AV.one = true then fillA sz (cs.take off ++ vs ++ cs.drop (off + vs.length)) l else none
def bitAnd (k : IntKind) (a b : Int) : Int := k.wrap (BitVec.ofInt k.bits a &&& BitVec.ofInt k.bits b).toNat
def bitOr (k : IntKind) (a b : Int) : Int := k.wrap (BitVec.ofInt k.bits a ||| BitVec.ofInt k.bits b).toNat
def bitXor (k : IntKind) (a b : Int) : Int := k.wrap (BitVec.ofInt k.bits a ^^^ BitVec.ofInt k.bits b).toNat
def bitAndNot (k : IntKind) (a b : Int) : Int := k.wrap (BitVec.ofInt k.bits a &&& ~~~BitVec.ofInt k.bits b).toNat
def strOf : List AV -> Option (List UInt8)
 | [] => some []
 | .int .u8 n :: l => if 0 <= n /\ n < 256 then (strOf l).map fun r => UInt8.ofNat n.toNat :: r else none
 | _ => none
def strEq (a b : ByteArray) : Bool := a.toList == b.toList
@[simp] def sbinV : BinOp -> ByteArray -> ByteArray -> Option AV
 | .add, a, b => if a.size + b.size <= 9223372036854775807 then some (.str (a ++ b)) else none
 | .eql, a, b => some (.bool (strEq a b))
 | .neq, a, b => some (.bool (!strEq a b))
 | _, _, _ => none
def shiftI (l : Bool) (k : IntKind) (a b : Int) : Int := if l = true then k.wrap (a * 2 ^ (min b.toNat k.bits)) else a.fdiv (2 ^ (min b.toNat k.bits))
def intBin (op : BinOp) (k : IntKind) (a b : Int) : Option AV :=
 match op with
 | .add => some (.int k (k.wrap (a + b)))
 | .sub => some (.int k (k.wrap (a - b)))
 | .mul => some (.int k (k.wrap (a * b)))
 | .quo => if b = 0 then none else some (.int k (k.wrap (a.tdiv b)))
 | .rem => if b = 0 then none else some (.int k (a.tmod b))
 | .and => some (.int k (bitAnd k a b))
 | .or => some (.int k (bitOr k a b))
 | .xor => some (.int k (bitXor k a b))
 | .andNot => some (.int k (bitAndNot k a b))
 | .eql => some (.bool (a == b))
 | .neq => some (.bool (a != b))
 | .lss => some (.bool (decide (a < b)))
 | .leq => some (.bool (decide (a <= b)))
 | .gtr => some (.bool (decide (a > b)))
 | .geq => some (.bool (decide (a >= b)))
 | _ => none
def eq1 : Bool -> AV -> AV -> Option Bool
 | true, .bool a, .bool b => some (a == b)
 | false, .int k a, .int k' b => if k = k' then some (a == b) else none
 | _, _, _ => none
def eqL : List Bool -> List AV -> List AV -> Option Bool
 | [], [], [] => some true
 | k :: ks, x :: xs, y :: ys => match eq1 k x y with
   | some true => eqL ks xs ys
   | some false => some false
   | none => none
 | _, _, _ => none
def mmI (mx : Bool) (k : IntKind) : Int -> List AV -> Option Int
 | p, [] => some p
 | p, .int k' q :: l => if k = k' then mmI mx k (if mx = true then (if q > p then q else p) else (if q < p then q else p)) l else none
 | _, _ :: _ => none
def asNat : AV -> Option Nat
 | .int _ n => if 0 <= n then some n.toNat else none
 | _ => none
def sliceA (sz : Option Nat) (v : AV) (lo hi : Option Nat) : Option AV :=
 match v with
 | .lst s xs => if sz = some s /\ lo.getD 0 <= hi.getD xs.length /\ hi.getD xs.length <= xs.length then some (.lst s ((xs.take (hi.getD xs.length)).drop (lo.getD 0))) else none
 | .acc _ _ s xs => if sz = some s /\ lo.getD 0 <= hi.getD xs.length /\ hi.getD xs.length <= xs.length then some (.lst s ((xs.take (hi.getD xs.length)).drop (lo.getD 0))) else none
 | .sl nm st s off len => if sz = some s /\ lo.getD 0 <= hi.getD len /\ hi.getD len <= len then some (.sl nm st s (off + lo.getD 0) (hi.getD len - lo.getD 0)) else none
 | .nils => if sz ≠ none /\ hi.getD 0 = 0 /\ lo.getD 0 = 0 then some .nils else none
 | .str s => if sz = none /\ lo.getD 0 <= hi.getD s.size /\ hi.getD s.size <= s.size then some (.str (s.extract (lo.getD 0) (hi.getD s.size))) else none
 | _ => none
def idxA (blk : Nat -> Option Blk) (sz : Nat) (v : AV) (i : Nat) : Option AV :=
 match v with
 | .lst s xs => if s = sz then (xs[i]?).map fun x => .kp x.cells 0 else none
 | .acc _ _ s xs => if s = sz then (xs[i]?).map fun x => .kp x.cells 0 else none
 | .sl nm st s off len => if s = sz /\ i < len then some (.ptr nm st s (off + i) 0) else none
 | _ => none
def optNat (f : Nat -> AV) : Option X -> Option (Option Nat)
 | none => some none
 | some x => (asNat (x.ev f)).map some
def ex (f : Nat -> AV) (blk : Nat -> Option Blk) (tok : Nat -> Option Tok) (st : Nat) : AOp -> Option Eff
 | .mv x => some { v := x.ev f }
 | .pick c a b => match c.ev f with
   | .bool t => some { v := if t = true then a.ev f else b.ev f }
   | _ => none
 | .new nm sz z => if z.cells.length = sz /\ z.cells.all AV.one = true then some { v := .ptr nm st sz 0 0, wb := [(nm, some ⟨st, sz, [z]⟩)] } else none
 | .box nm sz x => if (x.ev f).cells.length = sz /\ (x.ev f).cells.all AV.one = true then some { v := .ptr nm st sz 0 0, wb := [(nm, some ⟨st, sz, [x.ev f]⟩)] } else none
 | .build zero parts => if zero.all AV.one = true then (fillA 0 zero (parts.map fun p => (p.1, (p.2.2.ev f).cells))).bind fun cs =>
     if (parts.all fun p => (p.2.2.ev f).cells.length == p.2.1) = true then some { v := .agg cs } else none else none
 | .bsl nm sz ty len z parts => if (parts.all fun p => ((normE (p.2.ev f)).cells.length == sz) && (normE (p.2.ev f)).cells.all AV.cl1 && decide (p.1 < len)) = true /\ z.cells.length = sz /\ z.cells.all AV.cl1 = true then
     some { v := .acc nm st sz (parts.foldl (fun es p => es.set p.1 (normE (p.2.ev f))) (List.replicate len z)), wt := [(nm, some ⟨st, sz, ty⟩)] } else none
 | .load none x => (ldOne blk (x.ev f)).map fun v => { v := v }
 | .load (some n) x => (ldAgg blk n (x.ev f)).map fun v => { v := v }
 | .store n a x => match a.ev f with
   | .ptr nm s sz i off => (getB blk nm s sz).bind fun es => (es[i]?).bind fun e =>
       if (x.ev f).cells.length = n /\ (x.ev f).cells.all AV.one = true /\ off + n <= e.cells.length then
         some { v := .junk, wb := [(nm, some ⟨s, sz, es.set i (setCells e off (x.ev f).cells)⟩)] } else none
   | _ => none
 | .ibin op x y => match x.ev f, y.ev f with
   | .int k a, .int k' b => if k = k' then (intBin op k a b).map fun v => { v := v } else none
   | _, _ => none
 | .eqv neg x y => match x.ev f, y.ev f with
   | .bool a, .bool b => some { v := .bool (if neg = true then a != b else a == b) }
   | _, _ => none
 | .eqs ks neg x y => match x.ev f, y.ev f with
   | .agg xs, .agg ys => (eqL ks xs ys).map fun b => { v := .bool (if neg = true then !b else b) }
   | _, _ => none
 | .not x => match x.ev f with
   | .bool b => some { v := .bool (!b) }
   | _ => none
 | .neg x => match x.ev f with
   | .int k n => some { v := .int k (k.wrap (0 - n)) }
   | _ => none
 | .len x => (lenOf (x.ev f)).map fun (n : Nat) => { v := .int .i64 (n : Int) }
 | .slen x => match x.ev f with
   | .str s => some { v := .int .i64 s.size }
   | _ => none
 | .app nm sz ty byt s x => (appBase tok sz ty (s.ev f)).bind fun b => (listOf blk sz (x.ev f)).bind fun ys =>
     if (b.1.length + ys.length) * byt <= 140737488355328 then
       some { v := .acc nm st sz (b.1 ++ ys), wt := (match b.2 with | some n => [(n, none)] | none => []) ++ [(nm, some ⟨st, sz, ty⟩)] } else none
 | .appw nm sz ty byt s x => (appwBase blk sz (s.ev f)).bind fun b => (listM blk sz (x.ev f)).bind fun ys =>
     if (b.1.length + ys.length) * byt <= 140737488355328 then (if (b.2.isNone && ys.isEmpty) = true then some { v := .nils } else
       some { v := .sl nm st sz 0 (b.1.length + ys.length), wb := (match b.2 with | some n => [(n, none)] | none => []) ++ [(nm, some ⟨st, sz, b.1 ++ ys⟩)] }) else none
 | .slice sz x lo hi => (optNat f lo).bind fun l => (optNat f hi).bind fun h => (sliceA sz (x.ev f) l h).map fun v => { v := v }
 | .fld off x => match x.ev f with
   | .ptr nm s sz i o => some { v := .ptr nm s sz i (o + off) }
   | .kp cs o => some { v := .kp cs (o + off) }
   | _ => none
 | .getf none off x => match x.ev f with
   | .agg cs => (cs[off]?).map fun v => { v := v }
   | _ => none
 | .getf (some n) off x => match x.ev f with
   | .agg cs => if off + n <= cs.length then some { v := .agg ((cs.drop off).take n) } else none
   | _ => none
 | .idx sz x i => (asNat (i.ev f)).bind fun j => (idxA blk sz (x.ev f) j).map fun v => { v := v }
 | .ext x i => match x.ev f with
   | .tup vs => (vs[i]?).map fun v => { v := v }
   | _ => none
 | .conv k x => match x.ev f with
   | .int _ n => some { v := .int k (k.wrap n) }
   | _ => none
 | .mkf g caps => some { v := .fn g (caps.map fun x => x.ev f) }
 | .msl nm sz byt z l => (asNat (l.ev f)).bind fun n => if n * byt <= 140737488355328 /\ z.cells.length = sz /\ z.cells.all AV.one = true then
     some { v := .sl nm st sz 0 n, wb := [(nm, some ⟨st, sz, List.replicate n z⟩)] } else none
 | .mm mx x l => match x.ev f with
   | .int k p => (mmI mx k p (l.map fun y => y.ev f)).map fun r => { v := .int k r }
   | _ => none
 | .bslm nm sz ty len z parts => if (parts.all fun p => ((p.2.ev f).cells.length == sz) && (p.2.ev f).cells.all AV.one && decide (p.1 < len)) = true /\ z.cells.length = sz /\ z.cells.all AV.one = true then
     some { v := .sl nm st sz 0 len, wb := [(nm, some ⟨st, sz, parts.foldl (fun es p => es.set p.1 (p.2.ev f)) (List.replicate len z)⟩)] } else none
 | .cpy sz x y => match x.ev f with
   | .nils => (listM blk sz (y.ev f)).map fun _ => { v := .int .i64 0 }
   | .sl nm s sz' off len => if sz' = sz then (getB blk nm s sz).bind fun es => (listM blk sz (y.ev f)).bind fun ys =>
       if off + len <= es.length then some { v := .int .i64 ((min ys.length len : Nat) : Int), wb := [(nm, some ⟨s, sz, es.take off ++ ys.take (min ys.length len) ++ es.drop (off + min ys.length len)⟩)] } else none else none
   | _ => none
 | .shift l x y => match x.ev f, y.ev f with
   | .int k a, .int _ b => if b < 0 then none else some { v := .int k (shiftI l k a b) }
   | _, _ => none
 | .sbin op x y => match x.ev f, y.ev f with
   | .str a, .str b => (sbinV op a b).map fun v => { v := v }
   | _, _ => none
 | .nilq kd neg x => (nilA kd (x.ev f)).map fun b => { v := .bool (if neg = true then !b else b) }
 | .nilck x => match x.ev f with
   | .ptr nm s sz i o => some { v := .ptr nm s sz i o }
   | .kp cs o => some { v := .kp cs o }
   | _ => none
 | .mkm nm => some { v := .mp nm st, wb := [(nm, some ⟨st, 0, []⟩)] }
 | .mget k z m x => match m.ev f, x.ev f with
   | .mp nm s, .int k' a => if k' = k then (getM blk nm s).bind fun es => (findM k a es).map fun r => { v := r.getD z } else none
   | _, _ => none
 | .mput m x v => match m.ev f, x.ev f with
   | .mp nm s, .int k a => (getM blk nm s).bind fun es => match findM k a es with
     | some none => if (v.ev f).one = true then some { v := .junk, wb := [(nm, some ⟨s, 0, es ++ [.agg [.int k a, v.ev f]]⟩)] } else none
     | _ => none
   | _, _ => none
 | .mark x => match x.ev f with
   | .acc nm s sz xs => match tok nm with
     | some t => if t.st = s /\ t.sz = 1 /\ sz = 1 /\ xs ≠ [] then some { v := .acc nm s sz xs } else none
     | none => none
   | _ => none
 | .bys x => (listOf blk 1 (x.ev f)).bind fun xs => (strOf xs).map fun l => { v := .str ⟨l.toArray⟩ }
 | .bad => none
def undV : AV -> Bool
 | .lst _ [] => true
 | .acc _ _ _ [] => true
 | .sl _ _ _ _ 0 => true
 | _ => false
def undB (f : Nat -> AV) : AOp -> Bool
 | .nilq 0 _ x => undV (x.ev f)
 | _ => false
def rdV : AV -> List Nat
 | .ptr nm _ _ _ _ => [nm]
 | .sl nm _ _ _ _ => [nm]
 | .mp nm _ => [nm]
 | _ => []
def tkV : AV -> List Nat
 | .acc nm _ _ _ => [nm]
 | _ => []
end Go.Gv

namespace Go.Gv
open Go.RowKit
theorem Addr.add_mk (b o n : Nat) : (⟨b, o, none⟩ : Addr).add n = ⟨b, o + n, none⟩ := by unfold Addr.add; split <;> simp_all
theorem K_none {E : Env} {B : Nat} {h : Hp} {w : World} (H : HConc E B h w) {b : Nat} (hb : w.heap.size <= b) (j : Nat) : E.K b j = none := by
 cases hk : E.K b j with
 | none => rfl
 | some v => have := World.block_lt_of_cell? w _ (H.K b j v hk); simp at this; omega
theorem mul_lt {i n j sz : Nat} (hi : i < n) (hj : j < sz) : i * sz + j < n * sz := by
 have : (i + 1) * sz <= n * sz := Nat.mul_le_mul_right _ hi
 rw [Nat.add_mul] at this; omega
theorem HConc.newRow {E : Env} {B : Nat} {h : Hp} {w : World} (H : HConc E B h w) (hB : B <= w.heap.size) (nm st sz : Nat) (hs0 : sz ≠ 0) (hst : ¬ E.u st) (es : List AV) (cur : Array Value) (e : TypeId)
   (hel : ∀ x ∈ es, ElemOk sz x) (c : Nat) (hcl : es.length <= c) (hsz : c * sz <= cur.size)
   (hr : ∀ (i : Nat) (x : AV), es[i]? = some x -> ∀ (j : Nat) (y : AV), x.cells[j]? = some y -> ∃ u, cur[i * sz + j]? = some u /\ Rel E y u) :
   HConc (E.withM st (w.heap.size, 0) c) B (h.setB nm (some ⟨st, sz, es⟩)) (w.alloc (.cells cur e)) := by
 have hE := Env.le_withM hst (w.heap.size, 0) c
 have h1 := H.grow (w' := w.alloc (.cells cur e)) (fun k hk => heap_alloc_old w _ k hk)
 have h2 := h1.env hE h1.K (fun n b x j => (h1.bk n b x).noK j) (fun _ _ _ _ _ _ => rfl)
 have em : (E.withM st (w.heap.size, 0) c).m st = (w.heap.size, 0) := upd_same _ _ _
 have ec : (E.withM st (w.heap.size, 0) c).cp st = c := upd_same _ _ _
 refine (h2.dropB nm).putB ⟨st, sz, es⟩ (.inl rfl) (.row hs0 ⟨?_, hel, by rw [ec]; exact hcl, ?_, ?_⟩) ?_ ?_
 . rw [em]; exact hB
 . rw [em, ec]
   refine ⟨cur, e, heap_alloc_new w _, by simpa using hsz, fun i x hx j y hy => ?_⟩
   obtain ⟨u, hu, hrel⟩ := hr i x hx j y hy
   exact ⟨u, by simpa using hu, hrel.mono hE⟩
 . rw [em]; exact fun j => K_none H (Nat.le_refl _) j
 . intro n b' hn hb'
   rw [hE.m _ (H.bu n b' hb'), em]
   exact fun q => by have := (H.bk n b' hb').lt; rw [q] at this; exact Nat.lt_irrefl _ this
 . intro n t ht q
   rw [hE.hd _ (H.tu n t ht), em] at q
   exact Nat.lt_irrefl _ ((H.tk n t ht).lt q).2
theorem Rel.newPtr (E : Env) (w : World) (nm st sz c : Nat) : Rel (E.withM st (w.heap.size, 0) c) (.ptr nm st sz 0 0) (.pointer (some ⟨w.heap.size, 0, none⟩)) := by
 have em : (E.withM st (w.heap.size, 0) c).m st = (w.heap.size, 0) := upd_same _ _ _
 have := Rel.ptr (E := E.withM st (w.heap.size, 0) c) nm st sz 0 0 (.inl rfl)
 rw [em] at this
 simpa using this
theorem HConc.newVar {E : Env} {B : Nat} {h : Hp} {w : World} (H : HConc E B h w) (hB : B <= w.heap.size) (nm st sz : Nat) (hs0 : sz ≠ 0) (hst : ¬ E.u st) (x : AV) (v : Value) (e : TypeId)
   (hx : ElemOk sz x) (hv : Rel E x v) :
   HConc (E.withM st (w.heap.size, 0) 1) B (h.setB nm (some ⟨st, sz, [x]⟩)) (w.alloc (.cells v.cells e)) := by
 obtain ⟨c1, c2⟩ := hv.cells hx.2
 refine H.newRow hB nm st sz hs0 hst [x] v.cells e (fun y hy => by simp at hy; rw [hy]; exact hx) 1 (Nat.le_refl _) (by simp [c1, hx.1]) ?_
 intro i y hy j z hz
 cases i with
 | zero =>
   simp at hy; subst hy
   obtain ⟨u, hu, hr, _⟩ := c2 j z hz
   exact ⟨u, by simpa using hu, hr⟩
 | succ i => simp at hy
def knowRow (E : Env) (g k : Nat) (cur : Array Value) : Nat -> Nat -> Option Value := fun b j => if b = g /\ j < k then cur[j]? else E.K b j
theorem HConc.newAcc {E : Env} {B : Nat} {h : Hp} {w : World} (H : HConc E B h w) (nm st sz : Nat) (ty : TypeId) (hst : ¬ E.u st) (xs : List AV) (v : Value) (cs : List Value)
   (hown : OwnsM w B ty sz v xs.length cs)
   (hel : ∀ x ∈ xs, ElemOk sz x)
   (hr : ∀ (i : Nat) (x : AV), xs[i]? = some x -> ∀ (j : Nat) (y : AV), x.cells[j]? = some y -> ∃ u, cs[i * sz + j]? = some u /\ Rel E.cl y u)
   (hb : ∀ n b, h.blk n = some b -> v.ownBlock ≠ some (E.m b.st).1) (ht : ∀ n t, h.tok n = some t -> n ≠ nm -> ∀ g, (E.hd t.st).ownBlock = some g -> v.ownBlock ≠ some g)
   (hK : ∀ g j, v.ownBlock = some g -> xs.length * sz <= j -> E.K g j = none) :
   ∃ E', E.le E' /\ (∀ s, E'.u s -> E.u s \/ s = st) /\ (∀ b o, b < B -> E'.K b o = E.K b o) /\ HConc E' B (h.setT nm (some ⟨st, sz, ty⟩)) w /\ Rel E' (.acc nm st sz xs) v := by
 obtain ⟨hl, hcase⟩ := hown
 rcases hcase with ⟨rfl, h0⟩ | ⟨g, cap, cur, fz, rfl, hbg, hg, hfz, hnc, hcm, hcs, htake⟩
 ·
   have hx : xs = [] := List.eq_nil_of_length_eq_zero h0
   subst hx
   have hE := Env.le_withHd hst (.slice none 0 0)
   have eh : (E.withHd st (.slice none 0 0)).hd st = .slice none 0 0 := upd_same _ _ _
   have h2 := H.env hE H.K (fun n b x j => (H.bk n b x).noK j) (fun _ _ _ _ _ _ => rfl)
   refine ⟨E.withHd st (.slice none 0 0), hE, fun s hs => hs.elim .inr .inl, fun _ _ _ => rfl, ?_, .acc nm st sz [] _ (.inl rfl) eh.symm (.lst0 sz none 0)⟩
   refine (h2.dropT nm).putT ⟨st, sz, ty⟩ (.inl rfl) ⟨0, [], by rw [eh]; exact OwnsM.nil w B ty sz, fun g j hg => by rw [eh] at hg; simp [Value.ownBlock] at hg⟩ ?_ ?_
   . intro n b x; rw [eh]; simp [Value.ownBlock]
   . intro n t' g _ _ _; rw [eh]; simp [Value.ownBlock]
 . have hcell : ∀ j, w.cell? ⟨g, j, none⟩ = cur[j]? := fun j => cell_of_row w g j cur ty fz hg
   have hcs' : ∀ k u, cs[k]? = some u -> cur[k]? = some u /\ k < xs.length * sz := by
     intro k u hu
     have hk : k < xs.length * sz := by rw [<- hl]; exact (List.getElem?_eq_some_iff.1 hu).1
     rw [<- htake, List.getElem?_take, if_pos hk] at hu
     exact ⟨by simpa using hu, hk⟩
   let E1 : Env := E.withK (knowRow E g (xs.length * sz) cur)
   have hE1 : E.le E1 := Env.le_withK (fun b o u hu => by
     unfold knowRow
     split
     . rename_i hc; have := H.K b o u hu; rw [hc.1, hcell] at this; exact this
     . exact hu)
   have hst1 : ¬ E1.u st := hst
   have h1 : HConc E1 B (h.setT nm none) w := by
     refine (H.dropT nm).env hE1 ?_ ?_ ?_
     . intro b o u hu
       simp only [E1, Env.withK, knowRow] at hu
       split at hu
       . rename_i hc; rw [hc.1, hcell]; exact hu
       . exact H.K b o u hu
     . intro n b x j
       have hne : (E.m b.st).1 ≠ g := fun q => hb n b x (by simp [Value.ownBlock, q])
       show knowRow E g _ cur (E.m b.st).1 j = none
       unfold knowRow
       rw [if_neg (by simp [hne])]
       exact (H.bk n b x).noK j
     . intro n t g' x hx j
       have x' : h.tok n = some t /\ n ≠ nm := by
         simp only [Hp.setT, upd] at x
         split at x
         . simp at x
         . rename_i hne; exact ⟨x, hne⟩
       have hne : g' ≠ g := fun q => ht n t x'.1 x'.2 g' hx (by simp [Value.ownBlock, q])
       show knowRow E g _ cur g' j = E.K g' j
       unfold knowRow
       rw [if_neg (by simp [hne])]
   let v : Value := .slice (some ⟨g, 0, none⟩) xs.length cap
   have hE2 := Env.le_withHd hst1 v
   have eh : (E1.withHd st v).hd st = v := upd_same _ _ _
   have h2 := h1.env hE2 h1.K (fun n b x j => (h1.bk n b x).noK j) (fun _ _ _ _ _ _ => rfl)
   have eK : ∀ b j, (E1.withHd st v).K b j = knowRow E g (xs.length * sz) cur b j := fun _ _ => rfl
   refine ⟨E1.withHd st v, hE1.trans hE2, fun s hs => hs.elim .inr .inl, fun b o hb' => by rw [eK]; unfold knowRow; rw [if_neg (by omega)], ?_, .acc nm st sz xs _ (.inl rfl) eh.symm ?_⟩
   . have h2' : HConc (E1.withHd st v) B (((h.setT nm none)).setT nm none) w := h2.dropT nm
     have h3 := HConc.putT (h := h) (nm := nm) (E := E1.withHd st v) (B := B) (w := w) (by
       refine h2.sub (fun _ _ x => x) (fun _ _ x => x)) ⟨st, sz, ty⟩ (.inl rfl) ?_ ?_ ?_
     . exact h3
     . refine ⟨xs.length, cs, ?_, ?_⟩
       . rw [eh]; exact ⟨hl, .inr ⟨g, cap, cur, fz, rfl, hbg, hg, hfz, hnc, hcm, hcs, htake⟩⟩
       . intro g' j hg' hj
         rw [eh] at hg'
         have hgg : g = g' := by simpa [v, Value.ownBlock] using hg'
         subst hgg
         rw [eK]; unfold knowRow
         rw [if_neg (by simp only at hj; omega)]
         exact hK g j rfl hj
     . intro n b x
       rw [eh, hE2.m _ (hE1.u _ (H.bu n b x)), hE1.m _ (H.bu n b x)]
       exact hb n b x
     . intro n t' g' hn x hx
       rw [eh]
       rw [hE2.hd _ (hE1.u _ (H.tu n t' x)), hE1.hd _ (H.tu n t' x)] at hx
       exact ht n t' x hn g' hx
   . refine .lst xs g 0 sz cap (fun i j => (cur[i * sz + j]?).getD .nilFunc) hnc (fun x hx => (hel x hx).1) ?_ ?_ ?_
     . intro i j hi hj
       have hlt := mul_lt hi hj
       have hlt' : i * sz + j < cur.size := by
         rw [hcs]; exact Nat.lt_of_lt_of_le hlt (Nat.mul_le_mul_right _ hnc)
       rw [eK]; unfold knowRow
       rw [if_pos ⟨rfl, by simpa using hlt⟩]
       simp [hlt']
     . intro i x hx j y hy
       exact (hel x (List.mem_of_getElem? hx)).2 y (List.mem_of_getElem? hy)
     . intro i x hx j y hy
       obtain ⟨u, hu, hrel⟩ := hr i x hx j y hy
       have := (hcs' _ u hu).1
       simp only [this, Option.getD_some]
       exact hrel.mono (hE1.trans hE2).cl
end Go.Gv
