/- Texts of this proof, one behind the other. What is proved, and on which conditions, stands ahead of each. -/
import Derived.Test.YthidhohdcjojhaaGreatDoorM154e79cd
import Derived.ChangeArms
import Derived.DataReads

set_option linter.unusedVariables false
set_option linter.unusedSimpArgs false
namespace Go.Gv
open Go.RowKit
def Kw (w : World) : Nat -> Nat -> Option Value := fun b o => w.cell? ⟨b, o, none⟩
section
variable {H : Type} {enc : TypeId × Value -> H} {P : Program} {w : World} {t e : TypeId}
end
end Go.Gv

namespace Go.Gv
open Go.RowKit
def elemR (R : AV -> AV -> Prop) : AV -> AV -> Prop
 | .agg xs, .agg ys => coL R xs ys
 | x, y => R x y
def dco (blk : Nat -> Option Blk) : Nat -> AV -> AV -> Prop
 | 0, x, y => co1 none x y
 | d + 1, x, y => match x, y with
   | .nils, .lst _ ys => ys = []
   | .lst s xs, .lst s' ys => s = s' /\ (xs = ys \/ coL (elemR (dco blk d)) xs ys)
   | .acc _ _ s xs, .lst s' ys => s = s' /\ (xs = ys \/ coL (elemR (dco blk d)) xs ys)
   | .sl nm st s off len, .lst s' ys => s = s' /\ ∃ es, getB blk nm st s = some es /\ off + len <= es.length /\ coL (elemR (dco blk d)) ((es.drop off).take len) ys
   | x, y => co1 none x y
theorem dco_one {blk : Nat -> Option Blk} : ∀ (d : Nat) {x y : AV}, dco blk d x y -> x.one = true -> y.one = true := by
 intro d x y h hx
 cases d with
 | zero => exact co1_one h hx
 | succ d =>
   unfold dco at h
   split at h <;> first | rfl | exact co1_one h hx
theorem elemR_cells {blk : Nat -> Option Blk} {d : Nat} {x y : AV} (h : elemR (dco blk d) x y) (h1 : ∀ z ∈ x.cells, z.one = true) : x.cells.length = y.cells.length /\ ∀ (j : Nat) (a b : AV), x.cells[j]? = some a -> y.cells[j]? = some b -> dco blk d a b := by
 by_cases hx : ∃ xs ys, x = .agg xs /\ y = .agg ys
 . obtain ⟨xs, ys, rfl, rfl⟩ := hx
   exact coL_get h
 . have hd : dco blk d x y := by
     unfold elemR at h
     split at h
     . exact absurd ⟨_, _, rfl, rfl⟩ hx
     . exact h
   by_cases hxa : ∃ xs, x = .agg xs
   . obtain ⟨xs, rfl⟩ := hxa
     exfalso
     cases d with
     | zero => cases y <;> exact hd
     | succ d => unfold dco at hd; cases y <;> exact hd
   . have hxc : x.cells = [x] := by cases x <;> first | rfl | exact absurd ⟨_, rfl⟩ hxa
     have hx1 : x.one = true := h1 x (by rw [hxc]; simp)
     have hy1 := dco_one d hd hx1
     have hyc := AV.cells_one hy1
     rw [hxc, hyc]
     refine ⟨rfl, fun j a b ha hb => ?_⟩
     cases j with
     | zero => simp at ha hb; subst ha; subst hb; exact hd
     | succ j => simp at ha
section
variable {E : Env} {B : Nat} {h : Hp} {w : World}
theorem dco_list (K0 : ∀ b o u, E.K b o = some u -> w.cell? ⟨b, o, none⟩ = some u) {blk : Nat -> Option Blk} {d : Nat} (ih : ∀ (x y : AV) (v : Value), dco blk d x y -> Rel E x v -> Rel (envK (Kw w)) y v)
   {xs ys : List AV} {b o sz cap : Nat} (f : Nat -> Nat -> Value) (hcap : xs.length <= cap) (hsz : ∀ x ∈ xs, x.cells.length = sz)
   (hk : ∀ i j : Nat, i < xs.length -> j < sz -> w.cell? ⟨b, o + i * sz + j, none⟩ = some (f i j))
   (h1 : ∀ (i : Nat) (x : AV), xs[i]? = some x -> ∀ (j : Nat) (y : AV), x.cells[j]? = some y -> y.one = true)
   (hr : ∀ (i : Nat) (x : AV), xs[i]? = some x -> ∀ (j : Nat) (y : AV), x.cells[j]? = some y -> Rel E y (f i j))
   (hc : coL (elemR (dco blk d)) xs ys) : Rel (envK (Kw w)) (.lst sz ys) (.slice (some ⟨b, o, none⟩) xs.length cap) := by
 obtain ⟨e1, e2⟩ := coL_get hc
 have pair : ∀ (i : Nat) (y : AV), ys[i]? = some y -> ∃ x, xs[i]? = some x /\ elemR (dco blk d) x y := by
   intro i y hy
   obtain ⟨x, hx⟩ : ∃ x, xs[i]? = some x := ⟨_, List.getElem?_eq_getElem (by rw [e1]; exact (List.getElem?_eq_some_iff.1 hy).1)⟩
   exact ⟨x, hx, e2 i x y hx hy⟩
 have ones : ∀ (i : Nat) (x : AV), xs[i]? = some x -> ∀ z ∈ x.cells, z.one = true := by
   intro i x hx z hz
   obtain ⟨j, hj⟩ := List.getElem?_of_mem hz
   exact h1 i x hx j z hj
 have cell : ∀ (i : Nat) (y : AV), ys[i]? = some y -> ∀ (j : Nat) (q : AV), y.cells[j]? = some q -> ∃ p x, xs[i]? = some x /\ x.cells[j]? = some p /\ dco blk d p q := by
   intro i y hy j q hq
   obtain ⟨x, hx, hxy⟩ := pair i y hy
   obtain ⟨c1, c2⟩ := elemR_cells hxy (ones i x hx)
   obtain ⟨p, hp⟩ : ∃ p, x.cells[j]? = some p := ⟨_, List.getElem?_eq_getElem (by rw [c1]; exact (List.getElem?_eq_some_iff.1 hq).1)⟩
   exact ⟨p, x, hx, hp, c2 j p q hp hq⟩
 rw [e1]
 refine Rel.lst ys b o sz cap f (by rw [<- e1]; exact hcap) ?_ ?_ ?_ ?_
 . intro y hy
   obtain ⟨i, hi⟩ := List.getElem?_of_mem hy
   obtain ⟨x, hx, hxy⟩ := pair i y hi
   rw [<- (elemR_cells hxy (ones i x hx)).1]
   exact hsz x (List.mem_of_getElem? hx)
 . intro i j hi hj
   exact hk i j (by rw [e1]; exact hi) hj
 . intro i y hy j q hq
   obtain ⟨p, x, hx, hp, hpq⟩ := cell i y hy j q hq
   exact dco_one d hpq (h1 i x hx j p hp)
 . intro i y hy j q hq
   obtain ⟨p, x, hx, hp, hpq⟩ := cell i y hy j q hq
   exact ih p q _ hpq (hr i x hx j p hp)
theorem dco_rel (H : HConc E B h w) : ∀ (d : Nat) (x y : AV) (v : Value), dco h.blk d x y -> Rel E x v -> Rel (envK (Kw w)) y v := by
 have kn : Knows E B w (Kw w) (none : Option (Nat -> Option Blk)).isSome := ⟨H.K, by simp⟩
 have base : ∀ (x y : AV) (v : Value), co1 none x y -> Rel E x v -> Rel (envK (Kw w)) y v := fun x y v hc hr => co1_rel H kn (by simp) hc hr
 have lsts : ∀ (d : Nat), (∀ (x y : AV) (v : Value), dco h.blk d x y -> Rel E x v -> Rel (envK (Kw w)) y v) -> ∀ (s : Nat) (xs ys : List AV) (v : Value), Rel E (.lst s xs) v -> (xs = ys \/ coL (elemR (dco h.blk d)) xs ys) -> Rel (envK (Kw w)) (.lst s ys) v := by
   intro d ih s xs ys v hr hc
   rcases hc with rfl | hc
   . exact lst_envK (K := Kw w) H.K hr
   . cases hr with
     | lst0 _ a cap =>
       cases ys with
       | nil => exact .lst0 _ _ _
       | cons y ys => exact hc.elim
     | lst _ b o _ cap f hcap hsz hk h1 hr =>
       exact dco_list H.K ih f hcap hsz (fun i j hi hj => H.K _ _ _ (hk i j hi hj)) h1 (fun i x hx j y hy => (hr i x hx j y hy).mono (Env.cl_le E)) hc
 intro d
 induction d with
 | zero => exact base
 | succ d ih =>
   intro x y v hc hr
   unfold dco at hc
   split at hc
   . subst hc; rw [hr.nils_inv]; exact .lst0 _ _ _
   . obtain ⟨rfl, hc⟩ := hc
     exact lsts d ih _ _ _ v hr hc
   . obtain ⟨rfl, hc⟩ := hc
     cases hr with
     | acc _ _ _ _ _ _ _ hl => exact lsts d ih _ _ _ v hl hc
   . rename_i nm st s off len s' ys
     obtain ⟨rfl, es, hes, hle, hc⟩ := hc
     have hbs := getB_some hes
     have hbk := (H.bk nm _ hbs).r (getB_pos hes)
     obtain ⟨cur, e, hg, hsz, hrow⟩ := hbk.row
     simp only at hg hsz hrow
     cases hr with
     | sl _ _ _ _ _ cap a hu hcap hc' ha =>
       have hlen : ((es.drop off).take len).length = len := by simp; omega
       by_cases hl0 : len = 0
       . subst hl0
         rw [List.take_zero] at hc
         cases ys with
         | nil => exact .lst0 _ _ _
         | cons y ys => exact hc.elim
       . rw [ha (by omega)]
         have hidx : ∀ (i : Nat) (z : AV), ((es.drop off).take len)[i]? = some z -> i < len /\ es[off + i]? = some z := by
           intro i z hz
           rw [List.getElem?_take] at hz
           split at hz
           . rename_i hi; rw [List.getElem?_drop] at hz; exact ⟨hi, hz⟩
           . cases hz
         have hel : ∀ z ∈ (es.drop off).take len, ElemOk s z := fun z hz => hbk.el z (List.mem_of_mem_drop (List.mem_of_mem_take hz))
         have cell : ∀ (i : Nat) (z : AV), ((es.drop off).take len)[i]? = some z -> ∀ (j : Nat) (q : AV), z.cells[j]? = some q ->
             ∃ u, w.cell? ⟨(E.m st).1, (E.m st).2 + off * s + i * s + j, none⟩ = some u /\ Rel E q u := by
           intro i z hz j q hq
           obtain ⟨hi, hz'⟩ := hidx i z hz
           obtain ⟨u, hu', hrel⟩ := hrow (off + i) z hz' j q hq
           refine ⟨u, ?_, hrel⟩
           rw [show (E.m st).2 + off * s + i * s + j = (E.m st).2 + (off + i) * s + j by rw [Nat.add_mul]; omega, cell_of_row w _ _ cur e (0, 0) hg]
           exact hu'
         have := dco_list (b := (E.m st).1) (o := (E.m st).2 + off * s) (sz := s) (cap := cap) H.K ih (fun i j => (w.cell? ⟨(E.m st).1, (E.m st).2 + off * s + i * s + j, none⟩).getD .nilFunc) (by rw [hlen]; exact hcap) (fun z hz => (hel z hz).1) ?_ ?_ ?_ hc
         . rw [hlen] at this; exact this
         . intro i j hi hj
           obtain ⟨z, hz⟩ : ∃ z, ((es.drop off).take len)[i]? = some z := ⟨_, List.getElem?_eq_getElem hi⟩
           obtain ⟨q, hq⟩ : ∃ q, z.cells[j]? = some q := ⟨_, List.getElem?_eq_getElem (by rw [(hel z (List.mem_of_getElem? hz)).1]; exact hj)⟩
           obtain ⟨u, hu', _⟩ := cell i z hz j q hq
           rw [hu']; rfl
         . intro i z hz j q hq
           exact (hel z (List.mem_of_getElem? hz)).2 q (List.mem_of_getElem? hq)
         . intro i z hz j q hq
           obtain ⟨u, hu', hrel⟩ := cell i z hz j q hq
           rw [hu']
           exact hrel
   . exact base x y v hc hr
theorem dcoE_rel (H : HConc E B h w) (d : Nat) (x y : AV) (v : Value) (hc : elemR (dco h.blk d) x y) (hr : Rel E x v) : Rel (envK (Kw w)) y v := by
 unfold elemR at hc
 split at hc
 . rename_i xs ys
   obtain ⟨e1, e2⟩ := coL_get hc
   cases hr with
   | agg _ vs hs h1 hr =>
     have pair : ∀ (j : Nat) (y : AV), ys[j]? = some y -> ∃ x, xs[j]? = some x /\ dco h.blk d x y := by
       intro j y hy
       obtain ⟨x, hx⟩ : ∃ x, xs[j]? = some x := ⟨_, List.getElem?_eq_getElem (by rw [e1]; exact (List.getElem?_eq_some_iff.1 hy).1)⟩
       exact ⟨x, hx, e2 j x y hx hy⟩
     refine .agg ys vs (by rw [<- e1]; exact hs) (fun j y hy => ?_) (fun j y u hy hu => ?_)
     . obtain ⟨x, hx, hxy⟩ := pair j y hy
       exact dco_one d hxy (h1 j x hx)
     . obtain ⟨x, hx, hxy⟩ := pair j y hy
       exact dco_rel H d x y u hxy (hr j x u hx hu)
 . exact dco_rel H d _ _ v hc hr
end
theorem callW {P : Program} {f : FuncId} {cargs : List AV} {r : AV} (h : PC P f cargs r) (d : Nat) {caps vals : List AV} {S : St} {k : AV -> St -> Prop} {u : Dep k} (hco : coL (elemR (dco S.blk d)) (vals ++ caps) cargs) (hflat : flat r = true) (hk : k r S) :
   CallG P (.fn f caps) vals S k u := by
 obtain ⟨hent, hc⟩ := h
 refine ⟨f, caps, rfl, hent, fun E B W w args H hW hB hu hsz hrel => ?_⟩
 obtain ⟨e1, e2⟩ := coL_get hco
 refine (hc (Kw w) w args (fun b o v q => q) (hB.at hW) (by rw [hsz, e1]) ?_).mono ?_
 . intro j y u hy hu
   obtain ⟨x, hx⟩ : ∃ x, (vals ++ caps)[j]? = some x := ⟨_, List.getElem?_eq_getElem (by rw [e1]; exact (List.getElem?_eq_some_iff.1 hy).1)⟩
   exact dcoE_rel H d x y u (e2 j x y hx hy) (hrel j x u hx hu)
 . rintro e w' ⟨v, rfl, hbel, hr⟩
   have hle : B <= w.heap.size := Nat.le_trans hB.le hW.size
   exact ⟨v, E, r, S, rfl, .refl E, H.grow (fun k hk => hbel.block k hk), hW.trans (hbel.mono hle), fun _ _ _ => rfl, fun s hs => ⟨.inl hs, hu s hs⟩, Nat.le_refl _, rfl, flat_rel hr hflat, hk⟩
end Go.Gv

namespace Go.Gv
open Go.RowKit
def Wkh (c c' : Nat) (h h' : Hp) (φ : AV -> AV) : Prop :=
 c <= c' /\ ∀ (E : Env) (B : Nat) (w : World), HConc E B h w -> (∀ s, E.u s -> s < c) ->
   ∃ E', E.le E' /\ HConc E' B h' w /\ (∀ b o, b < B -> E'.K b o = E.K b o) /\ (∀ s, E'.u s -> E.u s) /\ ∀ (x : AV) (v : Value), Rel E x v -> Rel E' (φ x) v
theorem Wkh.refl (c : Nat) (h : Hp) : Wkh c c h h id := ⟨Nat.le_refl _, fun E B w H hu => ⟨E, .refl E, H, fun _ _ _ => rfl, fun _ h => h, fun _ _ h => h⟩⟩
theorem Wkh.trans {c c' c'' : Nat} {h h' h'' : Hp} {φ ψ : AV -> AV} (a : Wkh c c' h h' φ) (b : Wkh c' c'' h' h'' ψ) : Wkh c c'' h h'' (fun x => ψ (φ x)) := by
 refine ⟨Nat.le_trans a.1 b.1, fun E B w H hu => ?_⟩
 obtain ⟨E', a1, a2, a3, a4, a5⟩ := a.2 E B w H hu
 obtain ⟨E'', b1, b2, b3, b4, b5⟩ := b.2 E' B w a2 (fun s hs => Nat.lt_of_lt_of_le (hu s (a4 s hs)) a.1)
 exact ⟨E'', a1.trans b1, b2, fun b o hb => (b3 b o hb).trans (a3 b o hb), fun s hs => a4 s (b4 s hs), fun x v hv => b5 _ v (a5 x v hv)⟩
theorem Wk.of {S S' : St} {φ : AV -> AV} (h : Wkh S.clk S'.clk S.h S'.h φ) (ht : ∀ t, S'.t t = φ (S.t t)) : Wk S S' :=
 ⟨h.1, fun E B w H hu => let ⟨E', a1, a2, a3, a4, a5⟩ := h.2 E B w H hu; ⟨E', a1, a2, a3, a4, fun t v hv => by rw [ht]; exact a5 _ v hv⟩⟩
theorem Wk.of' {S S' : St} {φ : AV -> AV} (h : Wkh S.clk S'.clk S.h S'.h φ) (ht : S'.t = S.t) : Wk S S' :=
 ⟨h.1, fun E B w H hu => let ⟨E', a1, a2, a3, a4, a5⟩ := h.2 E B w H hu; ⟨E', a1, a2, a3, a4, fun t v hv => by rw [ht]; exact hv.mono a1⟩⟩
theorem Wk.some {S S' : St} {φ : AV -> AV} (h : Wkh S.clk S'.clk S.h S'.h φ) (ht : ∀ t, S'.t t = S.t t \/ S'.t t = φ (S.t t) \/ S'.t t = .junk) : Wk S S' :=
 ⟨h.1, fun E B w H hu => let ⟨E', a1, a2, a3, a4, a5⟩ := h.2 E B w H hu; ⟨E', a1, a2, a3, a4, fun t v hv => by
   rcases ht t with e | e | e
   . rw [e]; exact hv.mono a1
   . rw [e]; exact a5 _ v hv
   . rw [e]; exact .junk v⟩⟩
theorem CallP.told {P : Program} {fv : AV} {vals : List AV} {S : St} {k k' : AV -> St -> Prop} (h : CallP P fv vals S k')
   (hk : ∀ r S', k' r S' -> ∃ S'' φ, Wkh S'.clk S''.clk S'.h S''.h φ /\ S''.t = S'.t /\ k (φ r) S'') : CallP P fv vals S k := by
 obtain ⟨f, caps, h1, h2, h3⟩ := h
 refine ⟨f, caps, h1, h2, fun E B W w args H hW hB hu hsz hr => (h3 E B W w args H hW hB hu hsz hr).mono ?_⟩
 rintro e w' ⟨v, E', r, S', a1, a2, a3, a4, a5, a6, a7, a8, a9, a10⟩
 obtain ⟨S'', φ, b1, b2, b3⟩ := hk r S' a10
 obtain ⟨E'', c1, c2, c3, c4, c5⟩ := b1.2 E' B w' a3 (fun s hs => (a6 s hs).2)
 exact ⟨v, E'', φ r, S'', a1, a2.trans c1, c2, a4, fun b o hb => (c3 b o hb).trans (a5 b o hb), fun s hs => ⟨(a6 s (c4 s hs)).1, Nat.lt_of_lt_of_le (a6 s (c4 s hs)).2 b1.1⟩, Nat.le_trans a7 b1.1, b2.trans a8, c5 r v a9, b3⟩
theorem Wkh.sub {c c' : Nat} (hc : c <= c') {h h' : Hp} (hb : ∀ n b, h'.blk n = some b -> h.blk n = some b) (ht : ∀ n t, h'.tok n = some t -> h.tok n = some t) : Wkh c c' h h' id :=
 ⟨hc, fun E B w H hu => ⟨E, .refl E, H.sub hb ht, fun _ _ _ => rfl, fun _ h => h, fun _ _ h => h⟩⟩
def mapE (φ : AV -> AV) : AV -> AV
 | .agg cs => .agg (cs.map φ)
 | v => φ v
def mapV (φ : AV -> AV) : AV -> AV
 | .tup vs => .tup (vs.map (mapE φ))
 | v => mapE φ v
structure CellMap (E E' : Env) (φ : AV -> AV) : Prop where
 rel : ∀ (x : AV) (v : Value), x.one = true -> Rel E x v -> Rel E' (φ x) v
 one : ∀ x : AV, x.one = true -> (φ x).one = true
 other : ∀ x : AV, x.one = false -> φ x = x
 int : ∀ (k : IntKind) (a : Int), φ (.int k a) = .int k a
 le : E.le E'
theorem CellMap.relE {E E' : Env} {φ : AV -> AV} (h : CellMap E E' φ) {x : AV} {v : Value} (hr : Rel E x v) : Rel E' (mapE φ x) v := by
 by_cases hx : ∃ cs, x = .agg cs
 . obtain ⟨cs, rfl⟩ := hx
   cases hr with
   | agg _ vs hs h1 hr =>
     refine .agg _ vs (by simpa using hs) ?_ ?_
     . intro j y hy
       rw [List.getElem?_map] at hy
       cases hc : cs[j]? with
       | none => simp [hc] at hy
       | some z => simp only [hc, Option.map_some, Option.some.injEq] at hy; rw [<- hy]; exact h.one z (h1 j z hc)
     . intro j y u hy hu
       rw [List.getElem?_map] at hy
       cases hc : cs[j]? with
       | none => simp [hc] at hy
       | some z => simp only [hc, Option.map_some, Option.some.injEq] at hy; rw [<- hy]; exact h.rel z u (h1 j z hc) (hr j z u hc hu)
 . have e : mapE φ x = φ x := by cases x <;> first | rfl | exact absurd ⟨_, rfl⟩ hx
   rw [e]
   cases h1 : x.one with
   | true => exact h.rel x v h1 hr
   | false => rw [h.other x h1]; exact hr.mono h.le
theorem CellMap.relV {E E' : Env} {φ : AV -> AV} (h : CellMap E E' φ) {x : AV} {v : Value} (hr : Rel E x v) : Rel E' (mapV φ x) v := by
 by_cases hx : ∃ cs, x = .tup cs
 . obtain ⟨cs, rfl⟩ := hx
   cases hr with
   | tup _ vs hs hr =>
     refine .tup _ vs (by simpa using hs) ?_
     intro j y u hy hu
     rw [List.getElem?_map] at hy
     cases hc : cs[j]? with
     | none => simp [hc] at hy
     | some z => simp only [hc, Option.map_some, Option.some.injEq] at hy; rw [<- hy]; exact h.relE (hr j z u hc hu)
 . have e : mapV φ x = mapE φ x := by cases x <;> first | rfl | exact absurd ⟨_, rfl⟩ hx
   rw [e]; exact h.relE hr
theorem CellMap.cells {E E' : Env} {φ : AV -> AV} (h : CellMap E E' φ) {x : AV} (h1 : ∀ y ∈ x.cells, y.one = true) : (mapE φ x).cells = x.cells.map φ := by
 by_cases hx : ∃ cs, x = .agg cs
 . obtain ⟨cs, rfl⟩ := hx; rfl
 . have e : mapE φ x = φ x := by cases x <;> first | rfl | exact absurd ⟨_, rfl⟩ hx
   have hc : x.cells = [x] := by cases x <;> first | rfl | exact absurd ⟨_, rfl⟩ hx
   rw [e, hc]
   have := h1 x (by rw [hc]; simp)
   rw [AV.cells_one (h.one x this)]; rfl
theorem CellMap.elemOk {E E' : Env} {φ : AV -> AV} (h : CellMap E E' φ) {sz : Nat} {x : AV} (hx : ElemOk sz x) : ElemOk sz (mapE φ x) := by
 refine ⟨by rw [h.cells hx.2, List.length_map]; exact hx.1, ?_⟩
 rw [h.cells hx.2]
 intro y hy
 rw [List.mem_map] at hy
 obtain ⟨z, hz, rfl⟩ := hy
 exact h.one z (hx.2 z hz)
def mapB (φ : AV -> AV) (b : Blk) : Blk := ⟨b.st, b.sz, b.es.map (mapE φ)⟩
theorem CellMap.blkOk {E E' : Env} {φ : AV -> AV} (h : CellMap E E' φ) {B : Nat} {w : World} {st sz : Nat} {es : List AV} (hu : E.u st) (hb : BlkOk E B w st sz es) (hk : ∀ j, E'.K (E.m st).1 j = none) : BlkOk E' B w st sz (es.map (mapE φ)) := by
 have em := h.le.m st hu
 have ec := h.le.cp st hu
 cases hb with
 | map h0 hb =>
   obtain ⟨arr, c, h1, h2⟩ := hb.mp
   refine .map h0 ⟨by rw [em]; exact hb.base, ⟨arr, c, by rw [em]; exact h1, ?_⟩, by rw [em]; exact hk⟩
   have key : ∀ (xs : List AV) (ms : List MapEntry), EntsRel E xs ms -> EntsRel E' (xs.map (mapE φ)) ms := by
     intro xs
     induction xs with
     | nil => intro ms hms; cases ms with
       | nil => trivial
       | cons m ms => exact hms.elim
     | cons x xs ih => intro ms hms; cases ms with
       | nil => exact hms.elim
       | cons m ms =>
         obtain ⟨⟨k, a, z, q1, q2, q3, q4⟩, q5⟩ := hms
         exact ⟨⟨k, a, φ z, by rw [q1]; simp [mapE, h.int], q2, h.one z q3, h.rel z _ q3 q4⟩, ih ms q5⟩
   exact key _ _ h2
 | row h0 hb =>
 refine .row h0 ⟨by rw [em]; exact hb.base, ?_, by rw [ec, List.length_map]; exact hb.len, ?_, by rw [em]; exact hk⟩
 . intro x hx
   rw [List.mem_map] at hx
   obtain ⟨y, hy, rfl⟩ := hx
   exact h.elemOk (hb.el y hy)
 . rw [em, ec]
   obtain ⟨cur, e, h1, h2, h3⟩ := hb.row
   refine ⟨cur, e, h1, h2, ?_⟩
   intro i x hx j y hy
   rw [List.getElem?_map] at hx
   cases hc : es[i]? with
   | none => simp [hc] at hx
   | some z =>
     simp only [hc, Option.map_some, Option.some.injEq] at hx
     subst hx
     have hz := hb.el z (List.mem_of_getElem? hc)
     rw [h.cells hz.2, List.getElem?_map] at hy
     cases hq : z.cells[j]? with
     | none => simp [hq] at hy
     | some q =>
       simp only [hq, Option.map_some, Option.some.injEq] at hy
       obtain ⟨u, hu, hr⟩ := h3 i z hc j q hq
       exact ⟨u, hu, by rw [<- hy]; exact h.rel q u (hz.2 q (List.mem_of_getElem? hq)) hr⟩
def fz0 (nm st sz : Nat) (es : List AV) : AV -> AV
 | .sl nm' st' sz' off len => if nm' = nm /\ st' = st /\ sz' = sz /\ off + len <= es.length then .lst sz ((es.drop off).take len) else .sl nm' st' sz' off len
 | .ptr nm' st' sz' i off => if nm' = nm /\ st' = st /\ sz' = sz then (match es[i]? with | some x => .kp x.cells off | none => .ptr nm' st' sz' i off) else .ptr nm' st' sz' i off
 | v => v
def fzc (nm st sz : Nat) (es : List AV) : AV -> AV
 | .fn f caps => .fn f (caps.map (fz0 nm st sz es))
 | v => fz0 nm st sz es v
def closedL (es : List AV) : Prop := ∀ x ∈ es, ∀ y ∈ x.cells, y.cl1 = true
def knowAt (E : Env) (g o k : Nat) (cur : Array Value) : Nat -> Nat -> Option Value := fun b j => if b = g /\ o <= j /\ j < o + k then cur[j]? else E.K b j
theorem frz_ok {E : Env} {B : Nat} {h : Hp} {w : World} (H : HConc E B h w) {nm st sz : Nat} (hs0 : sz ≠ 0) {es : List AV} (hb : h.blk nm = some ⟨st, sz, es⟩) (hcl : closedL es) :
   ∃ E', CellMap E E' (fzc nm st sz es) /\ (∀ b o, b < B -> E'.K b o = E.K b o) /\ (∀ s, E'.u s -> E.u s) /\ (∀ b o v, E'.K b o = some v -> w.cell? ⟨b, o, none⟩ = some v) /\ (∀ b o, b ≠ (E.m st).1 -> E'.K b o = E.K b o) := by
 have hbk := (H.bk nm _ hb).r hs0
 have hbu : E.u st := H.bu nm _ hb
 obtain ⟨cur, e, hg, hsz, hr⟩ := hbk.row
 simp only at hg hsz hr
 have hbase : B <= (E.m st).1 := hbk.base
 have hnoK : ∀ j, E.K (E.m st).1 j = none := hbk.noK
 have hel : ∀ x ∈ es, ElemOk sz x := hbk.el
 have hcell : ∀ j, w.cell? ⟨(E.m st).1, j, none⟩ = cur[j]? := fun j => cell_of_row w _ j cur e (0, 0) hg
 have hlen : es.length <= E.cp st := hbk.len
 have hfit : (E.m st).2 + es.length * sz <= cur.size := by have := Nat.mul_le_mul_right sz hlen; omega
 let E' : Env := E.withK (knowAt E (E.m st).1 (E.m st).2 (es.length * sz) cur)
 have hE : E.le E' := Env.le_withK (fun b o u hu => by
   unfold knowAt
   split
   . rename_i hc; rw [hc.1, hnoK] at hu; cases hu
   . exact hu)
 have know : ∀ i j, i < es.length -> j < sz -> E'.K (E.m st).1 ((E.m st).2 + i * sz + j) = cur[(E.m st).2 + i * sz + j]? := by
   intro i j hi hj
   have := mul_lt hi hj
   show knowAt E _ _ _ cur _ _ = _
   unfold knowAt
   rw [if_pos ⟨rfl, by omega, by omega⟩]
 have inb : ∀ i j, i < es.length -> j < sz -> (E.m st).2 + i * sz + j < cur.size := by
   intro i j hi hj; have := mul_lt hi hj; omega
 have cellRel : ∀ (i : Nat) (x : AV), es[i]? = some x -> ∀ (j : Nat) (y : AV), x.cells[j]? = some y -> i < es.length /\ j < sz /\ Rel E'.cl y ((cur[(E.m st).2 + i * sz + j]?).getD .nilFunc) := by
   intro i x hx j y hy
   have hi := (List.getElem?_eq_some_iff.1 hx).1
   have hxm := List.mem_of_getElem? hx
   have hj : j < sz := by rw [<- (hel x hxm).1]; exact (List.getElem?_eq_some_iff.1 hy).1
   obtain ⟨u, hu, hrel⟩ := hr i x hx j y hy
   refine ⟨hi, hj, ?_⟩
   rw [hu]
   exact Rel.of_cl1 (E := E) (E' := E'.cl) hE.K hrel (hcl x hxm y (List.mem_of_getElem? hy))
 have f0 : ∀ (x : AV) (v : Value), Rel E x v -> Rel E' (fz0 nm st sz es x) v := by
   intro x v hrel
   cases x with
   | sl nm' st' sz' off len =>
     simp only [fz0]
     split
     . rename_i hc
       obtain ⟨c1, c2, c3, c4⟩ := hc
       subst c2 c3
       cases hrel with
       | sl _ _ _ _ _ cap a hu hcap hcp ha =>
         by_cases hl0 : len = 0
         . subst hl0; rw [List.take_zero]; exact .lst0 _ _ _
         . rw [ha (by omega)]
           have hwl : ((es.drop off).take len).length = len := by simp; omega
           have hidx : ∀ (i : Nat) (z : AV), ((es.drop off).take len)[i]? = some z -> i < len /\ es[off + i]? = some z := by
             intro i z hz
             rw [List.getElem?_take] at hz
             split at hz
             . rename_i hi; rw [List.getElem?_drop] at hz; exact ⟨hi, hz⟩
             . cases hz
           have := Rel.lst (E := E') ((es.drop off).take len) (E.m st').1 ((E.m st').2 + off * sz') sz' cap (fun i j => (cur[(E.m st').2 + (off + i) * sz' + j]?).getD .nilFunc)
             (by rw [hwl]; exact hcap) (fun z hz => (hel z (List.mem_of_mem_drop (List.mem_of_mem_take hz))).1) ?_ ?_ ?_
           . rw [hwl] at this; exact this
           . intro i j hi hj
             rw [hwl] at hi
             rw [show (E.m st').2 + off * sz' + i * sz' + j = (E.m st').2 + (off + i) * sz' + j by rw [Nat.add_mul]; omega, know (off + i) j (by omega) hj]
             have := inb (off + i) j (by omega) hj
             simp [this]
           . intro i z hz j q hq
             exact (hel z (List.mem_of_mem_drop (List.mem_of_mem_take (List.mem_of_getElem? hz)))).2 q (List.mem_of_getElem? hq)
           . intro i z hz j q hq
             exact (cellRel (off + i) z (hidx i z hz).2 j q hq).2.2
     . exact hrel.mono hE
   | ptr nm' st' sz' i off =>
     simp only [fz0]
     split
     . rename_i hc
       obtain ⟨c1, c2, c3⟩ := hc
       subst c2 c3
       cases hx : es[i]? with
       | none => exact hrel.mono hE
       | some x =>
         cases hrel with
         | ptr _ _ _ _ _ hu =>
           have hi := (List.getElem?_eq_some_iff.1 hx).1
           have hxm := List.mem_of_getElem? hx
           exact Rel.kp (E := E') x.cells off (E.m st').1 ((E.m st').2 + i * sz') (fun j => (cur[(E.m st').2 + i * sz' + j]?).getD .nilFunc)
             (fun j hj => by
               have hj' : j < sz' := by rw [<- (hel x hxm).1]; exact hj
               rw [know i j hi hj']
               have := inb i j hi hj'
               simp [this])
             (fun j y hy => (hel x hxm).2 y (List.mem_of_getElem? hy)) (fun j y hy => (cellRel i x hx j y hy).2.2)
     . exact hrel.mono hE
   | _ => exact hrel.mono hE
 refine ⟨E', ⟨?_, ?_, ?_, fun _ _ => rfl, hE⟩, ?_, fun _ h => h, ?_, ?_⟩
 . intro x v h1 hrel
   cases x with
   | fn f caps =>
     cases hrel with
     | fn _ _ vs hs hr' =>
       refine .fn f _ vs (by simpa using hs) ?_
       intro j y u hy hu
       rw [List.getElem?_map] at hy
       cases hc : caps[j]? with
       | none => simp [hc] at hy
       | some z => simp only [hc, Option.map_some, Option.some.injEq] at hy; rw [<- hy]; exact f0 z u (hr' j z u hc hu)
   | _ => exact f0 _ v hrel
 . intro x h1
   cases x with
   | fn f caps => rfl
   | sl nm' st' sz' off len => show (fz0 nm st sz es (.sl nm' st' sz' off len)).one = true; simp only [fz0]; split <;> rfl
   | ptr nm' st' sz' i off =>
     show (fz0 nm st sz es (.ptr nm' st' sz' i off)).one = true
     simp only [fz0]
     split
     . split <;> rfl
     . rfl
   | _ => exact h1
 . intro x h1
   cases x <;> first | rfl | (simp [AV.one] at h1)
 . intro b o hb
   show knowAt E _ _ _ cur b o = _
   unfold knowAt
   rw [if_neg (by omega)]
 . intro b o v hv
   have hv : knowAt E (E.m st).1 (E.m st).2 (es.length * sz) cur b o = some v := hv
   unfold knowAt at hv
   split at hv
   . rename_i hc; rw [hc.1, hcell]; exact hv
   . exact H.K b o v hv
 . intro b o hb
   show knowAt E _ _ _ cur b o = _
   unfold knowAt
   rw [if_neg (fun q => hb q.1)]
def Hp.frz (h : Hp) (nm st sz : Nat) (es : List AV) : Hp := ⟨fun n => if n = nm then none else (h.blk n).map (mapB (fzc nm st sz es)), h.tok⟩
theorem Wkh.frz {c : Nat} {h : Hp} {nm st sz : Nat} (hs0 : sz ≠ 0) {es : List AV} (hb : h.blk nm = some ⟨st, sz, es⟩) (hcl : closedL es) : Wkh c c h (h.frz nm st sz es) (mapV (fzc nm st sz es)) := by
 refine ⟨Nat.le_refl _, fun E B w H hu => ?_⟩
 obtain ⟨E', hM, hB, hu', hK, hother⟩ := frz_ok H hs0 hb hcl
 have get : ∀ n b, (h.frz nm st sz es).blk n = some b -> n ≠ nm /\ ∃ b0, h.blk n = some b0 /\ b = mapB (fzc nm st sz es) b0 := by
   intro n b hn
   simp only [Hp.frz] at hn
   split at hn
   . cases hn
   . rename_i hne
     simp only [Option.map_eq_some_iff] at hn
     obtain ⟨b0, h1, h2⟩ := hn
     exact ⟨hne, b0, h1, h2.symm⟩
 have hne1 : ∀ n b0, n ≠ nm -> h.blk n = some b0 -> (E.m b0.st).1 ≠ (E.m st).1 := fun n b0 hn h0 => H.bb n nm b0 _ hn h0 hb
 refine ⟨E', hM.le, ⟨hK, ?_, ?_, fun n t ht => hM.le.u _ (H.tu n t ht), ?_, ?_, ?_, ?_⟩, hB, hu', fun x v hv => hM.relV hv⟩
 . intro n b hn
   obtain ⟨hne, b0, h0, rfl⟩ := get n b hn
   exact hM.le.u _ (H.bu n b0 h0)
 . intro n b hn
   obtain ⟨hne, b0, h0, rfl⟩ := get n b hn
   refine hM.blkOk (H.bu n b0 h0) (H.bk n b0 h0) (fun j => ?_)
   show E'.K (E.m b0.st).1 j = none
   rw [hother _ _ (hne1 n b0 hne h0)]
   exact (H.bk n b0 h0).noK j
 . intro n t ht
   have ht : h.tok n = some t := ht
   rw [hM.le.hd _ (H.tu n t ht)]
   obtain ⟨m, cs, h1, h2⟩ := H.tk n t ht
   refine ⟨m, cs, h1, fun g j hg hj => ?_⟩
   rw [hother _ _ (fun q => H.bt nm n _ t hb ht (by rw [hg, q]))]
   exact h2 g j hg hj
 . intro n n' b b' hn hb1 hb2
   obtain ⟨_, b0, h0, rfl⟩ := get n b hb1
   obtain ⟨_, b0', h0', rfl⟩ := get n' b' hb2
   show (E'.m b0.st).1 ≠ (E'.m b0'.st).1
   rw [hM.le.m _ (H.bu n b0 h0), hM.le.m _ (H.bu n' b0' h0')]
   exact H.bb n n' b0 b0' hn h0 h0'
 . intro n n' b t hb1 ht
   have ht : h.tok n' = some t := ht
   obtain ⟨_, b0, h0, rfl⟩ := get n b hb1
   show (E'.hd t.st).ownBlock ≠ some (E'.m b0.st).1
   rw [hM.le.m _ (H.bu n b0 h0), hM.le.hd _ (H.tu n' t ht)]
   exact H.bt n n' b0 t h0 ht
 . intro n n' t t' g hn ht ht'
   have ht : h.tok n = some t := ht
   have ht' : h.tok n' = some t' := ht'
   rw [hM.le.hd _ (H.tu n t ht), hM.le.hd _ (H.tu n' t' ht')]
   exact H.tt n n' t t' g hn ht ht'
end Go.Gv

namespace Go.Gv
structure Fr (L : Nat -> Bool) (S S' : St) : Prop where
 t : S'.t = S.t
 b : ∀ n, L n = false -> S'.blk n = S.blk n
 k : ∀ n, L n = false -> S'.tok n = S.tok n
 c : S.clk <= S'.clk
theorem Fr.refl (L : Nat -> Bool) (S : St) : Fr L S S := ⟨rfl, fun _ _ => rfl, fun _ _ => rfl, Nat.le_refl _⟩
theorem Fr.trans {L : Nat -> Bool} {S S' S'' : St} (h : Fr L S S') (k : Fr L S' S'') : Fr L S S'' :=
 ⟨k.t.trans h.t, fun n hn => (k.b n hn).trans (h.b n hn), fun n hn => (k.k n hn).trans (h.k n hn), Nat.le_trans h.c k.c⟩
theorem Fr.mono {L L' : Nat -> Bool} (hl : ∀ n, L' n = false -> L n = false) {S S' : St} (h : Fr L S S') : Fr L' S S' :=
 ⟨h.t, fun n hn => h.b n (hl n hn), fun n hn => h.k n (hl n hn), h.c⟩
structure Fh (L : Nat -> Bool) (S S' : St) : Prop where
 b : ∀ n, L n = false -> S'.blk n = S.blk n
 k : ∀ n, L n = false -> S'.tok n = S.tok n
 c : S.clk <= S'.clk
theorem Fh.refl (L : Nat -> Bool) (S : St) : Fh L S S := ⟨fun _ _ => rfl, fun _ _ => rfl, Nat.le_refl _⟩
theorem Fh.trans {L : Nat -> Bool} {S S' S'' : St} (h : Fh L S S') (k : Fh L S' S'') : Fh L S S'' :=
 ⟨fun n hn => (k.b n hn).trans (h.b n hn), fun n hn => (k.k n hn).trans (h.k n hn), Nat.le_trans h.c k.c⟩
theorem Fr.h {L : Nat -> Bool} {S S' : St} (h : Fr L S S') : Fh L S S' := ⟨h.b, h.k, h.c⟩
theorem Fh.r {L : Nat -> Bool} {S S' : St} (h : Fh L S S') (ht : S'.t = S.t) : Fr L S S' := ⟨ht, h.b, h.k, h.c⟩
theorem upd_out {α : Type} {L : Nat -> Bool} {n : Nat} (hn : L n = false) {f : Nat -> α} {i : Nat} {v : α} (hi : L i = true) : upd f i v n = f n :=
 upd_ne _ _ _ _ (fun e => by subst e; rw [hn] at hi; cases hi)
theorem Fh.step {L : Nat -> Bool} {S S' : St} (h : Fh L S S') {t : Nat -> AV} {b : Nat -> Option Blk} {k : Nat -> Option Tok} {c : Nat} (hb : ∀ n, L n = false -> b n = S'.blk n) (hk : ∀ n, L n = false -> k n = S'.tok n) (hc : S'.clk <= c) :
   Fh L S ⟨t, b, k, c⟩ := ⟨fun n hn => (hb n hn).trans (h.b n hn), fun n hn => (hk n hn).trans (h.k n hn), Nat.le_trans h.c hc⟩
theorem Fh.here {L : Nat -> Bool} {S : St} {t : Nat -> AV} {b : Nat -> Option Blk} {k : Nat -> Option Tok} {c : Nat} (hb : ∀ n, L n = false -> b n = S.blk n) (hk : ∀ n, L n = false -> k n = S.tok n) (hc : S.clk <= c) :
   Fh L S ⟨t, b, k, c⟩ := (Fh.refl L S).step hb hk hc
section
variable {k : IntKind} {n : Int} {b : Bool} {cs xs : List AV} {s : ByteArray} {nm st sz i off len o : Nat} {f : FuncId} {v : AV}
@[simp] theorem setCells_int : setCells (.int k n) o [v] = v := rfl
@[simp] theorem setCells_bool : setCells (.bool b) o [v] = v := rfl
@[simp] theorem setCells_str : setCells (.str s) o [v] = v := rfl
@[simp] theorem setCells_nils : setCells .nils o [v] = v := rfl
@[simp] theorem setCells_nilp : setCells .nilp o [v] = v := rfl
@[simp] theorem setCells_nilf : setCells .nilf o [v] = v := rfl
@[simp] theorem setCells_lst : setCells (.lst sz xs) o [v] = v := rfl
@[simp] theorem setCells_acc : setCells (.acc nm st sz xs) o [v] = v := rfl
@[simp] theorem setCells_sl : setCells (.sl nm st sz off len) o [v] = v := rfl
@[simp] theorem setCells_ptr : setCells (.ptr nm st sz i off) o [v] = v := rfl
@[simp] theorem setCells_kp : setCells (.kp cs off) o [v] = v := rfl
@[simp] theorem setCells_fn : setCells (.fn f cs) o [v] = v := rfl
end
theorem max_if (p q : Int) : (if q > p then q else p) = max p q := by rw [Int.max_def]; split <;> split <;> omega
theorem min_if (p q : Int) : (if q < p then q else p) = min p q := by rw [Int.min_def]; split <;> split <;> omega
@[simp] theorem mmI_nil (mx : Bool) (k : IntKind) (p : Int) : mmI mx k p [] = some p := rfl
@[simp] theorem mmI_max (k : IntKind) (p q : Int) (l : List AV) : mmI true k p (.int k q :: l) = mmI true k (max p q) l := by simp only [mmI, if_true, max_if]
@[simp] theorem mmI_min (k : IntKind) (p q : Int) (l : List AV) : mmI false k p (.int k q :: l) = mmI false k (min p q) l := by simp only [mmI, if_true, Bool.false_eq_true, if_false, min_if]
def rng (a b : Nat) (n : Nat) : Bool := decide (a <= n) && decide (n < b)
end Go.Gv

namespace Go.Gv
section
variable {E : Env} {B : Nat} {h : Hp} {w : World}
theorem dcl_list {K : Nat -> Nat -> Option Value} {blk : Nat -> Option Blk} {d : Nat} (ih : ∀ (x y : AV) (v : Value), dco blk d x y -> Rel E x v -> Rel (envK (K)) y v)
   {xs ys : List AV} {b o sz cap : Nat} (f : Nat -> Nat -> Value) (hcap : xs.length <= cap) (hsz : ∀ x ∈ xs, x.cells.length = sz)
   (hk : ∀ i j : Nat, i < xs.length -> j < sz -> K b (o + i * sz + j) = some (f i j))
   (h1 : ∀ (i : Nat) (x : AV), xs[i]? = some x -> ∀ (j : Nat) (y : AV), x.cells[j]? = some y -> y.one = true)
   (hr : ∀ (i : Nat) (x : AV), xs[i]? = some x -> ∀ (j : Nat) (y : AV), x.cells[j]? = some y -> Rel E y (f i j))
   (hc : coL (elemR (dco blk d)) xs ys) : Rel (envK (K)) (.lst sz ys) (.slice (some ⟨b, o, none⟩) xs.length cap) := by
 obtain ⟨e1, e2⟩ := coL_get hc
 have pair : ∀ (i : Nat) (y : AV), ys[i]? = some y -> ∃ x, xs[i]? = some x /\ elemR (dco blk d) x y := by
   intro i y hy
   obtain ⟨x, hx⟩ : ∃ x, xs[i]? = some x := ⟨_, List.getElem?_eq_getElem (by rw [e1]; exact (List.getElem?_eq_some_iff.1 hy).1)⟩
   exact ⟨x, hx, e2 i x y hx hy⟩
 have ones : ∀ (i : Nat) (x : AV), xs[i]? = some x -> ∀ z ∈ x.cells, z.one = true := by
   intro i x hx z hz
   obtain ⟨j, hj⟩ := List.getElem?_of_mem hz
   exact h1 i x hx j z hj
 have cell : ∀ (i : Nat) (y : AV), ys[i]? = some y -> ∀ (j : Nat) (q : AV), y.cells[j]? = some q -> ∃ p x, xs[i]? = some x /\ x.cells[j]? = some p /\ dco blk d p q := by
   intro i y hy j q hq
   obtain ⟨x, hx, hxy⟩ := pair i y hy
   obtain ⟨c1, c2⟩ := elemR_cells hxy (ones i x hx)
   obtain ⟨p, hp⟩ : ∃ p, x.cells[j]? = some p := ⟨_, List.getElem?_eq_getElem (by rw [c1]; exact (List.getElem?_eq_some_iff.1 hq).1)⟩
   exact ⟨p, x, hx, hp, c2 j p q hp hq⟩
 rw [e1]
 refine Rel.lst ys b o sz cap f (by rw [<- e1]; exact hcap) ?_ ?_ ?_ ?_
 . intro y hy
   obtain ⟨i, hi⟩ := List.getElem?_of_mem hy
   obtain ⟨x, hx, hxy⟩ := pair i y hi
   rw [<- (elemR_cells hxy (ones i x hx)).1]
   exact hsz x (List.mem_of_getElem? hx)
 . intro i j hi hj
   exact hk i j (by rw [e1]; exact hi) hj
 . intro i y hy j q hq
   obtain ⟨p, x, hx, hp, hpq⟩ := cell i y hy j q hq
   exact dco_one d hpq (h1 i x hx j p hp)
 . intro i y hy j q hq
   obtain ⟨p, x, hx, hp, hpq⟩ := cell i y hy j q hq
   exact ih p q _ hpq (hr i x hx j p hp)
theorem dcc_rel : ∀ (d : Nat) (x y : AV) (v : Value), dco (fun _ => none) d x y -> (∀ b o u, E.K b o = some u -> w.cell? ⟨b, o, none⟩ = some u) -> Rel E x v -> Rel (envK E.K) y v := by
 have base : ∀ (x y : AV) (v : Value), co1 none x y -> (∀ b o u, E.K b o = some u -> w.cell? ⟨b, o, none⟩ = some u) -> Rel E x v -> Rel (envK E.K) y v := by
   intro x y v hc hK hr
   have H : HConc E w.heap.size ⟨fun _ => none, fun _ => none⟩ w := ⟨hK, by simp, by simp, by simp, by simp, by simp, by simp, by simp⟩
   exact co1_rel H (K := E.K) ⟨fun _ _ _ q => q, by simp⟩ (by simp) hc hr
 have lsts : ∀ (d : Nat), (∀ (x y : AV) (v : Value), dco (fun _ => none) d x y -> Rel E x v -> Rel (envK E.K) y v) -> ∀ (s : Nat) (xs ys : List AV) (v : Value), Rel E (.lst s xs) v -> (xs = ys \/ coL (elemR (dco (fun _ => none) d)) xs ys) -> Rel (envK E.K) (.lst s ys) v := by
   intro d ih s xs ys v hr hc
   rcases hc with rfl | hc
   . exact lst_envK (K := E.K) (fun _ _ _ q => q) hr
   . cases hr with
     | lst0 _ a cap =>
       cases ys with
       | nil => exact .lst0 _ _ _
       | cons y ys => exact hc.elim
     | lst _ b o _ cap f hcap hsz hk h1 hr =>
       exact dcl_list ih f hcap hsz hk h1 (fun i x hx j y hy => (hr i x hx j y hy).mono (Env.cl_le E)) hc
 intro d
 induction d with
 | zero => exact base
 | succ d ih =>
   intro x y v hc hK hr
   have ih' := fun (x y : AV) (v : Value) q r => ih x y v q hK r
   unfold dco at hc
   split at hc
   . subst hc; rw [hr.nils_inv]; exact .lst0 _ _ _
   . obtain ⟨rfl, hc⟩ := hc
     exact lsts d ih' _ _ _ v hr hc
   . obtain ⟨rfl, hc⟩ := hc
     cases hr with
     | acc _ _ _ _ _ _ _ hl => exact lsts d ih' _ _ _ v hl hc
   . obtain ⟨_, es, hes, _⟩ := hc
     exact absurd hes (by simp [getB])
   . exact base x y v hc hK hr
theorem dccE_rel (d : Nat) (x y : AV) (v : Value) (hc : elemR (dco (fun _ => none) d) x y) (hK : ∀ b o u, E.K b o = some u -> w.cell? ⟨b, o, none⟩ = some u) (hr : Rel E x v) : Rel (envK E.K) y v := by
 unfold elemR at hc
 split at hc
 . rename_i xs ys
   obtain ⟨e1, e2⟩ := coL_get hc
   cases hr with
   | agg _ vs hs h1 hr =>
     have pair : ∀ (j : Nat) (y : AV), ys[j]? = some y -> ∃ x, xs[j]? = some x /\ dco (fun _ => none) d x y := by
       intro j y hy
       obtain ⟨x, hx⟩ : ∃ x, xs[j]? = some x := ⟨_, List.getElem?_eq_getElem (by rw [e1]; exact (List.getElem?_eq_some_iff.1 hy).1)⟩
       exact ⟨x, hx, e2 j x y hx hy⟩
     refine .agg ys vs (by rw [<- e1]; exact hs) (fun j y hy => ?_) (fun j y u hy hu => ?_)
     . obtain ⟨x, hx, hxy⟩ := pair j y hy
       exact dco_one d hxy (h1 j x hx)
     . obtain ⟨x, hx, hxy⟩ := pair j y hy
       exact dcc_rel d x y u hxy hK (hr j x u hx hu)
 . exact dcc_rel d _ _ v hc hK hr
end
theorem pcall_deep {P : Program} {f : FuncId} {cargs : List AV} {r : AV} (h : PC P f cargs r) (d : Nat) {caps vals : List AV} (hco : coL (elemR (dco (fun _ => none) d)) (vals ++ caps) cargs) : PCallP P (.fn f caps) vals r := by
 obtain ⟨hent, hc⟩ := h
 refine ⟨f, caps, rfl, hent, fun E w args hK hG hsz hrel => ?_⟩
 obtain ⟨e1, e2⟩ := coL_get hco
 refine hc E.K w args hK hG (by rw [hsz, e1]) ?_
 intro j y u hy hu
 obtain ⟨x, hx⟩ : ∃ x, (vals ++ caps)[j]? = some x := ⟨_, List.getElem?_eq_getElem (by rw [e1]; exact (List.getElem?_eq_some_iff.1 hy).1)⟩
 exact dccE_rel (w := w) d x y u (e2 j x y hx hy) hK (hrel j x u hx hu)
theorem callC {P : Program} {f : FuncId} {cargs : List AV} {r : AV} (h : PC P f cargs r) (d : Nat) {caps vals : List AV} {S : St} {k : AV -> St -> Prop} {u : Dep k} (hco : coL (elemR (dco (fun _ => none) d)) (vals ++ caps) cargs) (hk : k r S) : CallG P (.fn f caps) vals S k u :=
 CallP_of_PCallP (pcall_deep h d hco) hk
theorem calldC {P : Program} {f : FuncId} {cargs : List AV} {r : AV} (h : PC P f cargs r) (d : Nat) {caps vals : List AV} {blk : Nat -> Option Blk} {k : Eff -> Prop} {u : Dep k} (hco : coL (elemR (dco (fun _ => none) d)) (vals ++ caps) cargs) (hk : k ⟨r, [], []⟩) : callD P (.fn f caps) vals blk k u :=
 ⟨_, .pure (pcall_deep h d hco) blk, hk⟩
end Go.Gv

namespace Go.Gv
theorem drawn_step {P : Program} {pre : List (List Nat)} {st0 : Nat} {ais : List AI} {es : List Eff} {S0 : St} {k : St -> Prop} (hS : Shown P pre st0 ais es S0 k) (D : Nat -> Bool)
   (hcl : ∀ i, D i = true -> ∀ p ∈ pre.getD i [], D p = true) (j : Nat) (ai : AI) (hai : ais[j]? = some ai) (hjf : D j = false) (hpreD : ∀ p ∈ pre.getD j [], D p = true) :
   ∃ e : Eff, stepV P (st0 + j) ai (foldS D 0 (ais.zip es) S0) (fun S' => S' = foldS (fun i => (i == j) || D i) 0 (ais.zip es) S0) := by
 have hjl : j < ais.length := (List.getElem?_eq_some_iff.1 hai).1
 obtain ⟨e, he⟩ : ∃ e, es[j]? = some e := ⟨_, List.getElem?_eq_getElem (by rw [hS.len]; omega)⟩
 have hout := hS.out j ai e hai he
 have getz : ∀ (m : Nat) (p : AI × Eff), (ais.zip es)[m]? = some p -> ais[m]? = some p.1 /\ es[m]? = some p.2 := by
   intro m p hp
   rw [List.getElem?_zip_eq_some] at hp
   exact hp
 have apartAt : ∀ (m : Nat) (p : AI × Eff), (ais.zip es)[m]? = some p -> m ≠ j -> (D m ≠ decide (m < j)) ->
     Apart p.1 ai (fpOf (foldS (fun i => decide (i < m)) 0 (ais.zip es) S0).t p.1 p.2) (fpOf (foldS (fun i => decide (i < j)) 0 (ais.zip es) S0).t ai e) \/
     Apart ai p.1 (fpOf (foldS (fun i => decide (i < j)) 0 (ais.zip es) S0).t ai e) (fpOf (foldS (fun i => decide (i < m)) 0 (ais.zip es) S0).t p.1 p.2) := by
   intro m p hp hne hdiff
   obtain ⟨g1, g2⟩ := getz m p hp
   rcases Nat.lt_or_gt_of_ne hne with hlt | hgt
   . refine .inl (hS.apart m j p.1 ai p.2 e hlt g1 hai g2 he (fun q => ?_))
     rw [hpreD m q] at hdiff
     simp [hlt] at hdiff
   . refine .inr (hS.apart j m ai p.1 e p.2 hgt hai g1 he g2 (fun q => ?_))
     have hm : D m = true := by
       cases hx : D m with
       | true => rfl
       | false => rw [hx] at hdiff; simp at hdiff; omega
     have := hcl m hm j q
     rw [hjf] at this; cases this
 have hdif : ∀ m, m ≠ j -> decide (decide (m < j) = D m) = false -> D m ≠ decide (m < j) := by
   intro m _ hq
   simp only [decide_eq_false_iff_not] at hq; exact fun q => hq q.symm
 have hout' : Out P (foldS D 0 (ais.zip es) S0) (st0 + j) ai e := by
   refine hout.congr ?_ ?_ ?_
   . intro x hx
     refine agree_t x _ 0 _ _ rfl (fun m p hp hd => ?_)
     simp only [Nat.zero_add]
     by_cases hm : m = j
     . subst hm; rw [hjf]; simp
     . cases hq : decide (decide (m < j) = D m) with
       | true => simpa using hq
       | false =>
         rcases apartAt m p hp hm (hdif m hm hq) with q | q
         . exact absurd hx (q.s1 x hd)
         . exact absurd hx (q.s3 x hd)
   . intro x hx
     refine agree_b x _ 0 _ _ rfl (fun m p hp hd => ?_)
     simp only [Nat.zero_add]
     by_cases hm : m = j
     . subst hm; rw [hjf]; simp
     . cases hq : decide (decide (m < j) = D m) with
       | true => simpa using hq
       | false =>
         rcases apartAt m p hp hm (hdif m hm hq) with q | q
         . exact absurd hx (disj_mem q.b1 hd)
         . exact absurd hd (disj_mem q.b3 hx)
   . intro x hx
     refine agree_k x _ 0 _ _ rfl (fun m p hp hd => ?_)
     simp only [Nat.zero_add]
     by_cases hm : m = j
     . subst hm; rw [hjf]; simp
     . cases hq : decide (decide (m < j) = D m) with
       | true => simpa using hq
       | false =>
         rcases apartAt m p hp hm (hdif m hm hq) with q | q
         . exact absurd hx (disj_mem q.t1 hd)
         . exact absurd hd (disj_mem q.t3 hx)
 have hins : (foldS D 0 (ais.zip es) S0).app ai.dst e = foldS (fun i => (i == j) || D i) 0 (ais.zip es) S0 := by
   refine foldS_insert j ai e hjf (by simp) (fun i hi => by simp [hi]) _ 0 S0 (Nat.zero_le _) ?_ ?_
   . rw [Nat.sub_zero, List.getElem?_zip_eq_some]; exact ⟨hai, he⟩
   . intro m p hm hD hp
     rw [Nat.sub_zero] at hp
     obtain ⟨g1, g2⟩ := getz m p hp
     have hapm := hS.apart j m ai p.1 e p.2 hm hai g1 he g2 (fun q => by have := hcl m hD j q; rw [hjf] at this; cases this)
     exact ⟨hapm.s2, hapm.b2, hapm.t2⟩
 refine ⟨e, ?_⟩
 rw [<- hins]
 unfold Out at hout'
 unfold stepV
 split at hout'
 . rename_i b hb
   simp only [hb]
   split at hout'
   . rename_i hbt
     rw [if_pos hbt]
     unfold runV
     cases hk : ai.k with
     | op ao => rw [hk] at hout'; simp only at hout' ⊢; rw [hout']
     | nq kd neg x => rw [hk] at hout'; simp only at hout' ⊢; rw [hout']
     | call fx l =>
       rw [hk] at hout'
       simp only at hout' ⊢
       refine (hout' _ (fun _ _ => rfl)).weaken ?_
       rintro r S' ⟨rfl, rfl⟩
       cases ai.dst <;> rfl
   . rename_i hbt
     rw [if_neg hbt, hout']
     cases ai.dst <;> rfl
 . exact hout'.elim
theorem regI_last {P : Program} {pre : List (List Nat)} {st0 : Nat} {ops : List AI} {last : AI} {k : St -> Prop} {S0 : St} (hp : ((List.range ops.length).all fun i => (pre.getD ops.length []).contains i) = true)
   (h : regDV P pre st0 0 ops [] (fun S' => stepV P (st0 + ops.length) last S' k) S0) : regI P pre st0 (ops ++ [last]) k S0 := by
 obtain ⟨es, hS⟩ := shown_of P pre st0 S0 _ ops [] [] [] S0 rfl rfl rfl (by simp) (by simp) (by simp) (by simpa using h)
 simp only [List.nil_append] at hS
 have hpn : ∀ i, i < ops.length -> i ∈ pre.getD ops.length [] := by
   intro i hi
   have := List.all_eq_true.1 hp i (List.mem_range.2 hi)
   simpa using this
 refine ⟨fun D S => (D ops.length = false /\ S = foldS D 0 (ops.zip es) S0) \/ (D ops.length = true /\ k S), .inl ⟨rfl, (foldS_none _ _ _ (fun _ _ => rfl)).symm⟩, ?_, ?_⟩
 . intro D S' j ai hj hDj hpre hcl hI
   by_cases hjl : j < ops.length
   . rw [List.getElem?_append_left hjl] at hj
     rcases hI with ⟨h1, rfl⟩ | ⟨h1, h2⟩
     . obtain ⟨e, hs⟩ := drawn_step hS D hcl j ai hj hDj hpre
       refine stepV_mono ?_ hs
       rintro S'' rfl
       refine .inl ⟨?_, rfl⟩
       simp [h1]; omega
     . have := hcl _ h1 j (hpn j hjl)
       rw [hDj] at this; cases this
   . have hjn : j = ops.length := by
       have := (List.getElem?_eq_some_iff.1 hj).1
       simp at this; omega
     subst hjn
     rw [List.getElem?_append_right (Nat.le_refl _)] at hj
     simp at hj
     subst hj
     rcases hI with ⟨h1, rfl⟩ | ⟨h1, h2⟩
     . have e : foldS D 0 (ops.zip es) S0 = foldS (fun _ => true) 0 (ops.zip es) S0 := foldS_congr _ _ _ (fun i _ hi => by
         simp [hS.len] at hi
         exact hpre i (hpn i hi))
       rw [e]
       exact stepV_mono (fun S'' q => .inr ⟨by simp, q⟩) hS.fin
     . rw [hDj] at h1; cases h1
 . intro D S' hD hI
   rcases hI with ⟨h1, _⟩ | ⟨_, h2⟩
   . have := hD ops.length (by simp)
     rw [h1] at this; cases this
   . exact h2
theorem regi_last {P : Program} {pre : List (List Nat)} {st0 : Nat} {all : List AI} {S0 : St} {k : St -> Prop} {u : Dep k} (ops : List AI) (last : AI) (he : all = ops ++ [last])
   (hp : ((List.range ops.length).all fun i => (pre.getD ops.length []).contains i) = true) (h : regDG P pre st0 0 ops [] S0 (fun S' => regG P (st0 + ops.length) [last] S' k .mk) .mk) : regIG P pre st0 all S0 k u := by
 subst he
 exact regI_last hp h
theorem regi_end {P : Program} {pre : List (List Nat)} {st0 : Nat} {all : List AI} {S0 : St} {k : St -> Prop} {u : Dep k} (hne : all ≠ [])
   (hp : ((List.range (all.length - 1)).all fun i => (pre.getD (all.length - 1) []).contains i) = true) (h : regDG P pre st0 0 all.dropLast [] S0 (fun S' => regG P (st0 + (all.length - 1)) [all.getLast hne] S' k .mk) .mk) : regIG P pre st0 all S0 k u :=
 regi_last all.dropLast (all.getLast hne) (List.dropLast_concat_getLast hne).symm (by rw [List.length_dropLast]; exact hp) (by rw [List.length_dropLast]; exact h)
def SF (tbl : List (Nat × AV)) (D : Nat -> Bool) (S : St) : Prop := ∀ (j d : Nat) (v : AV), tbl[j]? = some (d, v) -> D j = true -> S.t d = v
theorem SF.start (tbl : List (Nat × AV)) (S : St) : SF tbl (fun _ => false) S := fun _ _ _ _ h => by cases h
theorem SF.ins {tbl : List (Nat × AV)} {D : Nat -> Bool} {S S' : St} (h : SF tbl D S) (hn : (tbl.map (·.1)).Nodup) {j d : Nat} {v : AV} (hj : tbl[j]? = some (d, v)) (hd : S'.t d = v) (ho : ∀ x, x ≠ d -> S'.t x = S.t x) : SF tbl (fun i => (i == j) || D i) S' := by
 intro j' d' v' h' hD
 by_cases e : j' = j
 . subst e
   rw [hj] at h'; cases h'
   exact hd
 . have hD' : D j' = true := by simpa [e] using hD
   rw [ho d' ?_]
   . exact h j' d' v' h' hD'
   . rintro rfl
     have e1 : (tbl.map (·.1))[j]? = some d' := by rw [List.getElem?_map, hj]; rfl
     have e2 : (tbl.map (·.1))[j']? = some d' := by rw [List.getElem?_map, h']; rfl
     obtain ⟨l1, q1⟩ := List.getElem?_eq_some_iff.1 e1
     obtain ⟨l2, q2⟩ := List.getElem?_eq_some_iff.1 e2
     rcases Nat.lt_or_gt_of_ne e with hlt | hgt
     . exact List.pairwise_iff_getElem.1 hn j' j l2 l1 hlt (by rw [q1, q2])
     . exact List.pairwise_iff_getElem.1 hn j j' l1 l2 hgt (by rw [q1, q2])
theorem SF.keep {tbl : List (Nat × AV)} {D : Nat -> Bool} {S S' : St} (h : SF tbl D S) {j : Nat} (hj : tbl[j]? = none) (ho : S'.t = S.t) : SF tbl (fun i => (i == j) || D i) S' := by
 intro j' d' v' h' hD
 by_cases e : j' = j
 . subst e; rw [hj] at h'; cases h'
 . rw [ho]; exact h j' d' v' h' (by simpa [e] using hD)
theorem stepV_op {P : Program} {st : Nat} {d : Option Nat} {op : AOp} {S : St} {k : St -> Prop} (e : Eff) (h : ex S.t S.blk S.tok st op = some e) (hk : k (S.app d e)) : stepV P st ⟨d, none, .op op⟩ S k := by
 simp only [stepV, guardV, if_true, runV, h]
 exact hk
theorem stepV_call {P : Program} {st : Nat} {d : Option Nat} {fx : X} {l : List X} {S : St} {k : St -> Prop} (h : CallG P (fx.ev S.t) (l.map (·.ev S.t)) S (fun r S' => k (S'.put d r)) .mk) : stepV P st ⟨d, none, .call fx l⟩ S k := by
 simp only [stepV, guardV, if_true, runV]
 exact h
end Go.Gv

namespace Go.Gv
section
variable {E : Env} {B : Nat} {h : Hp} {w : World}
theorem dcoK_list {K : Nat -> Nat -> Option Value} {blk : Nat -> Option Blk} {d : Nat} (ih : ∀ (x y : AV) (v : Value), dco blk d x y -> Rel E x v -> Rel (envK K) y v)
   {xs ys : List AV} {b o sz cap : Nat} (f : Nat -> Nat -> Value) (hcap : xs.length <= cap) (hsz : ∀ x ∈ xs, x.cells.length = sz)
   (hk : ∀ i j : Nat, i < xs.length -> j < sz -> K b (o + i * sz + j) = some (f i j))
   (h1 : ∀ (i : Nat) (x : AV), xs[i]? = some x -> ∀ (j : Nat) (y : AV), x.cells[j]? = some y -> y.one = true)
   (hr : ∀ (i : Nat) (x : AV), xs[i]? = some x -> ∀ (j : Nat) (y : AV), x.cells[j]? = some y -> Rel E y (f i j))
   (hc : coL (elemR (dco blk d)) xs ys) : Rel (envK K) (.lst sz ys) (.slice (some ⟨b, o, none⟩) xs.length cap) := by
 obtain ⟨e1, e2⟩ := coL_get hc
 have pair : ∀ (i : Nat) (y : AV), ys[i]? = some y -> ∃ x, xs[i]? = some x /\ elemR (dco blk d) x y := by
   intro i y hy
   obtain ⟨x, hx⟩ : ∃ x, xs[i]? = some x := ⟨_, List.getElem?_eq_getElem (by rw [e1]; exact (List.getElem?_eq_some_iff.1 hy).1)⟩
   exact ⟨x, hx, e2 i x y hx hy⟩
 have ones : ∀ (i : Nat) (x : AV), xs[i]? = some x -> ∀ z ∈ x.cells, z.one = true := by
   intro i x hx z hz
   obtain ⟨j, hj⟩ := List.getElem?_of_mem hz
   exact h1 i x hx j z hj
 have cell : ∀ (i : Nat) (y : AV), ys[i]? = some y -> ∀ (j : Nat) (q : AV), y.cells[j]? = some q -> ∃ p x, xs[i]? = some x /\ x.cells[j]? = some p /\ dco blk d p q := by
   intro i y hy j q hq
   obtain ⟨x, hx, hxy⟩ := pair i y hy
   obtain ⟨c1, c2⟩ := elemR_cells hxy (ones i x hx)
   obtain ⟨p, hp⟩ : ∃ p, x.cells[j]? = some p := ⟨_, List.getElem?_eq_getElem (by rw [c1]; exact (List.getElem?_eq_some_iff.1 hq).1)⟩
   exact ⟨p, x, hx, hp, c2 j p q hp hq⟩
 rw [e1]
 refine Rel.lst ys b o sz cap f (by rw [<- e1]; exact hcap) ?_ ?_ ?_ ?_
 . intro y hy
   obtain ⟨i, hi⟩ := List.getElem?_of_mem hy
   obtain ⟨x, hx, hxy⟩ := pair i y hi
   rw [<- (elemR_cells hxy (ones i x hx)).1]
   exact hsz x (List.mem_of_getElem? hx)
 . intro i j hi hj
   exact hk i j (by rw [e1]; exact hi) hj
 . intro i y hy j q hq
   obtain ⟨p, x, hx, hp, hpq⟩ := cell i y hy j q hq
   exact dco_one d hpq (h1 i x hx j p hp)
 . intro i y hy j q hq
   obtain ⟨p, x, hx, hp, hpq⟩ := cell i y hy j q hq
   exact ih p q _ hpq (hr i x hx j p hp)
theorem dcoK_rel {K : Nat -> Nat -> Option Value} (H : HConc E B h w) (kn1 : Knows E B w K true) : ∀ (d : Nat) (x y : AV) (v : Value), dco h.blk d x y -> Rel E x v -> Rel (envK K) y v := by
 have kn : Knows E B w K (none : Option (Nat -> Option Blk)).isSome := ⟨kn1.K, by simp⟩
 have base : ∀ (x y : AV) (v : Value), co1 none x y -> Rel E x v -> Rel (envK K) y v := fun x y v hc hr => co1_rel H kn (by simp) hc hr
 have lsts : ∀ (d : Nat), (∀ (x y : AV) (v : Value), dco h.blk d x y -> Rel E x v -> Rel (envK K) y v) -> ∀ (s : Nat) (xs ys : List AV) (v : Value), Rel E (.lst s xs) v -> (xs = ys \/ coL (elemR (dco h.blk d)) xs ys) -> Rel (envK K) (.lst s ys) v := by
   intro d ih s xs ys v hr hc
   rcases hc with rfl | hc
   . exact lst_envK (K := K) kn1.K hr
   . cases hr with
     | lst0 _ a cap =>
       cases ys with
       | nil => exact .lst0 _ _ _
       | cons y ys => exact hc.elim
     | lst _ b o _ cap f hcap hsz hk h1 hr =>
       exact dcoK_list ih f hcap hsz (fun i j hi hj => kn1.K _ _ _ (hk i j hi hj)) h1 (fun i x hx j y hy => (hr i x hx j y hy).mono (Env.cl_le E)) hc
 intro d
 induction d with
 | zero => exact base
 | succ d ih =>
   intro x y v hc hr
   unfold dco at hc
   split at hc
   . subst hc; rw [hr.nils_inv]; exact .lst0 _ _ _
   . obtain ⟨rfl, hc⟩ := hc
     exact lsts d ih _ _ _ v hr hc
   . obtain ⟨rfl, hc⟩ := hc
     cases hr with
     | acc _ _ _ _ _ _ _ hl => exact lsts d ih _ _ _ v hl hc
   . rename_i nm st s off len s' ys
     obtain ⟨rfl, es, hes, hle, hc⟩ := hc
     have hbs := getB_some hes
     have hbk := (H.bk nm _ hbs).r (getB_pos hes)
     obtain ⟨cur, e, hg, hsz, hrow⟩ := hbk.row
     simp only at hg hsz hrow
     cases hr with
     | sl _ _ _ _ _ cap a hu hcap hc' ha =>
       have hlen : ((es.drop off).take len).length = len := by simp; omega
       by_cases hl0 : len = 0
       . subst hl0
         rw [List.take_zero] at hc
         cases ys with
         | nil => exact .lst0 _ _ _
         | cons y ys => exact hc.elim
       . rw [ha (by omega)]
         have hidx : ∀ (i : Nat) (z : AV), ((es.drop off).take len)[i]? = some z -> i < len /\ es[off + i]? = some z := by
           intro i z hz
           rw [List.getElem?_take] at hz
           split at hz
           . rename_i hi; rw [List.getElem?_drop] at hz; exact ⟨hi, hz⟩
           . cases hz
         have hel : ∀ z ∈ (es.drop off).take len, ElemOk s z := fun z hz => hbk.el z (List.mem_of_mem_drop (List.mem_of_mem_take hz))
         have cell : ∀ (i : Nat) (z : AV), ((es.drop off).take len)[i]? = some z -> ∀ (j : Nat) (q : AV), z.cells[j]? = some q ->
             ∃ u, w.cell? ⟨(E.m st).1, (E.m st).2 + off * s + i * s + j, none⟩ = some u /\ Rel E q u := by
           intro i z hz j q hq
           obtain ⟨hi, hz'⟩ := hidx i z hz
           obtain ⟨u, hu', hrel⟩ := hrow (off + i) z hz' j q hq
           refine ⟨u, ?_, hrel⟩
           rw [show (E.m st).2 + off * s + i * s + j = (E.m st).2 + (off + i) * s + j by rw [Nat.add_mul]; omega, cell_of_row w _ _ cur e (0, 0) hg]
           exact hu'
         have := dcoK_list (b := (E.m st).1) (o := (E.m st).2 + off * s) (sz := s) (cap := cap) ih (fun i j => (w.cell? ⟨(E.m st).1, (E.m st).2 + off * s + i * s + j, none⟩).getD .nilFunc) (by rw [hlen]; exact hcap) (fun z hz => (hel z hz).1) ?_ ?_ ?_ hc
         . rw [hlen] at this; exact this
         . intro i j hi hj
           obtain ⟨z, hz⟩ : ∃ z, ((es.drop off).take len)[i]? = some z := ⟨_, List.getElem?_eq_getElem hi⟩
           obtain ⟨q, hq⟩ : ∃ q, z.cells[j]? = some q := ⟨_, List.getElem?_eq_getElem (by rw [(hel z (List.mem_of_getElem? hz)).1]; exact hj)⟩
           obtain ⟨u, hu', _⟩ := cell i z hz j q hq
           rw [hu']; exact kn1.rest rfl _ _ _ hbk.base hu'
         . intro i z hz j q hq
           exact (hel z (List.mem_of_getElem? hz)).2 q (List.mem_of_getElem? hq)
         . intro i z hz j q hq
           obtain ⟨u, hu', hrel⟩ := cell i z hz j q hq
           rw [hu']
           exact hrel
   . exact base x y v hc hr
theorem dcoKE_rel {K : Nat -> Nat -> Option Value} (H : HConc E B h w) (kn1 : Knows E B w K true) (d : Nat) (x y : AV) (v : Value) (hc : elemR (dco h.blk d) x y) (hr : Rel E x v) : Rel (envK K) y v := by
 unfold elemR at hc
 split at hc
 . rename_i xs ys
   obtain ⟨e1, e2⟩ := coL_get hc
   cases hr with
   | agg _ vs hs h1 hr =>
     have pair : ∀ (j : Nat) (y : AV), ys[j]? = some y -> ∃ x, xs[j]? = some x /\ dco h.blk d x y := by
       intro j y hy
       obtain ⟨x, hx⟩ : ∃ x, xs[j]? = some x := ⟨_, List.getElem?_eq_getElem (by rw [e1]; exact (List.getElem?_eq_some_iff.1 hy).1)⟩
       exact ⟨x, hx, e2 j x y hx hy⟩
     refine .agg ys vs (by rw [<- e1]; exact hs) (fun j y hy => ?_) (fun j y u hy hu => ?_)
     . obtain ⟨x, hx, hxy⟩ := pair j y hy
       exact dco_one d hxy (h1 j x hx)
     . obtain ⟨x, hx, hxy⟩ := pair j y hy
       exact dcoK_rel H kn1 d x y u hxy (hr j x u hx hu)
 . exact dcoK_rel H kn1 d _ _ v hc hr
end
end Go.Gv

namespace Go.Gv
open Go.RowKit
end Go.Gv

namespace Go.Gv
open Go.RowKit
section
variable {f : Nat -> AV} {blk : Nat -> Option Blk} {tok : Nat -> Option Tok} {st nm s : Nat} {m x v z : X} {k : IntKind} {zv : AV}
@[simp] theorem ex_mkm : ex f blk tok st (.mkm nm) = some { v := .mp nm st, wb := [(nm, some ⟨st, 0, []⟩)] } := rfl
@[simp] theorem ex_mget : ex f blk tok st (.mget k zv m x) = match m.ev f, x.ev f with
   | .mp nm s, .int k' a => if k' = k then (getM blk nm s).bind fun es => (findM k a es).map fun r => { v := r.getD zv } else none
   | _, _ => none := rfl
@[simp] theorem ex_mput : ex f blk tok st (.mput m x v) = match m.ev f, x.ev f with
   | .mp nm s, .int k a => (getM blk nm s).bind fun es => match findM k a es with
     | some none => if (v.ev f).one = true then some { v := .junk, wb := [(nm, some ⟨s, 0, es ++ [.agg [.int k a, v.ev f]]⟩)] } else none
     | _ => none
   | _, _ => none := rfl
@[simp] theorem aopXs_mkm : aopXs (.mkm nm) = [] := rfl
@[simp] theorem aopXs_mget : aopXs (.mget k zv m x) = [m, x] := rfl
@[simp] theorem aopXs_mput : aopXs (.mput m x v) = [m, x, v] := rfl
end
attribute [simp] getM
@[simp] theorem rdV_mp {nm st : Nat} : rdV (.mp nm st) = [nm] := rfl
@[simp] theorem tkV_mp {nm st : Nat} : tkV (.mp nm st) = [] := rfl
@[simp] theorem cells_mp {nm st : Nat} : (AV.mp nm st).cells = [.mp nm st] := rfl
@[simp] theorem one_mp {nm st : Nat} : (AV.mp nm st).one = true := rfl
@[simp] theorem lenOf_mp {nm st : Nat} : lenOf (.mp nm st) = none := rfl
theorem Rel.narrow {E E' : Env} {y : AV} {u' : Value} (h : Rel E' y u') : ∀ {u : Value}, Rel E y u -> Rel { E' with u := E.u } y u' := by
 induction h with
 | @junk E' v => intro u q; exact .junk v
 | @raw E' v => intro u q; exact .raw v
 | @bool E' b => intro u q; exact .bool b
 | @int E' k n => intro u q; exact .int k n
 | @str E' s => intro u q; exact .str s
 | @nilp E' => intro u q; exact .nilp
 | @nilf E' => intro u q; exact .nilf
 | @nils E' => intro u q; exact .nils
 | @ptr E' nm st sz i off _ =>
   intro u q
   cases q with
   | ptr _ _ _ _ _ hu => exact Rel.ptr (E := { E' with u := E.u }) nm st sz i off hu
 | @kp E' cs off b o f hk h1 hr => intro u q; exact Rel.kp (E := { E' with u := E.u }) cs off b o f hk h1 hr
 | @lst0 E' sz a cap => intro u q; exact .lst0 sz a cap
 | @lst E' xs b o sz cap f hcap hsz hk h1 hr => intro u q; exact Rel.lst (E := { E' with u := E.u }) xs b o sz cap f hcap hsz hk h1 hr
 | @acc E' nm st sz xs v hu hv h ih =>
   intro u q
   cases q with
   | acc _ _ _ _ _ hu' _ q' => exact Rel.acc (E := { E' with u := E.u }) nm st sz xs v hu' hv (ih q')
 | @sl E' nm st sz off len cap a hu hcap hc ha =>
   intro u q
   cases q with
   | sl _ _ _ _ _ _ _ hu' _ _ _ => exact Rel.sl (E := { E' with u := E.u }) nm st sz off len cap a hu' hcap hc ha
 | @mp E' nm st hu =>
   intro u q
   cases q with
   | mp _ _ hu' => exact Rel.mp (E := { E' with u := E.u }) nm st hu'
 | @fn E' f caps vs hs _ ih =>
   intro u q
   cases q with
   | fn _ _ vs' hs' hr' =>
     refine Rel.fn (E := { E' with u := E.u }) f caps vs hs (fun j y v hy hv => ?_)
     obtain ⟨v', hv'⟩ : ∃ v', vs'[j]? = some v' := ⟨_, Array.getElem?_eq_getElem (by rw [<- hs']; exact (List.getElem?_eq_some_iff.1 hy).1)⟩
     exact ih j y v hy hv (hr' j y v' hy hv')
 | @agg E' cs vs hs h1 _ ih =>
   intro u q
   cases q with
   | agg _ vs' hs' _ hr' =>
     refine Rel.agg (E := { E' with u := E.u }) cs vs hs h1 (fun j y v hy hv => ?_)
     obtain ⟨v', hv'⟩ : ∃ v', vs'[j]? = some v' := ⟨_, Array.getElem?_eq_getElem (by rw [<- hs']; exact (List.getElem?_eq_some_iff.1 hy).1)⟩
     exact ih j y v hy hv (hr' j y v' hy hv')
 | @tup E' cs vs hs _ ih =>
   intro u q
   cases q with
   | tup _ vs' hs' hr' =>
     refine Rel.tup (E := { E' with u := E.u }) cs vs hs (fun j y v hy hv => ?_)
     obtain ⟨v', hv'⟩ : ∃ v', vs'[j]? = some v' := ⟨_, Array.getElem?_eq_getElem (by rw [<- hs']; exact (List.getElem?_eq_some_iff.1 hy).1)⟩
     exact ih j y v hy hv (hr' j y v' hy hv')
theorem EntsRel.narrow {E E' : Env} : ∀ {xs : List AV} {ms ms' : List MapEntry}, EntsRel E' xs ms' -> EntsRel E xs ms -> EntsRel { E' with u := E.u } xs ms'
 | [], _, [], _, _ => trivial
 | [], _, _ :: _, h, _ => h.elim
 | _ :: _, [], _, _, h => h.elim
 | _ :: _, _ :: _, [], h, _ => h.elim
 | x :: xs, m :: ms, m' :: ms', ⟨⟨k, a, z, h1, h2, h3, h4⟩, h5⟩, ⟨⟨k', a', z', q1, q2, q3, q4⟩, q5⟩ => by
   subst h1
   cases q1
   exact ⟨⟨k, a, z, rfl, h2, h3, h4.narrow q4⟩, h5.narrow q5⟩
def AV.clA : AV -> Bool
 | .agg cs => cs.all AV.cl1
 | v => v.cl1
theorem Rel.of_clA {E E' : Env} (hK : ∀ b o v, E.K b o = some v -> E'.K b o = some v) {x : AV} {v : Value} (h : Rel E x v) (h1 : x.clA = true) : Rel E' x v := by
 cases x with
 | agg cs =>
   cases h with
   | agg _ vs hs q hr => exact .agg cs vs hs q (fun j y u hy hu => Rel.of_cl1 hK (hr j y u hy hu) (List.all_eq_true.1 h1 y (List.mem_of_getElem? hy)))
 | _ => exact Rel.of_cl1 hK h h1
theorem CallP.localize {P : Program} {fv : AV} {vals : List AV} {T : St} {k0 : AV -> St -> Prop} (h : CallP P fv vals T k0) (r0 : AV) (blk' : Nat -> Option Blk) (tok' : Nat -> Option Tok) (h1 : r0.clA = true)
   (hk : ∀ r S, k0 r S -> (∀ (E : Env) (v : Value), Rel E r v -> Rel E r0 v) /\ (∀ n b, blk' n = some b -> S.blk n = some b /\ T.blk n = some b) /\ (∀ n t, tok' n = some t -> S.tok n = some t /\ T.tok n = some t)) :
   CallP P fv vals T fun r S => r = r0 /\ S = ⟨T.t, blk', tok', T.clk⟩ := by
 obtain ⟨f, caps, q1, q2, q3⟩ := h
 refine ⟨f, caps, q1, q2, fun E B W w args H hW hB hu hsz hrel => (q3 E B W w args H hW hB hu hsz hrel).mono ?_⟩
 rintro e w' ⟨v, E', r, S', rfl, a2, a3, a4, a5, a6, a7, a8, a9, a10⟩
 obtain ⟨b1, b2, b3⟩ := hk r S' a10
 have hcell : ∀ b o u, ({ E' with u := E.u } : Env).K b o = some u -> w'.cell? ⟨b, o, none⟩ = some u := a3.K
 refine ⟨v, { E' with u := E.u }, r0, ⟨T.t, blk', tok', T.clk⟩, rfl, ⟨a2.K, a2.m, a2.hd, a2.cp, fun s hs => hs⟩, ⟨hcell, ?_, ?_, ?_, ?_, ?_, ?_, ?_⟩, a4, a5, fun s hs => ⟨.inl hs, hu s hs⟩, Nat.le_refl _, rfl, ?_, rfl, rfl⟩
 . exact fun n b hb => H.bu n b (b2 n b hb).2
 . intro n b hb
   obtain ⟨hb1, hb2⟩ := b2 n b hb
   have B' := a3.bk n b hb1
   have B0 := H.bk n b hb2
   have em := a2.m _ (H.bu n b hb2)
   cases B' with
   | row h0 R =>
     have R0 := B0.r h0
     obtain ⟨cur, ty, c1, c2, c3⟩ := R.row
     obtain ⟨_, _, _, _, d3⟩ := R0.row
     refine .row h0 ⟨R.base, R.el, R.len, ⟨cur, ty, c1, c2, fun i x hx j y hy => ?_⟩, R.noK⟩
     obtain ⟨u, g1, g2⟩ := c3 i x hx j y hy
     obtain ⟨u0, _, g3⟩ := d3 i x hx j y hy
     exact ⟨u, g1, g2.narrow g3⟩
   | map h0 M =>
     obtain ⟨arr, c, c1, c2⟩ := M.mp
     obtain ⟨st, sz, es⟩ := b
     simp only at h0
     subst h0
     obtain ⟨arr0, c0, _, d2⟩ := B0.mp.mp
     exact .map rfl ⟨M.base, ⟨arr, c, c1, c2.narrow d2⟩, M.noK⟩
 . exact fun n t ht => H.tu n t (b3 n t ht).2
 . exact fun n t ht => a3.tk n t (b3 n t ht).1
 . exact fun n n' b b' hn hb hb' => a3.bb n n' b b' hn (b2 n b hb).1 (b2 n' b' hb').1
 . exact fun n n' b t hb ht => a3.bt n n' b t (b2 n b hb).1 (b3 n' t ht).1
 . exact fun n n' t t' g hn ht ht' hg => a3.tt n n' t t' g hn (b3 n t ht).1 (b3 n' t' ht').1 hg
 . exact Rel.of_clA (E := E') (E' := { E' with u := E.u }) (fun _ _ _ q => q) (b1 E' v a9) h1
theorem appB_fold (f : Nat -> Option Blk) : ∀ (l : List Nat) (n : Nat), appB f (l.map fun x => (x, none)) n = if n ∈ l then none else f n := by
 intro l
 induction l generalizing f with
 | nil => intro n; simp [appB]
 | cons x l ih =>
   intro n
   simp only [List.map_cons, appB, ih, upd]
   by_cases h1 : n ∈ l
   . simp [h1]
   . by_cases h2 : n = x
     . simp [h2]
     . simp [h1, h2]
theorem appT_fold (f : Nat -> Option Tok) : ∀ (l : List Nat) (n : Nat), appT f (l.map fun x => (x, none)) n = if n ∈ l then none else f n := by
 intro l
 induction l generalizing f with
 | nil => intro n; simp [appT]
 | cons x l ih =>
   intro n
   simp only [List.map_cons, appT, ih, upd]
   by_cases h1 : n ∈ l
   . simp [h1]
   . by_cases h2 : n = x
     . simp [h2]
     . simp [h1, h2]
structure Frl (Lb Lt : List Nat) (S S' : St) : Prop where
 b : ∀ n, n ∉ Lb -> S'.blk n = S.blk n
 k : ∀ n, n ∉ Lt -> S'.tok n = S.tok n
def effL (Lb Lt : List Nat) (r : AV) : Eff := { v := r, wb := Lb.map fun n => (n, none), wt := Lt.map fun n => (n, none) }
theorem LCallP.of {P : Program} {fv : AV} {vals : List AV} {blk : Nat -> Option Blk} (Lb Lt : List Nat) (r0 : AV) (h1 : r0.clA = true)
   (h : ∀ T : St, (∀ n ∈ (fv :: vals).flatMap rdV, T.blk n = blk n) -> CallP P fv vals T fun r S => (∀ (E : Env) (v : Value), Rel E r v -> Rel E r0 v) /\ Frl Lb Lt T S) :
   LCallP P fv vals blk (effL Lb Lt r0) := by
 intro T hT
 refine ((h T hT).localize r0 (appB T.blk (Lb.map fun n => (n, none))) (appT T.tok (Lt.map fun n => (n, none))) h1 ?_).weaken ?_
 . rintro r S ⟨h2, hF⟩
   refine ⟨h2, fun n b hb => ?_, fun n t ht => ?_⟩
   . rw [appB_fold] at hb
     split at hb
     . cases hb
     . rename_i hn; exact ⟨by rw [hF.b n hn]; exact hb, hb⟩
   . rw [appT_fold] at ht
     split at ht
     . cases ht
     . rename_i hn; exact ⟨by rw [hF.k n hn]; exact ht, ht⟩
 . rintro r S ⟨rfl, rfl⟩
   exact ⟨rfl, rfl⟩
theorem callL {P : Program} {fv : AV} {vals : List AV} {blk : Nat -> Option Blk} {e : Eff} {k : Eff -> Prop} {u : Dep k} (h : LCallP P fv vals blk e) (hk : k e) : callD P fv vals blk k u := ⟨e, h, hk⟩
theorem callLG {P : Program} {fv : AV} {vals : List AV} {S : St} {e : Eff} {k : AV -> St -> Prop} {u : Dep k} (h : LCallP P fv vals S.blk e) (hk : k e.v (S.app none e)) : CallG P fv vals S k u :=
 CallP.weaken (h S fun _ _ => rfl) (by rintro r S' ⟨rfl, rfl⟩; exact hk)
attribute [simp] effL
theorem CallP.told1 {P : Program} {fv : AV} {vals : List AV} {S : St} {k k' : AV -> St -> Prop} (h : CallP P fv vals S k')
   (hk : ∀ r S', k' r S' -> ∃ r' S'', (∀ (E : Env) (B : Nat) (w : World), HConc E B S'.h w -> (∀ s, E.u s -> s < S'.clk) -> ∃ E', E.le E' /\ HConc E' B S''.h w /\ (∀ b o, b < B -> E'.K b o = E.K b o) /\ (∀ s, E'.u s -> E.u s) /\ ∀ v, Rel E r v -> Rel E' r' v) /\
     S'.clk <= S''.clk /\ S''.t = S'.t /\ k r' S'') : CallP P fv vals S k := by
 obtain ⟨f, caps, h1, h2, h3⟩ := h
 refine ⟨f, caps, h1, h2, fun E B W w args H hW hB hu hsz hr => (h3 E B W w args H hW hB hu hsz hr).mono ?_⟩
 rintro e w' ⟨v, E', r, S', a1, a2, a3, a4, a5, a6, a7, a8, a9, a10⟩
 obtain ⟨r', S'', b1, b2, b3, b4⟩ := hk r S' a10
 obtain ⟨E'', c1, c2, c3, c4, c5⟩ := b1 E' B w' a3 (fun s hs => (a6 s hs).2)
 exact ⟨v, E'', r', S'', a1, a2.trans c1, c2, a4, fun b o hb => (c3 b o hb).trans (a5 b o hb), fun s hs => ⟨(a6 s (c4 s hs)).1, Nat.lt_of_lt_of_le (a6 s (c4 s hs)).2 b2⟩, Nat.le_trans a7 b2, b3.trans a8, c5 v a9, b4⟩
theorem call_coarse {P : Program} {f : FuncId} (d : Nat) {vals vals' : List AV} {S : St} {k : AV -> St -> Prop} {u : Dep k} (hl : vals.length = vals'.length) (hco : ∀ (j : Nat) (x y : AV), vals[j]? = some x -> vals'[j]? = some y -> x = y \/ elemR (dco (fun _ => none) d) x y)
   (h : CallG P (.fn f []) vals' S k u) : CallG P (.fn f []) vals S k u := by
 obtain ⟨g, caps, hf, hent, hc⟩ := h
 refine ⟨g, caps, hf, hent, fun E B W w args H hW hB hu hsz hrel => ?_⟩
 obtain ⟨rfl, rfl⟩ : f = g /\ [] = caps := by cases hf; exact ⟨rfl, rfl⟩
 refine hc E B W w args H hW hB hu (by simpa [hl] using hsz) ?_
 intro j y u' hy hu'
 simp only [List.append_nil] at hy hrel
 obtain ⟨x, hx⟩ : ∃ x, vals[j]? = some x := ⟨_, List.getElem?_eq_getElem (by rw [hl]; exact (List.getElem?_eq_some_iff.1 hy).1)⟩
 have hr := hrel j x u' hx hu'
 rcases hco j x y hx hy with q | q
 . rw [<- q]; exact hr
 . exact Rel.of_envK (K := E.K) (dccE_rel (w := w) d x y u' q H.K hr) (fun _ _ _ q => q)
theorem Rel.lst_of_acc {E : Env} {nm st sz : Nat} {xs : List AV} {v : Value} (h : Rel E (.acc nm st sz xs) v) : Rel E (.lst sz xs) v := by
 cases h with
 | acc _ _ _ _ _ _ _ hl => exact hl
theorem Rel.lst_of_nils {E : Env} {sz : Nat} {v : Value} (h : Rel E .nils v) : Rel E (.lst sz []) v := by
 cases h with
 | nils => exact .lst0 sz none 0
end Go.Gv

namespace Go.Gv
open Go.RowKit
end Go.Gv

namespace Go.Gv
def MutIs (S : St) (nm sz : Nat) (v : AV) (xs : List AV) : Prop := (v = .nils /\ xs = []) \/ ∃ st, v = .sl nm st sz 0 xs.length /\ S.blk nm = some ⟨st, sz, xs⟩
theorem MutIs.at {S S' : St} {nm sz : Nat} {v : AV} {xs : List AV} (h : MutIs S nm sz v xs) (hb : S'.blk nm = S.blk nm) : MutIs S' nm sz v xs := by
 rcases h with h | ⟨st, h1, h2⟩
 . exact .inl h
 . exact .inr ⟨st, h1, hb.trans h2⟩
theorem MutIs.one {S : St} {nm sz : Nat} {v : AV} {xs : List AV} (h : MutIs S nm sz v xs) : v.one = true := by
 rcases h with ⟨rfl, _⟩ | ⟨st, rfl, _⟩ <;> rfl
theorem MutIs.cells {S : St} {nm sz : Nat} {v : AV} {xs : List AV} (h : MutIs S nm sz v xs) : v.cells = [v] := by
 rcases h with ⟨rfl, _⟩ | ⟨st, rfl, _⟩ <;> rfl
theorem regI_cut {P : Program} {pre : List (List Nat)} {st0 : Nat} {A B : List AI} {k : St -> Prop} {S0 : St}
   (hp : ((List.range B.length).all fun b => (List.range (A.length + b)).all fun i => (pre.getD (A.length + b) []).contains i) = true)
   (h : regI P pre st0 A (fun S' => regV P (st0 + A.length) B k S') S0) : regI P pre st0 (A ++ B) k S0 := by
 have hpn : ∀ b, b < B.length -> ∀ i, i < A.length + b -> i ∈ pre.getD (A.length + b) [] := by
   intro b hb i hi
   have h1 := List.all_eq_true.1 hp b (List.mem_range.2 hb)
   have h2 := List.all_eq_true.1 h1 i (List.mem_range.2 hi)
   simpa using h2
 obtain ⟨I, h0, hs, hf⟩ := h
 refine ⟨fun D S => ((∀ j, A.length <= j -> D j = false) /\ I D S) \/ ∃ m, 0 < m /\ (∀ j, D j = decide (j < A.length + m)) /\ regV P (st0 + A.length + m) (B.drop m) k S, .inl ⟨fun _ _ => rfl, h0⟩, ?_, ?_⟩
 . intro D S' j ai hj hDj hpre hcl hI
   have hjl := (List.getElem?_eq_some_iff.1 hj).1
   rw [List.length_append] at hjl
   rcases hI with ⟨g1, g2⟩ | ⟨m, g0, g1, g2⟩
   . by_cases hlt : j < A.length
     . rw [List.getElem?_append_left hlt] at hj
       refine stepV_mono ?_ (hs D S' j ai hj hDj hpre hcl g2)
       intro S'' q
       refine .inl ⟨fun j' hj' => ?_, q⟩
       simp [g1 j' hj']; omega
     . have hj0 : j = A.length := by
         by_cases e : j = A.length
         . exact e
         . have := hpre A.length (by have := hpn (j - A.length) (by omega) A.length (by omega); rwa [show A.length + (j - A.length) = j by omega] at this)
           rw [g1 _ (Nat.le_refl _)] at this; cases this
       subst hj0
       rw [List.getElem?_append_right (Nat.le_refl _), Nat.sub_self] at hj
       have hall : ∀ i, i < A.length -> D i = true := fun i hi => hpre i (by have := hpn 0 (by omega) i (by omega); rwa [Nat.add_zero] at this)
       have hk := hf D S' hall g2
       obtain ⟨B', rfl⟩ : ∃ B', B = ai :: B' := by
         cases B with
         | nil => simp at hj
         | cons x B' => simp at hj; subst hj; exact ⟨B', rfl⟩
       refine stepV_mono ?_ hk
       intro S'' q
       refine .inr ⟨1, by omega, fun i => ?_, q⟩
       show (i == A.length || D i) = _
       by_cases e : i < A.length
       . rw [hall i e]; simp; omega
       . by_cases e2 : i = A.length
         . subst e2; simp
         . rw [g1 i (by omega), show (i == A.length) = false by simpa using e2, decide_eq_false (show ¬ i < A.length + 1 by omega)]; rfl
   . have hjn : j = A.length + m := by
       have a1 : ¬ j < A.length + m := by
         intro q; rw [g1 j] at hDj; simp at hDj; omega
       by_cases e : j = A.length + m
       . exact e
       . have := hpre (A.length + m) (by have := hpn (j - A.length) (by omega) (A.length + m) (by omega); rwa [show A.length + (j - A.length) = j by omega] at this)
         rw [g1] at this; simp at this
     subst hjn
     rw [List.getElem?_append_right (by omega), show A.length + m - A.length = m by omega] at hj
     have hm : m < B.length := by omega
     have hd : B.drop m = ai :: B.drop (m + 1) := by
       rw [List.drop_eq_getElem_cons hm]
       rw [List.getElem?_eq_getElem hm] at hj
       cases hj; rfl
     rw [hd] at g2
     rw [show st0 + (A.length + m) = st0 + A.length + m by omega]
     refine stepV_mono ?_ g2
     intro S'' q
     refine .inr ⟨m + 1, by omega, fun i => ?_, q⟩
     show (i == A.length + m || D i) = _
     rw [g1 i]
     by_cases e2 : i = A.length + m
     . subst e2; simp
     . by_cases e : i < A.length + m
       . rw [decide_eq_true e, decide_eq_true (show i < A.length + (m + 1) by omega), Bool.or_true]
       . rw [show (i == A.length + m) = false by simpa using e2, decide_eq_false e, decide_eq_false (show ¬ i < A.length + (m + 1) by omega)]; rfl
 . intro D S' hD hI
   rcases hI with ⟨g1, g2⟩ | ⟨m, g0, g1, g2⟩
   . cases B with
     | nil => exact hf D S' (fun j hj => hD j (by simpa using hj)) g2
     | cons x B' =>
       have := hD A.length (by simp)
       rw [g1 _ (Nat.le_refl _)] at this; cases this
   . have hm : B.length <= m := by
       by_cases e : m < B.length
       . have := hD (A.length + m) (by simp; omega)
         rw [g1] at this; simp at this
       . omega
     rw [List.drop_of_length_le hm] at g2
     exact g2
theorem regi_cut {P : Program} {pre : List (List Nat)} {st0 : Nat} {all : List AI} {S0 : St} {k : St -> Prop} {u : Dep k} (A B : List AI) (he : all = A ++ B)
   (hp : ((List.range B.length).all fun b => (List.range (A.length + b)).all fun i => (pre.getD (A.length + b) []).contains i) = true)
   (h : regIG P pre st0 A S0 (fun S' => regG P (st0 + A.length) B S' k .mk) .mk) : regIG P pre st0 all S0 k u := by
 subst he
 exact regI_cut hp h
end Go.Gv

namespace Go.Gv
open Go.RowKit
def rn1 (f : Nat -> Nat) : AV -> AV
 | .ptr nm st sz i off => .ptr (f nm) st sz i off
 | .sl nm st sz off len => .sl (f nm) st sz off len
 | .acc nm st sz xs => .acc (f nm) st sz xs
 | v => v
@[simp] theorem rn1_lst (f : Nat -> Nat) (sz : Nat) (xs : List AV) : rn1 f (.lst sz xs) = .lst sz xs := rfl
@[simp] theorem rn1_int (f : Nat -> Nat) (k : IntKind) (n : Int) : rn1 f (.int k n) = .int k n := rfl
@[simp] theorem rn1_bool (f : Nat -> Nat) (b : Bool) : rn1 f (.bool b) = .bool b := rfl
@[simp] theorem rn1_nils (f : Nat -> Nat) : rn1 f .nils = .nils := rfl
@[simp] theorem rn1_agg (f : Nat -> Nat) (cs : List AV) : rn1 f (.agg cs) = .agg cs := rfl
@[simp] theorem rn1_tup (f : Nat -> Nat) (cs : List AV) : rn1 f (.tup cs) = .tup cs := rfl
@[simp] theorem rn1_fn (f : Nat -> Nat) (g : FuncId) (cs : List AV) : rn1 f (.fn g cs) = .fn g cs := rfl
@[simp] theorem rn1_ptr (f : Nat -> Nat) (nm st sz i off : Nat) : rn1 f (.ptr nm st sz i off) = .ptr (f nm) st sz i off := rfl
@[simp] theorem rn1_sl (f : Nat -> Nat) (nm st sz off len : Nat) : rn1 f (.sl nm st sz off len) = .sl (f nm) st sz off len := rfl
@[simp] theorem rn1_acc (f : Nat -> Nat) (nm st sz : Nat) (xs : List AV) : rn1 f (.acc nm st sz xs) = .acc (f nm) st sz xs := rfl
theorem Rel.rn1 {E : Env} {y : AV} {u : Value} (f : Nat -> Nat) (h : Rel E y u) : Rel E (Go.Gv.rn1 f y) u := by
 cases y with
 | ptr nm st sz i off => cases h with | ptr _ _ _ _ _ hu => exact .ptr _ st sz i off hu
 | sl nm st sz off len => cases h with | sl _ _ _ _ _ cap a' hu' hc1 hc2 ha => exact .sl _ st sz off len cap a' hu' hc1 hc2 ha
 | acc nm st sz xs => cases h with | acc _ _ _ _ _ hu hv h => exact .acc _ st sz xs _ hu hv h
 | _ => exact h
theorem rn1_one (f : Nat -> Nat) (y : AV) : (rn1 f y).one = y.one := by cases y <;> rfl
def rnE (f : Nat -> Nat) : AV -> AV
 | .agg cs => .agg (cs.map (rn1 f))
 | v => rn1 f v
theorem rnE_cells (f : Nat -> Nat) (x : AV) : (rnE f x).cells = x.cells.map (rn1 f) := by cases x <;> rfl
def rnB (f : Nat -> Nat) (b : Blk) : Blk := if b.sz = 0 then b else ⟨b.st, b.sz, b.es.map (rnE f)⟩
theorem rnB_st (f : Nat -> Nat) (b : Blk) : (rnB f b).st = b.st := by unfold rnB; split <;> rfl
theorem BlkOk.rn {E : Env} {B : Nat} {w : World} {b : Blk} (f : Nat -> Nat) (h : BlkOk E B w b.st b.sz b.es) : BlkOk E B w (rnB f b).st (rnB f b).sz (rnB f b).es := by
 unfold rnB
 split
 . exact h
 . rename_i h0
   have R := h.r h0
   refine .row h0 ⟨R.base, ?_, by simpa using R.len, ?_, R.noK⟩
   . intro x hx
     obtain ⟨x0, hx0, rfl⟩ := List.mem_map.1 hx
     obtain ⟨q1, q2⟩ := R.el x0 hx0
     refine ⟨by rw [rnE_cells, List.length_map]; exact q1, fun y hy => ?_⟩
     rw [rnE_cells] at hy
     obtain ⟨y0, hy0, rfl⟩ := List.mem_map.1 hy
     rw [rn1_one]; exact q2 y0 hy0
   . obtain ⟨cur, e, c1, c2, c3⟩ := R.row
     refine ⟨cur, e, c1, c2, fun i x hx j y hy => ?_⟩
     simp only [List.getElem?_map, Option.map_eq_some_iff] at hx
     obtain ⟨x0, hx0, rfl⟩ := hx
     rw [rnE_cells, List.getElem?_map, Option.map_eq_some_iff] at hy
     obtain ⟨y0, hy0, rfl⟩ := hy
     obtain ⟨u, g1, g2⟩ := c3 i x0 hx0 j y0 hy0
     exact ⟨u, g1, g2.rn1 f⟩
def Hp.rn (ib it : Nat -> Option Nat) (F : Nat -> Nat -> Nat) (h : Hp) : Hp := ⟨fun n => (ib n).bind fun m => (h.blk m).map (rnB (F n)), fun n => (it n).bind h.tok⟩
def InjO (i : Nat -> Option Nat) : Prop := ∀ n n' m, i n = some m -> i n' = some m -> n = n'
theorem HConc.rn {E : Env} {B : Nat} {h : Hp} {w : World} {ib it : Nat -> Option Nat} (F : Nat -> Nat -> Nat) (h1 : InjO ib) (h2 : InjO it) (H : HConc E B h w) : HConc E B (h.rn ib it F) w := by
 have getB : ∀ n b, (h.rn ib it F).blk n = some b -> ∃ m b0, ib n = some m /\ h.blk m = some b0 /\ b = rnB (F n) b0 := by
   intro n b hb
   simp only [Hp.rn, Option.bind_eq_some_iff, Option.map_eq_some_iff] at hb
   obtain ⟨m, q1, b0, q2, q3⟩ := hb
   exact ⟨m, b0, q1, q2, q3.symm⟩
 have getT : ∀ n t, (h.rn ib it F).tok n = some t -> ∃ m, it n = some m /\ h.tok m = some t := by
   intro n t ht
   simp only [Hp.rn, Option.bind_eq_some_iff] at ht
   exact ht
 refine ⟨H.K, ?_, ?_, ?_, ?_, ?_, ?_, ?_⟩
 . intro n b q
   obtain ⟨m, b0, q1, q2, rfl⟩ := getB n b q
   rw [rnB_st]; exact H.bu m b0 q2
 . intro n b q
   obtain ⟨m, b0, q1, q2, rfl⟩ := getB n b q
   exact (H.bk m b0 q2).rn (F n)
 . intro n t q
   obtain ⟨m, q1, q2⟩ := getT n t q
   exact H.tu m t q2
 . intro n t q
   obtain ⟨m, q1, q2⟩ := getT n t q
   exact H.tk m t q2
 . intro n n' b b' hn q q'
   obtain ⟨m, b0, q1, q2, rfl⟩ := getB n b q
   obtain ⟨m', b0', q1', q2', rfl⟩ := getB n' b' q'
   rw [rnB_st, rnB_st]
   exact H.bb m m' b0 b0' (fun e => hn (h1 n n' m q1 (by rw [q1', e]))) q2 q2'
 . intro n n' b t q q'
   obtain ⟨m, b0, q1, q2, rfl⟩ := getB n b q
   obtain ⟨m', q1', q2'⟩ := getT n' t q'
   rw [rnB_st]
   exact H.bt m m' b0 t q2 q2'
 . intro n n' t t' g hn q q' hg
   obtain ⟨m, q1, q2⟩ := getT n t q
   obtain ⟨m', q1', q2'⟩ := getT n' t' q'
   exact H.tt m m' t t' g (fun e => hn (h2 n n' m q1 (by rw [q1', e]))) q2 q2' hg
theorem CallP.rn {P : Program} {f : FuncId} {vals : List AV} {T : St} {k : AV -> St -> Prop} (ib it ib' it' : Nat -> Option Nat) (F F' : Nat -> Nat -> Nat) (g g' : Nat -> Nat) (h1 : InjO ib) (h2 : InjO it) (h3 : InjO ib') (h4 : InjO it')
   (h : CallP P (.fn f []) (vals.map (rn1 g)) ⟨T.t, (T.h.rn ib it F).blk, (T.h.rn ib it F).tok, T.clk⟩ k) :
   CallP P (.fn f []) vals T fun r S => ∃ r0 S0, k r0 S0 /\ r = rn1 g' r0 /\ S.blk = (S0.h.rn ib' it' F').blk /\ S.tok = (S0.h.rn ib' it' F').tok /\ S.t = T.t /\ S.clk = S0.clk := by
 obtain ⟨f0, caps, q1, q2, q3⟩ := h
 cases q1
 refine ⟨f, [], rfl, q2, fun E B W w args H hW hB hu hsz hrel => (q3 E B W w args (H.rn F h1 h2) hW hB hu (by simpa using hsz) ?_).mono ?_⟩
 . intro j y u hy hu'
   simp only [List.append_nil, List.getElem?_map, Option.map_eq_some_iff] at hy
   obtain ⟨x, hx, rfl⟩ := hy
   exact (hrel j x u (by simpa using hx) hu').rn1 g
 . rintro e w' ⟨v, E', r, S', a1, a2, a3, a4, a5, a6, a7, a8, a9, a10⟩
   exact ⟨v, E', rn1 g' r, ⟨T.t, (S'.h.rn ib' it' F').blk, (S'.h.rn ib' it' F').tok, S'.clk⟩, a1, a2, a3.rn F' h3 h4, a4, a5, a6, a7, rfl, a9.rn1 g', r, S', a10, rfl, rfl, rfl, rfl, rfl⟩
theorem CallP.rnE {P : Program} {fv : AV} {vals : List AV} {T : St} {k k' : AV -> St -> Prop} (h : CallP P fv vals T k')
   (hk : ∀ r S', k' r S' -> ∃ ib it F g, InjO ib /\ InjO it /\ k (Go.Gv.rn1 g r) ⟨S'.t, (S'.h.rn ib it F).blk, (S'.h.rn ib it F).tok, S'.clk⟩) : CallP P fv vals T k := by
 refine h.told1 ?_
 intro r S' q
 obtain ⟨ib, it, F, g, h1, h2, h3⟩ := hk r S' q
 exact ⟨Go.Gv.rn1 g r, ⟨S'.t, (S'.h.rn ib it F).blk, (S'.h.rn ib it F).tok, S'.clk⟩, fun E B w H hu => ⟨E, .refl E, H.rn F h1 h2, fun _ _ _ => rfl, fun _ q => q, fun v q => q.rn1 g⟩, Nat.le_refl _, rfl, h3⟩
theorem rn1_id (v : AV) : Go.Gv.rn1 (fun n => n) v = v := by cases v <;> rfl
theorem rnE_id (v : AV) : Go.Gv.rnE (fun n => n) v = v := by
 cases v with
 | agg cs =>
   have e : (Go.Gv.rn1 fun n => n) = id := funext rn1_id
   simp only [Go.Gv.rnE, e, List.map_id]
 | _ => rfl
theorem rnB_id (b : Blk) : rnB (fun n => n) b = b := by
 obtain ⟨st, sz, es⟩ := b
 unfold rnB
 by_cases h : sz = 0
 . simp [h]
 . have e : (Go.Gv.rnE fun n => n) = id := funext rnE_id
   simp [h, e]
def mvI (a b : Nat) (n : Nat) : Option Nat := if n = b then some a else if n = a then none else some n
theorem mvI_inj (a b : Nat) : InjO (mvI a b) := by
 intro n n' m h h'
 simp only [mvI] at h h'
 split at h <;> split at h'
 . simp_all
 . split at h'
   . cases h'
   . simp only [Option.some.injEq] at h h'; subst h; subst h'; simp_all
 . split at h
   . cases h
   . simp only [Option.some.injEq] at h h'; subst h; subst h'; simp_all
 . split at h
   . cases h
   . split at h'
     . cases h'
     . simp only [Option.some.injEq] at h h'; rw [h, h']
theorem someI_inj : InjO (fun n => some n) := by
 intro n n' m h h'
 simp only [Option.some.injEq] at h h'
 rw [h, h']
theorem Hp.rn_id (h : Hp) : h.rn (fun n => some n) (fun n => some n) (fun _ n => n) = h := by
 obtain ⟨b, t⟩ := h
 have e : (rnB fun n => n) = id := funext rnB_id
 simp [Hp.rn, e]
def upI (M : Nat) (n : Nat) : Option Nat := if M <= n then some (n - M) else none
def dnI (M : Nat) (n : Nat) : Option Nat := some (n + M)
theorem upI_inj (M : Nat) : InjO (upI M) := by
 intro n n' m h h'
 simp only [upI] at h h'
 split at h
 . split at h'
   . simp only [Option.some.injEq] at h h'; omega
   . cases h'
 . cases h
theorem dnI_inj (M : Nat) : InjO (dnI M) := by
 intro n n' m h h'
 simp only [dnI, Option.some.injEq] at h h'
 omega
theorem rn1_dn_up (M : Nat) (v : AV) : rn1 (fun n => n - M) (rn1 (fun n => n + M) v) = v := by
 cases v <;> simp [rn1]
theorem rnE_dn_up (M : Nat) (v : AV) : Go.Gv.rnE (fun n => n - M) (Go.Gv.rnE (fun n => n + M) v) = v := by
 have h := rn1_dn_up M
 cases v with
 | agg cs => simp only [Go.Gv.rnE, List.map_map, Function.comp_def, h, List.map_id']
 | _ => simp [Go.Gv.rnE, Go.Gv.rn1]
theorem rnB_dn_up (M : Nat) (b : Blk) : rnB (fun n => n - M) (rnB (fun n => n + M) b) = b := by
 obtain ⟨st, sz, es⟩ := b
 unfold rnB
 by_cases h : sz = 0
 . simp [h]
 . simp [h, Function.comp_def, rnE_dn_up]
def upH (M : Nat) (h : Hp) : Hp := h.rn (upI M) (upI M) fun _ n => n + M
def dnH (M : Nat) (h : Hp) : Hp := h.rn (dnI M) (dnI M) fun _ n => n - M
theorem upH_blk (M : Nat) (h : Hp) (n : Nat) : (upH M h).blk (n + M) = (h.blk n).map (rnB fun n => n + M) := by
 simp [upH, Hp.rn, upI]
theorem upH_tok (M : Nat) (h : Hp) (n : Nat) : (upH M h).tok (n + M) = h.tok n := by
 simp [upH, Hp.rn, upI]
theorem dnH_blk (M : Nat) (h : Hp) (n : Nat) : (dnH M h).blk n = (h.blk (n + M)).map (rnB fun n => n - M) := by
 simp [dnH, Hp.rn, dnI]
theorem dnH_tok (M : Nat) (h : Hp) (n : Nat) : (dnH M h).tok n = h.tok (n + M) := by
 simp [dnH, Hp.rn, dnI]
theorem callUp {P : Program} {f : FuncId} {vals : List AV} {T : St} {k : AV -> St -> Prop} {u : Dep k} (M : Nat)
   (h : CallG P (.fn f []) (vals.map (rn1 fun n => n + M)) ⟨T.t, (upH M T.h).blk, (upH M T.h).tok, T.clk⟩ (fun r0 S0 => k (rn1 (fun n => n - M) r0) ⟨T.t, (dnH M S0.h).blk, (dnH M S0.h).tok, S0.clk⟩) .mk) : CallG P (.fn f []) vals T k u := by
 refine (CallP.rn (upI M) (upI M) (dnI M) (dnI M) (fun _ n => n + M) (fun _ n => n - M) (fun n => n + M) (fun n => n - M) (upI_inj M) (upI_inj M) (dnI_inj M) (dnI_inj M) h).mono ?_
 rintro r S ⟨r0, S0, q, rfl, h1, h2, h3, h4⟩
 obtain ⟨t, b, tk, c⟩ := S
 simp only at h1 h2 h3 h4
 subst h1 h2 h3 h4
 exact q
end Go.Gv
