/- Texts of this proof, one behind the other. What is proved, and on which conditions, stands ahead of each. -/
import Derived.Test.YthidhohdcjojhaaGreatDoorM1721ebca

set_option linter.unusedVariables false
set_option linter.unusedSimpArgs false
namespace Go.Gv
open Go.RowKit
def rn1 (f : Nat -> Nat) : AV -> AV
 | .ptr nm st sz i off => .ptr (f nm) st sz i off
 | .sl nm st sz off len => .sl (f nm) st sz off len
 | .acc nm st sz xs => .acc (f nm) st sz xs
 | v => v
@[simp] theorem rn1_lst (f : Nat -> Nat) (sz : Nat) (xs : List AV) : rn1 f (.lst sz xs) = .lst sz xs := rfl
@[simp] theorem rn1_int (f : Nat -> Nat) (k : IntKind) (n : Int) : rn1 f (.int k n) = .int k n := rfl
@[simp] theorem rn1_bool (f : Nat -> Nat) (b : Bool) : rn1 f (.bool b) = .bool b := rfl
@[simp] theorem rn1_nils (f : Nat -> Nat) : rn1 f .nils = .nils := rfl
@[simp] theorem rn1_agg (f : Nat -> Nat) (cs : List AV) : rn1 f (.agg cs) = .agg cs := rfl
@[simp] theorem rn1_tup (f : Nat -> Nat) (cs : List AV) : rn1 f (.tup cs) = .tup cs := rfl
@[simp] theorem rn1_fn (f : Nat -> Nat) (g : FuncId) (cs : List AV) : rn1 f (.fn g cs) = .fn g cs := rfl
@[simp] theorem rn1_ptr (f : Nat -> Nat) (nm st sz i off : Nat) : rn1 f (.ptr nm st sz i off) = .ptr (f nm) st sz i off := rfl
@[simp] theorem rn1_sl (f : Nat -> Nat) (nm st sz off len : Nat) : rn1 f (.sl nm st sz off len) = .sl (f nm) st sz off len := rfl
@[simp] theorem rn1_acc (f : Nat -> Nat) (nm st sz : Nat) (xs : List AV) : rn1 f (.acc nm st sz xs) = .acc (f nm) st sz xs := rfl
theorem Rel.rn1 {E : Env} {y : AV} {u : Value} (f : Nat -> Nat) (h : Rel E y u) : Rel E (Go.Gv.rn1 f y) u := by
 cases y with
 | ptr nm st sz i off => cases h with | ptr _ _ _ _ _ hu => exact .ptr _ st sz i off hu
 | sl nm st sz off len => cases h with | sl _ _ _ _ _ cap a' hu' hc1 hc2 ha => exact .sl _ st sz off len cap a' hu' hc1 hc2 ha
 | acc nm st sz xs => cases h with | acc _ _ _ _ _ hu hv h => exact .acc _ st sz xs _ hu hv h
 | _ => exact h
theorem rn1_one (f : Nat -> Nat) (y : AV) : (rn1 f y).one = y.one := by cases y <;> rfl
def rnE (f : Nat -> Nat) : AV -> AV
 | .agg cs => .agg (cs.map (rn1 f))
 | v => rn1 f v
theorem rnE_cells (f : Nat -> Nat) (x : AV) : (rnE f x).cells = x.cells.map (rn1 f) := by cases x <;> rfl
def rnB (f : Nat -> Nat) (b : Blk) : Blk := if b.sz = 0 then b else ⟨b.st, b.sz, b.es.map (rnE f)⟩
theorem rnB_st (f : Nat -> Nat) (b : Blk) : (rnB f b).st = b.st := by unfold rnB; split <;> rfl
theorem BlkOk.rn {E : Env} {B : Nat} {w : World} {b : Blk} (f : Nat -> Nat) (h : BlkOk E B w b.st b.sz b.es) : BlkOk E B w (rnB f b).st (rnB f b).sz (rnB f b).es := by
 unfold rnB
 split
 . exact h
 . rename_i h0
   have R := h.r h0
   refine .row h0 ⟨R.base, ?_, by simpa using R.len, ?_, R.noK⟩
   . intro x hx
     obtain ⟨x0, hx0, rfl⟩ := List.mem_map.1 hx
     obtain ⟨q1, q2⟩ := R.el x0 hx0
     refine ⟨by rw [rnE_cells, List.length_map]; exact q1, fun y hy => ?_⟩
     rw [rnE_cells] at hy
     obtain ⟨y0, hy0, rfl⟩ := List.mem_map.1 hy
     rw [rn1_one]; exact q2 y0 hy0
   . obtain ⟨cur, e, c1, c2, c3⟩ := R.row
     refine ⟨cur, e, c1, c2, fun i x hx j y hy => ?_⟩
     simp only [List.getElem?_map, Option.map_eq_some_iff] at hx
     obtain ⟨x0, hx0, rfl⟩ := hx
     rw [rnE_cells, List.getElem?_map, Option.map_eq_some_iff] at hy
     obtain ⟨y0, hy0, rfl⟩ := hy
     obtain ⟨u, g1, g2⟩ := c3 i x0 hx0 j y0 hy0
     exact ⟨u, g1, g2.rn1 f⟩
def Hp.rn (ib it : Nat -> Option Nat) (F : Nat -> Nat -> Nat) (h : Hp) : Hp := ⟨fun n => (ib n).bind fun m => (h.blk m).map (rnB (F n)), fun n => (it n).bind h.tok⟩
def InjO (i : Nat -> Option Nat) : Prop := ∀ n n' m, i n = some m -> i n' = some m -> n = n'
theorem HConc.rn {E : Env} {B : Nat} {h : Hp} {w : World} {ib it : Nat -> Option Nat} (F : Nat -> Nat -> Nat) (h1 : InjO ib) (h2 : InjO it) (H : HConc E B h w) : HConc E B (h.rn ib it F) w := by
 have getB : ∀ n b, (h.rn ib it F).blk n = some b -> ∃ m b0, ib n = some m /\ h.blk m = some b0 /\ b = rnB (F n) b0 := by
   intro n b hb
   simp only [Hp.rn, Option.bind_eq_some_iff, Option.map_eq_some_iff] at hb
   obtain ⟨m, q1, b0, q2, q3⟩ := hb
   exact ⟨m, b0, q1, q2, q3.symm⟩
 have getT : ∀ n t, (h.rn ib it F).tok n = some t -> ∃ m, it n = some m /\ h.tok m = some t := by
   intro n t ht
   simp only [Hp.rn, Option.bind_eq_some_iff] at ht
   exact ht
 refine ⟨H.K, ?_, ?_, ?_, ?_, ?_, ?_, ?_⟩
 . intro n b q
   obtain ⟨m, b0, q1, q2, rfl⟩ := getB n b q
   rw [rnB_st]; exact H.bu m b0 q2
 . intro n b q
   obtain ⟨m, b0, q1, q2, rfl⟩ := getB n b q
   exact (H.bk m b0 q2).rn (F n)
 . intro n t q
   obtain ⟨m, q1, q2⟩ := getT n t q
   exact H.tu m t q2
 . intro n t q
   obtain ⟨m, q1, q2⟩ := getT n t q
   exact H.tk m t q2
 . intro n n' b b' hn q q'
   obtain ⟨m, b0, q1, q2, rfl⟩ := getB n b q
   obtain ⟨m', b0', q1', q2', rfl⟩ := getB n' b' q'
   rw [rnB_st, rnB_st]
   exact H.bb m m' b0 b0' (fun e => hn (h1 n n' m q1 (by rw [q1', e]))) q2 q2'
 . intro n n' b t q q'
   obtain ⟨m, b0, q1, q2, rfl⟩ := getB n b q
   obtain ⟨m', q1', q2'⟩ := getT n' t q'
   rw [rnB_st]
   exact H.bt m m' b0 t q2 q2'
 . intro n n' t t' g hn q q' hg
   obtain ⟨m, q1, q2⟩ := getT n t q
   obtain ⟨m', q1', q2'⟩ := getT n' t' q'
   exact H.tt m m' t t' g (fun e => hn (h2 n n' m q1 (by rw [q1', e]))) q2 q2' hg
theorem CallP.rn {P : Program} {f : FuncId} {vals : List AV} {T : St} {k : AV -> St -> Prop} (ib it ib' it' : Nat -> Option Nat) (F F' : Nat -> Nat -> Nat) (g g' : Nat -> Nat) (h1 : InjO ib) (h2 : InjO it) (h3 : InjO ib') (h4 : InjO it')
   (h : CallP P (.fn f []) (vals.map (rn1 g)) ⟨T.t, (T.h.rn ib it F).blk, (T.h.rn ib it F).tok, T.clk⟩ k) :
   CallP P (.fn f []) vals T fun r S => ∃ r0 S0, k r0 S0 /\ r = rn1 g' r0 /\ S.blk = (S0.h.rn ib' it' F').blk /\ S.tok = (S0.h.rn ib' it' F').tok /\ S.t = T.t /\ S.clk = S0.clk := by
 obtain ⟨f0, caps, q1, q2, q3⟩ := h
 cases q1
 refine ⟨f, [], rfl, q2, fun E B W w args H hW hB hu hsz hrel => (q3 E B W w args (H.rn F h1 h2) hW hB hu (by simpa using hsz) ?_).mono ?_⟩
 . intro j y u hy hu'
   simp only [List.append_nil, List.getElem?_map, Option.map_eq_some_iff] at hy
   obtain ⟨x, hx, rfl⟩ := hy
   exact (hrel j x u (by simpa using hx) hu').rn1 g
 . rintro e w' ⟨v, E', r, S', a1, a2, a3, a4, a5, a6, a7, a8, a9, a10⟩
   exact ⟨v, E', rn1 g' r, ⟨T.t, (S'.h.rn ib' it' F').blk, (S'.h.rn ib' it' F').tok, S'.clk⟩, a1, a2, a3.rn F' h3 h4, a4, a5, a6, a7, rfl, a9.rn1 g', r, S', a10, rfl, rfl, rfl, rfl, rfl⟩
theorem CallP.rnE {P : Program} {fv : AV} {vals : List AV} {T : St} {k k' : AV -> St -> Prop} (h : CallP P fv vals T k')
   (hk : ∀ r S', k' r S' -> ∃ ib it F g, InjO ib /\ InjO it /\ k (Go.Gv.rn1 g r) ⟨S'.t, (S'.h.rn ib it F).blk, (S'.h.rn ib it F).tok, S'.clk⟩) : CallP P fv vals T k := by
 refine h.told1 ?_
 intro r S' q
 obtain ⟨ib, it, F, g, h1, h2, h3⟩ := hk r S' q
 exact ⟨Go.Gv.rn1 g r, ⟨S'.t, (S'.h.rn ib it F).blk, (S'.h.rn ib it F).tok, S'.clk⟩, fun E B w H hu => ⟨E, .refl E, H.rn F h1 h2, fun _ _ _ => rfl, fun _ q => q, fun v q => q.rn1 g⟩, Nat.le_refl _, rfl, h3⟩
theorem rn1_id (v : AV) : Go.Gv.rn1 (fun n => n) v = v := by cases v <;> rfl
theorem rnE_id (v : AV) : Go.Gv.rnE (fun n => n) v = v := by
 cases v with
 | agg cs =>
   have e : (Go.Gv.rn1 fun n => n) = id := funext rn1_id
   simp only [Go.Gv.rnE, e, List.map_id]
 | _ => rfl
theorem rnB_id (b : Blk) : rnB (fun n => n) b = b := by
 obtain ⟨st, sz, es⟩ := b
 unfold rnB
 by_cases h : sz = 0
 . simp [h]
 . have e : (Go.Gv.rnE fun n => n) = id := funext rnE_id
   simp [h, e]
def mvI (a b : Nat) (n : Nat) : Option Nat := if n = b then some a else if n = a then none else some n
theorem mvI_inj (a b : Nat) : InjO (mvI a b) := by
 intro n n' m h h'
 simp only [mvI] at h h'
 split at h <;> split at h'
 . simp_all
 . split at h'
   . cases h'
   . simp only [Option.some.injEq] at h h'; subst h; subst h'; simp_all
 . split at h
   . cases h
   . simp only [Option.some.injEq] at h h'; subst h; subst h'; simp_all
 . split at h
   . cases h
   . split at h'
     . cases h'
     . simp only [Option.some.injEq] at h h'; rw [h, h']
theorem someI_inj : InjO (fun n => some n) := by
 intro n n' m h h'
 simp only [Option.some.injEq] at h h'
 rw [h, h']
theorem Hp.rn_id (h : Hp) : h.rn (fun n => some n) (fun n => some n) (fun _ n => n) = h := by
 obtain ⟨b, t⟩ := h
 have e : (rnB fun n => n) = id := funext rnB_id
 simp [Hp.rn, e]
def upI (M : Nat) (n : Nat) : Option Nat := if M <= n then some (n - M) else none
def dnI (M : Nat) (n : Nat) : Option Nat := some (n + M)
theorem upI_inj (M : Nat) : InjO (upI M) := by
 intro n n' m h h'
 simp only [upI] at h h'
 split at h
 . split at h'
   . simp only [Option.some.injEq] at h h'; omega
   . cases h'
 . cases h
theorem dnI_inj (M : Nat) : InjO (dnI M) := by
 intro n n' m h h'
 simp only [dnI, Option.some.injEq] at h h'
 omega
theorem rn1_dn_up (M : Nat) (v : AV) : rn1 (fun n => n - M) (rn1 (fun n => n + M) v) = v := by
 cases v <;> simp [rn1]
theorem rnE_dn_up (M : Nat) (v : AV) : Go.Gv.rnE (fun n => n - M) (Go.Gv.rnE (fun n => n + M) v) = v := by
 have h := rn1_dn_up M
 cases v with
 | agg cs => simp only [Go.Gv.rnE, List.map_map, Function.comp_def, h, List.map_id']
 | _ => simp [Go.Gv.rnE, Go.Gv.rn1]
theorem rnB_dn_up (M : Nat) (b : Blk) : rnB (fun n => n - M) (rnB (fun n => n + M) b) = b := by
 obtain ⟨st, sz, es⟩ := b
 unfold rnB
 by_cases h : sz = 0
 . simp [h]
 . simp [h, Function.comp_def, rnE_dn_up]
def upH (M : Nat) (h : Hp) : Hp := h.rn (upI M) (upI M) fun _ n => n + M
def dnH (M : Nat) (h : Hp) : Hp := h.rn (dnI M) (dnI M) fun _ n => n - M
theorem upH_blk (M : Nat) (h : Hp) (n : Nat) : (upH M h).blk (n + M) = (h.blk n).map (rnB fun n => n + M) := by
 simp [upH, Hp.rn, upI]
theorem upH_tok (M : Nat) (h : Hp) (n : Nat) : (upH M h).tok (n + M) = h.tok n := by
 simp [upH, Hp.rn, upI]
theorem dnH_blk (M : Nat) (h : Hp) (n : Nat) : (dnH M h).blk n = (h.blk (n + M)).map (rnB fun n => n - M) := by
 simp [dnH, Hp.rn, dnI]
theorem dnH_tok (M : Nat) (h : Hp) (n : Nat) : (dnH M h).tok n = h.tok (n + M) := by
 simp [dnH, Hp.rn, dnI]
theorem callUp {P : Program} {f : FuncId} {vals : List AV} {T : St} {k : AV -> St -> Prop} {u : Dep k} (M : Nat)
   (h : CallG P (.fn f []) (vals.map (rn1 fun n => n + M)) ⟨T.t, (upH M T.h).blk, (upH M T.h).tok, T.clk⟩ (fun r0 S0 => k (rn1 (fun n => n - M) r0) ⟨T.t, (dnH M S0.h).blk, (dnH M S0.h).tok, S0.clk⟩) .mk) : CallG P (.fn f []) vals T k u := by
 refine (CallP.rn (upI M) (upI M) (dnI M) (dnI M) (fun _ n => n + M) (fun _ n => n - M) (fun n => n + M) (fun n => n - M) (upI_inj M) (upI_inj M) (dnI_inj M) (dnI_inj M) h).mono ?_
 rintro r S ⟨r0, S0, q, rfl, h1, h2, h3, h4⟩
 obtain ⟨t, b, tk, c⟩ := S
 simp only at h1 h2 h3 h4
 subst h1 h2 h3 h4
 exact q
end Go.Gv
