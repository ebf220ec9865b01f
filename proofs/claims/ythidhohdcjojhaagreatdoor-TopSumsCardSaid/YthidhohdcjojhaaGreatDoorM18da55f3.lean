/- Texts of this proof, one behind the other. What is proved, and on which conditions, stands ahead of each. -/
import Derived.Test.YthidhohdcjojhaaGreatDoorM170220fe

set_option linter.unusedVariables false
set_option linter.unusedSimpArgs false
namespace Go.Gv
@[simp] theorem ex_mark {f : Nat -> AV} {blk : Nat -> Option Blk} {tok : Nat -> Option Tok} {st : Nat} {x : X} : ex f blk tok st (.mark x) = match x.ev f with
   | .acc nm s sz xs => match tok nm with
     | some t => if t.st = s /\ t.sz = 1 /\ sz = 1 /\ xs ≠ [] then some { v := .acc nm s sz xs } else none
     | none => none
   | _ => none := rfl
@[simp] theorem ex_bys {f : Nat -> AV} {blk : Nat -> Option Blk} {tok : Nat -> Option Tok} {st : Nat} {x : X} : ex f blk tok st (.bys x) = (listOf blk 1 (x.ev f)).bind fun xs => (strOf xs).map fun l => { v := .str ⟨l.toArray⟩ } := rfl
@[simp] theorem aopXs_mark {x : X} : aopXs (.mark x) = [x] := rfl
@[simp] theorem aopXs_bys {x : X} : aopXs (.bys x) = [x] := rfl
theorem regI_row {P : Program} {pre : List (List Nat)} {st0 : Nat} {ops : List AI} {k : St -> Prop} {S0 : St} (tbl : List (Option (Nat × AV))) (ch : List Nat) (R : Nat -> St -> Prop)
   (hord : ∀ (n j : Nat), ch[n + 1]? = some j -> ∃ i, ch[n]? = some i /\ i ∈ pre.getD j []) (hnd : ch.Nodup)
   (hcov : ∀ j : Nat, j < ops.length -> (∃ p, tbl[j]? = some (some p)) \/ ((tbl[j]?).join = none /\ j ∈ ch)) (hlt : ∀ j ∈ ch, j < ops.length /\ (tbl[j]?).join = none)
   (hdst : ∀ (i j d : Nat) (v w : AV), tbl[i]? = some (some (d, v)) -> tbl[j]? = some (some (d, w)) -> i = j)
   (h0 : R 0 S0)
   (hp : ∀ (n : Nat) (S' : St) (j : Nat) (ai : AI) (d : Nat) (v : AV), ops[j]? = some ai -> tbl[j]? = some (some (d, v)) -> (∀ p ∈ pre.getD j [], ∀ (d' : Nat) (v' : AV), tbl[p]? = some (some (d', v')) -> S'.t d' = v') -> (∀ (m i : Nat), i ∈ pre.getD j [] -> ch[m]? = some i -> m < n) -> (∀ (m i : Nat), ch[m]? = some i -> j ∈ pre.getD i [] -> n <= m) -> R n S' ->
     stepV P (st0 + j) ai S' fun S'' => R n S'' /\ S''.t d = v /\ ∀ x, x ≠ d -> S''.t x = S'.t x)
   (hc : ∀ (n : Nat) (S' : St) (j : Nat) (ai : AI), ch[n]? = some j -> ops[j]? = some ai -> (∀ p ∈ pre.getD j [], ∀ (d' : Nat) (v' : AV), tbl[p]? = some (some (d', v')) -> S'.t d' = v') -> R n S' ->
     stepV P (st0 + j) ai S' fun S'' => R (n + 1) S'' /\ ∀ (i d : Nat) (v : AV), tbl[i]? = some (some (d, v)) -> S''.t d = S'.t d)
   (hk : ∀ S', R ch.length S' -> (∀ (i d : Nat) (v : AV), i < ops.length -> tbl[i]? = some (some (d, v)) -> S'.t d = v) -> k S') : regI P pre st0 ops k S0 := by
 refine ⟨fun D S => (∀ (i d : Nat) (v : AV), tbl[i]? = some (some (d, v)) -> D i = true -> S.t d = v) /\ ∃ n, (∀ m i, ch[m]? = some i -> (D i = true ↔ m < n)) /\ n <= ch.length /\ R n S, ⟨(fun _ _ _ _ q => by cases q), 0, fun _ _ _ => by simp, Nat.zero_le _, h0⟩, ?_, ?_⟩
 . rintro D S' j ai hj hDj hpre hcl ⟨hs, n, hn, hnl, hR⟩
   have hjl := (List.getElem?_eq_some_iff.1 hj).1
   have hsl : ∀ p ∈ pre.getD j [], ∀ (d' : Nat) (v' : AV), tbl[p]? = some (some (d', v')) -> S'.t d' = v' := fun p q d' v' e => hs p d' v' e (hpre p q)
   rcases hcov j hjl with ⟨⟨d, v⟩, hjt⟩ | ⟨hjt, hjc⟩
   . refine stepV_mono ?_ (hp n S' j ai d v hj hjt hsl (fun m i hi hm => (hn m i hm).1 (hpre i hi))
       (fun m i hm hi => Nat.le_of_not_lt fun q => by have := hcl i ((hn m i hm).2 q) j hi; rw [hDj] at this; cases this) hR)
     rintro S'' ⟨hR', hv, ho⟩
     refine ⟨fun i d' v' hi hD => ?_, n, fun m i hi => ?_, hnl, hR'⟩
     . by_cases e1 : i = j
       . subst e1
         rw [hjt] at hi
         cases hi
         exact hv
       . have hD' : D i = true := by simpa [e1] using hD
         have hdd : d' ≠ d := fun q => e1 (hdst i j d' v' v hi (q ▸ hjt))
         rw [ho _ hdd]
         exact hs i d' v' hi hD'
     . have : i ≠ j := by
         rintro rfl
         have := (hlt i (List.mem_of_getElem? hi)).2
         rw [hjt] at this
         cases this
       simp [this, hn m i hi]
   . obtain ⟨m, hm⟩ := List.getElem?_of_mem hjc
     have hmn : m = n := by
       have h1 : ¬ m < n := fun q => by have := (hn m j hm).2 q; rw [hDj] at this; cases this
       rcases m with _ | m
       . omega
       . obtain ⟨i, hi, hip⟩ := hord m j hm
         have := (hn m i hi).1 (hpre i hip)
         omega
     subst hmn
     refine stepV_mono ?_ (hc m S' j ai hm hj hsl hR)
     rintro S'' ⟨h1, h2⟩
     have hml : m < ch.length := (List.getElem?_eq_some_iff.1 hm).1
     refine ⟨fun i d v hi hD => ?_, m + 1, fun m' i hi => ?_, hml, h1⟩
     . have e1 : i ≠ j := by
         rintro rfl
         rw [hi] at hjt
         cases hjt
       rw [h2 i d v hi]
       exact hs i d v hi (by simpa [e1] using hD)
     . by_cases e1 : i = j
       . subst e1
         have hm' : m' = m := by
           exact (List.getElem?_inj (List.getElem?_eq_some_iff.1 hi).1 hnd).1 (hi.trans hm.symm)
         subst hm'
         simp
       . have hmm : m' ≠ m := by
           rintro rfl
           rw [hi] at hm
           cases hm
           exact e1 rfl
         simp [e1, hn m' i hi]
         omega
 . rintro D S' hD ⟨hs, n, hn, hnl, hR⟩
   have hnn : n = ch.length := by
     by_cases q : n < ch.length
     . have h1 : ch[n]? = some ch[n] := List.getElem?_eq_getElem q
       have := (hn n _ h1).1 (hD _ (hlt _ (List.getElem_mem q)).1)
       omega
     . omega
   subst hnn
   exact hk S' hR (fun i d v hi hit => hs i d v hit (hD i hi))
def rowChk (pre : List (List Nat)) (n : Nat) (ds : List (Option Nat)) (ch : List Nat) : Bool :=
 (List.range n).all (fun j => (ds.getD j none).isSome || ch.contains j) && ch.all (fun j => decide (j < n) && (ds.getD j none).isNone) && decide ch.Nodup &&
   (List.range ch.length).all (fun m => decide (ch.length <= m + 1) || (pre.getD (ch.getD (m + 1) 0) []).contains (ch.getD m 0)) && decide (ds.filterMap id).Nodup
theorem regi_row {P : Program} {pre : List (List Nat)} {st0 : Nat} {ops : List AI} {k : St -> Prop} {S0 : St} {u : Dep k} (ds : List (Option Nat)) (ch : List Nat) (val : Nat -> AV) (R : Nat -> St -> Prop) (hck : rowChk pre ops.length ds ch = true) (h0 : R 0 S0)
   (hp : ∀ (n : Nat) (S' : St) (j : Nat) (ai : AI) (d : Nat), ops[j]? = some ai -> ds[j]? = some (some d) -> (∀ p ∈ pre.getD j [], ∀ d' : Nat, ds[p]? = some (some d') -> S'.t d' = val d') -> (∀ (m i : Nat), i ∈ pre.getD j [] -> ch[m]? = some i -> m < n) -> (∀ (m i : Nat), ch[m]? = some i -> j ∈ pre.getD i [] -> n <= m) -> R n S' ->
     stepV P (st0 + j) ai S' fun S'' => R n S'' /\ S''.t d = val d /\ ∀ x, x ≠ d -> S''.t x = S'.t x)
   (hc : ∀ (n : Nat) (S' : St) (j : Nat) (ai : AI), ch[n]? = some j -> ops[j]? = some ai -> (∀ p ∈ pre.getD j [], ∀ d' : Nat, ds[p]? = some (some d') -> S'.t d' = val d') -> R n S' ->
     stepV P (st0 + j) ai S' fun S'' => R (n + 1) S'' /\ ∀ d, some d ∈ ds -> S''.t d = S'.t d)
   (hk : ∀ S', R ch.length S' -> k S') : regIG P pre st0 ops S0 k u := by
 simp only [rowChk, Bool.and_eq_true, decide_eq_true_eq] at hck
 obtain ⟨⟨⟨⟨c1, c2⟩, c3⟩, c4⟩, c5⟩ := hck
 have gt : ∀ (j d : Nat) (v : AV), (ds.map (Option.map fun d => (d, val d)))[j]? = some (some (d, v)) -> ds[j]? = some (some d) /\ v = val d := by
   intro j d v h
   rw [List.getElem?_map] at h
   cases hd : ds[j]? with
   | none => rw [hd] at h; cases h
   | some o =>
     rw [hd] at h
     cases o with
     | none => cases h
     | some d' => simp at h; obtain ⟨rfl, rfl⟩ := h; exact ⟨rfl, rfl⟩
 have gs : ∀ (j d : Nat), ds[j]? = some (some d) -> (ds.map (Option.map fun d => (d, val d)))[j]? = some (some (d, val d)) := by
   intro j d h
   rw [List.getElem?_map, h]
   rfl
 refine regI_row (ds.map (Option.map fun d => (d, val d))) ch R ?_ c3 ?_ ?_ ?_ h0 ?_ ?_ (fun S' h _ => hk S' h)
 . intro n j hj
   have hl := (List.getElem?_eq_some_iff.1 hj).1
   have := List.all_eq_true.1 c4 n (List.mem_range.2 (by omega))
   have e1 : ch.getD (n + 1) 0 = j := by rw [List.getD_eq_getElem?_getD, hj]; rfl
   rw [e1] at this
   refine ⟨ch.getD n 0, ?_, ?_⟩
   . rw [List.getD_eq_getElem?_getD, List.getElem?_eq_getElem (by omega)]; rfl
   . simpa [show ¬ ch.length <= n + 1 by omega] using this
 . intro j hj
   have := List.all_eq_true.1 c1 j (List.mem_range.2 hj)
   rw [List.getD_eq_getElem?_getD] at this
   rw [List.getElem?_map]
   cases hd : ds[j]? with
   | none => rw [hd] at this; exact .inr ⟨rfl, by simpa using this⟩
   | some o =>
     rw [hd] at this
     cases o with
     | none => exact .inr ⟨rfl, by simpa using this⟩
     | some d => exact .inl ⟨(d, val d), rfl⟩
 . intro j hj
   have := List.all_eq_true.1 c2 j hj
   simp only [Bool.and_eq_true, decide_eq_true_eq] at this
   refine ⟨this.1, ?_⟩
   have h2 := this.2
   rw [List.getD_eq_getElem?_getD] at h2
   rw [List.getElem?_map]
   cases hd : ds[j]? with
   | none => rfl
   | some o =>
     rw [hd] at h2
     cases o with
     | none => rfl
     | some d => cases h2
 . intro i j d v w hi hj
   have h1 := (gt i d v hi).1
   have h2 := (gt j d w hj).1
   have key : ∀ (l : List (Option Nat)) (i j : Nat), (l.filterMap id).Nodup -> l[i]? = some (some d) -> l[j]? = some (some d) -> i = j := by
     intro l
     induction l with
     | nil => intro i j _ h; simp at h
     | cons o l ih =>
       intro i j hn h1 h2
       have hmem : ∀ m, l[m]? = some (some d) -> d ∈ l.filterMap id := fun m hm => List.mem_filterMap.2 ⟨some d, List.mem_of_getElem? hm, rfl⟩
       cases o with
       | none =>
         rcases i with _ | i <;> rcases j with _ | j
         . rfl
         . simp at h1
         . simp at h2
         . rw [ih i j (by simpa using hn) (by simpa using h1) (by simpa using h2)]
       | some d0 =>
         simp only [List.filterMap_cons_some (show id (some d0) = some d0 from rfl), List.nodup_cons] at hn
         rcases i with _ | i <;> rcases j with _ | j
         . rfl
         . simp at h1; subst h1; exact absurd (hmem j (by simpa using h2)) hn.1
         . simp at h2; subst h2; exact absurd (hmem i (by simpa using h1)) hn.1
         . rw [ih i j hn.2 (by simpa using h1) (by simpa using h2)]
   exact key ds i j c5 h1 h2
 . intro n S' j ai d v hj hd hpre h1 h2 hR
   obtain ⟨hd', rfl⟩ := gt j d v hd
   exact hp n S' j ai d hj hd' (fun p q d' e => hpre p q d' _ (gs p d' e)) h1 h2 hR
 . intro n S' j ai hn hj hpre hR
   refine stepV_mono ?_ (hc n S' j ai hn hj (fun p q d' e => hpre p q d' _ (gs p d' e)) hR)
   rintro S'' ⟨q1, q2⟩
   exact ⟨q1, fun i d v hi => q2 d (List.mem_of_getElem? (gt i d v hi).1)⟩
end Go.Gv

namespace Go.Gv
open Go.RowKit
def Hp.up (M : Nat) (h : Hp) : Hp := ⟨fun n => if M <= n then h.blk (n - M) else none, fun n => if M <= n then h.tok (n - M) else none⟩
def Hp.down (M : Nat) (h : Hp) : Hp := ⟨fun n => h.blk (n + M), fun n => h.tok (n + M)⟩
theorem Hp.up_blk {M : Nat} {h : Hp} {n : Nat} {b : Blk} (q : (h.up M).blk n = some b) : M <= n /\ h.blk (n - M) = some b := by
 simp only [Hp.up] at q
 split at q
 . rename_i h1; exact ⟨h1, q⟩
 . cases q
theorem Hp.up_tok {M : Nat} {h : Hp} {n : Nat} {t : Tok} (q : (h.up M).tok n = some t) : M <= n /\ h.tok (n - M) = some t := by
 simp only [Hp.up] at q
 split at q
 . rename_i h1; exact ⟨h1, q⟩
 . cases q
theorem Hp.up_get_blk (M : Nat) (h : Hp) (n : Nat) : (h.up M).blk (n + M) = h.blk n := by
 show (if M <= n + M then h.blk (n + M - M) else none) = h.blk n
 rw [if_pos (Nat.le_add_left _ _), Nat.add_sub_cancel]
theorem Hp.up_get_tok (M : Nat) (h : Hp) (n : Nat) : (h.up M).tok (n + M) = h.tok n := by
 show (if M <= n + M then h.tok (n + M - M) else none) = h.tok n
 rw [if_pos (Nat.le_add_left _ _), Nat.add_sub_cancel]
theorem HConc.up {E : Env} {B : Nat} {h : Hp} {w : World} (M : Nat) (H : HConc E B h w) : HConc E B (h.up M) w := by
 refine ⟨H.K, ?_, ?_, ?_, ?_, ?_, ?_, ?_⟩
 . exact fun n b q => H.bu _ b (Hp.up_blk q).2
 . exact fun n b q => H.bk _ b (Hp.up_blk q).2
 . exact fun n t q => H.tu _ t (Hp.up_tok q).2
 . exact fun n t q => H.tk _ t (Hp.up_tok q).2
 . intro n n' b b' hn q q'
   obtain ⟨a1, a2⟩ := Hp.up_blk q
   obtain ⟨b1, b2⟩ := Hp.up_blk q'
   exact H.bb _ _ b b' (by omega) a2 b2
 . exact fun n n' b t q q' => H.bt _ _ b t (Hp.up_blk q).2 (Hp.up_tok q').2
 . intro n n' t t' g hn q q' hg
   obtain ⟨a1, a2⟩ := Hp.up_tok q
   obtain ⟨b1, b2⟩ := Hp.up_tok q'
   exact H.tt _ _ t t' g (by omega) a2 b2 hg
theorem HConc.down {E : Env} {B : Nat} {h : Hp} {w : World} (M : Nat) (H : HConc E B h w) : HConc E B (h.down M) w := by
 refine ⟨H.K, ?_, ?_, ?_, ?_, ?_, ?_, ?_⟩
 . exact fun n b q => H.bu _ b q
 . exact fun n b q => H.bk _ b q
 . exact fun n t q => H.tu _ t q
 . exact fun n t q => H.tk _ t q
 . exact fun n n' b b' hn q q' => H.bb _ _ b b' (by omega) q q'
 . exact fun n n' b t q q' => H.bt _ _ b t q q'
 . exact fun n n' t t' g hn q q' hg => H.tt _ _ t t' g (by omega) q q' hg
def upA (M : Nat) : AV -> AV
 | .ptr nm st sz i off => .ptr (nm + M) st sz i off
 | v => v
theorem Rel.upA {E : Env} {y : AV} {u : Value} (M : Nat) (h : Rel E y u) : Rel E (Go.Gv.upA M y) u := by
 cases y with
 | ptr nm st sz i off => cases h with | ptr _ _ _ _ _ hu => exact .ptr _ st sz i off hu
 | _ => exact h
theorem CallP.up {P : Program} {f : FuncId} {vals vals' : List AV} {T : St} {k : AV -> St -> Prop} (M : Nat) (hv : vals' = vals.map (Go.Gv.upA M)) (h : CallP P (.fn f []) vals' ⟨T.t, (T.h.up M).blk, (T.h.up M).tok, T.clk⟩ k) :
   CallP P (.fn f []) vals T fun r S => ∃ S', k r S' /\ S.blk = (fun n => S'.blk (n + M)) /\ S.tok = (fun n => S'.tok (n + M)) /\ S.t = T.t := by
 subst hv
 obtain ⟨g, caps, h1, h2, h3⟩ := h
 cases h1
 refine ⟨f, [], rfl, h2, fun E B W w args H hW hB hu hsz hrel => (h3 E B W w args (H.up M) hW hB hu (by simpa using hsz) ?_).mono ?_⟩
 . intro j y u hy hu'
   simp only [List.append_nil, List.getElem?_map, Option.map_eq_some_iff] at hy
   obtain ⟨x, hx, rfl⟩ := hy
   exact (hrel j x u (by simpa using hx) hu').upA M
 . rintro e w' ⟨v, E', r, S', a1, a2, a3, a4, a5, a6, a7, a8, a9, a10⟩
   exact ⟨v, E', r, ⟨T.t, fun n => S'.blk (n + M), fun n => S'.tok (n + M), S'.clk⟩, a1, a2, a3.down M, a4, a5, a6, a7, rfl, a9, S', a10, rfl, rfl, rfl⟩
theorem CallP.localizeW {P : Program} {fv : AV} {vals : List AV} {T : St} {k0 : AV -> St -> Prop} (h : CallP P fv vals T k0) (r0 : AV) (h1 : r0.cl1 = true) (nm st sz : Nat) (es0 es : List AV) (hsz0 : sz ≠ 0) (hT : T.blk nm = some ⟨st, sz, es0⟩)
   (hcl : ∀ e ∈ es, ∀ c ∈ e.cells, c.cl1 = true)
   (hk : ∀ r S, k0 r S -> (∀ (E : Env) (v : Value), Rel E r v -> Rel E r0 v) /\ S.blk nm = some ⟨st, sz, es⟩ /\ (∀ n, n ≠ nm -> S.blk n = T.blk n) /\ (∀ n, n ≠ nm -> S.tok n = T.tok n)) :
   CallP P fv vals T fun r S => r = r0 /\ S = ⟨T.t, upd T.blk nm (some ⟨st, sz, es⟩), upd T.tok nm none, T.clk⟩ := by
 obtain ⟨f, caps, q1, q2, q3⟩ := h
 refine ⟨f, caps, q1, q2, fun E B W w args H hW hB hu hsz hrel => (q3 E B W w args H hW hB hu hsz hrel).mono ?_⟩
 rintro e w' ⟨v, E', r, S', rfl, a2, a3, a4, a5, a6, a7, a8, a9, a10⟩
 obtain ⟨b1, b0, b2, b3⟩ := hk r S' a10
 have hcell : ∀ b o u, ({ E' with u := E.u } : Env).K b o = some u -> w'.cell? ⟨b, o, none⟩ = some u := a3.K
 have hS : ∀ n b, upd T.blk nm (some ⟨st, sz, es⟩) n = some b -> S'.blk n = some b := by
   intro n b hb
   simp only [upd] at hb
   split at hb
   . rename_i e; cases hb; rw [e]; exact b0
   . rename_i e; rw [b2 n e]; exact hb
 have hU : ∀ n b, upd T.blk nm (some ⟨st, sz, es⟩) n = some b -> E.u b.st := by
   intro n b hb
   simp only [upd] at hb
   split at hb
   . cases hb; have q := H.bu nm ⟨st, sz, es0⟩ hT; exact q
   . exact H.bu n b hb
 have hTt : ∀ n t, upd T.tok nm none n = some t -> n ≠ nm /\ T.tok n = some t := by
   intro n t ht
   simp only [upd] at ht
   split at ht
   . cases ht
   . rename_i e; exact ⟨e, ht⟩
 have hSt : ∀ n t, upd T.tok nm none n = some t -> S'.tok n = some t := fun n t ht => by rw [b3 n (hTt n t ht).1]; exact (hTt n t ht).2
 refine ⟨v, { E' with u := E.u }, r0, ⟨T.t, upd T.blk nm (some ⟨st, sz, es⟩), upd T.tok nm none, T.clk⟩, rfl, ⟨a2.K, a2.m, a2.hd, a2.cp, fun s hs => hs⟩, ⟨hcell, hU, ?_, fun n t ht => H.tu n t (hTt n t ht).2, ?_, ?_, ?_, ?_⟩, a4, a5, fun s hs => ⟨.inl hs, hu s hs⟩, Nat.le_refl _, rfl, ?_, rfl, rfl⟩
 . intro n b hb
   have B' := a3.bk n b (hS n b hb)
   replace hb : upd T.blk nm (some ⟨st, sz, es⟩) n = some b := hb
   simp only [upd] at hb
   split at hb
   . cases hb
     have R := B'.r hsz0
     obtain ⟨cur, ty, c1, c2, c3⟩ := R.row
     refine .row hsz0 ⟨R.base, R.el, R.len, ⟨cur, ty, c1, c2, fun i x hx j y hy => ?_⟩, R.noK⟩
     obtain ⟨u, g1, g2⟩ := c3 i x hx j y hy
     exact ⟨u, g1, Rel.of_cl1 (E := E') (E' := { E' with u := E.u }) (fun _ _ _ q => q) g2 (hcl x (List.mem_of_getElem? hx) y (List.mem_of_getElem? hy))⟩
   . have B0 := H.bk n b hb
     cases B' with
     | row h0 R =>
       have R0 := B0.r h0
       obtain ⟨cur, ty, c1, c2, c3⟩ := R.row
       obtain ⟨_, _, _, _, d3⟩ := R0.row
       refine .row h0 ⟨R.base, R.el, R.len, ⟨cur, ty, c1, c2, fun i x hx j y hy => ?_⟩, R.noK⟩
       obtain ⟨u, g1, g2⟩ := c3 i x hx j y hy
       obtain ⟨u0, _, g3⟩ := d3 i x hx j y hy
       exact ⟨u, g1, g2.narrow g3⟩
     | map h0 M =>
       obtain ⟨arr, c, c1, c2⟩ := M.mp
       obtain ⟨st, sz, es⟩ := b
       simp only at h0
       subst h0
       obtain ⟨arr0, c0, _, d2⟩ := B0.mp.mp
       exact .map rfl ⟨M.base, ⟨arr, c, c1, c2.narrow d2⟩, M.noK⟩
 . exact fun n t ht => a3.tk n t (hSt n t ht)
 . exact fun n n' b b' hn hb hb' => a3.bb n n' b b' hn (hS n b hb) (hS n' b' hb')
 . exact fun n n' b t hb ht => a3.bt n n' b t (hS n b hb) (hSt n' t ht)
 . exact fun n n' t t' g hn ht ht' hg => a3.tt n n' t t' g hn (hSt n t ht) (hSt n' t' ht') hg
 . exact Rel.of_cl1 (E := E') (E' := { E' with u := E.u }) (fun _ _ _ q => q) (b1 E' v a9) h1
end Go.Gv
