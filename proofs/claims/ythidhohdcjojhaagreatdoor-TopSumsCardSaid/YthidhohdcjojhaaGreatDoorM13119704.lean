/- Texts of this proof, one behind the other. What is proved, and on which conditions, stands ahead of each. -/
import Derived.Test.YthidhohdcjojhaaGreatDoorM11e616f6
import Derived.Test.YthidhohdcjojhaaGreatDoorM9775c0f
import Derived.Test.YthidhohdcjojhaaGreatDoorM12245f2e
import Derived.Test.YthidhohdcjojhaaGreatDoorM181ae2e

set_option linter.unusedVariables false
set_option linter.unusedSimpArgs false
namespace Go.Gv
open Go.RowKit
section
variable {P : Program} {B : Nat} {W : World} {E : Env} {h : Hp} {w : World} {a : Act} {f : Nat -> AV} {n nm st : Nat}
theorem optNat_ok (hf : ∀ t, t < n -> Rel E (f t) (a.tmps.getD t undef)) {lo : Option Operand} {lx : Option X} (hc : cOptX n lo = some lx) {l : Option Nat} (hl : optNat f lx = some l) :
   (l = none /\ lo.map a.eval = none) \/ ∃ k m, l = some m /\ lo.map a.eval = some (.int k m) := by
 cases lo with
 | none => cases hc; cases hl; exact .inl ⟨rfl, rfl⟩
 | some x =>
   simp only [cOptX, Option.map_eq_some_iff] at hc
   obtain ⟨y, hy, rfl⟩ := hc
   simp only [optNat, Option.map_eq_some_iff] at hl
   obtain ⟨m, hm, rfl⟩ := hl
   have hr := cX_ok hf hy
   generalize y.ev f = v at hm hr
   cases v <;> simp only [asNat] at hm <;> (try (cases hm; done))
   rename_i k p
   split at hm
   . rename_i h0
     cases hm
     refine .inr ⟨k, p.toNat, rfl, ?_⟩
     rw [Option.map_some, hr.int_inv, Int.toNat_of_nonneg h0]
   . cases hm
theorem asNat_int {v : AV} {m : Nat} (h : asNat v = some m) : ∃ k, v = .int k m := by
 cases v <;> simp only [asNat] at h <;> (try (cases h; done))
 split at h
 . rename_i k p h0; cases h; exact ⟨k, by rw [Int.toNat_of_nonneg h0]⟩
 . cases h
theorem op_done (H : HConc E B h w) (hW : Below B W w) (hB : B <= w.heap.size) (hst : ¬ E.u st) (hf : ∀ t, t < n -> Rel E (f t) (a.tmps.getD t undef)) (o : Oper) (ao : AOp) (hc : cOp P n nm o.op = some ao) (e : Eff)
   (he : ex f h.blk h.tok st ao = some e) : Done B W E st ((execOp a.eval o).run P w) e h := by
 generalize ho : o.op = op at hc
 cases op with
 | move x =>
   simp only [cOp, Option.map_eq_some_iff] at hc
   obtain ⟨y, hy, rfl⟩ := hc
   cases he
   exact mv_done H hW hf o x (.inl ho) y hy
 | assign x =>
   simp only [cOp, Option.map_eq_some_iff] at hc
   obtain ⟨y, hy, rfl⟩ := hc
   cases he
   exact mv_done H hW hf o x (.inr ho) y hy
 | pick c x y =>
   simp only [cOp, Option.map_eq_some_iff, Option.bind_eq_some_iff] at hc
   obtain ⟨c', hc', x', hx', y', hy', rfl⟩ := hc
   simp only [ex] at he
   split at he
   . rename_i t ht
     cases he
     exact pick_done H hW o c x y ho t (by rw [<- ht]; exact cX_ok hf hc') _ _ (cX_ok hf hx') (cX_ok hf hy')
   . cases he
 | alloc t =>
   simp only [cOp, Option.bind_eq_some_iff] at hc
   obtain ⟨i, hi, z, hz, hc⟩ := hc
   split at hc
   . rename_i h0; cases hc
     simp only [ex] at he
     split at he
     . rename_i hq; cases he; exact new_done H hW hB hst o t ho i z hi hz h0 hq.1 hq.2
     . cases he
   . cases hc
 | box t x =>
   simp only [cOp, Option.bind_eq_some_iff] at hc
   obtain ⟨x', hx', i, hi, hc⟩ := hc
   split at hc
   . rename_i h0; cases hc
     simp only [ex] at he
     split at he
     . rename_i hq; cases he; exact box_done H hW hB hst o t x ho _ (cX_ok hf hx') i.size h0 hq.1 hq.2
     . cases he
   . cases hc
 | build t parts =>
   simp only [cOp] at hc
   split at hc
   . rename_i fs ht
     simp only [Option.map_eq_some_iff, Option.bind_eq_some_iff] at hc
     obtain ⟨i, hi, z, hz, places, hp, ps, hps, rfl⟩ := hc
     simp only [ex] at he
     split at he
     . rename_i h1
       simp only [Option.bind_eq_some_iff] at he
       obtain ⟨cs, hcs, he⟩ := he
       split at he
       . rename_i hall; cases he
         exact build_done H hW hf o t parts ho fs ht i hi z hz places hp ps hps h1 cs hcs hall
       . cases he
     . cases he
   . cases hc
 | buildSlice t len parts =>
   simp only [cOp] at hc
   split at hc
   . rename_i e' ht
     simp only [Option.bind_eq_some_iff] at hc
     obtain ⟨i, hi, z, hz, hc⟩ := hc
     split at hc
     . rename_i hq
       simp only [Option.map_eq_some_iff] at hc
       obtain ⟨ps, hps, hc⟩ := hc
       split at hc
       . subst hc
         simp only [ex] at he
         split at he
         . rename_i hok; cases he
           exact bsl_done H hW hB hst hf o t e' len parts ho ht i hi z hz hq.1 hq.2.1 hq.2.2 ps hps hok.1 hok.2.1 hok.2.2
         . cases he
       . subst hc
         simp only [ex] at he
         split at he
         . rename_i hok; cases he
           exact bslm_done H hW hB hst hf o t e' len parts ho ht i hi z hz hq.1 hq.2.1 hq.2.2 ps hps hok.1 hok.2.1 hok.2.2
         . cases he
     . cases hc
   . cases hc
 | load t x =>
   simp only [cOp, Option.bind_eq_some_iff] at hc
   obtain ⟨x', hx', d, hd, hc⟩ := hc
   split at hc
   . rename_i hagg
     simp only [Option.map_eq_some_iff] at hc
     obtain ⟨i, hi, rfl⟩ := hc
     simp only [ex, Option.map_eq_some_iff] at he
     obtain ⟨v, hv, rfl⟩ := he
     exact load_done H hW o t x ho _ v (cX_ok hf hx') d hd (.inr ⟨hagg, i, hi, hv⟩)
   . rename_i hagg
     cases hc
     simp only [ex, Option.map_eq_some_iff] at he
     obtain ⟨v, hv, rfl⟩ := he
     exact load_done H hW o t x ho _ v (cX_ok hf hx') d hd (.inl ⟨by simpa using hagg, hv⟩)
 | store t x y =>
   simp only [cOp, Option.bind_eq_some_iff] at hc
   obtain ⟨x', hx', y', hy', i, hi, hc⟩ := hc
   split at hc
   . rename_i h0
     cases hc
     simp only [ex] at he
     split at he
     . rename_i nm' s sz k off hp
       simp only [Option.bind_eq_some_iff] at he
       obtain ⟨es, hes, e1, he1, he⟩ := he
       split at he
       . rename_i hq; cases he
         obtain ⟨w', hrun, h1, h2⟩ := store_done (P := P) H hW t i hi (by rw [<- hp]; exact cX_ok hf hx') (cX_ok hf hy') hes he1 hq.1 hq.2.1 hq.2.2 h0
         exact ⟨undef, w', E, .inr ⟨by simp [execOp, ho, hrun], rfl⟩, .refl E, fun _ q => .inl q, fun _ _ _ => rfl, h1, h2, .junk _⟩
       . cases he
     . cases he
   . cases hc
 | nilCheck x =>
   simp only [cOp, Option.map_eq_some_iff] at hc
   obtain ⟨y, hy, rfl⟩ := hc
   simp only [ex] at he
   split at he
   . rename_i nm' s sz i o' hp; cases he
     rw [<- hp]
     exact nilck_done H hW o x ho _ (cX_ok hf hy) (.inl ⟨_, _, _, _, _, hp⟩)
   . rename_i cs o' hp; cases he
     rw [<- hp]
     exact nilck_done H hW o x ho _ (cX_ok hf hy) (.inr ⟨_, _, hp⟩)
   . cases he
 | binOp op t x y ty =>
   simp only [cOp, Option.bind_eq_some_iff] at hc
   obtain ⟨x', hx', y', hy', hc⟩ := hc
   split at hc
   . have hsh : ∀ l : Bool, op = (if l = true then BinOp.shl else .shr) -> ao = .shift l x' y' -> Done B W E st ((execOp a.eval o).run P w) e h := by
       intro l hop hao
       subst hao hop
       simp only [ex] at he
       split at he
       . rename_i k p k' q hp hq
         split at he
         . cases he
         . rename_i hq0; cases he
           exact shift_done H hW o l t ty x y ho k k' p q (by rw [<- hp]; exact cX_ok hf hx') (by rw [<- hq]; exact cX_ok hf hy') hq0
       . cases he
     have hin : ao = .ibin op x' y' -> Done B W E st ((execOp a.eval o).run P w) e h := by
       intro hao
       subst hao
       simp only [ex] at he
       split at he
       . rename_i k p k' q hp hq
         split at he
         . rename_i ek; subst ek
           simp only [Option.map_eq_some_iff] at he
           obtain ⟨r, hr, rfl⟩ := he
           exact int_done H hW o op t ty x y ho k p q (by rw [<- hp]; exact cX_ok hf hx') (by rw [<- hq]; exact cX_ok hf hy') r hr
         . cases he
       . cases he
     split at hc
     . cases hc; exact hsh true rfl rfl
     . cases hc; exact hsh false rfl rfl
     . cases hc; exact hin rfl
   . rename_i ht
     have main : ∀ neg, op = (if neg = true then BinOp.neq else .eql) -> ao = .eqv neg x' y' -> Done B W E st ((execOp a.eval o).run P w) e h := by
       intro neg hop hao
       subst hao
       simp only [ex] at he
       split at he
       . rename_i p q hp hq
         cases he
         exact eqv_done H hW o op neg t ty x y ho hop ht p q (by rw [<- hp]; exact cX_ok hf hx') (by rw [<- hq]; exact cX_ok hf hy')
       . cases he
     split at hc
     . cases hc; exact main false rfl rfl
     . cases hc; exact main true rfl rfl
     . cases hc
   . have main : ∀ bop : BinOp, bop = .add \/ bop = .eql \/ bop = .neq -> op = bop -> ao = .sbin bop x' y' -> Done B W E st ((execOp a.eval o).run P w) e h := by
       intro bop hb hop hao
       subst hao hop
       simp only [ex] at he
       split at he
       . rename_i p q hp hq
         simp only [Option.map_eq_some_iff] at he
         obtain ⟨r, hr, rfl⟩ := he
         exact sbin_done H hW o op t ty x y ho hb p q (by rw [<- hp]; exact cX_ok hf hx') (by rw [<- hq]; exact cX_ok hf hy') r hr
       . cases he
     split at hc
     . cases hc; exact main .add (.inl rfl) rfl rfl
     . cases hc; exact main .eql (.inr (.inl rfl)) rfl rfl
     . cases hc; exact main .neq (.inr (.inr rfl)) rfl rfl
     . cases hc
   . rename_i fs ht
     simp only [Option.bind_eq_some_iff] at hc
     obtain ⟨ks, hks, hc⟩ := hc
     split at hc
     . rename_i hq
       have main : ∀ neg, op = (if neg = true then BinOp.neq else .eql) -> ao = .eqs ks neg x' y' -> Done B W E st ((execOp a.eval o).run P w) e h := by
         intro neg hop hao
         subst hao
         simp only [ex] at he
         split at he
         . rename_i xs ys hp hp'
           simp only [Option.map_eq_some_iff] at he
           obtain ⟨r, hr, rfl⟩ := he
           exact eqs_done H hW o op neg t ty x y ho hop fs ht ks hks hq.1 hq.2 xs ys (by rw [<- hp]; exact cX_ok hf hx') (by rw [<- hp']; exact cX_ok hf hy') r hr
         . cases he
       split at hc
       . cases hc; exact main false rfl rfl
       . cases hc; exact main true rfl rfl
       . cases hc
     . cases hc
   . cases hc
 | unOp op t x =>
   cases op <;> simp only [cOp, Option.map_eq_some_iff] at hc <;> (try (cases hc; done))
   . obtain ⟨x', hx', rfl⟩ := hc
     simp only [ex] at he
     split at he
     . rename_i k p hp; cases he; exact neg_done H hW o t x ho k p (by rw [<- hp]; exact cX_ok hf hx')
     . cases he
   . obtain ⟨x', hx', rfl⟩ := hc
     simp only [ex] at he
     split at he
     . rename_i b hp; cases he; exact not_done H hW o t x ho b (by rw [<- hp]; exact cX_ok hf hx')
     . cases he
 | convert src dst x =>
   simp only [cOp, Option.bind_eq_some_iff] at hc
   obtain ⟨x', hx', hc⟩ := hc
   split at hc
   . rename_i d k hs hd
     cases hc
     simp only [ex] at he
     split at he
     . rename_i k' p hp; cases he; exact conv_done H hW o src dst x ho k d hs hd k' p (by rw [<- hp]; exact cX_ok hf hx')
     . cases he
   . rename_i d0 e0 hs hd
     split at hc
     . rename_i hu8
       split at hc
       rotate_left
       . cases hc
       rename_i hsd
       cases hc
       simp only [ex] at he
       split at he
       . rename_i m s sz xs hp
         split at he
         . rename_i t ht
           split at he
           . rename_i hq
             obtain ⟨h1, h2, rfl, h4⟩ := hq
             cases he
             exact mark_done H hW o src dst _ _ x ho hs hd hu8 hsd m s xs h4 t ht h1 h2 (by rw [<- hp]; exact cX_ok hf hx')
           . cases he
         . cases he
       . cases he
     . cases hc
   . rename_i e0 hs hd
     split at hc
     . rename_i hu8
       cases hc
       simp only [ex, Option.bind_eq_some_iff, Option.map_eq_some_iff] at he
       obtain ⟨xs, hxs, l, hl, rfl⟩ := he
       exact bys_done H hW o src dst e0 x ho hs hd hu8 _ (cX_ok hf hx') xs hxs l hl
     . cases hc
   . cases hc
 | makeFunc fn first caps =>
   cases fn with
   | func g =>
     simp only [cOp] at hc
     split at hc
     . rename_i h0
       simp only [Option.map_eq_some_iff] at hc
       obtain ⟨l, hl, rfl⟩ := hc
       cases he
       obtain ⟨e1, e2⟩ := cXs_ok hf _ _ hl
       refine mkf_done H hW o g first caps h0 ho _ (by simp only [List.length_map]; exact e1) ?_
       intro j y z hy hz
       rw [List.getElem?_map] at hy
       cases hx : l[j]? with
       | none => simp [hx] at hy
       | some x => simp only [hx, Option.map_some, Option.some.injEq] at hy; rw [<- hy]; exact e2 j x z hx hz
     . cases hc
   | _ => simp [cOp] at hc
 | makeSlice t l c =>
   cases l <;> cases c <;> simp only [cOp] at hc <;> (try (cases hc; done))
   rename_i l c
   split at hc
   . rename_i el; subst el
     split at hc
     . rename_i e' ht
       simp only [Option.bind_eq_some_iff] at hc
       obtain ⟨i, hi, z, hz, hc⟩ := hc
       split at hc
       . rename_i hq
         simp only [Option.map_eq_some_iff] at hc
         obtain ⟨x, hx, rfl⟩ := hc
         simp only [ex, Option.bind_eq_some_iff] at he
         obtain ⟨m, hm, he⟩ := he
         split at he
         . rename_i hk; cases he
           obtain ⟨k, hk'⟩ := asNat_int hm
           exact msl_done H hW hB hst o t e' (.tmp l) ho ht i hi z hz hq.1 hq.2.1 hq.2.2 k m (by rw [<- hk']; exact cX_ok hf hx) hk.1 hk.2.1 hk.2.2
         . cases he
       . cases hc
     . cases hc
   . cases hc
 | slice t x lo hi mx =>
   cases mx with
   | some m => simp [cOp] at hc
   | none =>
     simp only [cOp, Option.bind_eq_some_iff] at hc
     obtain ⟨x', hx', lx, hlx, hx2, hhx, hc⟩ := hc
     have main : ∀ so : Option Nat, ao = .slice so x' lx hx2 -> ((so = none /\ P.underlying t = some .string) \/ ∃ e ti, so = some ti.size /\ P.underlying t = some (.slice e) /\ P.info? e = some ti) -> Done B W E st ((execOp a.eval o).run P w) e h := by
       intro so hao hty
       subst hao
       simp only [ex, Option.bind_eq_some_iff, Option.map_eq_some_iff] at he
       obtain ⟨l, hl, hh, hhh, v, hv, rfl⟩ := he
       obtain ⟨u, hu, hrel⟩ := slice_done (P := P) H (cX_ok hf hx') so l hh hv t hty _ _ (optNat_ok hf hlx hl) (optNat_ok hf hhx hhh)
       exact Done.pure H hW (v := u) (by simp [execOp, ho, hu]) hrel
     split at hc
     . rename_i e' ht
       simp only [Option.map_eq_some_iff] at hc
       obtain ⟨i, hi, rfl⟩ := hc
       exact main _ rfl (.inr ⟨e', i, rfl, ht, hi⟩)
     . rename_i ht; cases hc; exact main _ rfl (.inl ⟨rfl, ht⟩)
     . cases hc
 | fieldAddr s x g =>
   simp only [cOp, Option.bind_eq_some_iff] at hc
   obtain ⟨x', hx', hc⟩ := hc
   split at hc
   . rename_i fs hs
     simp only [Option.bind_eq_some_iff] at hc
     obtain ⟨fd, hfd, i, hi, hc⟩ := hc
     split at hc
     . cases hc
     . rename_i h0
       cases hc
       simp only [ex] at he
       split at he
       . rename_i nm' s' sz k off hp; cases he
         exact fld_done H hW o s x g ho fs hs fd hfd i hi h0 _ _ (cX_ok hf hx') (.inl ⟨nm', s', sz, k, off, hp, rfl⟩)
       . rename_i cs off hp; cases he
         exact fld_done H hW o s x g ho fs hs fd hfd i hi h0 _ _ (cX_ok hf hx') (.inr ⟨cs, off, hp, rfl⟩)
       . cases he
   . cases hc
 | field t x g =>
   simp only [cOp, Option.bind_eq_some_iff] at hc
   obtain ⟨x', hx', hc⟩ := hc
   split at hc
   . rename_i fs ht
     simp only [Option.bind_eq_some_iff, Option.map_eq_some_iff] at hc
     obtain ⟨fd, hfd, d, hd, i, hi, rfl⟩ := hc
     by_cases hagg : isAggD d = true
     . rw [if_pos hagg] at he
       simp only [ex] at he
       split at he
       . rename_i cs hp
         split at he
         . rename_i hle; cases he
           exact getf_done H hW o t x g ho fs ht fd hfd d hd i hi cs (by rw [<- hp]; exact cX_ok hf hx') _ (.inr ⟨hagg, hle, rfl⟩)
         . cases he
       . cases he
     . rw [if_neg hagg] at he
       simp only [ex] at he
       split at he
       . rename_i cs hp
         simp only [Option.map_eq_some_iff] at he
         obtain ⟨v, hv, rfl⟩ := he
         exact getf_done H hW o t x g ho fs ht fd hfd d hd i hi cs (by rw [<- hp]; exact cX_ok hf hx') _ (.inl ⟨by simpa using hagg, hv⟩)
       . cases he
   . cases hc
 | indexAddr t x i =>
   simp only [cOp, Option.bind_eq_some_iff] at hc
   obtain ⟨x', hx', i', hi', hc⟩ := hc
   split at hc
   . rename_i e' ht
     simp only [Option.map_eq_some_iff] at hc
     obtain ⟨ti, hti, rfl⟩ := hc
     simp only [ex, Option.bind_eq_some_iff, Option.map_eq_some_iff] at he
     obtain ⟨j, hj, v, hv, rfl⟩ := he
     obtain ⟨k, hk⟩ := asNat_int hj
     have hki := (cX_ok hf hi')
     rw [hk] at hki
     obtain ⟨u, hu, hrel⟩ := idx_done (P := P) H (cX_ok hf hx') j ti.size hv t e' ti ht hti rfl k
     exact Done.pure H hW (v := u) (by simp [execOp, ho, hki.int_inv, hu]) hrel
   . cases hc
 | makeMap t r =>
   cases r with
   | some r => simp [cOp] at hc
   | none =>
     simp only [cOp, Option.some.injEq] at hc
     subst hc
     simp only [ex, Option.some.injEq] at he
     subst he
     exact mkm_done H hW hB hst o t ho
 | lookup t x i ok =>
   cases ok with
   | true => simp [cOp] at hc
   | false =>
     simp only [cOp, Option.bind_eq_some_iff] at hc
     obtain ⟨x', hx', i', hi', hc⟩ := hc
     split at hc
     . rename_i key elem ht
       split at hc
       . rename_i q hk
         simp only [Option.bind_eq_some_iff, Option.map_eq_some_iff] at hc
         obtain ⟨inf, hinf, z, hz, rfl⟩ := hc
         simp only [ex] at he
         split at he
         . rename_i nm' s k a0 hm hx
           split at he
           . simp only [Option.bind_eq_some_iff, Option.map_eq_some_iff] at he
             obtain ⟨es, hes, r, hr, rfl⟩ := he
             rename_i ek; subst ek
             exact mget_done H hW o t x i key elem _ ho ht hk inf hinf z hz nm' s (by rw [<- hm]; exact cX_ok hf hx') _ a0 (by rw [<- hx]; exact cX_ok hf hi') es hes r hr
           . cases he
         . cases he
       . cases hc
     . cases hc
 | mapUpdate t m x v =>
   simp only [cOp, Option.bind_eq_some_iff] at hc
   obtain ⟨m', hm', x', hx', v', hv', hc⟩ := hc
   split at hc
   . rename_i key elem ht
     split at hc
     . rename_i q hk
       cases hc
       simp only [ex] at he
       split at he
       . rename_i nm' s k a0 hm hx
         simp only [Option.bind_eq_some_iff] at he
         obtain ⟨es, hes, he⟩ := he
         split at he
         . rename_i hfn
           split at he
           . rename_i h1; cases he
             exact mput_done H hW o t m x v key elem q ho ht hk nm' s (by rw [<- hm]; exact cX_ok hf hm') k a0 (by rw [<- hx]; exact cX_ok hf hx') _ (cX_ok hf hv') h1 es hes hfn
           . cases he
         . cases he
       . cases he
     . cases hc
   . cases hc
 | extract x i =>
   simp only [cOp, Option.map_eq_some_iff] at hc
   obtain ⟨x', hx', rfl⟩ := hc
   simp only [ex] at he
   split at he
   . rename_i vs hp
     simp only [Option.map_eq_some_iff] at he
     obtain ⟨v, hv, rfl⟩ := he
     exact ext_done H hW o x i ho vs (by rw [<- hp]; exact cX_ok hf hx') v hv
   . cases he
 | call c =>
   obtain ⟨callee, args, tys⟩ := c
   cases callee with
   | value g => simp [cOp] at hc
   | invoke r m => simp [cOp] at hc
   | builtin b =>
     have mm : ∀ mx : Bool, b = (if mx = true then .max else .min) -> (∀ x l, args.toList = x :: l -> ((cX n x).bind fun x => (cXs n l).map fun l => .mm mx x l) = some ao -> Done B W E st ((execOp a.eval o).run P w) e h) := by
       intro mx hb x l hargs hc2
       subst hb
       simp only [Option.bind_eq_some_iff, Option.map_eq_some_iff] at hc2
       obtain ⟨x', hx', l', hl', rfl⟩ := hc2
       obtain ⟨e1, e2⟩ := cXs_ok hf _ _ hl'
       simp only [ex] at he
       split at he
       . rename_i k p hp
         simp only [Option.map_eq_some_iff] at he
         obtain ⟨r, hr, rfl⟩ := he
         refine mm_done H hW o mx x l tys args hargs ho k p r (by rw [<- hp]; exact cX_ok hf hx') (l'.map fun y => y.ev f) (by simp [e1]) ?_ hr
         intro j y z hy hz
         rw [List.getElem?_map] at hy
         cases hx : l'[j]? with
         | none => simp [hx] at hy
         | some x => simp only [hx, Option.map_some, Option.some.injEq] at hy; rw [<- hy]; exact e2 j x z hx hz
       . cases he
     cases b <;> simp only [cOp] at hc <;> (try (cases hc; done))
     case len =>
       split at hc
       . rename_i x t hargs htys
         simp only [Option.bind_eq_some_iff] at hc
         obtain ⟨x', hx', hc⟩ := hc
         have ea : args = #[x] := by cases args; simp_all
         have et : tys = #[t] := by cases tys; simp_all
         subst ea et
         split at hc
         . rename_i e1 ht; cases hc
           simp only [ex, Option.map_eq_some_iff] at he
           obtain ⟨k, hk, rfl⟩ := he
           exact len_done H hW o x t ho _ (cX_ok hf hx') k hk e1 ht
         . rename_i ht; cases hc
           simp only [ex] at he
           split at he
           . rename_i s hs; cases he
             exact slen_done H hW o x t ho s (by rw [<- hs]; exact cX_ok hf hx') ht
           . cases he
         . cases hc
       . cases hc
     case append =>
       split at hc
       . rename_i s x t t' hargs htys
         split at hc
         . rename_i et'
           subst et'
           simp only [Option.bind_eq_some_iff] at hc
           obtain ⟨s', hs', x', hx', hc⟩ := hc
           split at hc
           . rename_i e' ht
             simp only [Option.bind_eq_some_iff] at hc
             obtain ⟨i, hi, z, hz, hc⟩ := hc
             split at hc
             . rename_i hq
               have ea : args = #[s, x] := by cases args; simp_all
               have et : tys = #[t, t] := by cases tys; simp_all
               subst ea et
               split at hc
               rotate_left
               . cases hc
                 simp only [ex, Option.bind_eq_some_iff] at he
                 obtain ⟨b, hb, ys, hys, he⟩ := he
                 split at he
                 . rename_i hby
                   split at he
                   . rename_i hem; cases he
                     have hb1 : b.2 = none := by simp at hem; exact hem.1
                     have hys0 : ys = [] := by simp at hem; exact hem.2
                     have hs0 : s'.ev f = .nils := by
                       generalize s'.ev f = v at hb
                       cases v <;> simp only [appwBase] at hb <;> (try (cases hb; done))
                       . rfl
                       . split at hb
                         . simp only [Option.bind_eq_some_iff] at hb
                           obtain ⟨es, _, hb⟩ := hb
                           split at hb <;> cases hb
                           cases hb1
                         . cases hb
                     subst hys0
                     obtain ⟨ad, c, news, hu, _⟩ := srcM_of H (cX_ok hf hx') hys
                     have hsv := cX_ok hf hs'
                     rw [hs0] at hsv
                     have hrun : (Builtin.append_ #[t, t] o.type #[a.eval s, a.eval x]).run P w = .ok (.slice none 0 0) w := by
                       rw [hsv.nils_inv, hu]
                       cases ad <;> simp [Builtin.append_, run_underlying ht, sizeOf, typeInfo, hi, Builtin.lenOf, Builtin.firstCells, loadCells, loadCellsFrom]
                     exact Done.pure H hW (v := .slice none 0 0) (by simp [execOp, ho, resolve, invoke, builtin, hrun]) .nils
                   . rename_i hem; cases he
                     obtain ⟨v', w', E', hrun, h1, h2, hEB, h3, h4, h5⟩ := appw_done (P := P) H hW hB nm st i.size t o.type e' i z hst ht hi hz rfl hq.2.1 hq.2.2 hq.1 _ _ _ _ (cX_ok hf hs') (cX_ok hf hx') b hb ys hys
                       (fun hb1 hys0 => hem (by rw [hb1, hys0]; rfl)) hby
                     exact ⟨v', w', E', .inl (by simp [execOp, ho, resolve, invoke, builtin, hrun]), h1, h2, hEB, h3, h4, h5⟩
                 . cases he
               cases hc
               simp only [ex, Option.bind_eq_some_iff] at he
               obtain ⟨b, hb, ys, hys, he⟩ := he
               split at he
               . rename_i hby; cases he
                 obtain ⟨v', w', E', hrun, h1, h2, hEB, h3, h4, h5⟩ := app_done (P := P) H hW hB nm st i.size t o.type e' i z hst ht hi hz rfl hq.2.1 hq.2.2 hq.1 _ _ _ _ (cX_ok hf hs') (cX_ok hf hx') b hb ys hys hby
                 exact ⟨v', w', E', .inl (by simp [execOp, ho, resolve, invoke, builtin, hrun]), h1, h2, hEB, h3, h4, h5⟩
               . cases he
             . cases hc
           . cases hc
         . cases hc
       . cases hc
     case copy =>
       split at hc
       . rename_i x y t t' hargs htys
         simp only [Option.bind_eq_some_iff] at hc
         obtain ⟨x', hx', y', hy', hc⟩ := hc
         split at hc
         . rename_i e1 e2 ht ht'
           simp only [Option.map_eq_some_iff] at hc
           obtain ⟨i, hi, rfl⟩ := hc
           have ea : args = #[x, y] := by cases args; simp_all
           have et : tys = #[t, t'] := by cases tys; simp_all
           subst ea et
           exact cpy_done H hW o x y t t' e1 e2 ho i ht hi x' y' (cX_ok hf hx') (cX_ok hf hy') e he
         . cases hc
       . cases hc
     case max =>
       split at hc
       . rename_i x l hargs; exact mm true rfl x l hargs hc
       . cases hc
     case min =>
       split at hc
       . rename_i x l hargs; exact mm false rfl x l hargs hc
       . cases hc
 | _ => simp [cOp] at hc
end
end Go.Gv

namespace Go.Gv
open Go.RowKit
def nameOf (hint : List (Nat × Nat)) : Option Nat -> Nat
 | none => 0
 | some d => (hint.lookup d).getD d
def cGuard (n : Nat) (ops : Array Oper) : Option (Nat × Bool) -> Option (Option (Nat × Bool))
 | none => some none
 | some (j, b) => match (ops[j]?).bind (·.dst) with
   | some d => if d < n then some (some (d, b)) else none
   | none => none
def cDst (n : Nat) : Option Nat -> Bool
 | none => true
 | some d => decide (d < n)
def calleeOf : Op -> Option (Operand × List Operand)
 | .call c => match c.callee with
   | .value f => some (f, c.args.toList)
   | _ => none
 | _ => none
def cK (P : Program) (n nm : Nat) (op : Op) : Option AK :=
 match calleeOf op with
 | some p => (cX n p.1).bind fun f => (cXs n p.2).map fun l => .call f l
 | none => match nilCmp P n op with
   | some q => some (.nq q.1 q.2.1 q.2.2)
   | none => some (.op ((cOp P n nm op).getD .bad))
def cI (P : Program) (n base : Nat) (hint : List (Nat × Nat)) (ops : Array Oper) (o : Oper) : Option AI :=
 if cDst n o.dst = true then (cGuard n ops o.guard).bind fun g => (cK P n (base + nameOf hint o.dst) o.op).map fun op => ⟨o.dst, g, op⟩ else none
def cIs (P : Program) (n base : Nat) (hint : List (Nat × Nat)) (ops : Array Oper) : List Oper -> Option (List AI)
 | [] => some []
 | o :: l => (cI P n base hint ops o).bind fun i => (cIs P n base hint ops l).map fun l => i :: l
def St.put (S : St) (d : Option Nat) (v : AV) : St :=
 match d with
 | some d => { S with t := upd S.t d v }
 | none => S
def St.app (S : St) (d : Option Nat) (e : Eff) : St := { t := (S.put d e.v).t, blk := appB S.blk e.wb, tok := appT S.tok e.wt, clk := S.clk }
def guardV (t : Nat -> AV) : Option (Nat × Bool) -> Option Bool
 | none => some true
 | some (i, b) => match t i with
   | .bool x => some (x == b)
   | .tup _ => some false
   | _ => none
def enters (P : Program) (f : FuncId) : Prop := ∃ fn, P.funcs[f]? = some fn /\ fn.body.isSome = true /\ fn.name ≠ "runtime.NumGoroutine"
def CallP (P : Program) (fv : AV) (vals : List AV) (S : St) (k : AV -> St -> Prop) : Prop :=
 ∃ f caps, fv = .fn f caps /\ enters P f /\ ∀ (E : Env) (B : Nat) (W w : World) (args : Array Value), HConc E B S.h w -> Below B W w -> GlB B W -> (∀ s, E.u s -> s < S.clk) ->
   args.size = (vals ++ caps).length -> (∀ (j : Nat) (y : AV) (u : Value), (vals ++ caps)[j]? = some y -> args[j]? = some u -> Rel E y u) ->
   Calls P f args w fun e w' => ∃ v E' r S', e = .returned v /\ E.le E' /\ HConc E' B S'.h w' /\ Below B W w' /\ (∀ b o, b < B -> E'.K b o = E.K b o) /\
     (∀ s, E'.u s -> (E.u s \/ S.clk <= s) /\ s < S'.clk) /\ S.clk <= S'.clk /\ S'.t = S.t /\ Rel E' r v /\ k r S'
def runV (P : Program) (st : Nat) (ai : AI) (S : St) (k : St -> Prop) : Prop :=
 match ai.k with
 | .call f args => CallP P (f.ev S.t) (args.map fun x => x.ev S.t) S fun r S' => k (S'.put ai.dst r)
 | .op op => match ex S.t S.blk S.tok st op with
   | some e => k (S.app ai.dst e)
   | none => False
 | .nq kd neg x => match ex S.t S.blk S.tok st (.nilq kd neg x) with
   | some e => k (S.app ai.dst e)
   | none => undB S.t (.nilq kd neg x) = true /\ ∀ b : Bool, k (S.app ai.dst { v := .bool b })
def stepV (P : Program) (st : Nat) (ai : AI) (S : St) (k : St -> Prop) : Prop :=
 match guardV S.t ai.g with
 | some b => if b = true then runV P st ai S k else k (S.put ai.dst (.tup []))
 | none => False
def regV (P : Program) : Nat -> List AI -> (St -> Prop) -> St -> Prop
 | _, [], k, S => k S
 | st, i :: l, k, S => stepV P st i S fun S' => regV P (st + 1) l k S'
structure Gh where
 K : Nat -> Nat -> Option Value
 E0 : Env
 c0 : Nat
structure Conc (K0 : Gh) (E : Env) (B : Nat) (W : World) (n : Nat) (S : St) (a : Act) (w : World) : Prop where
 H : HConc E B S.h w
 bel : Below B W w
 le : GlB B W
 df : a.defers = []
 sz : a.tmps.size = n
 tm : ∀ t, t < n -> Rel E (S.t t) (a.tmps.getD t undef)
 kb : ∀ b o, b < B -> E.K b o = K0.K b o
 le0 : K0.E0.le E
 u0 : ∀ s, E.u s -> K0.E0.u s \/ K0.c0 <= s
 ck : K0.c0 <= S.clk
def Wk (S S' : St) : Prop :=
 S.clk <= S'.clk /\ ∀ (E : Env) (B : Nat) (w : World), HConc E B S.h w -> (∀ s, E.u s -> s < S.clk) ->
   ∃ E', E.le E' /\ HConc E' B S'.h w /\ (∀ b o, b < B -> E'.K b o = E.K b o) /\ (∀ s, E'.u s -> E.u s) /\ ∀ (t : Nat) (v : Value), Rel E (S.t t) v -> Rel E' (S'.t t) v
theorem Wk.refl (S : St) : Wk S S := ⟨Nat.le_refl _, fun E B w H hu => ⟨E, .refl E, H, fun _ _ _ => rfl, fun _ h => h, fun _ _ h => h⟩⟩
theorem Wk.trans {S S' S'' : St} (h : Wk S S') (k : Wk S' S'') : Wk S S'' := by
 refine ⟨Nat.le_trans h.1 k.1, fun E B w H hu => ?_⟩
 obtain ⟨E', a1, a2, a3, a4, a5⟩ := h.2 E B w H hu
 obtain ⟨E'', b1, b2, b3, b4, b5⟩ := k.2 E' B w a2 (fun s hs => Nat.lt_of_lt_of_le (hu s (a4 s hs)) h.1)
 exact ⟨E'', a1.trans b1, b2, fun b o hb => (b3 b o hb).trans (a3 b o hb), fun s hs => a4 s (b4 s hs), fun t v hv => b5 t v (a5 t v hv)⟩
section
variable {P : Program} {K0 : Gh} {E : Env} {B : Nat} {W : World} {n : Nat} {S : St} {a : Act} {w : World}
theorem Conc.wk {S' : St} (C : Conc K0 E B W n S a w) (hu : ∀ s, E.u s -> s < S.clk) (h : Wk S S') : ∃ E', Conc K0 E' B W n S' a w /\ ∀ s, E'.u s -> s < S'.clk := by
 obtain ⟨E', a1, a2, a3, a4, a5⟩ := h.2 E B w C.H hu
 exact ⟨E', ⟨a2, C.bel, C.le, C.df, C.sz, fun t ht => a5 t _ (C.tm t ht), fun b o hb => (a3 b o hb).trans (C.kb b o hb), C.le0.trans a1, fun s hs => C.u0 s (a4 s hs), Nat.le_trans C.ck h.1⟩,
   fun s hs => Nat.lt_of_lt_of_le (hu s (a4 s hs)) h.1⟩
theorem put_get (a : Act) (n : Nat) (hsz : a.tmps.size = n) (d : Option Nat) (hd : cDst n d = true) (v : Value) (t : Nat) (ht : t < n) :
   (a.put d v).tmps.size = n /\ (a.put d v).defers = a.defers /\ (a.put d v).tmps.getD t undef = if d = some t then v else a.tmps.getD t undef := by
 cases d with
 | none => exact ⟨hsz, rfl, by simp [Act.put]⟩
 | some d =>
   simp only [cDst, decide_eq_true_iff] at hd
   refine ⟨by simpa [Act.put] using hsz, rfl, ?_⟩
   simp only [Act.put, Array.getD_eq_getD_getElem?, Array.getElem?_setIfInBounds]
   by_cases e : d = t
   . subst e; simp [hsz, hd]
   . simp [e]
theorem St.put_t (S : St) (d : Option Nat) (v : AV) (t : Nat) : (S.put d v).t t = if d = some t then v else S.t t := by
 cases d with
 | none => simp [St.put]
 | some d =>
   simp only [St.put, upd, Option.some.injEq]
   by_cases e : t = d
   . simp [e]
   . rw [if_neg e, if_neg (fun q => e q.symm)]
theorem Conc.next {E' : Env} (C : Conc K0 E B W n S a w) (hE : E.le E') (d : Option Nat) (hd : cDst n d = true) (v : Value) (r : AV) (hr : Rel E' r v) (S' : St) (w' : World) (ht : S'.t = (S.put d r).t) (H : HConc E' B S'.h w') (hW : Below B W w')
   (hkb : ∀ b o, b < B -> E'.K b o = E.K b o) (hu0 : ∀ s, E'.u s -> E.u s \/ K0.c0 <= s) (hc0 : K0.c0 <= S'.clk) : Conc K0 E' B W n S' (a.put d v) w' := by
 refine ⟨H, hW, C.le, ?_, ?_, ?_, fun b o hb => (hkb b o hb).trans (C.kb b o hb), C.le0.trans hE, fun s hs => (hu0 s hs).elim (C.u0 s) .inr, hc0⟩
 . rw [<- C.df]; cases d <;> rfl
 . rw [<- C.sz]; cases d <;> simp [Act.put]
 . intro t htn
   rw [ht, (put_get a n C.sz d hd v t htn).2.2, St.put_t]
   by_cases e : d = some t
   . rw [if_pos e, if_pos e]; exact hr
   . rw [if_neg e, if_neg e]; exact (C.tm t htn).mono hE
theorem guard_ok (C : Conc K0 E B W n S a w) (ops : Array Oper) (o : Oper) (g : Option (Nat × Bool)) (hg : cGuard n ops o.guard = some g) (b : Bool) (hb : guardV S.t g = some b) : Region.wanted o (yielded ops a.tmps) = b := by
 cases hq : o.guard with
 | none => rw [hq] at hg; cases hg; cases hb; simp [Region.wanted, hq]
 | some p =>
   obtain ⟨j, want⟩ := p
   rw [hq] at hg
   simp only [cGuard] at hg
   split at hg
   . rename_i d hd
     split at hg
     . rename_i hdn; cases hg
       have hr := C.tm d hdn
       have ht : a.tmps[d]? = some (a.tmps.getD d undef) := by simp [C.sz, hdn]
       simp only [guardV] at hb
       split at hb
       . rename_i x hx; cases hb
         rw [hx] at hr
         have := hr.bool_inv
         simp [Region.wanted, hq, yielded, hd, ht, this]
       . rename_i vs hx; cases hb
         rw [hx] at hr
         generalize a.tmps.getD d undef = u at hr ht
         cases hr with
         | tup _ us _ _ => simp [Region.wanted, hq, yielded, hd, ht]
       . cases hb
     . cases hg
   . cases hg
theorem callFunc_run (P : Program) (f : FuncId) (args : Array Value) (w : World) (h : enters P f) : (callFunc f args).run P w = .ok (.enter f args) w := by
 obtain ⟨fn, h1, h2, h3⟩ := h
 have h2' : fn.body.isNone = false := by cases hb : fn.body <;> simp_all
 have h3' : (fn.name == "runtime.NumGoroutine") = false := by simpa using h3
 simp only [callFunc, Sem.run_bind, run_program, Result.andThen_ok, h1, h3', h2', Bool.false_eq_true, if_false, Sem.run_pure]
theorem callee_op {op : Op} {p : Operand × List Operand} (h : calleeOf op = some p) : ∃ c, op = .call c /\ c.callee = .value p.1 /\ c.args.toList = p.2 := by
 cases op <;> simp only [calleeOf] at h <;> (try (cases h; done))
 rename_i c
 split at h
 . rename_i f hf; cases h; exact ⟨c, rfl, hf, rfl⟩
 . cases h
theorem runV_sound (C : Conc K0 E B W n S a w) (base : Nat) (hint : List (Nat × Nat)) (ops : Array Oper) (o : Oper) (ai : AI) (hc : cI P n base hint ops o = some ai) (st : Nat) (hst : ¬ E.u st) (hst0 : K0.c0 <= st) (hu : ∀ s, E.u s -> s < S.clk) (k : St -> Prop) (h : runV P st ai S k)
   (next : Act -> World -> Prop) (Q : Exit -> Act -> World -> Prop)
   (hk : ∀ E' S' a' w', Conc K0 E' B W n S' a' w' -> E.le E' -> (∀ s, E'.u s -> E.u s \/ s = st \/ (S.clk <= s /\ s < S'.clk)) -> S.clk <= S'.clk -> k S' -> next a' w') : o.wp P a w next Q := by
 simp only [cI] at hc
 split at hc
 . rename_i hd
   simp only [Option.bind_eq_some_iff, Option.map_eq_some_iff] at hc
   obtain ⟨g, hg, op, hop, rfl⟩ := hc
   have hf := C.tm
   simp only [cK] at hop
   split at hop
   ·
     rename_i p hp
     simp only [Option.bind_eq_some_iff, Option.map_eq_some_iff] at hop
     obtain ⟨fx, hfx, args, hargs, rfl⟩ := hop
     obtain ⟨c, hoc, hcv, hca⟩ := callee_op hp
     simp only [runV] at h
     obtain ⟨f, caps, hfv, hent, hcalls⟩ := h
     have hrf := cX_ok hf hfx
     rw [hfv] at hrf
     obtain ⟨e1, e2⟩ := cXs_ok hf _ _ hargs
     rw [<- hca] at e1 e2
     generalize hfu : a.eval p.1 = fu at hrf
     cases hrf with
     | fn _ _ cvs hcs hcr =>
       have hargsz : (c.args.map a.eval ++ cvs).size = (args.map (fun x => x.ev S.t) ++ caps).length := by
         have : c.args.size = args.length := by rw [e1]; simp
         simp [this, hcs]
       have hrel : ∀ (j : Nat) (y : AV) (u : Value), (args.map (fun x => x.ev S.t) ++ caps)[j]? = some y -> (c.args.map a.eval ++ cvs)[j]? = some u -> Rel E y u := by
         intro j y u hy hu'
         have hl : c.args.size = args.length := by rw [e1]; simp
         by_cases hj : j < args.length
         . rw [List.getElem?_append_left (by simpa using hj), List.getElem?_map] at hy
           rw [Array.getElem?_append_left (by simpa [hl] using hj), Array.getElem?_map] at hu'
           cases hx : args[j]? with
           | none => simp [hx] at hy
           | some x =>
             cases hz : c.args[j]? with
             | none => simp [hz] at hu'
             | some z =>
               simp only [hx, hz, Option.map_some, Option.some.injEq] at hy hu'
               rw [<- hy, <- hu']
               exact e2 j x z hx (by simpa using hz)
         . rw [List.getElem?_append_right (by simpa using hj)] at hy
           rw [Array.getElem?_append_right (by simpa [hl] using hj)] at hu'
           simp only [List.length_map, Array.size_map, hl] at hy hu'
           exact hcr _ y u hy hu'
       have hcall := hcalls E B W w _ C.H C.bel C.le hu hargsz hrel
       have hrun : (execOp a.eval o).run P w = .ok (.enter f (c.args.map a.eval ++ cvs)) w := by
         have e0 : c.args.map a.eval = (c.args.map a.eval) := rfl
         simp [execOp, hoc, resolve, hcv, hfu, Deferred.ofValue, invoke, callFunc_run P f _ w hent]
       unfold Oper.wp
       rw [hrun, Oper.upon_enter]
       refine hcall.mono ?_
       rintro e w' ⟨v, E', r, S', rfl, hE, H', hW', hkb, hu', hclk, ht, hr, hkr⟩
       refine hk E' (S'.put o.dst r) _ w' ?_ hE (fun s hs => ?_) ?_ hkr
       . refine C.next hE o.dst hd v r hr _ w' ?_ ?_ hW' hkb (fun s hs => (hu' s hs).1.imp id (fun q => Nat.le_trans C.ck q)) ?_
         . cases o.dst <;> simp [St.put, ht]
         . cases o.dst <;> exact H'
         . cases o.dst <;> exact Nat.le_trans C.ck hclk
       . rcases hu' s hs with ⟨q1 | q1, q2⟩
         . exact .inl q1
         . refine .inr (.inr ⟨q1, ?_⟩); cases o.dst <;> exact q2
       . cases o.dst <;> exact hclk
   ·
     split at hop
     . rename_i q hq
       obtain ⟨kd, neg, x⟩ := q
       cases hop
       simp only [runV] at h
       split at h
       . rename_i e he
         obtain ⟨v, w', E', hs, hE, hu', hEB, H', hW', hr⟩ := nq_done (st := st) C.H C.bel hf o hq e he
         have hC : Conc K0 E' B W n (S.app o.dst e) (a.put o.dst v) w' := C.next hE o.dst hd v e.v hr _ w' rfl H' hW' hEB (fun s hs => (hu' s hs).imp id (fun q => by rw [q]; exact hst0)) C.ck
         have hnext := hk E' _ _ w' hC hE (fun s hs' => (hu' s hs').imp id .inl) (Nat.le_refl _) h
         unfold Oper.wp
         rcases hs with hs | ⟨hs, rfl⟩
         . rw [hs]; exact hnext
         . rw [hs]; exact hnext
       . obtain ⟨hun, hall⟩ := h
         obtain ⟨op, t, y, ty, x0, h1, h2, h3, h4⟩ := nilCmp_spec hq
         cases kd with
         | succ kd => simp [undB] at hun
         | zero =>
           have key := nilq_und C.H o op neg t ty x0 y h1 h2 (x.ev S.t) (cX_ok hf h4) (by simpa [undB] using hun) h3
           obtain ⟨b, hb⟩ := key
           have hC : Conc K0 E B W n (S.app o.dst { v := .bool b }) (a.put o.dst (.bool b)) w := C.next (.refl E) o.dst hd (.bool b) (.bool b) (.bool b) _ w rfl C.H C.bel (fun _ _ _ => rfl) (fun s hs => .inl hs) C.ck
           have hnext := hk E _ _ w hC (.refl E) (fun s hs' => .inl hs') (Nat.le_refl _) (hall b)
           unfold Oper.wp
           rw [hb]; exact hnext
     obtain ⟨ao, hao, rfl⟩ : ∃ ao, (cOp P n (base + nameOf hint o.dst) o.op).getD .bad = ao /\ op = .op ao := by cases hop; exact ⟨_, rfl, rfl⟩
     have hao : ao = .bad \/ cOp P n (base + nameOf hint o.dst) o.op = some ao := by
       cases hcc : cOp P n (base + nameOf hint o.dst) o.op with
       | none => rw [hcc] at hao; exact .inl hao.symm
       | some a' => rw [hcc] at hao; exact .inr (by rw [<- hao]; rfl)
     simp only [runV] at h
     split at h
     . rename_i e he
       have hao := hao.resolve_left (fun q => by subst q; cases he)
       obtain ⟨v, w', E', hs, hE, hu', hEB, H', hW', hr⟩ := op_done (st := st) C.H C.bel (Nat.le_trans C.le.le C.bel.size) hst hf o ao hao e he
       have hC : Conc K0 E' B W n (S.app o.dst e) (a.put o.dst v) w' := C.next hE o.dst hd v e.v hr _ w' rfl H' hW' hEB (fun s hs => (hu' s hs).imp id (fun q => by rw [q]; exact hst0)) C.ck
       have hnext := hk E' _ _ w' hC hE (fun s hs' => (hu' s hs').imp id .inl) (Nat.le_refl _) h
       unfold Oper.wp
       rcases hs with hs | ⟨hs, rfl⟩
       . rw [hs]; exact hnext
       . rw [hs]; exact hnext
     . exact h.elim
 . cases hc
end
end Go.Gv

namespace Go.Gv
open Go.RowKit
def envK (K : Nat -> Nat -> Option Value) : Env := ⟨K, fun _ => (0, 0), fun _ => .nilFunc, fun _ => 0, fun _ => False⟩
def over (K : Nat -> Nat -> Option Value) (w w' : World) : Nat -> Nat -> Option Value := fun b o => if b < w.heap.size then K b o else w'.cell? ⟨b, o, none⟩
def PCallP (P : Program) (fv : AV) (vals : List AV) (r : AV) : Prop :=
 ∃ f caps, fv = .fn f caps /\ enters P f /\ ∀ (E : Env) (w : World) (args : Array Value), (∀ b o v, E.K b o = some v -> w.cell? ⟨b, o, none⟩ = some v) -> GlB w.heap.size w ->
   args.size = (vals ++ caps).length -> (∀ (j : Nat) (y : AV) (u : Value), (vals ++ caps)[j]? = some y -> args[j]? = some u -> Rel E y u) ->
   Calls P f args w fun e w' => ∃ v, e = .returned v /\ Below w.heap.size w w' /\ Rel (envK (over E.K w w')) r v
theorem Rel.of_envK {K : Nat -> Nat -> Option Value} {x : AV} {v : Value} (h : Rel (envK K) x v) {E : Env} (hK : ∀ b o u, K b o = some u -> E.K b o = some u) : Rel E x v :=
 Rel.mono (E := envK K) (E' := E) ⟨hK, fun _ (q : False) => q.elim, fun _ (q : False) => q.elim, fun _ (q : False) => q.elim, fun _ (q : False) => q.elim⟩ h
theorem CallP_of_PCallP {P : Program} {fv : AV} {vals : List AV} {r : AV} (h : PCallP P fv vals r) {S : St} {k : AV -> St -> Prop} (hk : k r S) : CallP P fv vals S k := by
 obtain ⟨f, caps, hfv, hent, hc⟩ := h
 refine ⟨f, caps, hfv, hent, fun E B W w args H hW hB hu hsz hrel => ?_⟩
 refine (hc E w args H.K (hB.at hW) hsz hrel).mono ?_
 rintro e w' ⟨v, rfl, hbel, hr⟩
 have hle : B <= w.heap.size := Nat.le_trans hB.le hW.size
 let E' : Env := E.withK (over E.K w w')
 have hE : E.le E' := Env.le_withK (fun b o u hu' => by
   have := World.block_lt_of_cell? w _ (H.K b o u hu')
   unfold over; rw [if_pos this]; exact hu')
 have H1 := H.grow (w' := w') (fun k hk => hbel.block k hk)
 refine ⟨v, E', r, S, rfl, hE, ?_, hW.trans (hbel.mono hle), fun b o hb => ?_, fun s hs => ⟨.inl hs, hu s hs⟩, Nat.le_refl _, rfl, hr.of_envK (fun b o u q => q), hk⟩
 . refine H1.env hE ?_ ?_ ?_
   . intro b o u hu'
     simp only [E', Env.withK, over] at hu'
     split at hu'
     . exact H1.K b o u hu'
     . exact hu'
   . intro nm b hb j
     show over E.K w w' (E.m b.st).1 j = none
     unfold over
     rw [if_pos (H.bk nm b hb).lt]
     exact (H.bk nm b hb).noK j
   . intro nm t g ht hg j
     show over E.K w w' g j = E.K g j
     unfold over
     rw [if_pos ((H.tk nm t ht).lt hg).2]
 . show over E.K w w' b o = E.K b o
   unfold over
   rw [if_pos (by omega)]
def aopXs : AOp -> List X
 | .mv x => [x]
 | .pick c a b => [c, a, b]
 | .new _ _ _ => []
 | .box _ _ x => [x]
 | .build _ ps => ps.map fun p => p.2.2
 | .bsl _ _ _ _ _ ps => ps.map fun p => p.2
 | .load _ x => [x]
 | .store _ a x => [a, x]
 | .ibin _ x y => [x, y]
 | .eqv _ x y => [x, y]
 | .eqs _ _ x y => [x, y]
 | .not x => [x]
 | .neg x => [x]
 | .len x => [x]
 | .slen x => [x]
 | .app _ _ _ _ s x => [s, x]
 | .appw _ _ _ _ s x => [s, x]
 | .slice _ x lo hi => [x] ++ lo.toList ++ hi.toList
 | .fld _ x => [x]
 | .getf _ _ x => [x]
 | .idx _ x i => [x, i]
 | .ext x _ => [x]
 | .conv _ x => [x]
 | .mkf _ l => l
 | .msl _ _ _ _ l => [l]
 | .mm _ x l => x :: l
 | .bslm _ _ _ _ _ ps => ps.map fun p => p.2
 | .cpy _ x y => [x, y]
 | .shift _ x y => [x, y]
 | .sbin _ x y => [x, y]
 | .nilq _ _ x => [x]
 | .nilck x => [x]
 | .mkm _ => []
 | .mget _ _ m x => [m, x]
 | .mput m x v => [m, x, v]
 | .mark x => [x]
 | .bys x => [x]
 | .bad => []
def AK.xs : AK -> List X
 | .op o => aopXs o
 | .call f l => f :: l
 | .nq _ _ x => [x]
def rxO : AOp -> List X
 | .mv _ => []
 | .pick _ _ _ => []
 | .new _ _ _ => []
 | .box _ _ _ => []
 | .build _ _ => []
 | .bsl _ _ _ _ _ _ => []
 | .load _ x => [x]
 | .store _ a _ => [a]
 | .ibin _ _ _ => []
 | .eqv _ _ _ => []
 | .eqs _ _ _ _ => []
 | .not _ => []
 | .neg _ => []
 | .len _ => []
 | .slen _ => []
 | .app _ _ _ _ _ x => [x]
 | .appw _ _ _ _ s x => [s, x]
 | .slice _ _ _ _ => []
 | .fld _ _ => []
 | .getf _ _ _ => []
 | .idx _ _ _ => []
 | .ext _ _ => []
 | .conv _ _ => []
 | .mkf _ _ => []
 | .msl _ _ _ _ _ => []
 | .mm _ _ _ => []
 | .bslm _ _ _ _ _ _ => []
 | .cpy _ x y => [x, y]
 | .shift _ _ _ => []
 | .sbin _ _ _ => []
 | .nilq _ _ _ => []
 | .nilck _ => []
 | .mkm _ => []
 | .mget _ _ m _ => [m]
 | .mput m _ _ => [m]
 | .mark _ => []
 | .bys x => [x]
 | .bad => []
def txO : AOp -> List X
 | .mv _ => []
 | .pick _ _ _ => []
 | .new _ _ _ => []
 | .box _ _ _ => []
 | .build _ _ => []
 | .bsl _ _ _ _ _ _ => []
 | .load _ _ => []
 | .store _ _ _ => []
 | .ibin _ _ _ => []
 | .eqv _ _ _ => []
 | .eqs _ _ _ _ => []
 | .not _ => []
 | .neg _ => []
 | .len _ => []
 | .slen _ => []
 | .app _ _ _ _ s _ => [s]
 | .appw _ _ _ _ _ _ => []
 | .slice _ _ _ _ => []
 | .fld _ _ => []
 | .getf _ _ _ => []
 | .idx _ _ _ => []
 | .ext _ _ => []
 | .conv _ _ => []
 | .mkf _ _ => []
 | .msl _ _ _ _ _ => []
 | .mm _ _ _ => []
 | .bslm _ _ _ _ _ _ => []
 | .cpy _ _ _ => []
 | .shift _ _ _ => []
 | .sbin _ _ _ => []
 | .nilq _ _ _ => []
 | .nilck _ => []
 | .mkm _ => []
 | .mget _ _ _ _ => []
 | .mput _ _ _ => []
 | .mark x => [x]
 | .bys _ => []
 | .bad => []
def AK.rxs : AK -> List X
 | .op o => rxO o
 | .call f l => f :: l
 | .nq _ _ _ => []
def AK.txs : AK -> List X
 | .op o => txO o
 | .call _ _ => []
 | .nq _ _ _ => []
def AI.slots (i : AI) : List Nat := (i.k.xs.filterMap fun x => match x with | .t n => some n | .c _ => none) ++ (match i.g with | some p => [p.1] | none => [])
structure Fp where
 rb : List Nat
 wb : List Nat
 rt : List Nat
 wt : List Nat
def fpOf (t : Nat -> AV) (i : AI) (e : Eff) : Fp :=
 ⟨i.k.rxs.flatMap fun x => rdV (x.ev t), e.wb.map (·.1), i.k.txs.flatMap fun x => tkV (x.ev t), e.wt.map (·.1)⟩
def disj (a b : List Nat) : Bool := a.all fun x => !b.contains x
def Fp.apart (p q : Fp) : Bool := disj p.wb q.rb && disj p.wb q.wb && disj p.rb q.wb && disj p.wt q.rt && disj p.wt q.wt && disj p.rt q.wt
theorem ev_congr {t t' : Nat -> AV} {x : X} (h : ∀ n, x = .t n -> t n = t' n) : x.ev t = x.ev t' := by
 cases x with
 | t n => exact h n rfl
 | c v => rfl
theorem getB_congr {blk blk' : Nat -> Option Blk} {nm st sz : Nat} (h : blk nm = blk' nm) : getB blk nm st sz = getB blk' nm st sz := by simp only [getB, h]
theorem cellsAt_congr {blk blk' : Nat -> Option Blk} {v : AV} (h : ∀ n ∈ rdV v, blk n = blk' n) : cellsAt blk v = cellsAt blk' v := by
 cases v <;> first | rfl | (simp only [cellsAt]; rw [getB_congr (h _ (by simp [rdV]))])
theorem listOf_congr {blk blk' : Nat -> Option Blk} {sz : Nat} {v : AV} (h : ∀ n ∈ rdV v, blk n = blk' n) : listOf blk sz v = listOf blk' sz v := by
 cases v <;> first | rfl | (simp only [listOf]; rw [getB_congr (h _ (by simp [rdV]))])
theorem listM_congr {blk blk' : Nat -> Option Blk} {sz : Nat} {v : AV} (h : ∀ n ∈ rdV v, blk n = blk' n) : listM blk sz v = listM blk' sz v := by
 cases v <;> first | rfl | (simp only [listM]; rw [getB_congr (h _ (by simp [rdV]))])
theorem appwBase_congr {blk blk' : Nat -> Option Blk} {sz : Nat} {v : AV} (h : ∀ n ∈ rdV v, blk n = blk' n) : appwBase blk sz v = appwBase blk' sz v := by
 cases v <;> first | rfl | (simp only [appwBase]; rw [getB_congr (h _ (by simp [rdV]))])
theorem appBase_congr {tok tok' : Nat -> Option Tok} {sz : Nat} {ty : TypeId} {v : AV} (h : ∀ n ∈ tkV v, tok n = tok' n) : appBase tok sz ty v = appBase tok' sz ty v := by
 cases v <;> first | rfl | (simp only [appBase]; rw [h _ (by simp [tkV])])
theorem map_ev_congr {t t' : Nat -> AV} (l : List X) (h : ∀ x ∈ l, x.ev t = x.ev t') : (l.map fun x => x.ev t) = l.map fun x => x.ev t' := List.map_congr_left h
theorem ex_congr {t t' : Nat -> AV} {blk blk' : Nat -> Option Blk} {tok tok' : Nat -> Option Tok} (st : Nat) (o : AOp) (h : ∀ x ∈ aopXs o, x.ev t = x.ev t')
   (hb : ∀ x ∈ rxO o, ∀ n ∈ rdV (x.ev t), blk n = blk' n) (ht : ∀ x ∈ txO o, ∀ n ∈ tkV (x.ev t), tok n = tok' n) : ex t blk tok st o = ex t' blk' tok' st o := by
 cases o with
 | load g x =>
   have e := h x (by simp [aopXs])
   have c := cellsAt_congr (hb x (by simp [rxO]))
   cases g <;> simp only [ex, ldOne, ldAgg, <- e, c]
 | store n a x =>
   have e1 := h a (by simp [aopXs])
   have e2 := h x (by simp [aopXs])
   have c := hb a (by simp [rxO])
   simp only [ex, <- e1, <- e2]
   generalize a.ev t = v at c
   cases v <;> first | rfl | (simp only []; rw [getB_congr (c _ (by simp [rdV]))])
 | app nm sz ty byt s x =>
   have e1 := h s (by simp [aopXs])
   have e2 := h x (by simp [aopXs])
   simp only [ex, <- e1, <- e2, listOf_congr (hb x (by simp [rxO])), appBase_congr (ht s (by simp [txO]))]
 | build zero ps =>
   have e : ∀ p ∈ ps, p.2.2.ev t = p.2.2.ev t' := fun p hp => h _ (by simp only [aopXs, List.mem_map]; exact ⟨p, hp, rfl⟩)
   have e1 : (ps.map fun p => (p.1, (p.2.2.ev t).cells)) = ps.map fun p => (p.1, (p.2.2.ev t').cells) := List.map_congr_left fun p hp => by rw [e p hp]
   have e2 : (ps.all fun p => (p.2.2.ev t).cells.length == p.2.1) = ps.all fun p => (p.2.2.ev t').cells.length == p.2.1 := by
     apply Bool.eq_iff_iff.2
     simp only [List.all_eq_true]
     exact ⟨fun q p hp => by rw [<- e p hp]; exact q p hp, fun q p hp => by rw [e p hp]; exact q p hp⟩
   simp only [ex, e1, e2]
 | bsl nm sz ty len z ps =>
   have e : ∀ p ∈ ps, p.2.ev t = p.2.ev t' := fun p hp => h _ (by simp only [aopXs, List.mem_map]; exact ⟨p, hp, rfl⟩)
   have e1 : ∀ s : List AV, ps.foldl (fun es p => es.set p.1 (normE (p.2.ev t))) s = ps.foldl (fun es p => es.set p.1 (normE (p.2.ev t'))) s := by
     have : ∀ (l : List (Nat × X)), (∀ p ∈ l, p.2.ev t = p.2.ev t') -> ∀ s : List AV, l.foldl (fun es p => es.set p.1 (normE (p.2.ev t))) s = l.foldl (fun es p => es.set p.1 (normE (p.2.ev t'))) s := by
       intro l
       induction l with
       | nil => intro _ s; rfl
       | cons p l ih => intro hl s; rw [List.foldl_cons, List.foldl_cons, hl p (by simp), ih (fun q hq => hl q (by simp [hq]))]
     exact this ps e
   have e2 : (ps.all fun p => ((normE (p.2.ev t)).cells.length == sz) && (normE (p.2.ev t)).cells.all AV.cl1 && decide (p.1 < len)) = ps.all fun p => ((normE (p.2.ev t')).cells.length == sz) && (normE (p.2.ev t')).cells.all AV.cl1 && decide (p.1 < len) := by
     apply Bool.eq_iff_iff.2
     simp only [List.all_eq_true]
     exact ⟨fun q p hp => by rw [<- e p hp]; exact q p hp, fun q p hp => by rw [e p hp]; exact q p hp⟩
   simp only [ex, e1, e2]
 | slice sz x lo hi =>
   have e1 := h x (by simp [aopXs])
   have o1 : optNat t lo = optNat t' lo := by
     cases lo with
     | none => rfl
     | some y => simp only [optNat, h y (by simp [aopXs])]
   have o2 : optNat t hi = optNat t' hi := by
     cases hi with
     | none => rfl
     | some y => simp only [optNat, h y (by simp [aopXs])]
   simp only [ex, <- e1, o1, o2]
 | getf g off x =>
   have e := h x (by simp [aopXs])
   cases g <;> simp only [ex, <- e]
 | idx sz x i =>
   have e1 := h x (by simp [aopXs])
   have e2 := h i (by simp [aopXs])
   simp only [ex, <- e1, <- e2]
   have : ∀ (j : Nat) (v : AV), idxA blk sz v j = idxA blk' sz v j := fun j v => by cases v <;> rfl
   simp only [this]
 | mkf g l => simp only [ex, map_ev_congr l (fun x hx => h x (by simpa [aopXs] using hx))]
 | mm mx x l =>
   simp only [ex, <- h x (by simp [aopXs]), <- map_ev_congr l (fun y hy => h y (by simp [aopXs, hy]))]
 | pick c a b => simp only [ex, <- h c (by simp [aopXs]), <- h a (by simp [aopXs]), <- h b (by simp [aopXs])]
 | new nm sz z => rfl
 | ibin op x y => simp only [ex, <- h x (by simp [aopXs]), <- h y (by simp [aopXs])]
 | eqv n x y => simp only [ex, <- h x (by simp [aopXs]), <- h y (by simp [aopXs])]
 | eqs k n x y => simp only [ex, <- h x (by simp [aopXs]), <- h y (by simp [aopXs])]
 | appw nm sz ty byt s x =>
   have e1 := h s (by simp [aopXs])
   have e2 := h x (by simp [aopXs])
   simp only [ex, <- e1, <- e2, listM_congr (hb x (by simp [rxO])), appwBase_congr (hb s (by simp [rxO]))]
 | cpy sz x y =>
   have e1 := h x (by simp [aopXs])
   have e2 := h y (by simp [aopXs])
   have c := hb x (by simp [rxO])
   simp only [ex, <- e1, <- e2, listM_congr (hb y (by simp [rxO]))]
   generalize x.ev t = v at c
   cases v <;> first | rfl | (simp only []; rw [getB_congr (c _ (by simp [rdV]))])
 | shift l x y => simp only [ex, <- h x (by simp [aopXs]), <- h y (by simp [aopXs])]
 | sbin op x y => simp only [ex, <- h x (by simp [aopXs]), <- h y (by simp [aopXs])]
 | nilq kd neg x => simp only [ex, <- h x (by simp [aopXs])]
 | nilck x => simp only [ex, <- h x (by simp [aopXs])]
 | bad => rfl
 | mkm nm => rfl
 | mget k z m x =>
   have e1 := h m (by simp [aopXs])
   have e2 := h x (by simp [aopXs])
   have c := hb m (by simp [rxO])
   simp only [ex, <- e1, <- e2]
   generalize m.ev t = u at c
   generalize x.ev t = y
   cases u <;> first | rfl | (have cc := c _ (List.mem_singleton.2 rfl); cases y <;> first | rfl | (simp only [getM, cc]))
 | mput m x v =>
   have e1 := h m (by simp [aopXs])
   have e2 := h x (by simp [aopXs])
   have e3 := h v (by simp [aopXs])
   have c := hb m (by simp [rxO])
   simp only [ex, <- e1, <- e2, <- e3]
   generalize m.ev t = u at c
   generalize x.ev t = y
   cases u <;> first | rfl | (have cc := c _ (List.mem_singleton.2 rfl); cases y <;> first | rfl | (simp only [getM, cc]))
 | mark x =>
   have e := h x (by simp [aopXs])
   have c := ht x (by simp [txO])
   simp only [ex, <- e]
   generalize x.ev t = v at c
   cases v <;> first | rfl | (simp only [c _ (List.mem_singleton.2 rfl)])
 | bys x => simp only [ex, <- h x (by simp [aopXs]), listOf_congr (hb x (by simp [rxO]))]
 | mv x => simp only [ex, <- h x (by simp [aopXs])]
 | box nm sz x => simp only [ex, <- h x (by simp [aopXs])]
 | not x => simp only [ex, <- h x (by simp [aopXs])]
 | neg x => simp only [ex, <- h x (by simp [aopXs])]
 | len x => simp only [ex, <- h x (by simp [aopXs])]
 | slen x => simp only [ex, <- h x (by simp [aopXs])]
 | fld off x => simp only [ex, <- h x (by simp [aopXs])]
 | ext x i => simp only [ex, <- h x (by simp [aopXs])]
 | conv k x => simp only [ex, <- h x (by simp [aopXs])]
 | msl nm sz byt z l => simp only [ex, <- h l (by simp [aopXs])]
 | bslm nm sz ty len z ps =>
   have e : ∀ p ∈ ps, p.2.ev t = p.2.ev t' := fun p hp => h _ (by simp only [aopXs, List.mem_map]; exact ⟨p, hp, rfl⟩)
   have e1 : ∀ s : List AV, ps.foldl (fun es p => es.set p.1 (p.2.ev t)) s = ps.foldl (fun es p => es.set p.1 (p.2.ev t')) s := by
     have : ∀ (l : List (Nat × X)), (∀ p ∈ l, p.2.ev t = p.2.ev t') -> ∀ s : List AV, l.foldl (fun es p => es.set p.1 (p.2.ev t)) s = l.foldl (fun es p => es.set p.1 (p.2.ev t')) s := by
       intro l
       induction l with
       | nil => intro _ s; rfl
       | cons p l ih => intro hl s; rw [List.foldl_cons, List.foldl_cons, hl p (by simp), ih (fun q hq => hl q (by simp [hq]))]
     exact this ps e
   have e2 : (ps.all fun p => ((p.2.ev t).cells.length == sz) && (p.2.ev t).cells.all AV.one && decide (p.1 < len)) = ps.all fun p => ((p.2.ev t').cells.length == sz) && (p.2.ev t').cells.all AV.one && decide (p.1 < len) := by
     apply Bool.eq_iff_iff.2
     simp only [List.all_eq_true]
     exact ⟨fun q p hp => by rw [<- e p hp]; exact q p hp, fun q p hp => by rw [e p hp]; exact q p hp⟩
   simp only [ex, e1, e2]
theorem CallP.weaken {P : Program} {fv : AV} {vals : List AV} {S : St} {k k' : AV -> St -> Prop} (h : CallP P fv vals S k) (hk : ∀ r S', k r S' -> k' r S') : CallP P fv vals S k' := by
 obtain ⟨f, caps, h1, h2, h3⟩ := h
 refine ⟨f, caps, h1, h2, fun E B W w args a b c d e g => (h3 E B W w args a b c d e g).mono ?_⟩
 rintro x w' ⟨v, E', r, S', q1, q2, q3, q4, q5, q6, q7, q8, q9, q10⟩
 exact ⟨v, E', r, S', q1, q2, q3, q4, q5, q6, q7, q8, q9, hk r S' q10⟩
def LCallP (P : Program) (fv : AV) (vals : List AV) (blk : Nat -> Option Blk) (e : Eff) : Prop :=
 ∀ T : St, (∀ n ∈ (fv :: vals).flatMap rdV, T.blk n = blk n) -> CallP P fv vals T fun r S' => r = e.v /\ S' = T.app none e
theorem LCallP.pure {P : Program} {fv : AV} {vals : List AV} {r : AV} (h : PCallP P fv vals r) (blk : Nat -> Option Blk) : LCallP P fv vals blk { v := r } :=
 fun T _ => CallP_of_PCallP h ⟨rfl, rfl⟩
def Out (P : Program) (S : St) (st : Nat) (i : AI) (e : Eff) : Prop :=
 match guardV S.t i.g with
 | some b => if b = true then (match i.k with
     | .op o => ex S.t S.blk S.tok st o = some e
     | .nq kd neg x => ex S.t S.blk S.tok st (.nilq kd neg x) = some e
     | .call f l => LCallP P (f.ev S.t) (l.map fun x => x.ev S.t) S.blk e) else e = { v := .tup [] }
 | none => False
theorem Out.congr {P : Program} {S T : St} {st : Nat} {i : AI} {e : Eff} (h : Out P S st i e) (ht : ∀ n ∈ i.slots, S.t n = T.t n) (hb : ∀ n ∈ (fpOf S.t i e).rb, S.blk n = T.blk n) (hk : ∀ n ∈ (fpOf S.t i e).rt, S.tok n = T.tok n) : Out P T st i e := by
 have hx : ∀ x ∈ i.k.xs, x.ev S.t = x.ev T.t := fun x hx => ev_congr fun n hn => ht n (by
   simp only [AI.slots, List.mem_append, List.mem_filterMap]
   exact .inl ⟨x, hx, by rw [hn]⟩)
 have hg : guardV S.t i.g = guardV T.t i.g := by
   cases hgi : i.g with
   | none => rfl
   | some p => simp only [guardV, ht p.1 (by simp [AI.slots, hgi])]
 unfold Out at h ⊢
 rw [<- hg]
 split at h
 . rename_i b hb'
   split at h
   . rename_i hbt
     rw [if_pos hbt]
     cases hik : i.k with
     | op o =>
       rw [hik] at h
       simp only at h ⊢
       rw [<- ex_congr st o (fun x q => hx x (by rw [hik]; exact q)) (fun x q n hn => hb n (by simp only [fpOf, hik, AK.rxs, List.mem_flatMap]; exact ⟨x, q, hn⟩)) (fun x q n hn => hk n (by simp only [fpOf, hik, AK.txs, List.mem_flatMap]; exact ⟨x, q, hn⟩))]
       exact h
     | nq kd neg x =>
       rw [hik] at h
       simp only at h ⊢
       rw [<- ex_congr st (.nilq kd neg x) (fun y q => hx y (by rw [hik]; exact q)) (fun y q n hn => by simp [rxO] at q) (fun y q n hn => by simp [txO] at q)]
       exact h
     | call f l =>
       rw [hik] at h
       simp only at h ⊢
       rw [<- hx f (by simp [hik, AK.xs]), <- map_ev_congr l (fun x q => hx x (by simp [hik, AK.xs, q]))]
       refine fun T' hT => h T' (fun n hn => ?_)
       rw [hT n hn]
       refine (hb n ?_).symm
       simp only [List.flatMap_cons, List.mem_append, List.mem_flatMap, List.mem_map] at hn
       simp only [fpOf, hik, AK.rxs, List.mem_flatMap]
       rcases hn with hn | ⟨v, ⟨x, hx', rfl⟩, hn⟩
       . exact ⟨f, by simp, hn⟩
       . exact ⟨x, by simp [hx'], hn⟩
   . rename_i hbt; rw [if_neg hbt]; exact h
 . exact h.elim
end Go.Gv

namespace Go.Gv
open Go.RowKit
theorem appB_not {l : List (Nat × Option Blk)} {x : Nat} (h : x ∉ l.map (·.1)) (f : Nat -> Option Blk) : appB f l x = f x := by
 induction l generalizing f with
 | nil => rfl
 | cons p l ih =>
   obtain ⟨n, b⟩ := p
   simp only [List.map_cons, List.mem_cons, not_or] at h
   rw [appB, ih h.2, upd_ne _ _ _ _ h.1]
theorem appB_mem {l : List (Nat × Option Blk)} {x : Nat} (h : x ∈ l.map (·.1)) (f g : Nat -> Option Blk) : appB f l x = appB g l x := by
 induction l generalizing f g with
 | nil => simp at h
 | cons p l ih =>
   obtain ⟨n, b⟩ := p
   by_cases hl : x ∈ l.map (·.1)
   . exact ih hl _ _
   . rw [appB, appB, appB_not hl, appB_not hl]
     simp only [List.map_cons, List.mem_cons] at h
     rcases h with h | h
     . rw [h, upd_same, upd_same]
     . exact absurd h hl
theorem appT_not {l : List (Nat × Option Tok)} {x : Nat} (h : x ∉ l.map (·.1)) (f : Nat -> Option Tok) : appT f l x = f x := by
 induction l generalizing f with
 | nil => rfl
 | cons p l ih =>
   obtain ⟨n, b⟩ := p
   simp only [List.map_cons, List.mem_cons, not_or] at h
   rw [appT, ih h.2, upd_ne _ _ _ _ h.1]
theorem appT_mem {l : List (Nat × Option Tok)} {x : Nat} (h : x ∈ l.map (·.1)) (f g : Nat -> Option Tok) : appT f l x = appT g l x := by
 induction l generalizing f g with
 | nil => simp at h
 | cons p l ih =>
   obtain ⟨n, b⟩ := p
   by_cases hl : x ∈ l.map (·.1)
   . exact ih hl _ _
   . rw [appT, appT, appT_not hl, appT_not hl]
     simp only [List.map_cons, List.mem_cons] at h
     rcases h with h | h
     . rw [h, upd_same, upd_same]
     . exact absurd h hl
theorem St.ext' {S T : St} (h1 : ∀ x, S.t x = T.t x) (h2 : ∀ x, S.blk x = T.blk x) (h3 : ∀ x, S.tok x = T.tok x) (h4 : S.clk = T.clk) : S = T := by
 cases S; cases T
 simp only at h1 h2 h3 h4
 rw [funext h1, funext h2, funext h3, h4]
theorem St.app_t (S : St) (d : Option Nat) (e : Eff) (x : Nat) : (S.app d e).t x = if d = some x then e.v else S.t x := St.put_t S d e.v x
theorem disj_mem {a b : List Nat} (h : disj a b = true) {x : Nat} (hx : x ∈ a) : x ∉ b := by
 have := List.all_eq_true.1 h x hx
 simpa using this
theorem app_comm (S : St) (d d' : Option Nat) (e e' : Eff) (hd : ∀ x, d = some x -> d' ≠ some x) (hb : disj (e.wb.map (·.1)) (e'.wb.map (·.1)) = true) (ht : disj (e.wt.map (·.1)) (e'.wt.map (·.1)) = true) :
   (S.app d e).app d' e' = (S.app d' e').app d e := by
 refine St.ext' (fun x => ?_) (fun x => ?_) (fun x => ?_) rfl
 . rw [St.app_t, St.app_t, St.app_t, St.app_t]
   by_cases h1 : d = some x
   . rw [if_neg (hd x h1), if_pos h1, if_pos h1]
   . rw [if_neg h1, if_neg h1]
 . show appB (appB S.blk e.wb) e'.wb x = appB (appB S.blk e'.wb) e.wb x
   by_cases h1 : x ∈ e.wb.map (·.1)
   . rw [appB_not (disj_mem hb h1), appB_mem h1]
   . rw [appB_not h1]
     by_cases h2 : x ∈ e'.wb.map (·.1)
     . exact appB_mem h2 _ _
     . rw [appB_not h2, appB_not h2, appB_not h1]
 . show appT (appT S.tok e.wt) e'.wt x = appT (appT S.tok e'.wt) e.wt x
   by_cases h1 : x ∈ e.wt.map (·.1)
   . rw [appT_not (disj_mem ht h1), appT_mem h1]
   . rw [appT_not h1]
     by_cases h2 : x ∈ e'.wt.map (·.1)
     . exact appT_mem h2 _ _
     . rw [appT_not h2, appT_not h2, appT_not h1]
def foldS (D : Nat -> Bool) : Nat -> List (AI × Eff) -> St -> St
 | _, [], S => S
 | i, p :: l, S => foldS D (i + 1) l (if D i = true then S.app p.1.dst p.2 else S)
theorem foldS_clk (D : Nat -> Bool) : ∀ (l : List (AI × Eff)) (i : Nat) (S : St), (foldS D i l S).clk = S.clk
 | [], _, _ => rfl
 | p :: l, i, S => by rw [foldS, foldS_clk D l]; split <;> rfl
theorem foldS_congr {D D' : Nat -> Bool} : ∀ (l : List (AI × Eff)) (i : Nat) (S : St), (∀ k, i <= k -> k < i + l.length -> D k = D' k) -> foldS D i l S = foldS D' i l S
 | [], _, _, _ => rfl
 | p :: l, i, S, h => by
   rw [foldS, foldS, h i (Nat.le_refl _) (by simp), foldS_congr l (i + 1) _ (fun k h1 h2 => h k (by omega) (by simp; omega))]
theorem foldS_none {D : Nat -> Bool} : ∀ (l : List (AI × Eff)) (i : Nat) (S : St), (∀ k, i <= k -> D k = false) -> foldS D i l S = S
 | [], _, _, _ => rfl
 | p :: l, i, S, h => by rw [foldS, h i (Nat.le_refl _), foldS_none l _ _ (fun k hk => h k (by omega))]; rfl
theorem agree_t {D D' : Nat -> Bool} (x : Nat) : ∀ (l : List (AI × Eff)) (i : Nat) (S S' : St), S.t x = S'.t x -> (∀ (k : Nat) (p : AI × Eff), l[k]? = some p -> p.1.dst = some x -> D (i + k) = D' (i + k)) -> (foldS D i l S).t x = (foldS D' i l S').t x
 | [], _, _, _, h, _ => h
 | p :: l, i, S, S', h, hw => by
   rw [foldS, foldS]
   refine agree_t x l (i + 1) _ _ ?_ (fun k q hq hd => by have := hw (k + 1) q (by simpa using hq) hd; rwa [show i + (k + 1) = i + 1 + k by omega] at this)
   by_cases hd : p.1.dst = some x
   . have := hw 0 p rfl hd
     rw [Nat.add_zero] at this
     rw [this]
     split
     . rw [St.app_t, St.app_t, if_pos hd, if_pos hd]
     . exact h
   . have e : ∀ T : St, (T.app p.1.dst p.2).t x = T.t x := fun T => by rw [St.app_t, if_neg hd]
     split <;> split <;> simp only [e, h]
theorem agree_b {D D' : Nat -> Bool} (x : Nat) : ∀ (l : List (AI × Eff)) (i : Nat) (S S' : St), S.blk x = S'.blk x -> (∀ (k : Nat) (p : AI × Eff), l[k]? = some p -> x ∈ p.2.wb.map (·.1) -> D (i + k) = D' (i + k)) -> (foldS D i l S).blk x = (foldS D' i l S').blk x
 | [], _, _, _, h, _ => h
 | p :: l, i, S, S', h, hw => by
   rw [foldS, foldS]
   refine agree_b x l (i + 1) _ _ ?_ (fun k q hq hd => by have := hw (k + 1) q (by simpa using hq) hd; rwa [show i + (k + 1) = i + 1 + k by omega] at this)
   by_cases hd : x ∈ p.2.wb.map (·.1)
   . have := hw 0 p rfl hd
     rw [Nat.add_zero] at this
     rw [this]
     split
     . exact appB_mem hd _ _
     . exact h
   . have e : ∀ T : St, (T.app p.1.dst p.2).blk x = T.blk x := fun T => appB_not hd _
     split <;> split <;> simp only [e, h]
theorem agree_k {D D' : Nat -> Bool} (x : Nat) : ∀ (l : List (AI × Eff)) (i : Nat) (S S' : St), S.tok x = S'.tok x -> (∀ (k : Nat) (p : AI × Eff), l[k]? = some p -> x ∈ p.2.wt.map (·.1) -> D (i + k) = D' (i + k)) -> (foldS D i l S).tok x = (foldS D' i l S').tok x
 | [], _, _, _, h, _ => h
 | p :: l, i, S, S', h, hw => by
   rw [foldS, foldS]
   refine agree_k x l (i + 1) _ _ ?_ (fun k q hq hd => by have := hw (k + 1) q (by simpa using hq) hd; rwa [show i + (k + 1) = i + 1 + k by omega] at this)
   by_cases hd : x ∈ p.2.wt.map (·.1)
   . have := hw 0 p rfl hd
     rw [Nat.add_zero] at this
     rw [this]
     split
     . exact appT_mem hd _ _
     . exact h
   . have e : ∀ T : St, (T.app p.1.dst p.2).tok x = T.tok x := fun T => appT_not hd _
     split <;> split <;> simp only [e, h]
def apartI (p q : AI) (fp fq : Fp) : Bool :=
 (match p.dst with | some d => !q.slots.contains d && (match q.dst with | some d' => d != d' | none => true) | none => true) &&
 (match q.dst with | some d => !p.slots.contains d | none => true) && fp.apart fq
structure Apart (p q : AI) (fp fq : Fp) : Prop where
 s1 : ∀ d, p.dst = some d -> d ∉ q.slots
 s2 : ∀ d, p.dst = some d -> q.dst ≠ some d
 s3 : ∀ d, q.dst = some d -> d ∉ p.slots
 b1 : disj fp.wb fq.rb = true
 b2 : disj fp.wb fq.wb = true
 b3 : disj fp.rb fq.wb = true
 t1 : disj fp.wt fq.rt = true
 t2 : disj fp.wt fq.wt = true
 t3 : disj fp.rt fq.wt = true
theorem apartI_spec {p q : AI} {fp fq : Fp} (h : apartI p q fp fq = true) : Apart p q fp fq := by
 simp only [apartI, Fp.apart, Bool.and_eq_true] at h
 obtain ⟨⟨h1, h2⟩, ⟨⟨⟨⟨h3, h4⟩, h5⟩, h6⟩, h7⟩, h8⟩ := h
 refine ⟨fun d hd => ?_, fun d hd q' => ?_, fun d hd => ?_, h3, h4, h5, h6, h7, h8⟩
 . rw [hd] at h1; simp at h1; exact h1.1
 . rw [hd, q'] at h1; simp at h1
 . rw [hd] at h2; simpa using h2
def regDV (P : Program) (pre : List (List Nat)) : Nat -> Nat -> List AI -> List (AI × Fp) -> (St -> Prop) -> St -> Prop
 | _, _, [], _, k, S => k S
 | st, j, i :: l, log, k, S => ∃ e, Out P S st i e /\ (log.zipIdx.all fun p => (pre.getD j []).contains p.2 || apartI p.1.1 i p.1.2 (fpOf S.t i e)) = true /\
     regDV P pre (st + 1) (j + 1) l (log ++ [(i, fpOf S.t i e)]) k (S.app i.dst e)
structure Shown (P : Program) (pre : List (List Nat)) (st : Nat) (ops : List AI) (es : List Eff) (S : St) (k : St -> Prop) : Prop where
 len : es.length = ops.length
 out : ∀ (j : Nat) (i : AI) (e : Eff), ops[j]? = some i -> es[j]? = some e -> Out P (foldS (fun m => decide (m < j)) 0 (ops.zip es) S) (st + j) i e
 apart : ∀ (a b : Nat) (p q : AI) (e f : Eff), a < b -> ops[a]? = some p -> ops[b]? = some q -> es[a]? = some e -> es[b]? = some f -> a ∉ pre.getD b [] ->
   Apart p q (fpOf (foldS (fun m => decide (m < a)) 0 (ops.zip es) S).t p e) (fpOf (foldS (fun m => decide (m < b)) 0 (ops.zip es) S).t q f)
 fin : k (foldS (fun _ => true) 0 (ops.zip es) S)
theorem foldS_append (D : Nat -> Bool) : ∀ (l : List (AI × Eff)) (i : Nat) (p : AI × Eff) (S : St), foldS D i (l ++ [p]) S = if D (i + l.length) = true then (foldS D i l S).app p.1.dst p.2 else foldS D i l S
 | [], i, p, S => by simp [foldS]
 | q :: l, i, p, S => by
   rw [List.cons_append, foldS, foldS_append D l (i + 1) p, foldS]
   rw [show i + 1 + l.length = i + (q :: l).length by simp; omega]
theorem shown_of (P : Program) (pre : List (List Nat)) (st0 : Nat) (S0 : St) (k : St -> Prop) : ∀ (rest done : List AI) (es : List Eff) (log : List (AI × Fp)) (S : St),
   es.length = done.length -> S = foldS (fun _ => true) 0 (done.zip es) S0 ->
   log.length = done.length -> (∀ (j : Nat) (i : AI) (e : Eff), done[j]? = some i -> es[j]? = some e -> log[j]? = some (i, fpOf (foldS (fun m => decide (m < j)) 0 (done.zip es) S0).t i e)) ->
   (∀ (j : Nat) (i : AI) (e : Eff), done[j]? = some i -> es[j]? = some e -> Out P (foldS (fun m => decide (m < j)) 0 (done.zip es) S0) (st0 + j) i e) ->
   (∀ (a b : Nat) (p q : AI) (e f : Eff), a < b -> done[a]? = some p -> done[b]? = some q -> es[a]? = some e -> es[b]? = some f -> a ∉ pre.getD b [] ->
     Apart p q (fpOf (foldS (fun m => decide (m < a)) 0 (done.zip es) S0).t p e) (fpOf (foldS (fun m => decide (m < b)) 0 (done.zip es) S0).t q f)) ->
   regDV P pre (st0 + done.length) done.length rest log k S -> ∃ es', Shown P pre st0 (done ++ rest) es' S0 k
 | [], done, es, log, S, hl, hS, hlog, hlg, hout, hap, h => by
   refine ⟨es, ?_, ?_, ?_, ?_⟩
   . simpa using hl
   . simpa using hout
   . simpa using hap
   . simp only [List.append_nil]; rw [<- hS]; exact h
 | i :: rest, done, es, log, S, hl, hS, hlog, hlg, hout, hap, h => by
   obtain ⟨e, h1, h2, h3⟩ := h
   have hz : (done.zip es).length = done.length := by simp [hl]
   have hzip : (done ++ [i]).zip (es ++ [e]) = done.zip es ++ [(i, e)] := by rw [List.zip_append hl.symm]; rfl
   have low : ∀ j, j <= done.length -> foldS (fun m => decide (m < j)) 0 ((done ++ [i]).zip (es ++ [e])) S0 = foldS (fun m => decide (m < j)) 0 (done.zip es) S0 := by
     intro j hj
     rw [hzip, foldS_append, if_neg (by simp [hz]; exact hj)]
   have cur : foldS (fun m => decide (m < done.length)) 0 (done.zip es) S0 = S := by
     rw [hS]
     exact foldS_congr _ _ _ (fun m _ hm => by simp [hz] at hm; simp; exact hm)
   have key := shown_of P pre st0 S0 k rest (done ++ [i]) (es ++ [e]) (log ++ [(i, fpOf S.t i e)]) (S.app i.dst e) (by simp [hl]) ?_ (by simp [hlog]) ?_ ?_ ?_ ?_
   . simpa using key
   . rw [hzip, foldS_append]; simp; rw [<- hS]
   . intro j i' e' hi he
     by_cases hj : j < done.length
     . rw [List.getElem?_append_left hj] at hi
       rw [List.getElem?_append_left (by omega)] at he
       rw [List.getElem?_append_left (by omega), low j (by omega)]
       exact hlg j i' e' hi he
     . have hjl : j = done.length := by
         have := (List.getElem?_eq_some_iff.1 hi).1
         simp at this; omega
       subst hjl
       rw [List.getElem?_append_right (Nat.le_refl _)] at hi
       rw [List.getElem?_append_right (by omega)] at he
       simp [hl] at hi he
       subst hi he
       rw [List.getElem?_append_right (by omega), hlog, low _ (Nat.le_refl _), cur]
       simp
   . intro j i' e' hi he
     by_cases hj : j < done.length
     . rw [List.getElem?_append_left hj] at hi
       rw [List.getElem?_append_left (by omega)] at he
       rw [low j (by omega)]
       exact hout j i' e' hi he
     . have hjl : j = done.length := by
         have := (List.getElem?_eq_some_iff.1 hi).1
         simp at this; omega
       subst hjl
       rw [List.getElem?_append_right (Nat.le_refl _)] at hi
       rw [List.getElem?_append_right (by omega)] at he
       simp [hl] at hi he
       subst hi he
       rw [low _ (Nat.le_refl _), cur]
       exact h1
   . intro a b p q e1 f hab hp hq he hf hpre
     have hb : b < done.length + 1 := by have := (List.getElem?_eq_some_iff.1 hq).1; simpa using this
     have ha : a < done.length := by omega
     rw [List.getElem?_append_left ha] at hp
     rw [List.getElem?_append_left (by omega)] at he
     rw [low a (by omega), low b (by omega)]
     by_cases hb' : b < done.length
     . rw [List.getElem?_append_left hb'] at hq
       rw [List.getElem?_append_left (by omega)] at hf
       exact hap a b p q e1 f hab hp hq he hf hpre
     . have hbl : b = done.length := by omega
       subst hbl
       rw [List.getElem?_append_right (Nat.le_refl _)] at hq
       rw [List.getElem?_append_right (by omega)] at hf
       simp [hl] at hq hf
       subst hq hf
       rw [cur]
       have hlga := hlg a p e1 hp he
       have hmem : ((p, fpOf (foldS (fun m => decide (m < a)) 0 (done.zip es) S0).t p e1), a) ∈ log.zipIdx := by
         rw [List.mem_zipIdx_iff_getElem?]; simpa using hlga
       have := List.all_eq_true.1 h2 _ hmem
       simp only [Bool.or_eq_true] at this
       rcases this with q' | q'
       . exact absurd (by simpa using q') hpre
       . exact apartI_spec q'
   . simpa [Nat.add_assoc] using h3
end Go.Gv
