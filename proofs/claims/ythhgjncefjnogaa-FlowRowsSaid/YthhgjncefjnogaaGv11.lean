/- Every abstract operation other than a call is done by the model's operation that it was turned from: the law over all operations. No condition beyond those that it names. -/
import Derived.Test.YthhgjncefjnogaaGv10
import Derived.Test.YthhgjncefjnogaaGw2
set_option linter.unusedVariables false
set_option linter.unusedSimpArgs false
namespace Go.Gv
open Go.RowKit

section
variable {P : Program} {B : Nat} {W : World} {E : Env} {h : Hp} {w : World} {a : Act} {f : Nat → AV} {n nm st : Nat}

theorem optNat_ok (hf : ∀ t, t < n → Rel E (f t) (a.tmps.getD t undef)) {lo : Option Operand} {lx : Option X} (hc : cOptX n lo = some lx) {l : Option Nat} (hl : optNat f lx = some l) :
    (l = none ∧ lo.map a.eval = none) ∨ ∃ k m, l = some m ∧ lo.map a.eval = some (.int k m) := by
  cases lo with
  | none => cases hc; cases hl; exact .inl ⟨rfl, rfl⟩
  | some x =>
    simp only [cOptX, Option.map_eq_some_iff] at hc
    obtain ⟨y, hy, rfl⟩ := hc
    simp only [optNat, Option.map_eq_some_iff] at hl
    obtain ⟨m, hm, rfl⟩ := hl
    have hr := cX_ok hf hy
    generalize y.ev f = v at hm hr
    cases v <;> simp only [asNat] at hm <;> (try (cases hm; done))
    rename_i k p
    split at hm
    · rename_i h0
      cases hm
      refine .inr ⟨k, p.toNat, rfl, ?_⟩
      rw [Option.map_some, hr.int_inv, Int.toNat_of_nonneg h0]
    · cases hm

theorem asNat_int {v : AV} {m : Nat} (h : asNat v = some m) : ∃ k, v = .int k m := by
  cases v <;> simp only [asNat] at h <;> (try (cases h; done))
  split at h
  · rename_i k p h0; cases h; exact ⟨k, by rw [Int.toNat_of_nonneg h0]⟩
  · cases h

theorem op_done (H : HConc E B h w) (hW : Below B W w) (hB : B ≤ w.heap.size) (hst : ¬ E.u st) (hf : ∀ t, t < n → Rel E (f t) (a.tmps.getD t undef)) (o : Oper) (ao : AOp) (hc : cOp P n nm o.op = some ao) (e : Eff)
    (he : ex f h.blk h.tok st ao = some e) : Done B W E st ((execOp a.eval o).run P w) e h := by
  generalize ho : o.op = op at hc
  cases op with
  | move x =>
    simp only [cOp, Option.map_eq_some_iff] at hc
    obtain ⟨y, hy, rfl⟩ := hc
    cases he
    exact mv_done H hW hf o x (.inl ho) y hy
  | assign x =>
    simp only [cOp, Option.map_eq_some_iff] at hc
    obtain ⟨y, hy, rfl⟩ := hc
    cases he
    exact mv_done H hW hf o x (.inr ho) y hy
  | pick c x y =>
    simp only [cOp, Option.map_eq_some_iff, Option.bind_eq_some_iff] at hc
    obtain ⟨c', hc', x', hx', y', hy', rfl⟩ := hc
    simp only [ex] at he
    split at he
    · rename_i t ht
      cases he
      exact pick_done H hW o c x y ho t (by rw [← ht]; exact cX_ok hf hc') _ _ (cX_ok hf hx') (cX_ok hf hy')
    · cases he
  | alloc t =>
    simp only [cOp, Option.map_eq_some_iff, Option.bind_eq_some_iff] at hc
    obtain ⟨i, hi, z, hz, rfl⟩ := hc
    simp only [ex] at he
    split at he
    · rename_i hq; cases he; exact new_done H hW hB hst o t ho i z hi hz hq.1 hq.2
    · cases he
  | box t x =>
    simp only [cOp, Option.map_eq_some_iff, Option.bind_eq_some_iff] at hc
    obtain ⟨x', hx', i, hi, rfl⟩ := hc
    simp only [ex] at he
    split at he
    · rename_i hq; cases he; exact box_done H hW hB hst o t x ho _ (cX_ok hf hx') i.size hq.1 hq.2
    · cases he
  | build t parts =>
    simp only [cOp] at hc
    split at hc
    · rename_i fs ht
      simp only [Option.map_eq_some_iff, Option.bind_eq_some_iff] at hc
      obtain ⟨i, hi, z, hz, places, hp, ps, hps, rfl⟩ := hc
      simp only [ex] at he
      split at he
      · rename_i h1
        simp only [Option.bind_eq_some_iff] at he
        obtain ⟨cs, hcs, he⟩ := he
        split at he
        · rename_i hall; cases he
          exact build_done H hW hf o t parts ho fs ht i hi z hz places hp ps hps h1 cs hcs hall
        · cases he
      · cases he
    · cases hc
  | buildSlice t len parts =>
    simp only [cOp] at hc
    split at hc
    · rename_i e' ht
      simp only [Option.bind_eq_some_iff] at hc
      obtain ⟨i, hi, z, hz, hc⟩ := hc
      split at hc
      · rename_i hq
        simp only [Option.map_eq_some_iff] at hc
        obtain ⟨ps, hps, hc⟩ := hc
        split at hc
        · subst hc
          simp only [ex] at he
          split at he
          · rename_i hok; cases he
            exact bsl_done H hW hB hst hf o t e' len parts ho ht i hi z hz hq.1 hq.2.1 hq.2.2 ps hps hok.1 hok.2.1 hok.2.2
          · cases he
        · subst hc
          simp only [ex] at he
          split at he
          · rename_i hok; cases he
            exact bslm_done H hW hB hst hf o t e' len parts ho ht i hi z hz hq.1 hq.2.1 hq.2.2 ps hps hok.1 hok.2.1 hok.2.2
          · cases he
      · cases hc
    · cases hc
  | load t x =>
    simp only [cOp, Option.bind_eq_some_iff] at hc
    obtain ⟨x', hx', d, hd, hc⟩ := hc
    split at hc
    · rename_i hagg
      simp only [Option.map_eq_some_iff] at hc
      obtain ⟨i, hi, rfl⟩ := hc
      simp only [ex, Option.map_eq_some_iff] at he
      obtain ⟨v, hv, rfl⟩ := he
      exact load_done H hW o t x ho _ v (cX_ok hf hx') d hd (.inr ⟨hagg, i, hi, hv⟩)
    · rename_i hagg
      cases hc
      simp only [ex, Option.map_eq_some_iff] at he
      obtain ⟨v, hv, rfl⟩ := he
      exact load_done H hW o t x ho _ v (cX_ok hf hx') d hd (.inl ⟨by simpa using hagg, hv⟩)
  | store t x y =>
    simp only [cOp, Option.bind_eq_some_iff] at hc
    obtain ⟨x', hx', y', hy', i, hi, hc⟩ := hc
    split at hc
    · rename_i h0
      cases hc
      simp only [ex] at he
      split at he
      · rename_i nm' s sz k off hp
        simp only [Option.bind_eq_some_iff] at he
        obtain ⟨es, hes, e1, he1, he⟩ := he
        split at he
        · rename_i hq; cases he
          obtain ⟨w', hrun, h1, h2⟩ := store_done (P := P) H hW t i hi (by rw [← hp]; exact cX_ok hf hx') (cX_ok hf hy') hes he1 hq.1 hq.2.1 hq.2.2 h0
          exact ⟨undef, w', E, .inr ⟨by simp [execOp, ho, hrun], rfl⟩, .refl E, fun _ q => .inl q, fun _ _ _ => rfl, h1, h2, .junk _⟩
        · cases he
      · cases he
    · cases hc
  | nilCheck x =>
    simp only [cOp, Option.map_eq_some_iff] at hc
    obtain ⟨y, hy, rfl⟩ := hc
    simp only [ex] at he
    split at he
    · rename_i nm' s sz i o' hp; cases he
      rw [← hp]
      exact nilck_done H hW o x ho _ (cX_ok hf hy) (.inl ⟨_, _, _, _, _, hp⟩)
    · rename_i cs o' hp; cases he
      rw [← hp]
      exact nilck_done H hW o x ho _ (cX_ok hf hy) (.inr ⟨_, _, hp⟩)
    · cases he
  | binOp op t x y ty =>
    simp only [cOp, Option.bind_eq_some_iff] at hc
    obtain ⟨x', hx', y', hy', hc⟩ := hc
    split at hc
    · have hsh : ∀ l : Bool, op = (if l = true then BinOp.shl else .shr) → ao = .shift l x' y' → Done B W E st ((execOp a.eval o).run P w) e h := by
        intro l hop hao
        subst hao hop
        simp only [ex] at he
        split at he
        · rename_i k p k' q hp hq
          split at he
          · cases he
          · rename_i hq0; cases he
            exact shift_done H hW o l t ty x y ho k k' p q (by rw [← hp]; exact cX_ok hf hx') (by rw [← hq]; exact cX_ok hf hy') hq0
        · cases he
      have hin : ao = .ibin op x' y' → Done B W E st ((execOp a.eval o).run P w) e h := by
        intro hao
        subst hao
        simp only [ex] at he
        split at he
        · rename_i k p k' q hp hq
          split at he
          · rename_i ek; subst ek
            simp only [Option.map_eq_some_iff] at he
            obtain ⟨r, hr, rfl⟩ := he
            exact int_done H hW o op t ty x y ho k p q (by rw [← hp]; exact cX_ok hf hx') (by rw [← hq]; exact cX_ok hf hy') r hr
          · cases he
        · cases he
      split at hc
      · cases hc; exact hsh true rfl rfl
      · cases hc; exact hsh false rfl rfl
      · cases hc; exact hin rfl
    · rename_i ht
      have main : ∀ neg, op = (if neg = true then BinOp.neq else .eql) → ao = .eqv neg x' y' → Done B W E st ((execOp a.eval o).run P w) e h := by
        intro neg hop hao
        subst hao
        simp only [ex] at he
        split at he
        · rename_i p q hp hq
          cases he
          exact eqv_done H hW o op neg t ty x y ho hop ht p q (by rw [← hp]; exact cX_ok hf hx') (by rw [← hq]; exact cX_ok hf hy')
        · cases he
      split at hc
      · cases hc; exact main false rfl rfl
      · cases hc; exact main true rfl rfl
      · cases hc
    · rename_i fs ht
      simp only [Option.bind_eq_some_iff] at hc
      obtain ⟨ks, hks, hc⟩ := hc
      split at hc
      · rename_i hq
        have main : ∀ neg, op = (if neg = true then BinOp.neq else .eql) → ao = .eqs ks neg x' y' → Done B W E st ((execOp a.eval o).run P w) e h := by
          intro neg hop hao
          subst hao
          simp only [ex] at he
          split at he
          · rename_i xs ys hp hp'
            simp only [Option.map_eq_some_iff] at he
            obtain ⟨r, hr, rfl⟩ := he
            exact eqs_done H hW o op neg t ty x y ho hop fs ht ks hks hq.1 hq.2 xs ys (by rw [← hp]; exact cX_ok hf hx') (by rw [← hp']; exact cX_ok hf hy') r hr
          · cases he
        split at hc
        · cases hc; exact main false rfl rfl
        · cases hc; exact main true rfl rfl
        · cases hc
      · cases hc
    · cases hc
  | unOp op t x =>
    cases op <;> simp only [cOp, Option.map_eq_some_iff] at hc <;> (try (cases hc; done))
    · obtain ⟨x', hx', rfl⟩ := hc
      simp only [ex] at he
      split at he
      · rename_i k p hp; cases he; exact neg_done H hW o t x ho k p (by rw [← hp]; exact cX_ok hf hx')
      · cases he
    · obtain ⟨x', hx', rfl⟩ := hc
      simp only [ex] at he
      split at he
      · rename_i b hp; cases he; exact not_done H hW o t x ho b (by rw [← hp]; exact cX_ok hf hx')
      · cases he
  | convert src dst x =>
    simp only [cOp, Option.bind_eq_some_iff] at hc
    obtain ⟨x', hx', hc⟩ := hc
    split at hc
    · rename_i d k hs hd
      cases hc
      simp only [ex] at he
      split at he
      · rename_i k' p hp; cases he; exact conv_done H hW o src dst x ho k d hs hd k' p (by rw [← hp]; exact cX_ok hf hx')
      · cases he
    · cases hc
  | makeFunc fn first caps =>
    cases fn with
    | func g =>
      simp only [cOp] at hc
      split at hc
      · rename_i h0
        simp only [Option.map_eq_some_iff] at hc
        obtain ⟨l, hl, rfl⟩ := hc
        cases he
        obtain ⟨e1, e2⟩ := cXs_ok hf _ _ hl
        refine mkf_done H hW o g first caps h0 ho _ (by simp only [List.length_map]; exact e1) ?_
        intro j y z hy hz
        rw [List.getElem?_map] at hy
        cases hx : l[j]? with
        | none => simp [hx] at hy
        | some x => simp only [hx, Option.map_some, Option.some.injEq] at hy; rw [← hy]; exact e2 j x z hx hz
      · cases hc
    | _ => simp [cOp] at hc
  | makeSlice t l c =>
    cases l <;> cases c <;> simp only [cOp] at hc <;> (try (cases hc; done))
    rename_i l c
    split at hc
    · rename_i el; subst el
      split at hc
      · rename_i e' ht
        simp only [Option.bind_eq_some_iff] at hc
        obtain ⟨i, hi, z, hz, hc⟩ := hc
        split at hc
        · rename_i hq
          simp only [Option.map_eq_some_iff] at hc
          obtain ⟨x, hx, rfl⟩ := hc
          simp only [ex, Option.bind_eq_some_iff] at he
          obtain ⟨m, hm, he⟩ := he
          split at he
          · rename_i hk; cases he
            obtain ⟨k, hk'⟩ := asNat_int hm
            exact msl_done H hW hB hst o t e' (.tmp l) ho ht i hi z hz hq.1 hq.2.1 hq.2.2 k m (by rw [← hk']; exact cX_ok hf hx) hk.1 hk.2.1 hk.2.2
          · cases he
        · cases hc
      · cases hc
    · cases hc
  | slice t x lo hi mx =>
    cases mx with
    | some m => simp [cOp] at hc
    | none =>
      simp only [cOp, Option.bind_eq_some_iff] at hc
      obtain ⟨x', hx', lx, hlx, hx2, hhx, hc⟩ := hc
      have main : ∀ so : Option Nat, ao = .slice so x' lx hx2 → ((so = none ∧ P.underlying t = some .string) ∨ ∃ e ti, so = some ti.size ∧ P.underlying t = some (.slice e) ∧ P.info? e = some ti) → Done B W E st ((execOp a.eval o).run P w) e h := by
        intro so hao hty
        subst hao
        simp only [ex, Option.bind_eq_some_iff, Option.map_eq_some_iff] at he
        obtain ⟨l, hl, hh, hhh, v, hv, rfl⟩ := he
        obtain ⟨u, hu, hrel⟩ := slice_done (P := P) H (cX_ok hf hx') so l hh hv t hty _ _ (optNat_ok hf hlx hl) (optNat_ok hf hhx hhh)
        exact Done.pure H hW (v := u) (by simp [execOp, ho, hu]) hrel
      split at hc
      · rename_i e' ht
        simp only [Option.map_eq_some_iff] at hc
        obtain ⟨i, hi, rfl⟩ := hc
        exact main _ rfl (.inr ⟨e', i, rfl, ht, hi⟩)
      · rename_i ht; cases hc; exact main _ rfl (.inl ⟨rfl, ht⟩)
      · cases hc
  | fieldAddr s x g =>
    simp only [cOp, Option.bind_eq_some_iff] at hc
    obtain ⟨x', hx', hc⟩ := hc
    split at hc
    · rename_i fs hs
      simp only [Option.bind_eq_some_iff] at hc
      obtain ⟨fd, hfd, i, hi, hc⟩ := hc
      split at hc
      · cases hc
      · rename_i h0
        cases hc
        simp only [ex] at he
        split at he
        · rename_i nm' s' sz k off hp; cases he
          exact fld_done H hW o s x g ho fs hs fd hfd i hi h0 _ _ (cX_ok hf hx') (.inl ⟨nm', s', sz, k, off, hp, rfl⟩)
        · rename_i cs off hp; cases he
          exact fld_done H hW o s x g ho fs hs fd hfd i hi h0 _ _ (cX_ok hf hx') (.inr ⟨cs, off, hp, rfl⟩)
        · cases he
    · cases hc
  | field t x g =>
    simp only [cOp, Option.bind_eq_some_iff] at hc
    obtain ⟨x', hx', hc⟩ := hc
    split at hc
    · rename_i fs ht
      simp only [Option.bind_eq_some_iff, Option.map_eq_some_iff] at hc
      obtain ⟨fd, hfd, d, hd, i, hi, rfl⟩ := hc
      by_cases hagg : isAggD d = true
      · rw [if_pos hagg] at he
        simp only [ex] at he
        split at he
        · rename_i cs hp
          split at he
          · rename_i hle; cases he
            exact getf_done H hW o t x g ho fs ht fd hfd d hd i hi cs (by rw [← hp]; exact cX_ok hf hx') _ (.inr ⟨hagg, hle, rfl⟩)
          · cases he
        · cases he
      · rw [if_neg hagg] at he
        simp only [ex] at he
        split at he
        · rename_i cs hp
          simp only [Option.map_eq_some_iff] at he
          obtain ⟨v, hv, rfl⟩ := he
          exact getf_done H hW o t x g ho fs ht fd hfd d hd i hi cs (by rw [← hp]; exact cX_ok hf hx') _ (.inl ⟨by simpa using hagg, hv⟩)
        · cases he
    · cases hc
  | indexAddr t x i =>
    simp only [cOp, Option.bind_eq_some_iff] at hc
    obtain ⟨x', hx', i', hi', hc⟩ := hc
    split at hc
    · rename_i e' ht
      simp only [Option.map_eq_some_iff] at hc
      obtain ⟨ti, hti, rfl⟩ := hc
      simp only [ex, Option.bind_eq_some_iff, Option.map_eq_some_iff] at he
      obtain ⟨j, hj, v, hv, rfl⟩ := he
      obtain ⟨k, hk⟩ := asNat_int hj
      have hki := (cX_ok hf hi')
      rw [hk] at hki
      obtain ⟨u, hu, hrel⟩ := idx_done (P := P) H (cX_ok hf hx') j ti.size hv t e' ti ht hti rfl k
      exact Done.pure H hW (v := u) (by simp [execOp, ho, hki.int_inv, hu]) hrel
    · cases hc
  | extract x i =>
    simp only [cOp, Option.map_eq_some_iff] at hc
    obtain ⟨x', hx', rfl⟩ := hc
    simp only [ex] at he
    split at he
    · rename_i vs hp
      simp only [Option.map_eq_some_iff] at he
      obtain ⟨v, hv, rfl⟩ := he
      exact ext_done H hW o x i ho vs (by rw [← hp]; exact cX_ok hf hx') v hv
    · cases he
  | call c =>
    obtain ⟨callee, args, tys⟩ := c
    cases callee with
    | value g => simp [cOp] at hc
    | invoke r m => simp [cOp] at hc
    | builtin b =>
      have mm : ∀ mx : Bool, b = (if mx = true then .max else .min) → (∀ x l, args.toList = x :: l → ((cX n x).bind fun x => (cXs n l).map fun l => .mm mx x l) = some ao → Done B W E st ((execOp a.eval o).run P w) e h) := by
        intro mx hb x l hargs hc2
        subst hb
        simp only [Option.bind_eq_some_iff, Option.map_eq_some_iff] at hc2
        obtain ⟨x', hx', l', hl', rfl⟩ := hc2
        obtain ⟨e1, e2⟩ := cXs_ok hf _ _ hl'
        simp only [ex] at he
        split at he
        · rename_i k p hp
          simp only [Option.map_eq_some_iff] at he
          obtain ⟨r, hr, rfl⟩ := he
          refine mm_done H hW o mx x l tys args hargs ho k p r (by rw [← hp]; exact cX_ok hf hx') (l'.map fun y => y.ev f) (by simp [e1]) ?_ hr
          intro j y z hy hz
          rw [List.getElem?_map] at hy
          cases hx : l'[j]? with
          | none => simp [hx] at hy
          | some x => simp only [hx, Option.map_some, Option.some.injEq] at hy; rw [← hy]; exact e2 j x z hx hz
        · cases he
      cases b <;> simp only [cOp] at hc <;> (try (cases hc; done))
      case len =>
        split at hc
        · rename_i x t hargs htys
          simp only [Option.bind_eq_some_iff] at hc
          obtain ⟨x', hx', hc⟩ := hc
          have ea : args = #[x] := by cases args; simp_all
          have et : tys = #[t] := by cases tys; simp_all
          subst ea et
          split at hc
          · rename_i e1 ht; cases hc
            simp only [ex, Option.map_eq_some_iff] at he
            obtain ⟨k, hk, rfl⟩ := he
            exact len_done H hW o x t ho _ (cX_ok hf hx') k hk e1 ht
          · rename_i ht; cases hc
            simp only [ex] at he
            split at he
            · rename_i s hs; cases he
              exact slen_done H hW o x t ho s (by rw [← hs]; exact cX_ok hf hx') ht
            · cases he
          · cases hc
        · cases hc
      case append =>
        split at hc
        · rename_i s x t t' hargs htys
          split at hc
          · rename_i et'
            subst et'
            simp only [Option.bind_eq_some_iff] at hc
            obtain ⟨s', hs', x', hx', hc⟩ := hc
            split at hc
            · rename_i e' ht
              simp only [Option.bind_eq_some_iff] at hc
              obtain ⟨i, hi, z, hz, hc⟩ := hc
              split at hc
              · rename_i hq
                have ea : args = #[s, x] := by cases args; simp_all
                have et : tys = #[t, t] := by cases tys; simp_all
                subst ea et
                split at hc
                rotate_left
                · cases hc
                  simp only [ex, Option.bind_eq_some_iff] at he
                  obtain ⟨b, hb, ys, hys, he⟩ := he
                  split at he
                  · rename_i hby
                    split at he
                    · rename_i hem; cases he
                      have hb1 : b.2 = none := by simp at hem; exact hem.1
                      have hys0 : ys = [] := by simp at hem; exact hem.2
                      have hs0 : s'.ev f = .nils := by
                        generalize s'.ev f = v at hb
                        cases v <;> simp only [appwBase] at hb <;> (try (cases hb; done))
                        · rfl
                        · split at hb
                          · simp only [Option.bind_eq_some_iff] at hb
                            obtain ⟨es, _, hb⟩ := hb
                            split at hb <;> cases hb
                            cases hb1
                          · cases hb
                      subst hys0
                      obtain ⟨ad, c, news, hu, _⟩ := srcM_of H (cX_ok hf hx') hys
                      have hsv := cX_ok hf hs'
                      rw [hs0] at hsv
                      have hrun : (Builtin.append_ #[t, t] o.type #[a.eval s, a.eval x]).run P w = .ok (.slice none 0 0) w := by
                        rw [hsv.nils_inv, hu]
                        cases ad <;> simp [Builtin.append_, run_underlying ht, sizeOf, typeInfo, hi, Builtin.lenOf, Builtin.firstCells, loadCells, loadCellsFrom]
                      exact Done.pure H hW (v := .slice none 0 0) (by simp [execOp, ho, resolve, invoke, builtin, hrun]) .nils
                    · rename_i hem; cases he
                      obtain ⟨v', w', E', hrun, h1, h2, hEB, h3, h4, h5⟩ := appw_done (P := P) H hW hB nm st i.size t o.type e' i z hst ht hi hz rfl hq.2.1 hq.2.2 hq.1 _ _ _ _ (cX_ok hf hs') (cX_ok hf hx') b hb ys hys
                        (fun hb1 hys0 => hem (by rw [hb1, hys0]; rfl)) hby
                      exact ⟨v', w', E', .inl (by simp [execOp, ho, resolve, invoke, builtin, hrun]), h1, h2, hEB, h3, h4, h5⟩
                  · cases he
                cases hc
                simp only [ex, Option.bind_eq_some_iff] at he
                obtain ⟨b, hb, ys, hys, he⟩ := he
                split at he
                · rename_i hby; cases he
                  obtain ⟨v', w', E', hrun, h1, h2, hEB, h3, h4, h5⟩ := app_done (P := P) H hW hB nm st i.size t o.type e' i z hst ht hi hz rfl hq.2.1 hq.2.2 hq.1 _ _ _ _ (cX_ok hf hs') (cX_ok hf hx') b hb ys hys hby
                  exact ⟨v', w', E', .inl (by simp [execOp, ho, resolve, invoke, builtin, hrun]), h1, h2, hEB, h3, h4, h5⟩
                · cases he
              · cases hc
            · cases hc
          · cases hc
        · cases hc
      case copy =>
        split at hc
        · rename_i x y t t' hargs htys
          simp only [Option.bind_eq_some_iff] at hc
          obtain ⟨x', hx', y', hy', hc⟩ := hc
          split at hc
          · rename_i e1 e2 ht ht'
            simp only [Option.map_eq_some_iff] at hc
            obtain ⟨i, hi, rfl⟩ := hc
            have ea : args = #[x, y] := by cases args; simp_all
            have et : tys = #[t, t'] := by cases tys; simp_all
            subst ea et
            exact cpy_done H hW o x y t t' e1 e2 ho i ht hi x' y' (cX_ok hf hx') (cX_ok hf hy') e he
          · cases hc
        · cases hc
      case max =>
        split at hc
        · rename_i x l hargs; exact mm true rfl x l hargs hc
        · cases hc
      case min =>
        split at hc
        · rename_i x l hargs; exact mm false rfl x l hargs hc
        · cases hc
  | _ => simp [cOp] at hc

end
end Go.Gv
