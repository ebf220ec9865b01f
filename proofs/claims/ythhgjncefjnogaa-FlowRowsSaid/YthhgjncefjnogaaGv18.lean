/- How contracts are shown by one fact of the program's tables; what a walk by rewriting uses. No condition beyond those that each law names. -/
import Derived.Test.YthhgjncefjnogaaGv17
set_option linter.unusedVariables false
set_option linter.unusedSimpArgs false
namespace Go.Gv
open Go.RowKit

/-- A function's abstract code. -/
def getF (P : Program) (f base : Nat) (hint : List (Nat × Nat)) : Option (String × Nat × AC × List ARes) :=
  (P.funcs[f]?).bind fun fn => fn.body.bind fun c => (cCode P fn.ntmps base hint c).bind fun ac => (cRes P fn.ntmps fn.results.toList).map fun al => (fn.name, fn.ntmps, ac, al)

def Ends (al : List ARes) (r : AV) : Ex → St → Prop
  | .exit _, _ => False
  | _, S => ∃ v, resOf S al = some v ∧ coT (some S.blk) v r

theorem pc_of_get {P : Program} {f base : Nat} {hint : List (Nat × Nat)} {name : String} {n : Nat} {ac : AC} {al : List ARes} (h : getF P f base hint = some (name, n, ac, al)) (hname : name ≠ "runtime.NumGoroutine")
    (args : List AV) (hn : args.length ≤ n) (r : AV) (hV : V P ac (Ends al r) (initS args)) : PC P f args r := by
  unfold getF at h
  rcases hf : P.funcs[f]? with _ | fn
  · rw [hf] at h; simp at h
  rw [hf] at h
  simp only [Option.bind_some] at h
  rcases hb : fn.body with _ | c
  · rw [hb] at h; simp at h
  rw [hb] at h
  simp only [Option.bind_some] at h
  rcases hc : cCode P fn.ntmps base hint c with _ | ac'
  · rw [hc] at h; simp at h
  rw [hc] at h
  simp only [Option.bind_some] at h
  rcases hal : cRes P fn.ntmps fn.results.toList with _ | al'
  · rw [hal] at h; simp at h
  rw [hal] at h
  simp only [Option.map_some, Option.some.injEq, Prod.mk.injEq] at h
  obtain ⟨h1, h2, h3, h4⟩ := h
  subst h1; subst h2; subst h3; subst h4
  refine pc_of_V fn hf hname c hb base hint _ hc _ hal args hn r ?_
  refine Eq.mp (congrArg (fun κ => V P ac' κ (initS args)) ?_) hV
  funext e S
  cases e <;> rfl

/-! ### Rewriting -/

theorem V_reg (P : Program) (ops : List AI) (κ : Ex → St → Prop) (S : St) : V P (.reg ops) κ S = regV P S.clk ops (κ .normal) (S.bump ops.length) := rfl
theorem upd_lit {α : Type} (f : Nat → α) (i : Nat) (v : α) (j : Nat) : upd f i v j = if j = i then v else f j := rfl

theorem V_cond (P : Program) (c : X) (a b : AC) (κ : Ex → St → Prop) (S : St) (t : Bool) (h : c.ev S.t = .bool t) (h1 : t = true → V P a κ S) (h2 : t = false → V P b κ S) : V P (.cond c a b) κ S := by
  simp only [V, h]
  cases t with
  | true => simpa using h1 rfl
  | false => simpa using h2 rfl

/-- What a loop's body must come to. -/
def Lp (κ : Ex → St → Prop) (J : St → Prop) : Ex → St → Prop
  | .normal, S => J S
  | .exit i, S => κ (.exit i) S
  | .ret, S => κ .ret S

theorem CallP.mono {P : Program} {fv : AV} {vals : List AV} {S : St} {k k' : AV → St → Prop} (hk : ∀ r S', k r S' → k' r S') (h : CallP P fv vals S k) : CallP P fv vals S k' := by
  obtain ⟨f, caps, h1, h2, h3⟩ := h
  refine ⟨f, caps, h1, h2, fun E B W w args a1 a2 a3 a4 a5 a6 => (h3 E B W w args a1 a2 a3 a4 a5 a6).mono ?_⟩
  rintro e w' ⟨v, E', r, S', b1, b2, b3, b4, b5, b6, b7, b8, b9, b10⟩
  exact ⟨v, E', r, S', b1, b2, b3, b4, b5, b6, b7, b8, b9, hk r S' b10⟩
theorem runV_mono {P : Program} {st : Nat} {ai : AI} {S : St} {k k' : St → Prop} (hk : ∀ S', k S' → k' S') (h : runV P st ai S k) : runV P st ai S k' := by
  unfold runV at h ⊢
  split at h
  · exact CallP.mono (fun r S' q => hk _ q) h
  · rename_i op he
    cases hx : ex S.t S.blk S.tok st op with
    | none => rw [hx] at h; exact h
    | some e => rw [hx] at h; exact hk _ h
  · rename_i kd neg x he
    cases hx : ex S.t S.blk S.tok st (.nilq kd neg x) with
    | none => rw [hx] at h; exact ⟨h.1, fun b => hk _ (h.2 b)⟩
    | some e => rw [hx] at h; exact hk _ h
theorem stepV_mono {P : Program} {st : Nat} {ai : AI} {S : St} {k k' : St → Prop} (hk : ∀ S', k S' → k' S') (h : stepV P st ai S k) : stepV P st ai S k' := by
  unfold stepV at h ⊢
  cases hg : guardV S.t ai.g with
  | none => rw [hg] at h; exact h
  | some b =>
    rw [hg] at h
    cases b with
    | true => exact runV_mono hk h
    | false => exact hk _ h
theorem regV_mono {P : Program} : ∀ (l : List AI) {st : Nat} {S : St} {k k' : St → Prop}, (∀ S', k S' → k' S') → regV P st l k S → regV P st l k' S
  | [], _, S, _, _, hk, h => hk S h
  | i :: l, st, S, _, _, hk, h => stepV_mono (fun S' q => regV_mono l hk q) h
theorem regDV_mono {P : Program} {pre : List (List Nat)} : ∀ (l : List AI) {st j : Nat} {log : List (AI × Fp)} {S : St} {k k' : St → Prop}, (∀ S', k S' → k' S') → regDV P pre st j l log k S → regDV P pre st j l log k' S
  | [], _, _, _, S, _, _, hk, h => hk S h
  | i :: l, st, j, log, S, _, _, hk, h => by
    obtain ⟨e, h1, h2, h3⟩ := h
    exact ⟨e, h1, h2, regDV_mono l hk h3⟩
theorem V_mono {P : Program} : ∀ (ac : AC) {κ κ' : Ex → St → Prop} {S : St}, (∀ e S, κ e S → κ' e S) → V P ac κ S → V P ac κ' S
  | .skip, _, _, S, hk, h => hk _ S h
  | .seq a b, _, _, S, hk, h => by
    refine V_mono a ?_ h
    intro e S' q
    cases e with
    | normal => exact V_mono b hk q
    | exit i => exact hk _ _ q
    | ret => exact hk _ _ q
  | .cond c a b, _, _, S, hk, h => by
    unfold V at h ⊢
    split at h
    · rename_i t he
      cases t with
      | true => exact V_mono a hk h
      | false => exact V_mono b hk h
    · exact h.elim
  | .block id a, _, _, S, hk, h => by
    refine V_mono a ?_ h
    intro e S' q
    cases e with
    | normal => exact hk _ _ q
    | exit i =>
      dsimp only at q ⊢
      split at q
      · rename_i e; rw [if_pos e]; exact hk _ _ q
      · rename_i e; rw [if_neg e]; exact hk _ _ q
    | ret => exact hk _ _ q
  | .loop a, _, _, S, hk, h => by
    obtain ⟨I, m, h0, hs⟩ := h
    refine ⟨I, m, h0, fun m S' hI => V_mono a ?_ (hs m S' hI)⟩
    intro e S'' q
    cases e with
    | normal => exact q
    | exit i => exact hk _ _ q
    | ret => exact hk _ _ q
  | .exit id, _, _, S, hk, h => hk _ S h
  | .ret, _, _, S, hk, h => hk _ S h
  | .bad, _, _, S, hk, h => h.elim
  | .gh a, _, _, S, hk, h => let ⟨S', h1, h2⟩ := h; ⟨S', h1, V_mono a hk h2⟩
  | .reg ops, _, _, S, hk, h => regV_mono ops (fun S' q => hk _ S' q) h
  | .regd ops pre, _, _, S, hk, h => regDV_mono ops (fun S' q => hk _ S' q) h

/-- A loop by a measure; at its head the state may be told in another way. -/
theorem V_loopW {P : Program} {a : AC} {κ : Ex → St → Prop} {S : St} (I : Nat → St → Prop) (m : Nat) (h0 : ∃ S1, Wk S S1 ∧ I m S1)
    (hs : ∀ m S', I m S' → V P a (Lp κ fun S'' => ∃ m' S2, m' < m ∧ Wk S'' S2 ∧ I m' S2) S') : V P (.loop a) κ S := by
  refine ⟨I, m, h0, fun m S' h => ?_⟩
  refine Eq.mp (congrArg (fun κ => V P a κ S') ?_) (hs m S' h)
  funext e S
  cases e <;> rfl

theorem V_loop {P : Program} {a : AC} {κ : Ex → St → Prop} {S : St} (I : Nat → St → Prop) (m : Nat) (h0 : I m S)
    (hs : ∀ m S', I m S' → V P a (Lp κ fun S'' => ∃ m', m' < m ∧ I m' S'') S') : V P (.loop a) κ S := by
  refine V_loopW I m ⟨S, .refl S, h0⟩ (fun m S' h => V_mono a ?_ (hs m S' h))
  intro e S'' q
  cases e with
  | normal => obtain ⟨m', h1, h2⟩ := q; exact ⟨m', S'', h1, .refl _, h2⟩
  | exit i => exact q
  | ret => exact q

/-- A loop that counts up. -/
theorem V_count {P : Program} {a : AC} {κ : Ex → St → Prop} {S : St} (J : Nat → St → Prop) (n : Nat) (h0 : J 0 S)
    (hs : ∀ i S', i ≤ n → J i S' → V P a (Lp κ fun S'' => i < n ∧ J (i + 1) S'') S') : V P (.loop a) κ S := by
  refine V_loop (fun m S => ∃ i, i ≤ n ∧ m = n - i ∧ J i S) n ⟨0, by omega, by omega, h0⟩ ?_
  rintro m S' ⟨i, h1, h2, h3⟩
  refine V_mono a ?_ (hs i S' h1 h3)
  intro e S'' q
  cases e with
  | normal => exact ⟨n - (i + 1), by have := q.1; omega, i + 1, q.1, rfl, q.2⟩
  | exit i => exact q
  | ret => exact q

/-- A loop that counts up; behind a round the state may be told in another way. -/
theorem V_countW {P : Program} {a : AC} {κ : Ex → St → Prop} {S : St} (J : Nat → St → Prop) (n : Nat) (h0 : ∃ S1, Wk S S1 ∧ J 0 S1)
    (hs : ∀ i S', i ≤ n → J i S' → V P a (Lp κ fun S'' => i < n ∧ ∃ S2, Wk S'' S2 ∧ J (i + 1) S2) S') : V P (.loop a) κ S := by
  refine V_loopW (fun m S => ∃ i, i ≤ n ∧ m = n - i ∧ J i S) n (let ⟨S1, h1, h2⟩ := h0; ⟨S1, h1, 0, by omega, by omega, h2⟩) ?_
  rintro m S' ⟨i, h1, h2, h3⟩
  refine V_mono a ?_ (hs i S' h1 h3)
  intro e S'' q
  cases e with
  | normal => obtain ⟨q1, S2, q2, q3⟩ := q; exact ⟨n - (i + 1), S2, by omega, q2, i + 1, q1, rfl, q3⟩
  | exit i => exact q
  | ret => exact q

end Go.Gv
