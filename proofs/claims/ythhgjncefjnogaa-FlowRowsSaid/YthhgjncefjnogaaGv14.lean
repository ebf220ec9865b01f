/- Regions that draw their order: the joint law. No condition beyond those that it names. -/
import Derived.Test.YthhgjncefjnogaaGv13
set_option linter.unusedVariables false
set_option linter.unusedSimpArgs false
namespace Go.Gv
open Go.RowKit

theorem appB_not {l : List (Nat × Option Blk)} {x : Nat} (h : x ∉ l.map (·.1)) (f : Nat → Option Blk) : appB f l x = f x := by
  induction l generalizing f with
  | nil => rfl
  | cons p l ih =>
    obtain ⟨n, b⟩ := p
    simp only [List.map_cons, List.mem_cons, not_or] at h
    rw [appB, ih h.2, upd_ne _ _ _ _ h.1]
theorem appB_mem {l : List (Nat × Option Blk)} {x : Nat} (h : x ∈ l.map (·.1)) (f g : Nat → Option Blk) : appB f l x = appB g l x := by
  induction l generalizing f g with
  | nil => simp at h
  | cons p l ih =>
    obtain ⟨n, b⟩ := p
    by_cases hl : x ∈ l.map (·.1)
    · exact ih hl _ _
    · rw [appB, appB, appB_not hl, appB_not hl]
      simp only [List.map_cons, List.mem_cons] at h
      rcases h with h | h
      · rw [h, upd_same, upd_same]
      · exact absurd h hl
theorem appT_not {l : List (Nat × Option Tok)} {x : Nat} (h : x ∉ l.map (·.1)) (f : Nat → Option Tok) : appT f l x = f x := by
  induction l generalizing f with
  | nil => rfl
  | cons p l ih =>
    obtain ⟨n, b⟩ := p
    simp only [List.map_cons, List.mem_cons, not_or] at h
    rw [appT, ih h.2, upd_ne _ _ _ _ h.1]
theorem appT_mem {l : List (Nat × Option Tok)} {x : Nat} (h : x ∈ l.map (·.1)) (f g : Nat → Option Tok) : appT f l x = appT g l x := by
  induction l generalizing f g with
  | nil => simp at h
  | cons p l ih =>
    obtain ⟨n, b⟩ := p
    by_cases hl : x ∈ l.map (·.1)
    · exact ih hl _ _
    · rw [appT, appT, appT_not hl, appT_not hl]
      simp only [List.map_cons, List.mem_cons] at h
      rcases h with h | h
      · rw [h, upd_same, upd_same]
      · exact absurd h hl

theorem St.ext' {S T : St} (h1 : ∀ x, S.t x = T.t x) (h2 : ∀ x, S.blk x = T.blk x) (h3 : ∀ x, S.tok x = T.tok x) (h4 : S.clk = T.clk) : S = T := by
  cases S; cases T
  simp only at h1 h2 h3 h4
  rw [funext h1, funext h2, funext h3, h4]

theorem St.app_t (S : St) (d : Option Nat) (e : Eff) (x : Nat) : (S.app d e).t x = if d = some x then e.v else S.t x := St.put_t S d e.v x

theorem disj_mem {a b : List Nat} (h : disj a b = true) {x : Nat} (hx : x ∈ a) : x ∉ b := by
  have := List.all_eq_true.1 h x hx
  simpa using this

/-- Two effects that touch different things. -/
theorem app_comm (S : St) (d d' : Option Nat) (e e' : Eff) (hd : ∀ x, d = some x → d' ≠ some x) (hb : disj (e.wb.map (·.1)) (e'.wb.map (·.1)) = true) (ht : disj (e.wt.map (·.1)) (e'.wt.map (·.1)) = true) :
    (S.app d e).app d' e' = (S.app d' e').app d e := by
  refine St.ext' (fun x => ?_) (fun x => ?_) (fun x => ?_) rfl
  · rw [St.app_t, St.app_t, St.app_t, St.app_t]
    by_cases h1 : d = some x
    · rw [if_neg (hd x h1), if_pos h1, if_pos h1]
    · rw [if_neg h1, if_neg h1]
  · show appB (appB S.blk e.wb) e'.wb x = appB (appB S.blk e'.wb) e.wb x
    by_cases h1 : x ∈ e.wb.map (·.1)
    · rw [appB_not (disj_mem hb h1), appB_mem h1]
    · rw [appB_not h1]
      by_cases h2 : x ∈ e'.wb.map (·.1)
      · exact appB_mem h2 _ _
      · rw [appB_not h2, appB_not h2, appB_not h1]
  · show appT (appT S.tok e.wt) e'.wt x = appT (appT S.tok e'.wt) e.wt x
    by_cases h1 : x ∈ e.wt.map (·.1)
    · rw [appT_not (disj_mem ht h1), appT_mem h1]
    · rw [appT_not h1]
      by_cases h2 : x ∈ e'.wt.map (·.1)
      · exact appT_mem h2 _ _
      · rw [appT_not h2, appT_not h2, appT_not h1]

/-- The effects of those that are done, in the text's order. -/
def foldS (D : Nat → Bool) : Nat → List (AI × Eff) → St → St
  | _, [], S => S
  | i, p :: l, S => foldS D (i + 1) l (if D i = true then S.app p.1.dst p.2 else S)

theorem foldS_clk (D : Nat → Bool) : ∀ (l : List (AI × Eff)) (i : Nat) (S : St), (foldS D i l S).clk = S.clk
  | [], _, _ => rfl
  | p :: l, i, S => by rw [foldS, foldS_clk D l]; split <;> rfl

theorem foldS_congr {D D' : Nat → Bool} : ∀ (l : List (AI × Eff)) (i : Nat) (S : St), (∀ k, i ≤ k → k < i + l.length → D k = D' k) → foldS D i l S = foldS D' i l S
  | [], _, _, _ => rfl
  | p :: l, i, S, h => by
    rw [foldS, foldS, h i (Nat.le_refl _) (by simp), foldS_congr l (i + 1) _ (fun k h1 h2 => h k (by omega) (by simp; omega))]

theorem foldS_none {D : Nat → Bool} : ∀ (l : List (AI × Eff)) (i : Nat) (S : St), (∀ k, i ≤ k → D k = false) → foldS D i l S = S
  | [], _, _, _ => rfl
  | p :: l, i, S, h => by rw [foldS, h i (Nat.le_refl _), foldS_none l _ _ (fun k hk => h k (by omega))]; rfl

theorem agree_t {D D' : Nat → Bool} (x : Nat) : ∀ (l : List (AI × Eff)) (i : Nat) (S S' : St), S.t x = S'.t x → (∀ (k : Nat) (p : AI × Eff), l[k]? = some p → p.1.dst = some x → D (i + k) = D' (i + k)) → (foldS D i l S).t x = (foldS D' i l S').t x
  | [], _, _, _, h, _ => h
  | p :: l, i, S, S', h, hw => by
    rw [foldS, foldS]
    refine agree_t x l (i + 1) _ _ ?_ (fun k q hq hd => by have := hw (k + 1) q (by simpa using hq) hd; rwa [show i + (k + 1) = i + 1 + k by omega] at this)
    by_cases hd : p.1.dst = some x
    · have := hw 0 p rfl hd
      rw [Nat.add_zero] at this
      rw [this]
      split
      · rw [St.app_t, St.app_t, if_pos hd, if_pos hd]
      · exact h
    · have e : ∀ T : St, (T.app p.1.dst p.2).t x = T.t x := fun T => by rw [St.app_t, if_neg hd]
      split <;> split <;> simp only [e, h]

theorem agree_b {D D' : Nat → Bool} (x : Nat) : ∀ (l : List (AI × Eff)) (i : Nat) (S S' : St), S.blk x = S'.blk x → (∀ (k : Nat) (p : AI × Eff), l[k]? = some p → x ∈ p.2.wb.map (·.1) → D (i + k) = D' (i + k)) → (foldS D i l S).blk x = (foldS D' i l S').blk x
  | [], _, _, _, h, _ => h
  | p :: l, i, S, S', h, hw => by
    rw [foldS, foldS]
    refine agree_b x l (i + 1) _ _ ?_ (fun k q hq hd => by have := hw (k + 1) q (by simpa using hq) hd; rwa [show i + (k + 1) = i + 1 + k by omega] at this)
    by_cases hd : x ∈ p.2.wb.map (·.1)
    · have := hw 0 p rfl hd
      rw [Nat.add_zero] at this
      rw [this]
      split
      · exact appB_mem hd _ _
      · exact h
    · have e : ∀ T : St, (T.app p.1.dst p.2).blk x = T.blk x := fun T => appB_not hd _
      split <;> split <;> simp only [e, h]

theorem agree_k {D D' : Nat → Bool} (x : Nat) : ∀ (l : List (AI × Eff)) (i : Nat) (S S' : St), S.tok x = S'.tok x → (∀ (k : Nat) (p : AI × Eff), l[k]? = some p → x ∈ p.2.wt.map (·.1) → D (i + k) = D' (i + k)) → (foldS D i l S).tok x = (foldS D' i l S').tok x
  | [], _, _, _, h, _ => h
  | p :: l, i, S, S', h, hw => by
    rw [foldS, foldS]
    refine agree_k x l (i + 1) _ _ ?_ (fun k q hq hd => by have := hw (k + 1) q (by simpa using hq) hd; rwa [show i + (k + 1) = i + 1 + k by omega] at this)
    by_cases hd : x ∈ p.2.wt.map (·.1)
    · have := hw 0 p rfl hd
      rw [Nat.add_zero] at this
      rw [this]
      split
      · exact appT_mem hd _ _
      · exact h
    · have e : ∀ T : St, (T.app p.1.dst p.2).tok x = T.tok x := fun T => appT_not hd _
      split <;> split <;> simp only [e, h]

/-- Two operations that touch different things. -/
def apartI (p q : AI) (fp fq : Fp) : Bool :=
  (match p.dst with | some d => !q.slots.contains d && (match q.dst with | some d' => d != d' | none => true) | none => true) &&
  (match q.dst with | some d => !p.slots.contains d | none => true) && fp.apart fq

structure Apart (p q : AI) (fp fq : Fp) : Prop where
  s1 : ∀ d, p.dst = some d → d ∉ q.slots
  s2 : ∀ d, p.dst = some d → q.dst ≠ some d
  s3 : ∀ d, q.dst = some d → d ∉ p.slots
  b1 : disj fp.wb fq.rb = true
  b2 : disj fp.wb fq.wb = true
  b3 : disj fp.rb fq.wb = true
  t1 : disj fp.wt fq.rt = true
  t2 : disj fp.wt fq.wt = true
  t3 : disj fp.rt fq.wt = true

theorem apartI_spec {p q : AI} {fp fq : Fp} (h : apartI p q fp fq = true) : Apart p q fp fq := by
  simp only [apartI, Fp.apart, Bool.and_eq_true] at h
  obtain ⟨⟨h1, h2⟩, ⟨⟨⟨⟨h3, h4⟩, h5⟩, h6⟩, h7⟩, h8⟩ := h
  refine ⟨fun d hd => ?_, fun d hd q' => ?_, fun d hd => ?_, h3, h4, h5, h6, h7, h8⟩
  · rw [hd] at h1; simp at h1; exact h1.1
  · rw [hd, q'] at h1; simp at h1
  · rw [hd] at h2; simpa using h2

/-- The walk in the text's order: what each operation comes to, and that it is apart from those ahead of it for which it does not wait. -/
def regDV (P : Program) (pre : List (List Nat)) : Nat → Nat → List AI → List (AI × Fp) → (St → Prop) → St → Prop
  | _, _, [], _, k, S => k S
  | st, j, i :: l, log, k, S => ∃ e, Out P S st i e ∧ (log.zipIdx.all fun p => (pre.getD j []).contains p.2 || apartI p.1.1 i p.1.2 (fpOf S.t i e)) = true ∧
      regDV P pre (st + 1) (j + 1) l (log ++ [(i, fpOf S.t i e)]) k (S.app i.dst e)

/-- What the walk shows. -/
structure Shown (P : Program) (pre : List (List Nat)) (st : Nat) (ops : List AI) (es : List Eff) (S : St) (k : St → Prop) : Prop where
  len : es.length = ops.length
  out : ∀ (j : Nat) (i : AI) (e : Eff), ops[j]? = some i → es[j]? = some e → Out P (foldS (fun m => decide (m < j)) 0 (ops.zip es) S) (st + j) i e
  apart : ∀ (a b : Nat) (p q : AI) (e f : Eff), a < b → ops[a]? = some p → ops[b]? = some q → es[a]? = some e → es[b]? = some f → a ∉ pre.getD b [] →
    Apart p q (fpOf (foldS (fun m => decide (m < a)) 0 (ops.zip es) S).t p e) (fpOf (foldS (fun m => decide (m < b)) 0 (ops.zip es) S).t q f)
  fin : k (foldS (fun _ => true) 0 (ops.zip es) S)

theorem foldS_append (D : Nat → Bool) : ∀ (l : List (AI × Eff)) (i : Nat) (p : AI × Eff) (S : St), foldS D i (l ++ [p]) S = if D (i + l.length) = true then (foldS D i l S).app p.1.dst p.2 else foldS D i l S
  | [], i, p, S => by simp [foldS]
  | q :: l, i, p, S => by
    rw [List.cons_append, foldS, foldS_append D l (i + 1) p, foldS]
    rw [show i + 1 + l.length = i + (q :: l).length by simp; omega]

theorem shown_of (P : Program) (pre : List (List Nat)) (st0 : Nat) (S0 : St) (k : St → Prop) : ∀ (rest done : List AI) (es : List Eff) (log : List (AI × Fp)) (S : St),
    es.length = done.length → S = foldS (fun _ => true) 0 (done.zip es) S0 →
    log.length = done.length → (∀ (j : Nat) (i : AI) (e : Eff), done[j]? = some i → es[j]? = some e → log[j]? = some (i, fpOf (foldS (fun m => decide (m < j)) 0 (done.zip es) S0).t i e)) →
    (∀ (j : Nat) (i : AI) (e : Eff), done[j]? = some i → es[j]? = some e → Out P (foldS (fun m => decide (m < j)) 0 (done.zip es) S0) (st0 + j) i e) →
    (∀ (a b : Nat) (p q : AI) (e f : Eff), a < b → done[a]? = some p → done[b]? = some q → es[a]? = some e → es[b]? = some f → a ∉ pre.getD b [] →
      Apart p q (fpOf (foldS (fun m => decide (m < a)) 0 (done.zip es) S0).t p e) (fpOf (foldS (fun m => decide (m < b)) 0 (done.zip es) S0).t q f)) →
    regDV P pre (st0 + done.length) done.length rest log k S → ∃ es', Shown P pre st0 (done ++ rest) es' S0 k
  | [], done, es, log, S, hl, hS, hlog, hlg, hout, hap, h => by
    refine ⟨es, ?_, ?_, ?_, ?_⟩
    · simpa using hl
    · simpa using hout
    · simpa using hap
    · simp only [List.append_nil]; rw [← hS]; exact h
  | i :: rest, done, es, log, S, hl, hS, hlog, hlg, hout, hap, h => by
    obtain ⟨e, h1, h2, h3⟩ := h
    have hz : (done.zip es).length = done.length := by simp [hl]
    have hzip : (done ++ [i]).zip (es ++ [e]) = done.zip es ++ [(i, e)] := by rw [List.zip_append hl.symm]; rfl
    have low : ∀ j, j ≤ done.length → foldS (fun m => decide (m < j)) 0 ((done ++ [i]).zip (es ++ [e])) S0 = foldS (fun m => decide (m < j)) 0 (done.zip es) S0 := by
      intro j hj
      rw [hzip, foldS_append, if_neg (by simp [hz]; exact hj)]
    have cur : foldS (fun m => decide (m < done.length)) 0 (done.zip es) S0 = S := by
      rw [hS]
      exact foldS_congr _ _ _ (fun m _ hm => by simp [hz] at hm; simp; exact hm)
    have key := shown_of P pre st0 S0 k rest (done ++ [i]) (es ++ [e]) (log ++ [(i, fpOf S.t i e)]) (S.app i.dst e) (by simp [hl]) ?_ (by simp [hlog]) ?_ ?_ ?_ ?_
    · simpa using key
    · rw [hzip, foldS_append]; simp; rw [← hS]
    · intro j i' e' hi he
      by_cases hj : j < done.length
      · rw [List.getElem?_append_left hj] at hi
        rw [List.getElem?_append_left (by omega)] at he
        rw [List.getElem?_append_left (by omega), low j (by omega)]
        exact hlg j i' e' hi he
      · have hjl : j = done.length := by
          have := (List.getElem?_eq_some_iff.1 hi).1
          simp at this; omega
        subst hjl
        rw [List.getElem?_append_right (Nat.le_refl _)] at hi
        rw [List.getElem?_append_right (by omega)] at he
        simp [hl] at hi he
        subst hi he
        rw [List.getElem?_append_right (by omega), hlog, low _ (Nat.le_refl _), cur]
        simp
    · intro j i' e' hi he
      by_cases hj : j < done.length
      · rw [List.getElem?_append_left hj] at hi
        rw [List.getElem?_append_left (by omega)] at he
        rw [low j (by omega)]
        exact hout j i' e' hi he
      · have hjl : j = done.length := by
          have := (List.getElem?_eq_some_iff.1 hi).1
          simp at this; omega
        subst hjl
        rw [List.getElem?_append_right (Nat.le_refl _)] at hi
        rw [List.getElem?_append_right (by omega)] at he
        simp [hl] at hi he
        subst hi he
        rw [low _ (Nat.le_refl _), cur]
        exact h1
    · intro a b p q e1 f hab hp hq he hf hpre
      have hb : b < done.length + 1 := by have := (List.getElem?_eq_some_iff.1 hq).1; simpa using this
      have ha : a < done.length := by omega
      rw [List.getElem?_append_left ha] at hp
      rw [List.getElem?_append_left (by omega)] at he
      rw [low a (by omega), low b (by omega)]
      by_cases hb' : b < done.length
      · rw [List.getElem?_append_left hb'] at hq
        rw [List.getElem?_append_left (by omega)] at hf
        exact hap a b p q e1 f hab hp hq he hf hpre
      · have hbl : b = done.length := by omega
        subst hbl
        rw [List.getElem?_append_right (Nat.le_refl _)] at hq
        rw [List.getElem?_append_right (by omega)] at hf
        simp [hl] at hq hf
        subst hq hf
        rw [cur]
        have hlga := hlg a p e1 hp he
        have hmem : ((p, fpOf (foldS (fun m => decide (m < a)) 0 (done.zip es) S0).t p e1), a) ∈ log.zipIdx := by
          rw [List.mem_zipIdx_iff_getElem?]; simpa using hlga
        have := List.all_eq_true.1 h2 _ hmem
        simp only [Bool.or_eq_true] at this
        rcases this with q' | q'
        · exact absurd (by simpa using q') hpre
        · exact apartI_spec q'
    · simpa [Nat.add_assoc] using h3

end Go.Gv
