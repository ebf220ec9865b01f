/- Regions that draw their order, and all code: what holds ahead of abstract code holds ahead of the model's. No condition beyond those that each law names. -/
import Derived.Test.YthhgjncefjnogaaGv14
set_option linter.unusedVariables false
set_option linter.unusedSimpArgs false
namespace Go.Gv
open Go.RowKit

/-! ### The commuting of a later one -/

theorem foldS_insert {D D' : Nat → Bool} (j : Nat) (a : AI) (e : Eff) (hD : D j = false) (hD' : D' j = true) (hne : ∀ k, k ≠ j → D' k = D k) : ∀ (l : List (AI × Eff)) (i : Nat) (S : St), i ≤ j → l[j - i]? = some (a, e) →
    (∀ (k : Nat) (p : AI × Eff), j < k → D k = true → l[k - i]? = some p → (∀ x, a.dst = some x → p.1.dst ≠ some x) ∧ disj (e.wb.map (·.1)) (p.2.wb.map (·.1)) = true ∧ disj (e.wt.map (·.1)) (p.2.wt.map (·.1)) = true) →
    (foldS D i l S).app a.dst e = foldS D' i l S
  | [], i, S, _, h, _ => by simp at h
  | p :: l, i, S, hij, h, hc => by
    by_cases e1 : i = j
    · subst e1
      rw [Nat.sub_self] at h
      simp at h
      subst h
      rw [foldS, foldS, hD, hD']
      simp only [if_true, Bool.false_eq_true, if_false]
      have later : ∀ (l : List (AI × Eff)) (m : Nat) (S : St), i < m → (∀ (k : Nat) (p : AI × Eff), m ≤ k → D k = true → l[k - m]? = some p → (∀ x, a.dst = some x → p.1.dst ≠ some x) ∧ disj (e.wb.map (·.1)) (p.2.wb.map (·.1)) = true ∧ disj (e.wt.map (·.1)) (p.2.wt.map (·.1)) = true) →
          (foldS D m l S).app a.dst e = foldS D' m l (S.app a.dst e) := by
        intro l
        induction l with
        | nil => intro m S _ _; rfl
        | cons q l ih =>
          intro m S hm hq
          rw [foldS, foldS, hne m (by omega), ih (m + 1) _ (by omega) (fun k p h1 h2 h3 => hq k p (by omega) h2 (by rw [show k - m = (k - (m + 1)) + 1 by omega]; simpa using h3))]
          cases hDm : D m with
          | false => rfl
          | true =>
            simp only [if_true]
            obtain ⟨c1, c2, c3⟩ := hq m q (Nat.le_refl _) hDm (by simp)
            rw [app_comm S a.dst q.1.dst e q.2 c1 c2 c3]
      exact later l (i + 1) S (by omega) (fun k p h1 h2 h3 => hc k p (by omega) h2 (by rw [show k - i = (k - (i + 1)) + 1 by omega]; simpa using h3))
    · rw [foldS, foldS, hne i e1]
      refine foldS_insert j a e hD hD' hne l (i + 1) _ (by omega) ?_ (fun k p h1 h2 h3 => hc k p h1 h2 (by rw [show k - i = (k - (i + 1)) + 1 by omega]; simpa using h3))
      rw [show j - i = (j - (i + 1)) + 1 by omega] at h
      simpa using h

/-- The edges lead back, and 'pre' holds no more than what they lead to. -/
def edgesOk (pre : List (List Nat)) : Nat → List Oper → Bool
  | _, [] => true
  | j, o :: l => (o.after.toList.all fun e => !Region.binds .any e || decide (e.on < j)) &&
      ((pre.getD j []).all fun p => o.after.toList.any fun e => Region.binds .any e && (e.on == p || (pre.getD e.on []).contains p)) && edgesOk pre (j + 1) l

theorem edgesOk_spec {pre : List (List Nat)} : ∀ (l : List Oper) (i : Nat), edgesOk pre i l = true → ∀ (j : Nat) (o : Oper), l[j]? = some o →
    (∀ e ∈ o.after, Region.binds .any e = true → e.on < i + j) ∧ ∀ p ∈ pre.getD (i + j) [], ∃ e ∈ o.after, Region.binds .any e = true ∧ (e.on = p ∨ p ∈ pre.getD e.on [])
  | [], i, _, j, o, ho => by simp at ho
  | o' :: l, i, h, j, o, ho => by
    simp only [edgesOk, Bool.and_eq_true] at h
    obtain ⟨⟨h1, h2⟩, h3⟩ := h
    cases j with
    | zero =>
      simp at ho
      subst ho
      refine ⟨fun e he hb => ?_, fun p hp => ?_⟩
      · have := List.all_eq_true.1 h1 e (by simpa using he)
        simpa [hb] using this
      · have := List.all_eq_true.1 h2 p hp
        simp only [List.any_eq_true, Bool.and_eq_true, Bool.or_eq_true, beq_iff_eq, List.contains_iff_mem] at this
        obtain ⟨e, he, hb, q⟩ := this
        exact ⟨e, by simpa using he, hb, q⟩
    | succ j =>
      have := edgesOk_spec l (i + 1) h3 j o (by simpa using ho)
      rwa [show i + 1 + j = i + (j + 1) by omega] at this

theorem cIs_get {P : Program} {n base : Nat} {hint : List (Nat × Nat)} {oa : Array Oper} : ∀ (l : List Oper) (ais : List AI), cIs P n base hint oa l = some ais → ais.length = l.length ∧ ∀ (j : Nat) (o : Oper) (ai : AI), l[j]? = some o → ais[j]? = some ai → cI P n base hint oa o = some ai
  | [], ais, h => by cases h; simp
  | o :: l, ais, h => by
    simp only [cIs, Option.bind_eq_some_iff, Option.map_eq_some_iff] at h
    obtain ⟨ai, h1, ais', h2, rfl⟩ := h
    obtain ⟨e1, e2⟩ := cIs_get l ais' h2
    refine ⟨by simp [e1], fun j o' ai' ho ha => ?_⟩
    cases j with
    | zero => simp at ho ha; subst ho ha; exact h1
    | succ j => exact e2 j o' ai' (by simpa using ho) (by simpa using ha)

section
variable {P : Program} {K0 : Gh} {B : Nat} {W : World} {n : Nat}

/-- One operation of an abstract step, done by the model. -/
theorem step_sound {E : Env} {S : St} {a : Act} {w : World} (C : Conc K0 E B W n S a w) (base : Nat) (hint : List (Nat × Nat)) (oa : Array Oper) (o : Oper) (i : Nat) (ho : oa[i]? = some o) (ai : AI) (hc : cI P n base hint oa o = some ai) (st : Nat) (hst : ¬ E.u st) (hst0 : K0.c0 ≤ st)
    (hu : ∀ s, E.u s → s < S.clk) (k : St → Prop) (h : stepV P st ai S k) (next : Act → World → Prop) (Q : Exit → Act → World → Prop)
    (hk : ∀ E' S' a' w', Conc K0 E' B W n S' a' w' → E.le E' → (∀ s, E'.u s → E.u s ∨ s = st ∨ (S.clk ≤ s ∧ s < S'.clk)) → S.clk ≤ S'.clk → k S' → next a' w') : wpOp P oa Q i next a w := by
  have hc' := hc
  simp only [cI] at hc'
  split at hc'
  · rename_i hd
    simp only [Option.bind_eq_some_iff, Option.map_eq_some_iff] at hc'
    obtain ⟨g, hg, op, hop, hai⟩ := hc'
    unfold stepV at h
    split at h
    · rename_i b hb
      have hgb : guardV S.t g = some b := by rw [← hai] at hb; exact hb
      have hw := guard_ok C oa o g hg b hgb
      unfold wpOp
      simp only [ho, hw]
      split at h
      · rename_i hbt
        rw [if_pos hbt]
        exact .inl (runV_sound C base hint oa o ai hc st hst hst0 hu k h next Q hk)
      · rename_i hbt
        rw [if_neg hbt]
        have hdst : ai.dst = o.dst := by rw [← hai]
        have hC : Conc K0 E B W n (S.put o.dst (.tup [])) (a.put o.dst undef) w := C.next (.refl E) o.dst hd undef (.tup []) (.tup [] #[] rfl (by simp)) _ w rfl (by cases o.dst <;> exact C.H) C.bel (fun _ _ _ => rfl) (fun s hs => .inl hs) (by cases o.dst <;> exact C.ck)
        rw [hdst] at h
        exact hk E _ _ w hC (.refl E) (fun s hs => .inl hs) (by cases o.dst <;> exact Nat.le_refl _) h
    · exact h.elim
  · cases hc'

theorem regV_sound (base : Nat) (hint : List (Nat × Nat)) (oa : Array Oper) (k : St → Prop) (Q : Exit → Act → World → Prop) (en : Nat)
    (hQ : ∀ E' S' a' w', Conc K0 E' B W n S' a' w' → (∀ s, E'.u s → s < S'.clk) → k S' → Q .normal a' w') :
    ∀ (rest : List AI) (i st : Nat) (E : Env) (S : St) (a : Act) (w : World), cIs P n base hint oa (oa.toList.drop i) = some rest → Conc K0 E B W n S a w → K0.c0 ≤ st → (∀ s, E.u s → (s < st ∨ en ≤ s) ∧ s < S.clk) → st + rest.length ≤ en → en ≤ S.clk →
      regV P st rest k S → wpOps P oa Q (List.range' i rest.length) a w
  | [], i, st, E, S, a, w, hc, C, h0, hu, h1, h2, h => hQ E S a w C (fun s hs => (hu s hs).2) h
  | ai :: rest, i, st, E, S, a, w, hc, C, h0, hu, h1, h2, h => by
    simp only [List.length_cons] at h1
    obtain ⟨e1, e2⟩ := cIs_get _ _ hc
    have hil : i < oa.size := by
      have e1' : rest.length + 1 = oa.size - i := by simpa using e1
      omega
    have ho : oa[i]? = some oa[i] := Array.getElem?_eq_getElem hil
    have hdrop : oa.toList.drop i = oa[i] :: oa.toList.drop (i + 1) := by
      rw [List.drop_eq_getElem_cons (by simpa using hil)]; simp
    rw [hdrop] at hc
    simp only [cIs, Option.bind_eq_some_iff, Option.map_eq_some_iff] at hc
    obtain ⟨ai', hai, rest', hrest, heq⟩ := hc
    cases heq
    rw [List.length_cons, List.range'_succ, wpOps_cons]
    refine step_sound C base hint oa oa[i] i ho ai hai st (fun q => by have := (hu st q); omega) h0 (fun s hs => (hu s hs).2) _ h _ Q ?_
    intro E' S' a' w' C' hE hu' hclk hk
    refine regV_sound base hint oa k Q en hQ rest (i + 1) (st + 1) E' S' a' w' hrest C' (by omega) ?_ (by omega) (by omega) hk
    intro s hs
    rcases hu' s hs with q | q | q
    · have := hu s q; omega
    · omega
    · omega

/-- Any order. -/
theorem any_sound (base : Nat) (hint : List (Nat × Nat)) (oa : Array Oper) (ais : List AI) (hc : cIs P n base hint oa oa.toList = some ais) (pre : List (List Nat)) (hpre : edgesOk pre 0 oa.toList = true) (st0 : Nat) (es : List Eff) (S0 : St) (k : St → Prop)
    (hS : Shown P pre st0 ais es S0 k) (hclk : S0.clk = st0 + ais.length) (hst0 : K0.c0 ≤ st0) (Q : Exit → Act → World → Prop)
    (hQ : ∀ E' S' a' w', Conc K0 E' B W n S' a' w' → (∀ s, E'.u s → s < S'.clk) → k S' → Q .normal a' w') :
    ∀ (fuel : Nat) (listed : Array Bool) (E : Env) (a : Act) (w : World), listed.size = oa.size → ((List.range oa.size).filter fun i => !listed.getD i false).length ≤ fuel →
      (∀ i, listed.getD i false = true → ∀ p ∈ pre.getD i [], listed.getD p false = true) → Conc K0 E B W n (foldS (fun i => listed.getD i false) 0 (ais.zip es) S0) a w →
      (∀ s, E.u s → s < st0 ∨ ∃ i, i < oa.size ∧ listed.getD i false = true ∧ s = st0 + i) → wpAny P .any oa Q fuel listed a w := by
  obtain ⟨el0, eget⟩ := cIs_get _ _ hc
  have el : ais.length = oa.size := by simpa using el0
  have hall : ∀ (listed : Array Bool) (E : Env) (a : Act) (w : World), listed.size = oa.size → (∀ i, i < oa.size → listed.getD i false = true) → Conc K0 E B W n (foldS (fun i => listed.getD i false) 0 (ais.zip es) S0) a w →
      (∀ s, E.u s → s < st0 ∨ ∃ i, i < oa.size ∧ listed.getD i false = true ∧ s = st0 + i) → Region.ready .any oa listed = [] ∧ Q .normal a w := by
    intro listed E a w hls hl C hu
    refine ⟨?_, ?_⟩
    · apply List.eq_nil_iff_forall_not_mem.2
      intro j hj
      obtain ⟨h1, o, h2, _⟩ := mem_ready.1 hj
      have hjl : j < oa.size := (Array.getElem?_eq_some_iff.1 h2).1
      have := hl j hjl
      have hjs : j < listed.size := by omega
      simp [hjs] at h1 this
      rw [h1] at this; cases this
    · have hf : foldS (fun i => listed.getD i false) 0 (ais.zip es) S0 = foldS (fun _ => true) 0 (ais.zip es) S0 := foldS_congr _ _ _ (fun i _ hi => hl i (by simp at hi; omega))
      rw [hf] at C
      refine hQ E _ a w C (fun s hs => ?_) hS.fin
      rw [foldS_clk, hclk]
      rcases hu s hs with q | ⟨i, h1, _, h3⟩ <;> omega
  intro fuel
  induction fuel with
  | zero =>
    intro listed E a w hls hf hcl C hu
    have hl : ∀ i, i < oa.size → listed.getD i false = true := by
      intro i hi
      cases hx : listed.getD i false with
      | true => rfl
      | false =>
        have : i ∈ (List.range oa.size).filter fun i => !listed.getD i false := by simp [hi]; simpa using hx
        have h0 := List.eq_nil_of_length_eq_zero (Nat.le_zero.1 hf)
        rw [h0] at this; cases this
    exact hall listed E a w hls hl C hu
  | succ fuel ih =>
    intro listed E a w hls hf hcl C hu
    have dflt : ∀ j, j < oa.size → listed.getD j true = listed.getD j false := by
      intro j hj
      have : j < listed.size := by omega
      simp [this]
    refine ⟨fun hr => ?_, fun j hj => ?_⟩
    · -- nothing is left
      refine (hall listed E a w hls ?_ C hu).2
      intro i
      induction i using Nat.strongRecOn with
      | _ i ihi =>
        intro hi
        cases hx : listed.getD i false with
        | true => rfl
        | false =>
          have ho : oa[i]? = some oa[i] := Array.getElem?_eq_getElem hi
          have hsp := edgesOk_spec _ 0 hpre i oa[i] (by simp)
          have hmem : i ∈ Region.ready .any oa listed := mem_ready.2 ⟨by rw [dflt i hi]; exact hx, oa[i], ho, fun e he hb => ihi e.on (by have := hsp.1 e he hb; omega) (by have := hsp.1 e he hb; omega)⟩
          rw [hr] at hmem; cases hmem
    · -- one comes up
      obtain ⟨hj0, o, ho, hpr⟩ := mem_ready.1 hj
      have hjl : j < oa.size := (Array.getElem?_eq_some_iff.1 ho).1
      have hjf : listed.getD j false = false := by rw [← dflt j hjl]; exact hj0
      have hsp := edgesOk_spec _ 0 hpre j o (by simpa using ho)
      simp only [Nat.zero_add] at hsp
      have hpreD : ∀ p ∈ pre.getD j [], listed.getD p false = true := by
        intro p hp
        obtain ⟨e, he, hb, q⟩ := hsp.2 p hp
        have hl := hpr e he hb
        rcases q with q | q
        · rw [← q]; exact hl
        · exact hcl e.on hl p q
      obtain ⟨ai, hai⟩ : ∃ ai, ais[j]? = some ai := ⟨_, List.getElem?_eq_getElem (by omega)⟩
      obtain ⟨e, he⟩ : ∃ e, es[j]? = some e := ⟨_, List.getElem?_eq_getElem (by rw [hS.len]; omega)⟩
      have hcI := eget j o ai (by simpa using ho) hai
      have hout := hS.out j ai e hai he
      -- in this state it comes to the same
      have getz : ∀ (m : Nat) (p : AI × Eff), (ais.zip es)[m]? = some p → ais[m]? = some p.1 ∧ es[m]? = some p.2 := by
        intro m p hp
        rw [List.getElem?_zip_eq_some] at hp
        exact hp
      have apartAt : ∀ (m : Nat) (p : AI × Eff), (ais.zip es)[m]? = some p → m ≠ j → (listed.getD m false ≠ decide (m < j)) →
          Apart p.1 ai (fpOf (foldS (fun i => decide (i < m)) 0 (ais.zip es) S0).t p.1 p.2) (fpOf (foldS (fun i => decide (i < j)) 0 (ais.zip es) S0).t ai e) ∨
          Apart ai p.1 (fpOf (foldS (fun i => decide (i < j)) 0 (ais.zip es) S0).t ai e) (fpOf (foldS (fun i => decide (i < m)) 0 (ais.zip es) S0).t p.1 p.2) := by
        intro m p hp hne hdiff
        obtain ⟨g1, g2⟩ := getz m p hp
        rcases Nat.lt_or_gt_of_ne hne with hlt | hgt
        · refine .inl (hS.apart m j p.1 ai p.2 e hlt g1 hai g2 he (fun q => ?_))
          rw [hpreD m q] at hdiff
          simp [hlt] at hdiff
        · refine .inr (hS.apart j m ai p.1 e p.2 hgt hai g1 he g2 (fun q => ?_))
          have hm : listed.getD m false = true := by
            cases hx : listed.getD m false with
            | true => rfl
            | false => rw [hx] at hdiff; simp at hdiff; omega
          have := hcl m hm j q
          rw [hjf] at this; cases this
      have hout' : Out P (foldS (fun i => listed.getD i false) 0 (ais.zip es) S0) (st0 + j) ai e := by
        refine hout.congr ?_ ?_ ?_
        · intro x hx
          refine agree_t x _ 0 _ _ rfl (fun m p hp hd => ?_)
          simp only [Nat.zero_add]
          by_cases hm : m = j
          · subst hm; rw [hjf]; simp
          · cases hq : decide (decide (m < j) = listed.getD m false) with
            | true => simpa using hq
            | false =>
              have hne : listed.getD m false ≠ decide (m < j) := by simp only [decide_eq_false_iff_not] at hq; exact fun q => hq q.symm
              rcases apartAt m p hp hm hne with q | q
              · exact absurd hx (q.s1 x hd)
              · exact absurd hx (q.s3 x hd)
        · intro x hx
          refine agree_b x _ 0 _ _ rfl (fun m p hp hd => ?_)
          simp only [Nat.zero_add]
          by_cases hm : m = j
          · subst hm; rw [hjf]; simp
          · cases hq : decide (decide (m < j) = listed.getD m false) with
            | true => simpa using hq
            | false =>
              have hne : listed.getD m false ≠ decide (m < j) := by simp only [decide_eq_false_iff_not] at hq; exact fun q => hq q.symm
              rcases apartAt m p hp hm hne with q | q
              · exact absurd hx (disj_mem q.b1 hd)
              · exact absurd hd (disj_mem q.b3 hx)
        · intro x hx
          refine agree_k x _ 0 _ _ rfl (fun m p hp hd => ?_)
          simp only [Nat.zero_add]
          by_cases hm : m = j
          · subst hm; rw [hjf]; simp
          · cases hq : decide (decide (m < j) = listed.getD m false) with
            | true => simpa using hq
            | false =>
              have hne : listed.getD m false ≠ decide (m < j) := by simp only [decide_eq_false_iff_not] at hq; exact fun q => hq q.symm
              rcases apartAt m p hp hm hne with q | q
              · exact absurd hx (disj_mem q.t1 hd)
              · exact absurd hd (disj_mem q.t3 hx)
      have hclkT : (foldS (fun i => listed.getD i false) 0 (ais.zip es) S0).clk = st0 + ais.length := by rw [foldS_clk, hclk]
      have hstep : stepV P (st0 + j) ai (foldS (fun i => listed.getD i false) 0 (ais.zip es) S0) (fun S' => S' = (foldS (fun i => listed.getD i false) 0 (ais.zip es) S0).app ai.dst e) := by
        unfold Out at hout'
        unfold stepV
        split at hout'
        · rename_i b hb
          simp only [hb]
          split at hout'
          · rename_i hbt
            rw [if_pos hbt]
            unfold runV
            cases hk : ai.k with
            | op ao => rw [hk] at hout'; simp only at hout' ⊢; rw [hout']
            | nq kd neg x => rw [hk] at hout'; simp only at hout' ⊢; rw [hout']
            | call fx l =>
              rw [hk] at hout'
              simp only at hout' ⊢
              obtain ⟨r, hr, rfl⟩ := hout'
              refine CallP_of_PCallP hr ?_
              cases ai.dst <;> rfl
          · rename_i hbt
            rw [if_neg hbt, hout']
            cases ai.dst <;> rfl
        · exact hout'.elim
      refine step_sound C base hint oa o j ho ai hcI (st0 + j) (fun q => ?_) (Nat.le_trans hst0 (Nat.le_add_right _ _)) (fun s hs => ?_) _ hstep _ Q ?_
      · rcases hu _ q with q' | ⟨i, h1, h2, h3⟩
        · omega
        · have : i = j := by omega
          subst this; rw [hjf] at h2; cases h2
      · rw [hclkT]
        rcases hu s hs with q' | ⟨i, h1, h2, h3⟩ <;> omega
      · intro E' S' a' w' C' hE hu' hclk' hS'
        have hset : ∀ i, (listed.setIfInBounds j true).getD i false = if i = j then true else listed.getD i false := by
          intro i
          simp only [Array.getD_eq_getD_getElem?, Array.getElem?_setIfInBounds]
          by_cases q : i = j
          · subst q; simp [hls, hjl]
          · rw [if_neg (fun r => q r.symm), if_neg q]
        refine ih (listed.setIfInBounds j true) E' a' w' (by simpa using hls) ?_ ?_ ?_ ?_
        · have hlt : ((List.range oa.size).filter fun i => !(listed.setIfInBounds j true).getD i false).length < ((List.range oa.size).filter fun i => !listed.getD i false).length := by
            have e1 : ((List.range oa.size).filter fun i => !(listed.setIfInBounds j true).getD i false) = ((List.range oa.size).filter fun i => !listed.getD i false).filter fun i => decide (i ≠ j) := by
              rw [List.filter_filter]
              apply List.filter_congr
              intro i _
              rw [hset]
              by_cases q : i = j <;> simp [q]
            rw [e1]
            refine List.length_filter_lt_length_iff_exists.2 ⟨j, ?_, by simp⟩
            exact List.mem_filter.2 ⟨List.mem_range.2 hjl, by simp only [hjf]; rfl⟩
          omega
        · intro i hi p hp
          rw [hset] at hi ⊢
          by_cases q : p = j
          · rw [if_pos q]
          · rw [if_neg q]
            by_cases q' : i = j
            · subst q'; exact hpreD p hp
            · rw [if_neg q'] at hi; exact hcl i hi p hp
        · have hins : (foldS (fun i => listed.getD i false) 0 (ais.zip es) S0).app ai.dst e = foldS (fun i => (listed.setIfInBounds j true).getD i false) 0 (ais.zip es) S0 := by
            refine foldS_insert j ai e hjf (by rw [hset, if_pos rfl]) (fun i hi => by rw [hset, if_neg hi]) _ 0 S0 (Nat.zero_le _) ?_ ?_
            · rw [Nat.sub_zero, List.getElem?_zip_eq_some]; exact ⟨hai, he⟩
            · intro m p hm hD hp
              rw [Nat.sub_zero] at hp
              have hne : listed.getD m false ≠ decide (m < j) := by rw [hD]; simp; omega
              obtain ⟨g1, g2⟩ := getz m p hp
              have hapm := hS.apart j m ai p.1 e p.2 hm hai g1 he g2 (fun q => by have := hcl m hD j q; rw [hjf] at this; cases this)
              exact ⟨hapm.s2, hapm.b2, hapm.t2⟩
          rw [← hins, ← hS']
          exact C'
        · intro s hs
          rcases hu' s hs with q | q | q
          · rcases hu s q with q' | ⟨i, h1, h2, h3⟩
            · exact .inl q'
            · exact .inr ⟨i, h1, by rw [hset]; split <;> simp_all, h3⟩
          · exact .inr ⟨j, hjl, by rw [hset, if_pos rfl], q⟩
          · rw [hS'] at q
            have : ((foldS (fun i => listed.getD i false) 0 (ais.zip es) S0).app ai.dst e).clk = (foldS (fun i => listed.getD i false) 0 (ais.zip es) S0).clk := rfl
            omega

end
end Go.Gv
