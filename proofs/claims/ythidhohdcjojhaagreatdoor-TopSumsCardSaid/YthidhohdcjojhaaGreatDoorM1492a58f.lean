/- Texts of this proof, one behind the other. What is proved, and on which conditions, stands ahead of each. -/
import Derived.Test.YthidhohdcjojhaaGreatDoorM13119704

set_option linter.unusedVariables false
set_option linter.unusedSimpArgs false
namespace Go.Gv
open Go.RowKit
theorem foldS_insert {D D' : Nat -> Bool} (j : Nat) (a : AI) (e : Eff) (hD : D j = false) (hD' : D' j = true) (hne : ∀ k, k ≠ j -> D' k = D k) : ∀ (l : List (AI × Eff)) (i : Nat) (S : St), i <= j -> l[j - i]? = some (a, e) ->
   (∀ (k : Nat) (p : AI × Eff), j < k -> D k = true -> l[k - i]? = some p -> (∀ x, a.dst = some x -> p.1.dst ≠ some x) /\ disj (e.wb.map (·.1)) (p.2.wb.map (·.1)) = true /\ disj (e.wt.map (·.1)) (p.2.wt.map (·.1)) = true) ->
   (foldS D i l S).app a.dst e = foldS D' i l S
 | [], i, S, _, h, _ => by simp at h
 | p :: l, i, S, hij, h, hc => by
   by_cases e1 : i = j
   . subst e1
     rw [Nat.sub_self] at h
     simp at h
     subst h
     rw [foldS, foldS, hD, hD']
     simp only [if_true, Bool.false_eq_true, if_false]
     have later : ∀ (l : List (AI × Eff)) (m : Nat) (S : St), i < m -> (∀ (k : Nat) (p : AI × Eff), m <= k -> D k = true -> l[k - m]? = some p -> (∀ x, a.dst = some x -> p.1.dst ≠ some x) /\ disj (e.wb.map (·.1)) (p.2.wb.map (·.1)) = true /\ disj (e.wt.map (·.1)) (p.2.wt.map (·.1)) = true) ->
         (foldS D m l S).app a.dst e = foldS D' m l (S.app a.dst e) := by
       intro l
       induction l with
       | nil => intro m S _ _; rfl
       | cons q l ih =>
         intro m S hm hq
         rw [foldS, foldS, hne m (by omega), ih (m + 1) _ (by omega) (fun k p h1 h2 h3 => hq k p (by omega) h2 (by rw [show k - m = (k - (m + 1)) + 1 by omega]; simpa using h3))]
         cases hDm : D m with
         | false => rfl
         | true =>
           simp only [if_true]
           obtain ⟨c1, c2, c3⟩ := hq m q (Nat.le_refl _) hDm (by simp)
           rw [app_comm S a.dst q.1.dst e q.2 c1 c2 c3]
     exact later l (i + 1) S (by omega) (fun k p h1 h2 h3 => hc k p (by omega) h2 (by rw [show k - i = (k - (i + 1)) + 1 by omega]; simpa using h3))
   . rw [foldS, foldS, hne i e1]
     refine foldS_insert j a e hD hD' hne l (i + 1) _ (by omega) ?_ (fun k p h1 h2 h3 => hc k p h1 h2 (by rw [show k - i = (k - (i + 1)) + 1 by omega]; simpa using h3))
     rw [show j - i = (j - (i + 1)) + 1 by omega] at h
     simpa using h
def edgesOk (pre : List (List Nat)) : Nat -> List Oper -> Bool
 | _, [] => true
 | j, o :: l => (o.after.toList.all fun e => !Region.binds .any e || decide (e.on < j)) &&
     ((pre.getD j []).all fun p => o.after.toList.any fun e => Region.binds .any e && (e.on == p || (pre.getD e.on []).contains p)) && edgesOk pre (j + 1) l
theorem edgesOk_spec {pre : List (List Nat)} : ∀ (l : List Oper) (i : Nat), edgesOk pre i l = true -> ∀ (j : Nat) (o : Oper), l[j]? = some o ->
   (∀ e ∈ o.after, Region.binds .any e = true -> e.on < i + j) /\ ∀ p ∈ pre.getD (i + j) [], ∃ e ∈ o.after, Region.binds .any e = true /\ (e.on = p \/ p ∈ pre.getD e.on [])
 | [], i, _, j, o, ho => by simp at ho
 | o' :: l, i, h, j, o, ho => by
   simp only [edgesOk, Bool.and_eq_true] at h
   obtain ⟨⟨h1, h2⟩, h3⟩ := h
   cases j with
   | zero =>
     simp at ho
     subst ho
     refine ⟨fun e he hb => ?_, fun p hp => ?_⟩
     . have := List.all_eq_true.1 h1 e (by simpa using he)
       simpa [hb] using this
     . have := List.all_eq_true.1 h2 p hp
       simp only [List.any_eq_true, Bool.and_eq_true, Bool.or_eq_true, beq_iff_eq, List.contains_iff_mem] at this
       obtain ⟨e, he, hb, q⟩ := this
       exact ⟨e, by simpa using he, hb, q⟩
   | succ j =>
     have := edgesOk_spec l (i + 1) h3 j o (by simpa using ho)
     rwa [show i + 1 + j = i + (j + 1) by omega] at this
theorem cIs_get {P : Program} {n base : Nat} {hint : List (Nat × Nat)} {oa : Array Oper} : ∀ (l : List Oper) (ais : List AI), cIs P n base hint oa l = some ais -> ais.length = l.length /\ ∀ (j : Nat) (o : Oper) (ai : AI), l[j]? = some o -> ais[j]? = some ai -> cI P n base hint oa o = some ai
 | [], ais, h => by cases h; simp
 | o :: l, ais, h => by
   simp only [cIs, Option.bind_eq_some_iff, Option.map_eq_some_iff] at h
   obtain ⟨ai, h1, ais', h2, rfl⟩ := h
   obtain ⟨e1, e2⟩ := cIs_get l ais' h2
   refine ⟨by simp [e1], fun j o' ai' ho ha => ?_⟩
   cases j with
   | zero => simp at ho ha; subst ho ha; exact h1
   | succ j => exact e2 j o' ai' (by simpa using ho) (by simpa using ha)
section
variable {P : Program} {K0 : Gh} {B : Nat} {W : World} {n : Nat}
theorem step_sound {E : Env} {S : St} {a : Act} {w : World} (C : Conc K0 E B W n S a w) (base : Nat) (hint : List (Nat × Nat)) (oa : Array Oper) (o : Oper) (i : Nat) (ho : oa[i]? = some o) (ai : AI) (hc : cI P n base hint oa o = some ai) (st : Nat) (hst : ¬ E.u st) (hst0 : K0.c0 <= st)
   (hu : ∀ s, E.u s -> s < S.clk) (k : St -> Prop) (h : stepV P st ai S k) (next : Act -> World -> Prop) (Q : Exit -> Act -> World -> Prop)
   (hk : ∀ E' S' a' w', Conc K0 E' B W n S' a' w' -> E.le E' -> (∀ s, E'.u s -> E.u s \/ s = st \/ (S.clk <= s /\ s < S'.clk)) -> S.clk <= S'.clk -> k S' -> next a' w') : wpOp P oa Q i next a w := by
 have hc' := hc
 simp only [cI] at hc'
 split at hc'
 . rename_i hd
   simp only [Option.bind_eq_some_iff, Option.map_eq_some_iff] at hc'
   obtain ⟨g, hg, op, hop, hai⟩ := hc'
   unfold stepV at h
   split at h
   . rename_i b hb
     have hgb : guardV S.t g = some b := by rw [<- hai] at hb; exact hb
     have hw := guard_ok C oa o g hg b hgb
     unfold wpOp
     simp only [ho, hw]
     split at h
     . rename_i hbt
       rw [if_pos hbt]
       exact .inl (runV_sound C base hint oa o ai hc st hst hst0 hu k h next Q hk)
     . rename_i hbt
       rw [if_neg hbt]
       have hdst : ai.dst = o.dst := by rw [<- hai]
       have hC : Conc K0 E B W n (S.put o.dst (.tup [])) (a.put o.dst undef) w := C.next (.refl E) o.dst hd undef (.tup []) (.tup [] #[] rfl (by simp)) _ w rfl (by cases o.dst <;> exact C.H) C.bel (fun _ _ _ => rfl) (fun s hs => .inl hs) (by cases o.dst <;> exact C.ck)
       rw [hdst] at h
       exact hk E _ _ w hC (.refl E) (fun s hs => .inl hs) (by cases o.dst <;> exact Nat.le_refl _) h
   . exact h.elim
 . cases hc'
theorem regV_sound (base : Nat) (hint : List (Nat × Nat)) (oa : Array Oper) (k : St -> Prop) (Q : Exit -> Act -> World -> Prop) (en : Nat)
   (hQ : ∀ E' S' a' w', Conc K0 E' B W n S' a' w' -> (∀ s, E'.u s -> s < S'.clk) -> k S' -> Q .normal a' w') :
   ∀ (rest : List AI) (i st : Nat) (E : Env) (S : St) (a : Act) (w : World), cIs P n base hint oa (oa.toList.drop i) = some rest -> Conc K0 E B W n S a w -> K0.c0 <= st -> (∀ s, E.u s -> (s < st \/ en <= s) /\ s < S.clk) -> st + rest.length <= en -> en <= S.clk ->
     regV P st rest k S -> wpOps P oa Q (List.range' i rest.length) a w
 | [], i, st, E, S, a, w, hc, C, h0, hu, h1, h2, h => hQ E S a w C (fun s hs => (hu s hs).2) h
 | ai :: rest, i, st, E, S, a, w, hc, C, h0, hu, h1, h2, h => by
   simp only [List.length_cons] at h1
   obtain ⟨e1, e2⟩ := cIs_get _ _ hc
   have hil : i < oa.size := by
     have e1' : rest.length + 1 = oa.size - i := by simpa using e1
     omega
   have ho : oa[i]? = some oa[i] := Array.getElem?_eq_getElem hil
   have hdrop : oa.toList.drop i = oa[i] :: oa.toList.drop (i + 1) := by
     rw [List.drop_eq_getElem_cons (by simpa using hil)]; simp
   rw [hdrop] at hc
   simp only [cIs, Option.bind_eq_some_iff, Option.map_eq_some_iff] at hc
   obtain ⟨ai', hai, rest', hrest, heq⟩ := hc
   cases heq
   rw [List.length_cons, List.range'_succ, wpOps_cons]
   refine step_sound C base hint oa oa[i] i ho ai hai st (fun q => by have := (hu st q); omega) h0 (fun s hs => (hu s hs).2) _ h _ Q ?_
   intro E' S' a' w' C' hE hu' hclk hk
   refine regV_sound base hint oa k Q en hQ rest (i + 1) (st + 1) E' S' a' w' hrest C' (by omega) ?_ (by omega) (by omega) hk
   intro s hs
   rcases hu' s hs with q | q | q
   . have := hu s q; omega
   . omega
   . omega
theorem any_sound (base : Nat) (hint : List (Nat × Nat)) (oa : Array Oper) (ais : List AI) (hc : cIs P n base hint oa oa.toList = some ais) (pre : List (List Nat)) (hpre : edgesOk pre 0 oa.toList = true) (st0 : Nat) (es : List Eff) (S0 : St) (k : St -> Prop)
   (hS : Shown P pre st0 ais es S0 k) (hclk : S0.clk = st0 + ais.length) (hst0 : K0.c0 <= st0) (Q : Exit -> Act -> World -> Prop)
   (hQ : ∀ E' S' a' w', Conc K0 E' B W n S' a' w' -> (∀ s, E'.u s -> s < S'.clk) -> k S' -> Q .normal a' w') :
   ∀ (fuel : Nat) (listed : Array Bool) (E : Env) (a : Act) (w : World), listed.size = oa.size -> ((List.range oa.size).filter fun i => !listed.getD i false).length <= fuel ->
     (∀ i, listed.getD i false = true -> ∀ p ∈ pre.getD i [], listed.getD p false = true) -> Conc K0 E B W n (foldS (fun i => listed.getD i false) 0 (ais.zip es) S0) a w ->
     (∀ s, E.u s -> s < st0 \/ ∃ i, i < oa.size /\ listed.getD i false = true /\ s = st0 + i) -> wpAny P .any oa Q fuel listed a w := by
 obtain ⟨el0, eget⟩ := cIs_get _ _ hc
 have el : ais.length = oa.size := by simpa using el0
 have hall : ∀ (listed : Array Bool) (E : Env) (a : Act) (w : World), listed.size = oa.size -> (∀ i, i < oa.size -> listed.getD i false = true) -> Conc K0 E B W n (foldS (fun i => listed.getD i false) 0 (ais.zip es) S0) a w ->
     (∀ s, E.u s -> s < st0 \/ ∃ i, i < oa.size /\ listed.getD i false = true /\ s = st0 + i) -> Region.ready .any oa listed = [] /\ Q .normal a w := by
   intro listed E a w hls hl C hu
   refine ⟨?_, ?_⟩
   . apply List.eq_nil_iff_forall_not_mem.2
     intro j hj
     obtain ⟨h1, o, h2, _⟩ := mem_ready.1 hj
     have hjl : j < oa.size := (Array.getElem?_eq_some_iff.1 h2).1
     have := hl j hjl
     have hjs : j < listed.size := by omega
     simp [hjs] at h1 this
     rw [h1] at this; cases this
   . have hf : foldS (fun i => listed.getD i false) 0 (ais.zip es) S0 = foldS (fun _ => true) 0 (ais.zip es) S0 := foldS_congr _ _ _ (fun i _ hi => hl i (by simp at hi; omega))
     rw [hf] at C
     refine hQ E _ a w C (fun s hs => ?_) hS.fin
     rw [foldS_clk, hclk]
     rcases hu s hs with q | ⟨i, h1, _, h3⟩ <;> omega
 intro fuel
 induction fuel with
 | zero =>
   intro listed E a w hls hf hcl C hu
   have hl : ∀ i, i < oa.size -> listed.getD i false = true := by
     intro i hi
     cases hx : listed.getD i false with
     | true => rfl
     | false =>
       have : i ∈ (List.range oa.size).filter fun i => !listed.getD i false := by simp [hi]; simpa using hx
       have h0 := List.eq_nil_of_length_eq_zero (Nat.le_zero.1 hf)
       rw [h0] at this; cases this
   exact hall listed E a w hls hl C hu
 | succ fuel ih =>
   intro listed E a w hls hf hcl C hu
   have dflt : ∀ j, j < oa.size -> listed.getD j true = listed.getD j false := by
     intro j hj
     have : j < listed.size := by omega
     simp [this]
   refine ⟨fun hr => ?_, fun j hj => ?_⟩
   ·
     refine (hall listed E a w hls ?_ C hu).2
     intro i
     induction i using Nat.strongRecOn with
     | _ i ihi =>
       intro hi
       cases hx : listed.getD i false with
       | true => rfl
       | false =>
         have ho : oa[i]? = some oa[i] := Array.getElem?_eq_getElem hi
         have hsp := edgesOk_spec _ 0 hpre i oa[i] (by simp)
         have hmem : i ∈ Region.ready .any oa listed := mem_ready.2 ⟨by rw [dflt i hi]; exact hx, oa[i], ho, fun e he hb => ihi e.on (by have := hsp.1 e he hb; omega) (by have := hsp.1 e he hb; omega)⟩
         rw [hr] at hmem; cases hmem
   ·
     obtain ⟨hj0, o, ho, hpr⟩ := mem_ready.1 hj
     have hjl : j < oa.size := (Array.getElem?_eq_some_iff.1 ho).1
     have hjf : listed.getD j false = false := by rw [<- dflt j hjl]; exact hj0
     have hsp := edgesOk_spec _ 0 hpre j o (by simpa using ho)
     simp only [Nat.zero_add] at hsp
     have hpreD : ∀ p ∈ pre.getD j [], listed.getD p false = true := by
       intro p hp
       obtain ⟨e, he, hb, q⟩ := hsp.2 p hp
       have hl := hpr e he hb
       rcases q with q | q
       . rw [<- q]; exact hl
       . exact hcl e.on hl p q
     obtain ⟨ai, hai⟩ : ∃ ai, ais[j]? = some ai := ⟨_, List.getElem?_eq_getElem (by omega)⟩
     obtain ⟨e, he⟩ : ∃ e, es[j]? = some e := ⟨_, List.getElem?_eq_getElem (by rw [hS.len]; omega)⟩
     have hcI := eget j o ai (by simpa using ho) hai
     have hout := hS.out j ai e hai he
     have getz : ∀ (m : Nat) (p : AI × Eff), (ais.zip es)[m]? = some p -> ais[m]? = some p.1 /\ es[m]? = some p.2 := by
       intro m p hp
       rw [List.getElem?_zip_eq_some] at hp
       exact hp
     have apartAt : ∀ (m : Nat) (p : AI × Eff), (ais.zip es)[m]? = some p -> m ≠ j -> (listed.getD m false ≠ decide (m < j)) ->
         Apart p.1 ai (fpOf (foldS (fun i => decide (i < m)) 0 (ais.zip es) S0).t p.1 p.2) (fpOf (foldS (fun i => decide (i < j)) 0 (ais.zip es) S0).t ai e) \/
         Apart ai p.1 (fpOf (foldS (fun i => decide (i < j)) 0 (ais.zip es) S0).t ai e) (fpOf (foldS (fun i => decide (i < m)) 0 (ais.zip es) S0).t p.1 p.2) := by
       intro m p hp hne hdiff
       obtain ⟨g1, g2⟩ := getz m p hp
       rcases Nat.lt_or_gt_of_ne hne with hlt | hgt
       . refine .inl (hS.apart m j p.1 ai p.2 e hlt g1 hai g2 he (fun q => ?_))
         rw [hpreD m q] at hdiff
         simp [hlt] at hdiff
       . refine .inr (hS.apart j m ai p.1 e p.2 hgt hai g1 he g2 (fun q => ?_))
         have hm : listed.getD m false = true := by
           cases hx : listed.getD m false with
           | true => rfl
           | false => rw [hx] at hdiff; simp at hdiff; omega
         have := hcl m hm j q
         rw [hjf] at this; cases this
     have hout' : Out P (foldS (fun i => listed.getD i false) 0 (ais.zip es) S0) (st0 + j) ai e := by
       refine hout.congr ?_ ?_ ?_
       . intro x hx
         refine agree_t x _ 0 _ _ rfl (fun m p hp hd => ?_)
         simp only [Nat.zero_add]
         by_cases hm : m = j
         . subst hm; rw [hjf]; simp
         . cases hq : decide (decide (m < j) = listed.getD m false) with
           | true => simpa using hq
           | false =>
             have hne : listed.getD m false ≠ decide (m < j) := by simp only [decide_eq_false_iff_not] at hq; exact fun q => hq q.symm
             rcases apartAt m p hp hm hne with q | q
             . exact absurd hx (q.s1 x hd)
             . exact absurd hx (q.s3 x hd)
       . intro x hx
         refine agree_b x _ 0 _ _ rfl (fun m p hp hd => ?_)
         simp only [Nat.zero_add]
         by_cases hm : m = j
         . subst hm; rw [hjf]; simp
         . cases hq : decide (decide (m < j) = listed.getD m false) with
           | true => simpa using hq
           | false =>
             have hne : listed.getD m false ≠ decide (m < j) := by simp only [decide_eq_false_iff_not] at hq; exact fun q => hq q.symm
             rcases apartAt m p hp hm hne with q | q
             . exact absurd hx (disj_mem q.b1 hd)
             . exact absurd hd (disj_mem q.b3 hx)
       . intro x hx
         refine agree_k x _ 0 _ _ rfl (fun m p hp hd => ?_)
         simp only [Nat.zero_add]
         by_cases hm : m = j
         . subst hm; rw [hjf]; simp
         . cases hq : decide (decide (m < j) = listed.getD m false) with
           | true => simpa using hq
           | false =>
             have hne : listed.getD m false ≠ decide (m < j) := by simp only [decide_eq_false_iff_not] at hq; exact fun q => hq q.symm
             rcases apartAt m p hp hm hne with q | q
             . exact absurd hx (disj_mem q.t1 hd)
             . exact absurd hd (disj_mem q.t3 hx)
     have hclkT : (foldS (fun i => listed.getD i false) 0 (ais.zip es) S0).clk = st0 + ais.length := by rw [foldS_clk, hclk]
     have hstep : stepV P (st0 + j) ai (foldS (fun i => listed.getD i false) 0 (ais.zip es) S0) (fun S' => S' = (foldS (fun i => listed.getD i false) 0 (ais.zip es) S0).app ai.dst e) := by
       unfold Out at hout'
       unfold stepV
       split at hout'
       . rename_i b hb
         simp only [hb]
         split at hout'
         . rename_i hbt
           rw [if_pos hbt]
           unfold runV
           cases hk : ai.k with
           | op ao => rw [hk] at hout'; simp only at hout' ⊢; rw [hout']
           | nq kd neg x => rw [hk] at hout'; simp only at hout' ⊢; rw [hout']
           | call fx l =>
             rw [hk] at hout'
             simp only at hout' ⊢
             refine (hout' _ (fun _ _ => rfl)).weaken ?_
             rintro r S' ⟨rfl, rfl⟩
             cases ai.dst <;> rfl
         . rename_i hbt
           rw [if_neg hbt, hout']
           cases ai.dst <;> rfl
       . exact hout'.elim
     refine step_sound C base hint oa o j ho ai hcI (st0 + j) (fun q => ?_) (Nat.le_trans hst0 (Nat.le_add_right _ _)) (fun s hs => ?_) _ hstep _ Q ?_
     . rcases hu _ q with q' | ⟨i, h1, h2, h3⟩
       . omega
       . have : i = j := by omega
         subst this; rw [hjf] at h2; cases h2
     . rw [hclkT]
       rcases hu s hs with q' | ⟨i, h1, h2, h3⟩ <;> omega
     . intro E' S' a' w' C' hE hu' hclk' hS'
       have hset : ∀ i, (listed.setIfInBounds j true).getD i false = if i = j then true else listed.getD i false := by
         intro i
         simp only [Array.getD_eq_getD_getElem?, Array.getElem?_setIfInBounds]
         by_cases q : i = j
         . subst q; simp [hls, hjl]
         . rw [if_neg (fun r => q r.symm), if_neg q]
       refine ih (listed.setIfInBounds j true) E' a' w' (by simpa using hls) ?_ ?_ ?_ ?_
       . have hlt : ((List.range oa.size).filter fun i => !(listed.setIfInBounds j true).getD i false).length < ((List.range oa.size).filter fun i => !listed.getD i false).length := by
           have e1 : ((List.range oa.size).filter fun i => !(listed.setIfInBounds j true).getD i false) = ((List.range oa.size).filter fun i => !listed.getD i false).filter fun i => decide (i ≠ j) := by
             rw [List.filter_filter]
             apply List.filter_congr
             intro i _
             rw [hset]
             by_cases q : i = j <;> simp [q]
           rw [e1]
           refine List.length_filter_lt_length_iff_exists.2 ⟨j, ?_, by simp⟩
           exact List.mem_filter.2 ⟨List.mem_range.2 hjl, by simp only [hjf]; rfl⟩
         omega
       . intro i hi p hp
         rw [hset] at hi ⊢
         by_cases q : p = j
         . rw [if_pos q]
         . rw [if_neg q]
           by_cases q' : i = j
           . subst q'; exact hpreD p hp
           . rw [if_neg q'] at hi; exact hcl i hi p hp
       . have hins : (foldS (fun i => listed.getD i false) 0 (ais.zip es) S0).app ai.dst e = foldS (fun i => (listed.setIfInBounds j true).getD i false) 0 (ais.zip es) S0 := by
           refine foldS_insert j ai e hjf (by rw [hset, if_pos rfl]) (fun i hi => by rw [hset, if_neg hi]) _ 0 S0 (Nat.zero_le _) ?_ ?_
           . rw [Nat.sub_zero, List.getElem?_zip_eq_some]; exact ⟨hai, he⟩
           . intro m p hm hD hp
             rw [Nat.sub_zero] at hp
             have hne : listed.getD m false ≠ decide (m < j) := by rw [hD]; simp; omega
             obtain ⟨g1, g2⟩ := getz m p hp
             have hapm := hS.apart j m ai p.1 e p.2 hm hai g1 he g2 (fun q => by have := hcl m hD j q; rw [hjf] at this; cases this)
             exact ⟨hapm.s2, hapm.b2, hapm.t2⟩
         rw [<- hins, <- hS']
         exact C'
       . intro s hs
         rcases hu' s hs with q | q | q
         . rcases hu s q with q' | ⟨i, h1, h2, h3⟩
           . exact .inl q'
           . exact .inr ⟨i, h1, by rw [hset]; split <;> simp_all, h3⟩
         . exact .inr ⟨j, hjl, by rw [hset, if_pos rfl], q⟩
         . rw [hS'] at q
           have : ((foldS (fun i => listed.getD i false) 0 (ais.zip es) S0).app ai.dst e).clk = (foldS (fun i => listed.getD i false) 0 (ais.zip es) S0).clk := rfl
           omega
def regI (P : Program) (pre : List (List Nat)) (st : Nat) (ops : List AI) (k : St -> Prop) (S : St) : Prop :=
 ∃ I : (Nat -> Bool) -> St -> Prop, I (fun _ => false) S /\
   (∀ (D : Nat -> Bool) (S' : St) (j : Nat) (ai : AI), ops[j]? = some ai -> D j = false -> (∀ p ∈ pre.getD j [], D p = true) -> (∀ i, D i = true -> ∀ p ∈ pre.getD i [], D p = true) -> I D S' -> stepV P (st + j) ai S' (I (fun i => (i == j) || D i))) /\
   (∀ (D : Nat -> Bool) (S' : St), (∀ j, j < ops.length -> D j = true) -> I D S' -> k S')
theorem anyI_sound (base : Nat) (hint : List (Nat × Nat)) (oa : Array Oper) (ais : List AI) (hc : cIs P n base hint oa oa.toList = some ais) (pre : List (List Nat)) (hpre : edgesOk pre 0 oa.toList = true) (st0 : Nat) (k : St -> Prop) (I : (Nat -> Bool) -> St -> Prop)
   (hs : ∀ (D : Nat -> Bool) (S' : St) (j : Nat) (ai : AI), ais[j]? = some ai -> D j = false -> (∀ p ∈ pre.getD j [], D p = true) -> (∀ i, D i = true -> ∀ p ∈ pre.getD i [], D p = true) -> I D S' -> stepV P (st0 + j) ai S' (I (fun i => (i == j) || D i)))
   (hfin : ∀ (D : Nat -> Bool) (S' : St), (∀ j, j < ais.length -> D j = true) -> I D S' -> k S') (hst0 : K0.c0 <= st0) (Q : Exit -> Act -> World -> Prop)
   (hQ : ∀ E' S' a' w', Conc K0 E' B W n S' a' w' -> (∀ s, E'.u s -> s < S'.clk) -> k S' -> Q .normal a' w') :
   ∀ (fuel : Nat) (listed : Array Bool) (E : Env) (S : St) (a : Act) (w : World), listed.size = oa.size -> ((List.range oa.size).filter fun i => !listed.getD i false).length <= fuel ->
     (∀ i, listed.getD i false = true -> ∀ p ∈ pre.getD i [], listed.getD p false = true) -> Conc K0 E B W n S a w -> I (fun i => listed.getD i false) S ->
     (∀ s, E.u s -> s < S.clk /\ (s < st0 \/ st0 + oa.size <= s \/ ∃ i, i < oa.size /\ listed.getD i false = true /\ s = st0 + i)) -> st0 + oa.size <= S.clk -> wpAny P .any oa Q fuel listed a w := by
 obtain ⟨el0, eget⟩ := cIs_get _ _ hc
 have el : ais.length = oa.size := by simpa using el0
 have hall : ∀ (listed : Array Bool) (E : Env) (S : St) (a : Act) (w : World), listed.size = oa.size -> (∀ i, i < oa.size -> listed.getD i false = true) -> Conc K0 E B W n S a w -> I (fun i => listed.getD i false) S ->
     (∀ s, E.u s -> s < S.clk) -> Region.ready .any oa listed = [] /\ Q .normal a w := by
   intro listed E S a w hls hl C hI hu
   refine ⟨?_, ?_⟩
   . apply List.eq_nil_iff_forall_not_mem.2
     intro j hj
     obtain ⟨h1, o, h2, _⟩ := mem_ready.1 hj
     have hjl : j < oa.size := (Array.getElem?_eq_some_iff.1 h2).1
     have := hl j hjl
     have hjs : j < listed.size := by omega
     simp [hjs] at h1 this
     rw [h1] at this; cases this
   . exact hQ E S a w C hu (hfin _ S (fun j hj => hl j (by omega)) hI)
 intro fuel
 induction fuel with
 | zero =>
   intro listed E S a w hls hf hcl C hI hu hk
   have hl : ∀ i, i < oa.size -> listed.getD i false = true := by
     intro i hi
     cases hx : listed.getD i false with
     | true => rfl
     | false =>
       have : i ∈ (List.range oa.size).filter fun i => !listed.getD i false := by simp [hi]; simpa using hx
       have h0 := List.eq_nil_of_length_eq_zero (Nat.le_zero.1 hf)
       rw [h0] at this; cases this
   exact hall listed E S a w hls hl C hI (fun s q => (hu s q).1)
 | succ fuel ih =>
   intro listed E S a w hls hf hcl C hI hu hk
   have dflt : ∀ j, j < oa.size -> listed.getD j true = listed.getD j false := by
     intro j hj
     have : j < listed.size := by omega
     simp [this]
   refine ⟨fun hr => ?_, fun j hj => ?_⟩
   . refine (hall listed E S a w hls ?_ C hI (fun s q => (hu s q).1)).2
     intro i
     induction i using Nat.strongRecOn with
     | _ i ihi =>
       intro hi
       cases hx : listed.getD i false with
       | true => rfl
       | false =>
         have ho : oa[i]? = some oa[i] := Array.getElem?_eq_getElem hi
         have hsp := edgesOk_spec _ 0 hpre i oa[i] (by simp)
         have hmem : i ∈ Region.ready .any oa listed := mem_ready.2 ⟨by rw [dflt i hi]; exact hx, oa[i], ho, fun e he hb => ihi e.on (by have := hsp.1 e he hb; omega) (by have := hsp.1 e he hb; omega)⟩
         rw [hr] at hmem; cases hmem
   . obtain ⟨hj0, o, ho, hpr⟩ := mem_ready.1 hj
     have hjl : j < oa.size := (Array.getElem?_eq_some_iff.1 ho).1
     have hjf : listed.getD j false = false := by rw [<- dflt j hjl]; exact hj0
     have hsp := edgesOk_spec _ 0 hpre j o (by simpa using ho)
     simp only [Nat.zero_add] at hsp
     have hpreD : ∀ p ∈ pre.getD j [], listed.getD p false = true := by
       intro p hp
       obtain ⟨e, he, hb, q⟩ := hsp.2 p hp
       have hl := hpr e he hb
       rcases q with q | q
       . rw [<- q]; exact hl
       . exact hcl e.on hl p q
     obtain ⟨ai, hai⟩ : ∃ ai, ais[j]? = some ai := ⟨_, List.getElem?_eq_getElem (by omega)⟩
     have hcI := eget j o ai (by simpa using ho) hai
     have hstep := hs (fun i => listed.getD i false) S j ai hai hjf hpreD hcl hI
     refine step_sound C base hint oa o j ho ai hcI (st0 + j) (fun q => ?_) (Nat.le_trans hst0 (Nat.le_add_right _ _)) (fun s hs => (hu s hs).1) _ hstep _ Q ?_
     . rcases (hu _ q).2 with q' | q' | ⟨i, h1, h2, h3⟩
       . omega
       . omega
       . have : i = j := by omega
         subst this; rw [hjf] at h2; cases h2
     . intro E' S' a' w' C' hE hu' hclk' hS'
       have hset : ∀ i, (listed.setIfInBounds j true).getD i false = ((i == j) || listed.getD i false) := by
         intro i
         simp only [Array.getD_eq_getD_getElem?, Array.getElem?_setIfInBounds]
         by_cases q : i = j
         . subst q; simp [hls, hjl]
         . rw [if_neg (fun r => q r.symm)]; simp [q]
       have hsetT : ∀ i, listed.getD i false = true -> (listed.setIfInBounds j true).getD i false = true := by
         intro i hi; rw [hset, hi]; simp
       refine ih (listed.setIfInBounds j true) E' S' a' w' (by simpa using hls) ?_ ?_ C' ?_ ?_ (by omega)
       . have hlt : ((List.range oa.size).filter fun i => !(listed.setIfInBounds j true).getD i false).length < ((List.range oa.size).filter fun i => !listed.getD i false).length := by
           have e1 : ((List.range oa.size).filter fun i => !(listed.setIfInBounds j true).getD i false) = ((List.range oa.size).filter fun i => !listed.getD i false).filter fun i => decide (i ≠ j) := by
             rw [List.filter_filter]
             apply List.filter_congr
             intro i _
             rw [hset]
             by_cases q : i = j <;> simp [q]
           rw [e1]
           refine List.length_filter_lt_length_iff_exists.2 ⟨j, ?_, by simp⟩
           exact List.mem_filter.2 ⟨List.mem_range.2 hjl, by simp only [hjf]; rfl⟩
         omega
       . intro i hi p hp
         rw [hset] at hi
         by_cases q' : i = j
         . subst q'; exact hsetT p (hpreD p hp)
         . refine hsetT p (hcl i ?_ p hp)
           simpa [q'] using hi
       . rw [show (fun i => (listed.setIfInBounds j true).getD i false) = (fun i => (i == j) || listed.getD i false) from funext hset]
         exact hS'
       . intro s hs
         rcases hu' s hs with q | q | q
         . obtain ⟨h0, q⟩ := hu s q
           refine ⟨by omega, ?_⟩
           rcases q with q' | q' | ⟨i, h1, h2, h3⟩
           . exact .inl q'
           . exact .inr (.inl q')
           . exact .inr (.inr ⟨i, h1, hsetT i h2, h3⟩)
         . refine ⟨by omega, .inr (.inr ⟨j, hjl, by rw [hset]; simp, q⟩)⟩
         . exact ⟨q.2, .inr (.inl (by omega))⟩
end
end Go.Gv

namespace Go.Gv
open Go.RowKit
inductive Ex where
 | normal
 | exit (id : Nat)
 | ret
def preOf : List (List Nat) -> List Oper -> List (List Nat)
 | acc, [] => acc
 | acc, o :: l =>
   let direct := (o.after.toList.filter fun e => Region.binds .any e).map (·.on)
   preOf (acc ++ [(direct ++ direct.flatMap fun j => acc.getD j []).eraseDups]) l
def ghOf (hint : List (Nat × Nat)) (id : Nat) (a : AC) : AC := if (hint.lookup (1000000 + id)).isSome = true then .gh a else a
def cCode (P : Program) (n base : Nat) (hint : List (Nat × Nat)) : Code -> Option AC
 | .skip => some .skip
 | .seq a b => (cCode P n base hint a).bind fun a => (cCode P n base hint b).map fun b => .seq a b
 | .cond c a b => (cX n c).bind fun c => (cCode P n base hint a).bind fun a => (cCode P n base hint b).map fun b => .cond c a b
 | .block id a => (cCode P n base hint a).map fun a => .block id a
 | .loop a => (cCode P n base hint a).map .loop
 | .exit id => some (.exit id)
 | .ret => some .ret
 | .region id ops draw => if draw = true then (if edgesOk (preOf [] ops.toList) 0 ops.toList = true /\ P.follows .mixedOrders = true then (cIs P n base hint ops ops.toList).map fun l => ghOf hint id (if (hint.lookup (2000000 + id)).isSome = true then .regi l (preOf [] ops.toList) else .regd l (preOf [] ops.toList)) else none) else (cIs P n base hint ops ops.toList).map fun l => ghOf hint id (.reg l)
 | _ => some .bad
def St.bump (S : St) (k : Nat) : St := { S with clk := S.clk + k }
def V (P : Program) : AC -> (Ex -> St -> Prop) -> St -> Prop
 | .skip, κ, S => κ .normal S
 | .seq a b, κ, S => V P a (fun e S' => match e with
   | .normal => V P b κ S'
   | .exit i => κ (.exit i) S'
   | .ret => κ .ret S') S
 | .cond c a b, κ, S => match c.ev S.t with
   | .bool t => if t = true then V P a κ S else V P b κ S
   | _ => False
 | .block id a, κ, S => V P a (fun e S' => match e with
   | .normal => κ .normal S'
   | .exit i => if i = id then κ .normal S' else κ (.exit i) S'
   | .ret => κ .ret S') S
 | .loop a, κ, S => ∃ (I : Nat -> St -> Prop) (m : Nat), (∃ S1, Wk S S1 /\ I m S1) /\ ∀ m S', I m S' -> V P a (fun e S'' => match e with
   | .normal => ∃ m' S2, m' < m /\ Wk S'' S2 /\ I m' S2
   | .exit i => κ (.exit i) S''
   | .ret => κ .ret S'') S'
 | .exit id, κ, S => κ (.exit id) S
 | .ret, κ, S => κ .ret S
 | .gh a, κ, S => ∃ S', Wk S S' /\ V P a κ S'
 | .bad, κ, S => False
 | .reg ops, κ, S => regV P S.clk ops (κ .normal) (S.bump ops.length)
 | .regd ops pre, κ, S => regDV P pre S.clk 0 ops [] (κ .normal) (S.bump ops.length)
 | .regi ops pre, κ, S => regI P pre S.clk ops (κ .normal) (S.bump ops.length)
section
variable {P : Program} {K0 : Gh} {B : Nat} {W : World} {n : Nat}
def Post (K0 : Gh) (B : Nat) (W : World) (n : Nat) (κ : Ex -> St -> Prop) : Exit -> Act -> World -> Prop := fun e a w =>
 ∃ E S, Conc K0 E B W n S a w /\ (∀ s, E.u s -> s < S.clk) /\ match e with
   | .normal => κ .normal S
   | .exit i => κ (.exit i) S
   | .ret => κ .ret S
   | _ => False
theorem Conc.bump {E : Env} {S : St} {a : Act} {w : World} (C : Conc K0 E B W n S a w) (k : Nat) : Conc K0 E B W n (S.bump k) a w := ⟨C.H, C.bel, C.le, C.df, C.sz, C.tm, C.kb, C.le0, C.u0, Nat.le_trans C.ck (Nat.le_add_right _ _)⟩
theorem Conc.drew {E : Env} {S : St} {a : Act} {w : World} (C : Conc K0 E B W n S a w) : Conc K0 E B W n S a { w with drawn := w.drawn + 1 } :=
 ⟨C.H.change C.H.K (fun _ _ _ => rfl) (fun _ _ _ _ _ => rfl), C.bel.drew, C.le, C.df, C.sz, C.tm, C.kb, C.le0, C.u0, C.ck⟩
theorem V_sound (base : Nat) (hint : List (Nat × Nat)) : ∀ (c : Code) (ac : AC), cCode P n base hint c = some ac -> ∀ (κ : Ex -> St -> Prop) (S : St), V P ac κ S -> ∀ (E : Env) (a : Act) (w : World), Conc K0 E B W n S a w -> (∀ s, E.u s -> s < S.clk) ->
   c.wp P (Post K0 B W n κ) a w := by
 intro c
 induction c with
 | skip => intro ac hc κ S h E a w C hu; cases hc; exact wp_skip ⟨E, S, C, hu, h⟩
 | seq x y ihx ihy =>
   intro ac hc κ S h E a w C hu
   simp only [cCode, Option.bind_eq_some_iff, Option.map_eq_some_iff] at hc
   obtain ⟨ax, hax, ay, hay, rfl⟩ := hc
   refine wp_seq (wp_mono (ihx ax hax _ S h E a w C hu) ?_)
   rintro e a' w' ⟨E', S', C', hu', hk⟩
   cases e with
   | normal => exact ihy ay hay κ S' hk E' a' w' C' hu'
   | exit i => exact ⟨E', S', C', hu', hk⟩
   | ret => exact ⟨E', S', C', hu', hk⟩
   | goto l => exact hk.elim
   | panic ch => exact hk.elim
   | outgrown => exact hk.elim
 | cond x y z ihy ihz =>
   intro ac hc κ S h E a w C hu
   simp only [cCode, Option.bind_eq_some_iff, Option.map_eq_some_iff] at hc
   obtain ⟨cx, hcx, ay, hay, az, haz, rfl⟩ := hc
   simp only [V] at h
   split at h
   . rename_i t ht
     have hr := cX_ok C.tm hcx
     rw [ht] at hr
     refine wp_cond hr.bool_inv ?_
     split at h
     . rename_i hb; subst hb; exact ihy ay hay κ S h E a w C hu
     . rename_i hb
       have hb' : t = false := by simpa using hb
       subst hb'; exact ihz az haz κ S h E a w C hu
   . exact h.elim
 | block id x ih =>
   intro ac hc κ S h E a w C hu
   simp only [cCode, Option.map_eq_some_iff] at hc
   obtain ⟨ax, hax, rfl⟩ := hc
   refine wp_block (wp_mono (ih ax hax _ S h E a w C hu) ?_)
   rintro e a' w' ⟨E', S', C', hu', hk⟩
   cases e with
   | normal => exact ⟨E', S', C', hu', hk⟩
   | exit i =>
     simp only [Exit.inBlock] at hk ⊢
     split at hk
     . rename_i hi; rw [if_pos hi]; exact ⟨E', S', C', hu', hk⟩
     . rename_i hi; rw [if_neg hi]; exact ⟨E', S', C', hu', hk⟩
   | ret => exact ⟨E', S', C', hu', hk⟩
   | goto l => exact hk.elim
   | panic ch => exact hk.elim
   | outgrown => exact hk.elim
 | loop x ih =>
   intro ac hc κ S h E a w C hu
   simp only [cCode, Option.map_eq_some_iff] at hc
   obtain ⟨ax, hax, rfl⟩ := hc
   obtain ⟨I, m, ⟨S1, hk1, h0⟩, hr⟩ := h
   obtain ⟨E1, C1, hu1⟩ := C.wk hu hk1
   refine wp_loop_ghost (fun m a w => ∃ E S, Conc K0 E B W n S a w /\ (∀ s, E.u s -> s < S.clk) /\ I m S) m ⟨E1, S1, C1, hu1, h0⟩ ?_
   rintro m a' w' ⟨E', S', C', hu', hI⟩
   refine wp_mono (ih ax hax _ S' (hr m S' hI) E' a' w' C' hu') ?_
   rintro e a'' w'' ⟨E'', S'', C'', hu'', hk⟩
   cases e with
   | normal => obtain ⟨m', S2, hm, hk2, hI'⟩ := hk; obtain ⟨E2, C2, hu2⟩ := C''.wk hu'' hk2; exact ⟨m', hm, E2, S2, C2, hu2, hI'⟩
   | exit i => exact ⟨E'', S'', C'', hu'', hk⟩
   | ret => exact ⟨E'', S'', C'', hu'', hk⟩
   | goto l => exact hk.elim
   | panic ch => exact hk.elim
   | outgrown => exact hk.elim
 | exit id => intro ac hc κ S h E a w C hu; cases hc; exact wp_exit ⟨E, S, C, hu, h⟩
 | ret => intro ac hc κ S h E a w C hu; cases hc; exact wp_ret ⟨E, S, C, hu, h⟩
 | region id ops draw =>
   intro ac hc κ S h E a w C hu
   simp only [cCode] at hc
   have marks : ∀ (ac' : AC), ghOf hint id ac' = ac -> ∃ E S, Conc K0 E B W n S a w /\ (∀ s, E.u s -> s < S.clk) /\ V P ac' κ S := by
     intro ac' e
     unfold ghOf at e
     split at e
     . subst e
       obtain ⟨S', hk, hv⟩ := h
       obtain ⟨E', C', hu'⟩ := C.wk hu hk
       exact ⟨E', S', C', hu', hv⟩
     . subst e; exact ⟨E, S, C, hu, h⟩
   split at hc
   . rename_i hd; subst hd
     split at hc
     . rename_i hq
       simp only [Option.map_eq_some_iff] at hc
       obtain ⟨l, hl, hac⟩ := hc
       obtain ⟨E, S, C, hu, h⟩ := marks _ hac
       obtain ⟨e1, _⟩ := cIs_get _ _ hl
       have e1' : l.length = ops.size := by simpa using e1
       split at h
       . simp only [V] at h
         obtain ⟨I, i1, i2, i3⟩ := h
         refine wp_region_any hq.2 ?_
         refine anyI_sound base hint ops l hl (preOf [] ops.toList) hq.1 S.clk (κ .normal) I i2 i3 C.ck _ (fun E' S' a' w' C' hu' hk => ⟨E', S', C', hu', hk⟩) ops.size _ E (S.bump l.length) a _ (by simp) ?_ ?_ ((C.bump _).drew) ?_ ?_ (by simp [St.bump, e1'])
         . exact Nat.le_trans (List.length_filter_le _ _) (by simp)
         . intro i hi
           have : (Array.replicate ops.size false).getD i false = false := by
             simp only [Array.getD_eq_getD_getElem?, Array.getElem?_replicate]; split <;> rfl
           rw [this] at hi; cases hi
         . rw [show (fun i => (Array.replicate ops.size false).getD i false) = (fun _ => false) from funext fun i => by simp only [Array.getD_eq_getD_getElem?, Array.getElem?_replicate]; split <;> rfl]
           exact i1
         . intro s hs
           have := hu s hs
           exact ⟨by simp [St.bump]; omega, .inl this⟩
       simp only [V] at h
       obtain ⟨es, hS⟩ := shown_of P (preOf [] ops.toList) S.clk (S.bump l.length) (κ .normal) l [] [] [] (S.bump l.length) rfl rfl rfl (by simp) (by simp) (by simp) (by simpa using h)
       simp only [List.nil_append] at hS
       refine wp_region_any hq.2 ?_
       refine any_sound base hint ops l hl (preOf [] ops.toList) hq.1 S.clk es (S.bump l.length) (κ .normal) hS rfl C.ck _ (fun E' S' a' w' C' hu' hk => ⟨E', S', C', hu', hk⟩) ops.size _ E a _ (by simp) ?_ ?_ ?_ ?_
       . exact Nat.le_trans (List.length_filter_le _ _) (by simp)
       . intro i hi
         have : (Array.replicate ops.size false).getD i false = false := by
           simp only [Array.getD_eq_getD_getElem?, Array.getElem?_replicate]; split <;> rfl
         rw [this] at hi; cases hi
       . rw [foldS_none _ _ _ (fun i _ => by simp only [Array.getD_eq_getD_getElem?, Array.getElem?_replicate]; split <;> rfl)]
         exact (C.bump _).drew
       . intro s hs; exact .inl (hu s hs)
     . cases hc
   . rename_i hd
     have hd' : draw = false := by simpa using hd
     subst hd'
     simp only [Option.map_eq_some_iff] at hc
     obtain ⟨l, hl, hac⟩ := hc
     obtain ⟨E, S, C, hu, h⟩ := marks _ hac
     obtain ⟨e1, _⟩ := cIs_get _ _ hl
     have e1' : l.length = ops.size := by simpa using e1
     simp only [V] at h
     refine wp_region ?_
     rw [List.range_eq_range', <- e1']
     exact regV_sound base hint ops (κ .normal) _ (S.clk + l.length) (fun E' S' a' w' C' hu' hk => ⟨E', S', C', hu', hk⟩) l 0 S.clk E (S.bump l.length) a w (by simpa using hl) (C.bump _) C.ck (fun s hs => ⟨.inl (hu s hs), by have := hu s hs; simp [St.bump]; omega⟩) (Nat.le_refl _) (Nat.le_refl _) h
 | _ => intro ac hc κ S h; cases hc; exact h.elim
inductive ARes where
 | tmp (t : Nat)
 | cell (agg : Option Nat) (t : Nat)
def cRes1 (P : Program) (n : Nat) : ResultVar -> Option ARes
 | .tmp t => if t < n then some (.tmp t) else none
 | .cell t ty => if t < n then (P.underlying ty).bind fun d => if isAggD d = true then (P.info? ty).map fun i => .cell (some i.size) t else some (.cell none t) else none
def cRes (P : Program) (n : Nat) : List ResultVar -> Option (List ARes)
 | [] => some []
 | r :: l => (cRes1 P n r).bind fun r => (cRes P n l).map fun l => r :: l
def resOf1 (S : St) : ARes -> Option AV
 | .tmp t => some (S.t t)
 | .cell none t => ldOne S.blk (S.t t)
 | .cell (some n) t => ldAgg S.blk n (S.t t)
def resL (S : St) : List ARes -> Option (List AV)
 | [] => some []
 | r :: l => (resOf1 S r).bind fun v => (resL S l).map fun l => v :: l
def resOf (S : St) (l : List ARes) : Option AV :=
 (resL S l).map fun vs => match vs with
   | [v] => v
   | vs => .tup vs
def resSem (tmps : Array Value) : ResultVar -> Sem Value
 | .tmp t => pure (tmps.getD t undef)
 | .cell a t => do loadVar t (<- asAddr (tmps.getD a undef))
theorem results_eq (fn : Func) (tmps : Array Value) : results fn tmps = (do
   let vs <- fn.results.mapM (resSem tmps)
   pure (if h : vs.size = 1 then vs[0] else .tuple vs)) := by
 unfold results
 congr 2
theorem res1_ok {E : Env} {S : St} {a : Act} {w : World} (C : Conc K0 E B W n S a w) (r : ResultVar) (ar : ARes) (hc : cRes1 P n r = some ar) (v : AV) (hv : resOf1 S ar = some v) :
   ∃ u, (resSem a.tmps r).run P w = .ok u w /\ Rel E v u := by
 cases r with
 | tmp t =>
   simp only [cRes1] at hc
   split at hc
   . rename_i ht; cases hc; cases hv; exact ⟨_, rfl, C.tm t ht⟩
   . cases hc
 | cell x ty =>
   simp only [cRes1] at hc
   split at hc
   . rename_i hx
     simp only [Option.bind_eq_some_iff] at hc
     obtain ⟨d, hd, hc⟩ := hc
     have hr := C.tm x hx
     have conv : ∀ u, (Instr.loadAt ty (a.tmps.getD x undef)).run P w = .ok u w -> (do loadVar ty (<- asAddr (a.tmps.getD x undef)) : Sem Value).run P w = .ok u w := by
       intro u hu
       generalize a.tmps.getD x undef = v at hu ⊢
       cases v with
       | pointer q =>
         cases q with
         | some ad => simpa [Instr.loadAt, Instr.sureAddr, asAddr] using hu
         | none => simp [Instr.loadAt, Instr.sureAddr] at hu
       | _ => simp [Instr.loadAt, Instr.sureAddr] at hu
     split at hc
     . rename_i hagg
       simp only [Option.map_eq_some_iff] at hc
       obtain ⟨i, hi, rfl⟩ := hc
       obtain ⟨u, hu, hrel⟩ := load_agg (P := P) C.H hr i.size hv ty d i hd (by cases d <;> simp_all [isAggD]) hi rfl
       exact ⟨u, conv u hu, hrel⟩
     . rename_i hagg
       cases hc
       obtain ⟨u, hu, hrel⟩ := load_one (P := P) C.H hr hv ty d hd (by cases d <;> simp_all [isAggD])
       exact ⟨u, conv u hu, hrel⟩
   . cases hc
theorem resL_ok {E : Env} {S : St} {a : Act} {w : World} (C : Conc K0 E B W n S a w) : ∀ (l : List ResultVar) (al : List ARes), cRes P n l = some al -> ∀ vs, resL S al = some vs ->
   ∃ us : List Value, (l.mapM (resSem a.tmps)).run P w = .ok us w /\ us.length = vs.length /\
     ∀ (j : Nat) (y : AV) (u : Value), vs[j]? = some y -> us[j]? = some u -> Rel E y u
 | [], al, hc, vs, hv => by cases hc; cases hv; exact ⟨[], rfl, rfl, by simp⟩
 | r :: l, al, hc, vs, hv => by
   simp only [cRes, Option.bind_eq_some_iff, Option.map_eq_some_iff] at hc
   obtain ⟨ar, har, al', hal, rfl⟩ := hc
   simp only [resL, Option.bind_eq_some_iff, Option.map_eq_some_iff] at hv
   obtain ⟨v, hv1, vs', hvs, rfl⟩ := hv
   obtain ⟨u, hu, hrel⟩ := res1_ok C r ar har v hv1
   obtain ⟨us, h1, h2, h3⟩ := resL_ok C l al' hal vs' hvs
   refine ⟨u :: us, ?_, by simp [h2], fun j y z hy hz => ?_⟩
   . rw [List.mapM_cons, Sem.run_bind, hu]
     simp only [Result.andThen_ok, Sem.run_bind, h1, Sem.run_pure]
   . cases j with
     | zero => simp at hy hz; subst hy hz; exact hrel
     | succ j => exact h3 j y z (by simpa using hy) (by simpa using hz)
theorem results_ok {E : Env} {S : St} {a : Act} {w : World} (C : Conc K0 E B W n S a w) (fn : Func) (al : List ARes) (hc : cRes P n fn.results.toList = some al) (v : AV) (hv : resOf S al = some v) :
   ∃ u, (results fn a.tmps).run P w = .ok u w /\ Rel E v u := by
 simp only [resOf, Option.map_eq_some_iff] at hv
 obtain ⟨vs, hvs, rfl⟩ := hv
 obtain ⟨us, h1, h2, h3⟩ := resL_ok C _ al hc vs hvs
 have hrun : (results fn a.tmps).run P w = .ok (if h : us.toArray.size = 1 then us.toArray[0] else .tuple us.toArray) w := by
   rw [results_eq, Array.mapM_eq_mapM_toList, Sem.run_bind, Sem.run_map, h1]
   simp only [Result.andThen_ok, Sem.run_pure]
 refine ⟨_, hrun, ?_⟩
 by_cases hl : us.length = 1
 . obtain ⟨u, rfl⟩ := List.length_eq_one_iff.1 hl
   obtain ⟨v, rfl⟩ := List.length_eq_one_iff.1 (h2.symm.trans hl)
   simpa using h3 0 v u rfl rfl
 . have hl' : ¬ us.toArray.size = 1 := by simpa using hl
   rw [dif_neg hl']
   have hv : (match vs with | [v] => v | vs => AV.tup vs) = .tup vs := by
     cases vs with
     | nil => rfl
     | cons x l =>
       cases l with
       | nil => simp at h2; omega
       | cons y l => rfl
   rw [hv]
   exact .tup vs us.toArray (by simp [h2]) (fun j y u hy hu => h3 j y u hy (by simpa using hu))
end
end Go.Gv

namespace Go.Gv
open Go.RowKit
def PC (P : Program) (f : FuncId) (args : List AV) (r : AV) : Prop :=
 enters P f /\ ∀ (K : Nat -> Nat -> Option Value) (w : World) (vs : Array Value), (∀ b o v, K b o = some v -> w.cell? ⟨b, o, none⟩ = some v) -> GlB w.heap.size w -> vs.size = args.length ->
   (∀ (j : Nat) (y : AV) (u : Value), args[j]? = some y -> vs[j]? = some u -> Rel (envK K) y u) ->
   Calls P f vs w fun e w' => ∃ v, e = .returned v /\ Below w.heap.size w w' /\ Rel (envK (over K w w')) r v
def co1 (blk : Option (Nat -> Option Blk)) : AV -> AV -> Prop
 | .bool a, .bool b => a = b
 | .int k a, .int k' b => k = k' /\ a = b
 | .str a, .str b => a = b
 | .nilp, .nilp => True
 | .nilf, .nilf => True
 | .nils, .nils => True
 | .nils, .lst _ ys => ys = []
 | .lst s xs, .lst s' ys => s = s' /\ xs = ys
 | .acc _ _ s xs, .lst s' ys => s = s' /\ xs = ys
 | .sl nm st sz off len, .lst s' ys => sz = s' /\ match blk with | some blk => listOf blk sz (.sl nm st sz off len) = some ys | none => False
 | .kp cs o, .kp cs' o' => cs = cs' /\ o = o'
 | .raw v, .raw v' => v = v'
 | .fn f [], .fn g [] => f = g
 | _, _ => False
def coL (R : AV -> AV -> Prop) : List AV -> List AV -> Prop
 | [], [] => True
 | x :: xs, y :: ys => R x y /\ coL R xs ys
 | _, _ => False
def co (blk : Option (Nat -> Option Blk)) : AV -> AV -> Prop
 | .agg xs, .agg ys => coL (co1 blk) xs ys
 | x, y => co1 blk x y
def coT (blk : Option (Nat -> Option Blk)) : AV -> AV -> Prop
 | .tup xs, .tup ys => coL (co blk) xs ys
 | x, y => co blk x y
theorem coL_get {R : AV -> AV -> Prop} : ∀ {xs ys : List AV}, coL R xs ys -> xs.length = ys.length /\ ∀ (j : Nat) (x y : AV), xs[j]? = some x -> ys[j]? = some y -> R x y
 | [], [], _ => ⟨rfl, by simp⟩
 | x :: xs, y :: ys, h => by
   obtain ⟨e1, e2⟩ := coL_get h.2
   refine ⟨by simp [e1], fun j a b ha hb => ?_⟩
   cases j with
   | zero => simp at ha hb; subst ha hb; exact h.1
   | succ j => exact e2 j a b (by simpa using ha) (by simpa using hb)
 | [], _ :: _, h => h.elim
 | _ :: _, [], h => h.elim
section
variable {E : Env} {B : Nat} {h : Hp} {w : World}
structure Knows (E : Env) (B : Nat) (w : World) (L : Nat -> Nat -> Option Value) (rw : Bool) : Prop where
 K : ∀ b o u, E.K b o = some u -> L b o = some u
 rest : rw = true -> ∀ b o u, B <= b -> w.cell? ⟨b, o, none⟩ = some u -> L b o = some u
theorem lst_envK {K : Nat -> Nat -> Option Value} (hK : ∀ b o u, E.K b o = some u -> K b o = some u) {s : Nat} {xs : List AV} {v : Value} (hr : Rel E (.lst s xs) v) : Rel (envK K) (.lst s xs) v :=
 Rel.of_cl1 (E := E) (E' := envK K) hK hr rfl
theorem co1_rel (H : HConc E B h w) {K : Nat -> Nat -> Option Value} {blk : Option (Nat -> Option Blk)} (hk : Knows E B w K blk.isSome) (hb : ∀ b, blk = some b -> b = h.blk) {x y : AV} {v : Value} (hc : co1 blk x y) (hr : Rel E x v) :
   Rel (envK K) y v := by
 have cl : ∀ z, z = x -> z.cl1 = true -> Rel (envK K) z v := fun z e h1 => by subst e; exact Rel.of_cl1 (E := E) (E' := envK K) hk.K hr h1
 cases x with
 | bool a => cases y <;> simp only [co1] at hc; subst hc; exact cl _ rfl rfl
 | int k a => cases y <;> simp only [co1] at hc; obtain ⟨rfl, rfl⟩ := hc; exact cl _ rfl rfl
 | str a => cases y <;> simp only [co1] at hc; subst hc; exact cl _ rfl rfl
 | nilp => cases y <;> simp only [co1] at hc; exact cl _ rfl rfl
 | nilf => cases y <;> simp only [co1] at hc; exact cl _ rfl rfl
 | nils =>
   cases y <;> simp only [co1] at hc
   . exact cl _ rfl rfl
   . subst hc; rw [hr.nils_inv]; exact .lst0 _ _ _
 | lst s xs => cases y <;> simp only [co1] at hc; obtain ⟨rfl, rfl⟩ := hc; exact cl _ rfl rfl
 | acc nm st s xs =>
   cases y <;> simp only [co1] at hc; obtain ⟨rfl, rfl⟩ := hc
   cases hr with
   | acc _ _ _ _ _ _ _ hl => exact lst_envK hk.K hl
 | kp cs o => cases y <;> simp only [co1] at hc; obtain ⟨rfl, rfl⟩ := hc; exact cl _ rfl rfl
 | raw u => cases y <;> simp only [co1] at hc; subst hc; cases hr; exact .raw _
 | fn f caps =>
   cases caps with
   | cons c l => cases y <;> simp only [co1] at hc
   | nil =>
     cases y with
     | fn g caps' =>
       cases caps' with
       | nil => simp only [co1] at hc; subst hc; exact cl _ rfl rfl
       | cons c l => simp only [co1] at hc
     | _ => simp only [co1] at hc
 | sl nm st sz off len =>
   cases y with
   | lst s' ys =>
     simp only [co1] at hc
     obtain ⟨rfl, hc⟩ := hc
     cases blk with
     | none => exact hc.elim
     | some blk =>
       have hblk := hb blk rfl
       subst hblk
       simp only at hc
       have hlo := hc
       simp only [listOf, if_true, Option.bind_eq_some_iff] at hc
       obtain ⟨es, hes, hc⟩ := hc
       split at hc
       . rename_i hq
         obtain ⟨hle, hcl⟩ := hq
         cases hc
         have hbs := getB_some hes
         have hbk := (H.bk nm _ hbs).r (getB_pos hes)
         obtain ⟨cur, e, hg, hsz, hrow⟩ := hbk.row
         simp only at hg hsz hrow
         cases hr with
         | sl _ _ _ _ _ cap a hu hcap hc' ha =>
           have hlen : ((es.drop off).take len).length = len := by simp; omega
           by_cases hl0 : len = 0
           . subst hl0; simp only [List.take_zero]; exact .lst0 _ _ _
           . rw [ha (by omega)]
             have hidx : ∀ (i : Nat) (z : AV), ((es.drop off).take len)[i]? = some z -> i < len /\ es[off + i]? = some z := by
               intro i z hz
               rw [List.getElem?_take] at hz
               split at hz
               . rename_i hi; rw [List.getElem?_drop] at hz; exact ⟨hi, hz⟩
               . cases hz
             have hel : ∀ z ∈ (es.drop off).take len, ElemOk sz z := fun z hz => hbk.el z (List.mem_of_mem_drop (List.mem_of_mem_take hz))
             have cell : ∀ (i : Nat) (z : AV), ((es.drop off).take len)[i]? = some z -> ∀ (j : Nat) (q : AV), z.cells[j]? = some q ->
                 ∃ u, w.cell? ⟨(E.m st).1, (E.m st).2 + off * sz + i * sz + j, none⟩ = some u /\ Rel E q u /\ q.cl1 = true := by
               intro i z hz j q hq
               obtain ⟨hi, hz'⟩ := hidx i z hz
               obtain ⟨u, hu', hrel⟩ := hrow (off + i) z hz' j q hq
               refine ⟨u, ?_, hrel, ?_⟩
               . rw [show (E.m st).2 + off * sz + i * sz + j = (E.m st).2 + (off + i) * sz + j by rw [Nat.add_mul]; omega, cell_of_row w _ _ cur e (0, 0) hg]
                 exact hu'
               . exact List.all_eq_true.1 (List.all_eq_true.1 hcl z (List.mem_of_getElem? hz)) q (List.mem_of_getElem? hq)
             have := Rel.lst (E := envK K) ((es.drop off).take len) (E.m st).1 ((E.m st).2 + off * sz) sz cap (fun i j => (w.cell? ⟨(E.m st).1, (E.m st).2 + off * sz + i * sz + j, none⟩).getD .nilFunc)
               (by rw [hlen]; exact hcap) (fun z hz => (hel z hz).1) ?_ ?_ ?_
             . rw [hlen] at this; exact this
             . intro i j hi hj
               obtain ⟨z, hz⟩ : ∃ z, ((es.drop off).take len)[i]? = some z := ⟨_, List.getElem?_eq_getElem hi⟩
               obtain ⟨q, hq⟩ : ∃ q, z.cells[j]? = some q := ⟨_, List.getElem?_eq_getElem (by rw [(hel z (List.mem_of_getElem? hz)).1]; exact hj)⟩
               obtain ⟨u, hu', _, _⟩ := cell i z hz j q hq
               rw [hu']
               exact hk.rest rfl _ _ _ hbk.base hu'
             . intro i z hz j q hq
               exact (hel z (List.mem_of_getElem? hz)).2 q (List.mem_of_getElem? hq)
             . intro i z hz j q hq
               obtain ⟨u, hu', hrel, h1⟩ := cell i z hz j q hq
               rw [hu']
               exact Rel.of_cl1 (E := E) (E' := (envK K).cl) hk.K hrel h1
       . cases hc
   | _ => simp only [co1] at hc
 | _ => cases y <;> simp only [co1] at hc
theorem co1_one {blk : Option (Nat -> Option Blk)} {x y : AV} (hc : co1 blk x y) (hx : x.one = true) : y.one = true := by
 cases x <;> cases y <;> first
   | rfl
   | (simp only [co1] at hc; done)
   | (simp only [co1] at hc; subst hc; exact hx)
   | (simp [AV.one] at hx; done)
   | (rename_i a b c d; cases b <;> cases d <;> simp_all [co1, AV.one])
theorem co_rel (H : HConc E B h w) {K : Nat -> Nat -> Option Value} {blk : Option (Nat -> Option Blk)} (hk : Knows E B w K blk.isSome) (hb : ∀ b, blk = some b -> b = h.blk) {x y : AV} {v : Value} (hc : co blk x y) (hr : Rel E x v) :
   Rel (envK K) y v := by
 by_cases hx : ∃ xs, x = .agg xs
 . obtain ⟨xs, rfl⟩ := hx
   cases y with
   | agg ys =>
     obtain ⟨e1, e2⟩ := coL_get hc
     cases hr with
     | agg _ vs hs h1 hr =>
       have get : ∀ (j : Nat) (y : AV), ys[j]? = some y -> ∃ x, xs[j]? = some x := fun j y hy => ⟨_, List.getElem?_eq_getElem (by rw [e1]; exact (List.getElem?_eq_some_iff.1 hy).1)⟩
       refine .agg ys vs (by rw [<- e1]; exact hs) ?_ ?_
       . intro j y hy
         obtain ⟨x, hx⟩ := get j y hy
         exact co1_one (e2 j x y hx hy) (h1 j x hx)
       . intro j y u hy hu
         obtain ⟨x, hx⟩ := get j y hy
         exact co1_rel H hk hb (e2 j x y hx hy) (hr j x u hx hu)
   | _ => exact absurd hc (by simp [co, co1])
 . have : co1 blk x y := by
     cases x <;> first | exact hc | exact absurd ⟨_, rfl⟩ hx
   exact co1_rel H hk hb this hr
theorem coT_rel (H : HConc E B h w) {K : Nat -> Nat -> Option Value} {blk : Option (Nat -> Option Blk)} (hk : Knows E B w K blk.isSome) (hb : ∀ b, blk = some b -> b = h.blk) {x y : AV} {v : Value} (hc : coT blk x y) (hr : Rel E x v) :
   Rel (envK K) y v := by
 by_cases hx : ∃ xs, x = .tup xs
 . obtain ⟨xs, rfl⟩ := hx
   cases y with
   | tup ys =>
     obtain ⟨e1, e2⟩ := coL_get hc
     cases hr with
     | tup _ vs hs hr =>
       refine .tup ys vs (by rw [<- e1]; exact hs) ?_
       intro j y u hy hu
       obtain ⟨x, hx⟩ : ∃ x, xs[j]? = some x := ⟨_, List.getElem?_eq_getElem (by rw [e1]; exact (List.getElem?_eq_some_iff.1 hy).1)⟩
       exact co_rel H hk hb (e2 j x y hx hy) (hr j x u hx hu)
   | _ => exact absurd hc (by simp [coT, co, co1])
 . have : co blk x y := by
     cases x <;> first | exact hc | exact absurd ⟨_, rfl⟩ hx
   exact co_rel H hk hb this hr
end
def initS (args : List AV) : St := ⟨fun t => args.getD t (.tup []), fun _ => none, fun _ => none, 0⟩
theorem pc_of_V {P : Program} {f : FuncId} (fn : Func) (hf : P.funcs[f]? = some fn) (hname : fn.name ≠ "runtime.NumGoroutine") (c : Code) (hb : fn.body = some c) (base : Nat) (hint : List (Nat × Nat)) (ac : AC) (hc : cCode P fn.ntmps base hint c = some ac)
   (al : List ARes) (hal : cRes P fn.ntmps fn.results.toList = some al) (args : List AV) (hn : args.length <= fn.ntmps) (r : AV)
   (hV : V P ac (fun e S => match e with
     | .exit _ => False
     | _ => ∃ v, resOf S al = some v /\ coT (some S.blk) v r) (initS args)) : PC P f args r := by
 refine ⟨⟨fn, hf, by simp [hb], hname⟩, fun K w vs hK hG hsz hrel => ?_⟩
 have C : Conc ⟨K, envK K, 0⟩ (envK K) w.heap.size w fn.ntmps (initS args) { tmps := vs ++ Array.replicate (fn.ntmps - vs.size) undef, defers := [] } w := by
   refine ⟨⟨hK, ?_, ?_, ?_, ?_, ?_, ?_, ?_⟩, Below.refl _ _, hG, rfl, ?_, ?_, fun _ _ _ => rfl, .refl _, fun s hs => .inl hs, Nat.le_refl _⟩
   . intro nm b x; cases x
   . intro nm b x; cases x
   . intro nm b x; cases x
   . intro nm b x; cases x
   . intro nm nm' b b' _ x; cases x
   . intro nm nm' b b' x; cases x
   . intro nm nm' b b' _ _ x; cases x
   . simp; omega
   . intro t ht
     show Rel (envK K) (args.getD t (.tup [])) _
     by_cases hta : t < args.length
     . have e1 : args[t]? = some args[t] := List.getElem?_eq_getElem hta
       have e2 : vs[t]? = some vs[t] := Array.getElem?_eq_getElem (by omega)
       have : (vs ++ Array.replicate (fn.ntmps - vs.size) undef).getD t undef = vs[t] := by
         rw [Array.getD_eq_getD_getElem?, Array.getElem?_append_left (by omega), e2]; rfl
       rw [this, List.getD_eq_getElem?_getD, e1]
       exact hrel t _ _ e1 e2
     . have e1 : args.getD t (.tup []) = .tup [] := by rw [List.getD_eq_getElem?_getD, List.getElem?_eq_none (by omega)]; rfl
       have : (vs ++ Array.replicate (fn.ntmps - vs.size) undef).getD t undef = undef := by
         rw [Array.getD_eq_getD_getElem?, Array.getElem?_append_right (by omega), Array.getElem?_replicate]
         split <;> rfl
       rw [this, e1]
       exact .tup [] #[] rfl (by simp)
 refine calls_of_wp hf hb (wp_mono (V_sound base hint c ac hc _ _ hV (envK K) _ w C (fun s hs => hs.elim)) ?_)
 rintro e a' w' ⟨E', S', C', hu', hk⟩
 have fin : (∃ v, resOf S' al = some v /\ coT (some S'.blk) v r) -> a'.defers = [] /\ ∃ v, (results fn a'.tmps).run P w' = .ok v w' /\ (∃ u, Ending.returned v = .returned u /\ Below w.heap.size w w' /\ Rel (envK (over K w w')) r u) := by
   rintro ⟨v, hv, hco⟩
   obtain ⟨u, hu, hru⟩ := results_ok C' fn al hal v hv
   refine ⟨C'.df, u, hu, u, rfl, C'.bel, ?_⟩
   refine coT_rel C'.H (K := over K w w') ⟨?_, ?_⟩ (fun b hb => by cases hb; rfl) hco hru
   . intro b o x hx
     unfold over
     by_cases hlt : b < w.heap.size
     . rw [if_pos hlt]; exact (C'.kb b o hlt).symm.trans hx
     . rw [if_neg hlt]; exact C'.H.K b o x hx
   . intro _ b o x hbo hx
     unfold over
     rw [if_neg (by omega)]; exact hx
 cases e with
 | normal => exact fin hk
 | ret => exact fin hk
 | exit i => exact hk.elim
 | goto l => exact hk.elim
 | panic ch => exact hk.elim
 | outgrown => exact hk.elim
theorem pcall_of_pc {P : Program} {f : FuncId} {cargs : List AV} {r : AV} (h : PC P f cargs r) {caps vals : List AV} (hco : coL (co none) (vals ++ caps) cargs) : PCallP P (.fn f caps) vals r := by
 obtain ⟨hent, hc⟩ := h
 refine ⟨f, caps, rfl, hent, fun E w args hK hG hsz hrel => ?_⟩
 obtain ⟨e1, e2⟩ := coL_get hco
 refine hc E.K w args hK hG (by rw [hsz, e1]) ?_
 intro j y u hy hu
 obtain ⟨x, hx⟩ : ∃ x, (vals ++ caps)[j]? = some x := ⟨_, List.getElem?_eq_getElem (by rw [e1]; exact (List.getElem?_eq_some_iff.1 hy).1)⟩
 have H : HConc E w.heap.size ⟨fun _ => none, fun _ => none⟩ w := ⟨hK, by simp, by simp, by simp, by simp, by simp, by simp, by simp⟩
 exact co_rel H (K := E.K) ⟨fun _ _ _ q => q, by simp⟩ (by simp) (e2 j x y hx hy) (hrel j x u hx hu)
theorem call_of_pc {P : Program} {f : FuncId} {cargs : List AV} {r : AV} (h : PC P f cargs r) {caps vals : List AV} (hco : coL (co none) (vals ++ caps) cargs) {S : St} {k : AV -> St -> Prop} (hk : k r S) : CallP P (.fn f caps) vals S k :=
 CallP_of_PCallP (pcall_of_pc h hco) hk
def flat1 : AV -> Bool
 | .bool _ | .int _ _ | .str _ | .nilp | .nilf | .nils => true
 | _ => false
def flatA : AV -> Bool
 | .agg cs => cs.all flat1
 | v => flat1 v
def flat : AV -> Bool
 | .tup vs => vs.all flatA
 | v => flatA v
theorem flat1_rel {E E' : Env} {x : AV} {v : Value} (h : Rel E x v) (h1 : flat1 x = true) : Rel E' x v := by
 cases x <;> first | (simp [flat1] at h1; done) | (cases h; constructor)
theorem flatA_rel {E E' : Env} {x : AV} {v : Value} (h : Rel E x v) (h1 : flatA x = true) : Rel E' x v := by
 cases x with
 | agg cs =>
   cases h with
   | agg _ vs hs h2 hr =>
     exact .agg cs vs hs h2 (fun j y u hy hu => flat1_rel (hr j y u hy hu) (List.all_eq_true.1 h1 y (List.mem_of_getElem? hy)))
 | _ => exact flat1_rel h h1
theorem flat_rel {E E' : Env} {x : AV} {v : Value} (h : Rel E x v) (h1 : flat x = true) : Rel E' x v := by
 by_cases hx : ∃ cs, x = .tup cs
 . obtain ⟨cs, rfl⟩ := hx
   cases h with
   | tup _ vs hs hr =>
     exact .tup cs vs hs (fun j y u hy hu => flatA_rel (hr j y u hy hu) (List.all_eq_true.1 h1 y (List.mem_of_getElem? hy)))
 . have : flatA x = true := by cases x <;> first | exact h1 | exact absurd ⟨_, rfl⟩ hx
   exact flatA_rel h this
end Go.Gv

namespace Go.Gv
open Go.RowKit
def getF (P : Program) (f base : Nat) (hint : List (Nat × Nat)) : Option (String × Nat × AC × List ARes) :=
 (P.funcs[f]?).bind fun fn => fn.body.bind fun c => (cCode P fn.ntmps base hint c).bind fun ac => (cRes P fn.ntmps fn.results.toList).map fun al => (fn.name, fn.ntmps, ac, al)
def Ends (al : List ARes) (r : AV) : Ex -> St -> Prop
 | .exit _, _ => False
 | _, S => ∃ v, resOf S al = some v /\ coT (some S.blk) v r
theorem pc_of_get {P : Program} {f base : Nat} {hint : List (Nat × Nat)} {name : String} {n : Nat} {ac : AC} {al : List ARes} (h : getF P f base hint = some (name, n, ac, al)) (hname : name ≠ "runtime.NumGoroutine")
   (args : List AV) (hn : args.length <= n) (r : AV) (hV : V P ac (Ends al r) (initS args)) : PC P f args r := by
 unfold getF at h
 rcases hf : P.funcs[f]? with _ | fn
 . rw [hf] at h; simp at h
 rw [hf] at h
 simp only [Option.bind_some] at h
 rcases hb : fn.body with _ | c
 . rw [hb] at h; simp at h
 rw [hb] at h
 simp only [Option.bind_some] at h
 rcases hc : cCode P fn.ntmps base hint c with _ | ac'
 . rw [hc] at h; simp at h
 rw [hc] at h
 simp only [Option.bind_some] at h
 rcases hal : cRes P fn.ntmps fn.results.toList with _ | al'
 . rw [hal] at h; simp at h
 rw [hal] at h
 simp only [Option.map_some, Option.some.injEq, Prod.mk.injEq] at h
 obtain ⟨h1, h2, h3, h4⟩ := h
 subst h1; subst h2; subst h3; subst h4
 refine pc_of_V fn hf hname c hb base hint _ hc _ hal args hn r ?_
 refine Eq.mp (congrArg (fun κ => V P ac' κ (initS args)) ?_) hV
 funext e S
 cases e <;> rfl
theorem upd_lit {α : Type} (f : Nat -> α) (i : Nat) (v : α) (j : Nat) : upd f i v j = if j = i then v else f j := rfl
def Lp (κ : Ex -> St -> Prop) (J : St -> Prop) : Ex -> St -> Prop
 | .normal, S => J S
 | .exit i, S => κ (.exit i) S
 | .ret, S => κ .ret S
theorem CallP.mono {P : Program} {fv : AV} {vals : List AV} {S : St} {k k' : AV -> St -> Prop} (hk : ∀ r S', k r S' -> k' r S') (h : CallP P fv vals S k) : CallP P fv vals S k' := by
 obtain ⟨f, caps, h1, h2, h3⟩ := h
 refine ⟨f, caps, h1, h2, fun E B W w args a1 a2 a3 a4 a5 a6 => (h3 E B W w args a1 a2 a3 a4 a5 a6).mono ?_⟩
 rintro e w' ⟨v, E', r, S', b1, b2, b3, b4, b5, b6, b7, b8, b9, b10⟩
 exact ⟨v, E', r, S', b1, b2, b3, b4, b5, b6, b7, b8, b9, hk r S' b10⟩
theorem runV_mono {P : Program} {st : Nat} {ai : AI} {S : St} {k k' : St -> Prop} (hk : ∀ S', k S' -> k' S') (h : runV P st ai S k) : runV P st ai S k' := by
 unfold runV at h ⊢
 split at h
 . exact CallP.mono (fun r S' q => hk _ q) h
 . rename_i op he
   cases hx : ex S.t S.blk S.tok st op with
   | none => rw [hx] at h; exact h
   | some e => rw [hx] at h; exact hk _ h
 . rename_i kd neg x he
   cases hx : ex S.t S.blk S.tok st (.nilq kd neg x) with
   | none => rw [hx] at h; exact ⟨h.1, fun b => hk _ (h.2 b)⟩
   | some e => rw [hx] at h; exact hk _ h
theorem stepV_mono {P : Program} {st : Nat} {ai : AI} {S : St} {k k' : St -> Prop} (hk : ∀ S', k S' -> k' S') (h : stepV P st ai S k) : stepV P st ai S k' := by
 unfold stepV at h ⊢
 cases hg : guardV S.t ai.g with
 | none => rw [hg] at h; exact h
 | some b =>
   rw [hg] at h
   cases b with
   | true => exact runV_mono hk h
   | false => exact hk _ h
theorem regV_mono {P : Program} : ∀ (l : List AI) {st : Nat} {S : St} {k k' : St -> Prop}, (∀ S', k S' -> k' S') -> regV P st l k S -> regV P st l k' S
 | [], _, S, _, _, hk, h => hk S h
 | i :: l, st, S, _, _, hk, h => stepV_mono (fun S' q => regV_mono l hk q) h
theorem regDV_mono {P : Program} {pre : List (List Nat)} : ∀ (l : List AI) {st j : Nat} {log : List (AI × Fp)} {S : St} {k k' : St -> Prop}, (∀ S', k S' -> k' S') -> regDV P pre st j l log k S -> regDV P pre st j l log k' S
 | [], _, _, _, S, _, _, hk, h => hk S h
 | i :: l, st, j, log, S, _, _, hk, h => by
   obtain ⟨e, h1, h2, h3⟩ := h
   exact ⟨e, h1, h2, regDV_mono l hk h3⟩
theorem V_mono {P : Program} : ∀ (ac : AC) {κ κ' : Ex -> St -> Prop} {S : St}, (∀ e S, κ e S -> κ' e S) -> V P ac κ S -> V P ac κ' S
 | .skip, _, _, S, hk, h => hk _ S h
 | .seq a b, _, _, S, hk, h => by
   refine V_mono a ?_ h
   intro e S' q
   cases e with
   | normal => exact V_mono b hk q
   | exit i => exact hk _ _ q
   | ret => exact hk _ _ q
 | .cond c a b, _, _, S, hk, h => by
   unfold V at h ⊢
   split at h
   . rename_i t he
     cases t with
     | true => exact V_mono a hk h
     | false => exact V_mono b hk h
   . exact h.elim
 | .block id a, _, _, S, hk, h => by
   refine V_mono a ?_ h
   intro e S' q
   cases e with
   | normal => exact hk _ _ q
   | exit i =>
     dsimp only at q ⊢
     split at q
     . rename_i e; rw [if_pos e]; exact hk _ _ q
     . rename_i e; rw [if_neg e]; exact hk _ _ q
   | ret => exact hk _ _ q
 | .loop a, _, _, S, hk, h => by
   obtain ⟨I, m, h0, hs⟩ := h
   refine ⟨I, m, h0, fun m S' hI => V_mono a ?_ (hs m S' hI)⟩
   intro e S'' q
   cases e with
   | normal => exact q
   | exit i => exact hk _ _ q
   | ret => exact hk _ _ q
 | .exit id, _, _, S, hk, h => hk _ S h
 | .ret, _, _, S, hk, h => hk _ S h
 | .bad, _, _, S, hk, h => h.elim
 | .gh a, _, _, S, hk, h => let ⟨S', h1, h2⟩ := h; ⟨S', h1, V_mono a hk h2⟩
 | .reg ops, _, _, S, hk, h => regV_mono ops (fun S' q => hk _ S' q) h
 | .regd ops pre, _, _, S, hk, h => regDV_mono ops (fun S' q => hk _ S' q) h
 | .regi ops pre, _, _, S, hk, h => by
   obtain ⟨I, i1, i2, i3⟩ := h
   exact ⟨I, i1, i2, fun D S' q r => hk _ S' (i3 D S' q r)⟩
theorem V_loopW {P : Program} {a : AC} {κ : Ex -> St -> Prop} {S : St} (I : Nat -> St -> Prop) (m : Nat) (h0 : ∃ S1, Wk S S1 /\ I m S1)
   (hs : ∀ m S', I m S' -> V P a (Lp κ fun S'' => ∃ m' S2, m' < m /\ Wk S'' S2 /\ I m' S2) S') : V P (.loop a) κ S := by
 refine ⟨I, m, h0, fun m S' h => ?_⟩
 refine Eq.mp (congrArg (fun κ => V P a κ S') ?_) (hs m S' h)
 funext e S
 cases e <;> rfl
theorem V_loop {P : Program} {a : AC} {κ : Ex -> St -> Prop} {S : St} (I : Nat -> St -> Prop) (m : Nat) (h0 : I m S)
   (hs : ∀ m S', I m S' -> V P a (Lp κ fun S'' => ∃ m', m' < m /\ I m' S'') S') : V P (.loop a) κ S := by
 refine V_loopW I m ⟨S, .refl S, h0⟩ (fun m S' h => V_mono a ?_ (hs m S' h))
 intro e S'' q
 cases e with
 | normal => obtain ⟨m', h1, h2⟩ := q; exact ⟨m', S'', h1, .refl _, h2⟩
 | exit i => exact q
 | ret => exact q
theorem V_count {P : Program} {a : AC} {κ : Ex -> St -> Prop} {S : St} (J : Nat -> St -> Prop) (n : Nat) (h0 : J 0 S)
   (hs : ∀ i S', i <= n -> J i S' -> V P a (Lp κ fun S'' => i < n /\ J (i + 1) S'') S') : V P (.loop a) κ S := by
 refine V_loop (fun m S => ∃ i, i <= n /\ m = n - i /\ J i S) n ⟨0, by omega, by omega, h0⟩ ?_
 rintro m S' ⟨i, h1, h2, h3⟩
 refine V_mono a ?_ (hs i S' h1 h3)
 intro e S'' q
 cases e with
 | normal => exact ⟨n - (i + 1), by have := q.1; omega, i + 1, q.1, rfl, q.2⟩
 | exit i => exact q
 | ret => exact q
end Go.Gv
