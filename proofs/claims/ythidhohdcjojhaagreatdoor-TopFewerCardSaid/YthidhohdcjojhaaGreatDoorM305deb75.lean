/- Texts of this proof, one behind the other. What is proved, and on which conditions, stands ahead of each. -/
import Derived.Test.YthidhohdcjojhaaGreatDoorProg
import Derived.Test.YthidhohdcjojhaaGreatDoorM29f5b930

set_option linter.unusedVariables false
set_option linter.unusedSimpArgs false
namespace Go.Gv
open Go.Proofs
def visitN_r0 : List AI := [⟨(some 3), none, (.op (.box 263003 6 (.t 1)))⟩]
def visitN_r1 : List AI := [⟨(some 7), none, (.op (.mv (.t 0)))⟩, ⟨(some 8), none, (.op (.load (some 6) (.t 3)))⟩, ⟨(some 9), none, (.call (.c (.fn 59 [])) [(.t 7), (.t 8)])⟩, ⟨(some 10), none, (.op (.not (.t 9)))⟩]
def visitN_r2 : List AI := [⟨(some 11), none, (.op (.mv (.t 0)))⟩, ⟨(some 12), none, (.op (.nilck (.t 11)))⟩, ⟨(some 13), none, (.op (.fld 8 (.t 12)))⟩, ⟨(some 14), none, (.op (.load (some 4) (.t 13)))⟩, ⟨(some 15), none, (.op (.load (some 6) (.t 3)))⟩, ⟨(some 16), none, (.call (.c (.fn 60 [])) [(.t 14), (.t 15)])⟩, ⟨(some 4), none, (.op (.mv (.t 16)))⟩]
def visitN_p2 : List (List Nat) := [[], [0], [1, 0], [2, 1, 0], [], [3, 4, 2, 1, 0], [5, 0, 1, 2, 3, 4]]
def visitN_r3 : List AI := [⟨(some 17), none, (.op (.mv (.t 0)))⟩, ⟨(some 18), none, (.call (.c (.fn 61 [])) [(.t 17)])⟩, ⟨(some 19), none, (.op (.mv (.t 18)))⟩, ⟨(some 20), (some (19, false)), (.op (.mv (.t 4)))⟩, ⟨(some 21), (some (19, false)), (.op (.len (.t 20)))⟩, ⟨(some 22), (some (19, false)), (.op (.ibin .eql (.t 21) (.c (.int .i64 0))))⟩, ⟨(some 23), none, (.op (.pick (.t 19) (.c (.bool true)) (.t 22)))⟩]
def visitN_r4 : List AI := [⟨(some 24), none, (.op (.mv (.t 0)))⟩, ⟨(some 25), none, (.op (.nilck (.t 24)))⟩, ⟨(some 26), none, (.op (.fld 0 (.t 25)))⟩, ⟨(some 27), none, (.op (.fld 1 (.t 26)))⟩, ⟨(some 28), none, (.op (.load none (.t 27)))⟩, ⟨(some 29), none, (.op (.ibin .add (.t 28) (.c (.int .i64 1))))⟩, ⟨(some 30), none, (.op (.nilck (.t 24)))⟩, ⟨(some 31), none, (.op (.fld 0 (.t 30)))⟩, ⟨(some 32), none, (.op (.fld 1 (.t 31)))⟩, ⟨none, none, (.op (.store 1 (.t 32) (.t 29)))⟩]
def visitN_r5 : List AI := [⟨(some 33), none, (.op (.mv (.t 4)))⟩, ⟨(some 34), none, (.op (.len (.t 33)))⟩, ⟨(some 35), none, (.op (.mv (.c (.int .i64 0))))⟩]
def visitN_r6 : List AI := [⟨(some 36), none, (.op (.ibin .lss (.t 35) (.t 34)))⟩]
def visitN_r7 : List AI := [⟨(some 37), none, (.op (.idx 5 (.t 33) (.t 35)))⟩, ⟨(some 38), none, (.op (.load (some 5) (.t 37)))⟩, ⟨(some 6), none, (.op (.new 263006 5 (.agg [(.int .i64 0), (.int .i64 0), (.int .i64 0), (.int .i64 0), (.int .i64 0)])))⟩, ⟨none, none, (.op (.store 5 (.t 6) (.t 38)))⟩]
def visitN_r8 : List AI := [⟨(some 39), none, (.op (.mv (.t 0)))⟩, ⟨(some 40), none, (.op (.mv (.t 0)))⟩, ⟨(some 41), none, (.op (.load (some 6) (.t 3)))⟩, ⟨(some 42), none, (.op (.load (some 5) (.t 6)))⟩, ⟨(some 43), none, (.call (.c (.fn 62 [])) [(.t 40), (.t 41), (.t 42)])⟩, ⟨(some 44), none, (.call (.c (.fn 30 [])) [(.t 39), (.t 43)])⟩]
def visitN_r9 : List AI := [⟨(some 45), none, (.op (.mv (.t 0)))⟩, ⟨(some 46), none, (.call (.c (.fn 63 [])) [(.t 45)])⟩, ⟨(some 47), none, (.op (.not (.t 46)))⟩]
def visitN_r10 : List AI := [⟨(some 48), none, (.op (.ibin .add (.t 35) (.c (.int .i64 1))))⟩, ⟨(some 35), none, (.op (.mv (.t 48)))⟩]
def visitN_l0 : AC := (.seq (.reg visitN_r6) (.seq (.cond (.t 36) .skip (.exit 0)) (.seq (.block 1 (.seq (.reg visitN_r7) (.seq (.reg visitN_r8) (.seq (.reg visitN_r9) (.cond (.t 47) .ret .skip))))) (.reg visitN_r10))))
def visitN_c : AC := (.seq (.reg visitN_r0) (.seq (.seq (.reg visitN_r1) (.cond (.t 10) .ret .skip)) (.seq (.regd visitN_r2 visitN_p2) (.seq (.seq (.reg visitN_r3) (.cond (.t 23) (.seq (.reg visitN_r4) .ret) .skip)) (.seq (.reg visitN_r5) (.block 0 (.loop visitN_l0)))))))
def visitN_res : List ARes := []
set_option maxRecDepth 100000 in
theorem visitN_get : getF Tryz.prog 30 263000 [] = some ("(*gavotte/naive.Search).visit", 49, visitN_c, visitN_res) := by kernel_rfl
attribute [simp] visitN_r0 visitN_r1 visitN_r2 visitN_p2 visitN_r3 visitN_r4 visitN_r5 visitN_r6 visitN_r7 visitN_r8 visitN_r9 visitN_r10 visitN_res
theorem ints_bound : ∀ (n : Nat) (l : List Int), l.Pairwise (· ≠ ·) -> (∀ x ∈ l, 0 <= x /\ x < n) -> l.length <= n
 | 0, l, _, h2 => by
   cases l with
   | nil => simp
   | cons x l => have := h2 x (by simp); omega
 | n + 1, l, h1, h2 => by
   have h3 : (l.filter fun x => !decide (x = (n : Int))).length <= n := by
     refine ints_bound n _ (h1.filter _) (fun x hx => ?_)
     obtain ⟨a, b⟩ := List.mem_filter.1 hx
     have := h2 x a
     simp at b
     omega
   have h4 : ∀ l : List Int, l.Pairwise (· ≠ ·) -> l.length <= (l.filter fun x => !decide (x = (n : Int))).length + 1 := by
     intro l
     induction l with
     | nil => simp
     | cons x l ih =>
       intro h
       rw [List.pairwise_cons] at h
       by_cases hx : x = n
       . have : l.filter (fun x => !decide (x = (n : Int))) = l := by
           rw [List.filter_eq_self]
           intro y hy
           have := h.1 y hy
           simp; omega
         simp [hx, this]
       . simp [hx]
         exact ih h.2
   have := h4 l h1
   omega
def FOk (c : Cfg) (f : List Fnd) : Prop := (f.map Fnd.watch).Pairwise (· ≠ ·) /\ ∀ x ∈ f, 0 <= x.watch /\ x.watch < c.l.length
theorem FOk.len {c : Cfg} {f : List Fnd} (h : FOk c f) : f.length <= c.l.length := by
 have := ints_bound c.l.length (f.map Fnd.watch) h.1 (fun x hx => by obtain ⟨y, hy, rfl⟩ := List.mem_map.1 hx; exact h.2 y hy)
 simpa using this
theorem badL_rng (w : Wld) : ∀ (l : List (List Ins)) (j : Nat), ∀ x ∈ badL w j l, (j : Int) <= x /\ x < (j + l.length : Nat)
 | [], j, x, h => by simp [badL] at h
 | y :: l, j, x, h => by
   unfold badL at h
   split at h
   . rcases List.mem_cons.1 h with q | q
     . simp [q]; omega
     . have := badL_rng w l (j + 1) x q
       simp at *; omega
   . have := badL_rng w l (j + 1) x h
     simp at *; omega
theorem FOk.add {c : Cfg} (s : Sr) : ∀ (l : List Int) (f : List Fnd), (∀ x ∈ l, 0 <= x /\ x < c.l.length) -> FOk c f -> FOk c (addF s l f)
 | [], f, _, h => h
 | i :: l, f, h1, h => by
   unfold addF
   refine FOk.add s l _ (fun x hx => h1 x (by simp [hx])) ?_
   split
   . exact h
   . rename_i hn
     refine ⟨?_, fun x hx => ?_⟩
     . rw [List.map_append, List.pairwise_append]
       refine ⟨h.1, by simp, fun a ha b hb => ?_⟩
       obtain ⟨y, hy, rfl⟩ := List.mem_map.1 ha
       simp at hb
       subst hb
       intro q
       exact hn (List.any_eq_true.2 ⟨y, hy, by simp [q]⟩)
     . rcases List.mem_append.1 hx with q | q
       . exact h.2 x q
       . simp at q; subst q; exact h1 i (by simp)
theorem FOk.enter {c : Cfg} {s : Sr} (w : Wld) (h : FOk c s.found) : FOk c (enterV c s w).found := by
 unfold enterV
 split
 . exact h
 . exact FOk.add s _ _ (fun x hx => by have := badL_rng w c.l 0 x hx; simp at this; exact this) h
theorem enterV_path (c : Cfg) (s : Sr) (w : Wld) : (enterV c s w).path = s.path := by unfold enterV; split <;> rfl
@[irreducible] def LIM : Nat := 10000000000
theorem SrIs.up {c : Cfg} {NS NF NP s : Nat} {sr : Sr} {T : St} (h : SrIs c NS NF NP s sr T) : SrIs c (NS + LIM) (NF + LIM) (NP + LIM) s sr ⟨T.t, (upH LIM T.h).blk, (upH LIM T.h).tok, T.clk⟩ := by
 obtain ⟨vf, vp, hb, hf, hp⟩ := h
 have hb' : T.h.blk NS = some ⟨s, 17, [.agg (SrC c vf vp sr)]⟩ := hb
 refine ⟨rn1 (fun n => n + LIM) vf, rn1 (fun n => n + LIM) vp, ?_, ?_, ?_⟩
 . simp only [upH_blk, hb']
   simp [rnB, rnE, SrC, watchesAv]
 . rcases hf with ⟨rfl, q⟩ | ⟨st, rfl, q⟩
   . exact .inl ⟨rfl, q⟩
   . exact .inr ⟨st, rfl, by simp only [upH_tok]; exact q⟩
 . rcases hp with ⟨rfl, q⟩ | ⟨st, es, rfl, q1, q2, q3⟩
   . exact .inl ⟨rfl, q⟩
   . have q1' : T.h.blk NP = some ⟨st, 5, es⟩ := q1
     refine .inr ⟨st, es.map (rnE fun n => n + LIM), rfl, ?_, by simpa using q2, ?_⟩
     . simp only [upH_blk, q1']
       simp [rnB]
     . rw [<- List.map_take, q3, List.map_map]
       rfl
theorem SrIs.dn {c : Cfg} {NS NF NP s : Nat} {sr : Sr} {S0 : St} {t : Nat -> AV} {clk : Nat} (h : SrIs c (NS + LIM) (NF + LIM) (NP + LIM) s sr S0) : SrIs c NS NF NP s sr ⟨t, (dnH LIM S0.h).blk, (dnH LIM S0.h).tok, clk⟩ := by
 obtain ⟨vf, vp, hb, hf, hp⟩ := h
 have hb' : S0.h.blk (NS + LIM) = some ⟨s, 17, [.agg (SrC c vf vp sr)]⟩ := hb
 refine ⟨rn1 (fun n => n - LIM) vf, rn1 (fun n => n - LIM) vp, ?_, ?_, ?_⟩
 . simp only [dnH_blk, hb']
   simp [rnB, rnE, SrC, watchesAv]
 . rcases hf with ⟨rfl, q⟩ | ⟨st, rfl, q⟩
   . exact .inl ⟨rfl, q⟩
   . exact .inr ⟨st, by simp, by simp only [dnH_tok]; exact q⟩
 . rcases hp with ⟨rfl, q⟩ | ⟨st, es, rfl, q1, q2, q3⟩
   . exact .inl ⟨rfl, q⟩
   . have q1' : S0.h.blk (NP + LIM) = some ⟨st, 5, es⟩ := q1
     refine .inr ⟨st, es.map (rnE fun n => n - LIM), by simp, ?_, by simpa using q2, ?_⟩
     . simp only [dnH_blk, q1']
       simp [rnB]
     . rw [<- List.map_take, q3, List.map_map]
       rfl
theorem dn_frame {T S0 : St} (n : Nat) (h : S0.blk (n + LIM) = (upH LIM T.h).blk (n + LIM)) : (dnH LIM S0.h).blk n = T.blk n := by
 have h' : S0.h.blk (n + LIM) = (upH LIM T.h).blk (n + LIM) := h
 rw [dnH_blk, h', upH_blk, Option.map_map]
 have e : (rnB fun n => n - LIM) ∘ (rnB fun n => n + LIM) = id := funext (rnB_dn_up LIM)
 rw [e]
 simp [St.h]
theorem dn_tok {T S0 : St} (n : Nat) (h : S0.tok (n + LIM) = (upH LIM T.h).tok (n + LIM)) : (dnH LIM S0.h).tok n = T.tok n := by
 have h' : S0.h.tok (n + LIM) = (upH LIM T.h).tok (n + LIM) := h
 rw [dnH_tok, h', upH_tok]
 rfl
structure VOk (c : Cfg) (I : Nat -> Wld -> Prop) : Prop where
 hl : c.l.length <= 1000
 hd : c.depth <= 64
 ok : ∀ f w, I f w -> WOk w /\ (∀ x ∈ c.l, ExOk w x) /\ (allV c.b w).length <= 5000
 ap : ∀ f w, I (f + 1) w -> ∀ e ∈ allV c.b w, PC Tryz.prog 101 [c.p.av, w.av, e.av] (applyV c.p w e).av /\ I f (applyV c.p w e)
theorem loopN_path (c : Cfg) (rec : Sr -> Wld -> Sr) (w : Wld) (hrec : ∀ s w, (rec s w).path = s.path) : ∀ (l : List Evt) (s : Sr), (loopN' rec c w l s).path = s.path
 | [], s => rfl
 | e :: l, s => by
   unfold loopN'
   have h : ({ rec { s with path := s.path ++ [e] } (applyV c.p w e) with path := (rec { s with path := s.path ++ [e] } (applyV c.p w e)).path.dropLast } : Sr).path = s.path := by
     simp [hrec]
   simp only []
   split
   . exact h
   . rw [loopN_path c rec w hrec l _]
     exact h
theorem visitN_path (c : Cfg) : ∀ (f : Nat) (s : Sr) (w : Wld), (visitN c f s w).path = s.path
 | 0, s, w => rfl
 | f + 1, s, w => by
   unfold visitN
   simp only []
   split
   . exact enterV_path c s w
   . split
     . exact enterV_path c s w
     . rw [loopN_path c _ w (visitN_path c f)]
       exact enterV_path c s w
theorem loopN_fok {c : Cfg} (rec : Sr -> Wld -> Sr) (w : Wld) (hrec : ∀ s w, FOk c s.found -> FOk c (rec s w).found) : ∀ (l : List Evt) (s : Sr), FOk c s.found -> FOk c (loopN' rec c w l s).found
 | [], s, h => h
 | e :: l, s, h => by
   unfold loopN'
   simp only []
   split
   . exact hrec _ _ h
   . exact loopN_fok rec w hrec l _ (hrec _ _ h)
theorem visitN_fok {c : Cfg} : ∀ (f : Nat) (s : Sr) (w : Wld), FOk c s.found -> FOk c (visitN c f s w).found
 | 0, s, w, h => h
 | f + 1, s, w, h => by
   unfold visitN
   simp only []
   split
   . exact h.enter w
   . split
     . exact h.enter w
     . exact loopN_fok _ w (visitN_fok f) _ _ (h.enter w)
def VisN (c : Cfg) (I : Nat -> Wld -> Prop) (f : Nat) : Prop := ∀ (w : Wld) (sr : Sr) (NS NF NP s : Nat), LIM <= NS -> LIM <= NF -> LIM <= NP -> NS ≠ NP -> (sr.path.length : Int) + f = c.depth -> I f w -> FOk c sr.found ->
 ∀ (S : St) (k : AV -> St -> Prop) (u : Dep k), SrIs c NS NF NP s sr S ->
   (∀ S', S'.t = S.t -> S.clk <= S'.clk -> (∀ n, LIM <= n -> n ≠ NS -> n ≠ NP -> S'.blk n = S.blk n) -> (∀ n, LIM <= n -> n ≠ NF -> S'.tok n = S.tok n) -> SrIs c NS NF NP s (visitN c (f + 1) sr w) S' -> k (.tup []) S') ->
   CallG Tryz.prog (.fn 30 []) [.ptr NS s 17 0 0, w.av] S k u
theorem visitN_loop (c : Cfg) (I : Nat -> Wld -> Prop) (hV : VOk c I) (f : Nat) (hrec : VisN c I f) (w : Wld) (hI : I (f + 1) w) (NS NF NP s : Nat) (hNS : LIM <= NS) (hNF : LIM <= NF) (hNP : LIM <= NP) (hne : NS ≠ NP) (E : Sr) (hpl : (E.path.length : Int) + (f + 1 : Nat) = c.depth) (hfo : FOk c E.found)
   {S : St} {κ : Ex -> St -> Prop} {u : Dep κ} (g0 : S.t 0 = .ptr NS s 17 0 0) (g33 : S.t 33 = evts (allV c.b w)) (g34 : S.t 34 = iv (allV c.b w).length) (g35 : S.t 35 = iv 0) (g3 : ∃ s3, S.t 3 = .ptr 263003 s3 6 0 0 /\ S.blk 263003 = some ⟨s3, 6, [w.av]⟩) (h : SrIs c NS NF NP s E S)
   (hk : ∀ e S', e = Ex.ret \/ e = Ex.exit 0 -> S.clk <= S'.clk -> (∀ n, LIM <= n -> n ≠ NS -> n ≠ NP -> S'.blk n = S.blk n) -> (∀ n, LIM <= n -> n ≠ NF -> S'.tok n = S.tok n) -> SrIs c NS NF NP s (loopN' (visitN c (f + 1)) c w (allV c.b w) E) S' -> κ e S') : LoopG Tryz.prog visitN_l0 κ S u := by
 obtain ⟨hw, hx, hal⟩ := hV.ok _ w hI
 have hd := hV.hd
 unfold LIM at hNS hNF hNP
 refine loopN (fun i S' => S'.t 0 = .ptr NS s 17 0 0 /\ S'.t 33 = evts (allV c.b w) /\ S'.t 34 = iv (allV c.b w).length /\ S'.t 35 = iv i /\ (∃ s3, S'.t 3 = .ptr 263003 s3 6 0 0 /\ S'.blk 263003 = some ⟨s3, 6, [w.av]⟩) /\ S.clk <= S'.clk /\ (∀ n, LIM <= n -> n ≠ NS -> n ≠ NP -> S'.blk n = S.blk n) /\ (∀ n, LIM <= n -> n ≠ NF -> S'.tok n = S.tok n) /\
   ∃ sr', SrIs c NS NF NP s sr' S' /\ sr'.path = E.path /\ FOk c sr'.found /\ loopN' (visitN c (f + 1)) c w ((allV c.b w).drop i) sr' = loopN' (visitN c (f + 1)) c w (allV c.b w) E) (allV c.b w).length ?_ ?_
 . exact ⟨g0, g33, g34, g35, g3, Nat.le_refl _, fun _ _ _ _ => rfl, fun _ _ _ => rfl, E, h, rfl, hfo, rfl⟩
 . rintro i S' hi ⟨g0, g33, g34, g35, ⟨s3, g3, b3⟩, gc, gb, gt, sr', hsr, hpa, hfo', hlp⟩
   by_cases hlt : i < (allV c.b w).length
   . have ws := wrap_succ i _ hlt (by omega)
     obtain ⟨hap, hI'⟩ := hV.ap f w hI _ (List.getElem_mem hlt)
     obtain ⟨e, he⟩ : ∃ e, e = (allV c.b w)[i] := ⟨_, rfl⟩
     rw [<- he] at hap hI'
     rw [List.drop_eq_getElem_cons hlt, <- he] at hlp
     have m1 : NS ≠ 263006 := by omega
     have m2 : NP ≠ 263006 := by omega
     obtain ⟨vf0, vp0, hb0, hf0, hp0⟩ := hsr
     simp [visitN_l0, g0, g33, g34, g35, g3, b3, hlt, evts, <- he]
     refine down_v c w e hap NS NF NP s hNS hNF hNP hne sr' (by rw [hpa]; omega) ⟨vf0, vp0, by simp [m1, hb0], hf0.at rfl, hp0.at (by simp [m2])⟩ (fun S1 q1 q2 q3 q4 q5 => ?_)
     simp [q1]
     refine callUp LIM ?_
     obtain ⟨sr2, hs2⟩ : ∃ sr2, sr2 = visitN c (f + 1) { sr' with path := sr'.path ++ [e] } (applyV c.p w e) := ⟨_, rfl⟩
     have hp2 : sr2.path = E.path ++ [e] := by rw [hs2, visitN_path, hpa]
     have hf2 : FOk c sr2.found := by rw [hs2]; exact visitN_fok _ _ _ hfo'
     refine hrec (applyV c.p w e) { sr' with path := sr'.path ++ [e] } (NS + LIM) (NF + LIM) (NP + LIM) s (by omega) (by omega) (by omega) (by omega) (by simp [hpa]; omega) hI' hfo' _ _ _ (SrIs.up q5) (fun S2 r1 r2 r3 r4 r5 => ?_)
     rw [<- hs2] at r5
     have h3 := SrIs.dn (t := fun _ => .nils) (clk := 0) r5
     have h4 : ∀ n, n ≠ NS -> n ≠ NP -> (dnH LIM S2.h).blk n = S1.blk n := fun n h1 h2 => dn_frame (T := S1) n (r3 (n + LIM) (by omega) (by omega) (by omega))
     have h5 : ∀ n, n ≠ NF -> (dnH LIM S2.h).tok n = S1.tok n := fun n h1 => dn_tok (T := S1) n (r4 (n + LIM) (by omega) (by omega))
     have q3b := q3 263003 (by unfold Out5; omega) (by omega) (by omega)
     simp [b3] at q3b
     simp [q1, g0, g33, g34, g35, g3]
     refine up_v c NS NF NP s hNS hNP hne sr2 E.path e hp2 (by rw [hp2]; simp; omega) h3 (fun S3 t1 t2 t3 t4 t5 => ?_)
     simp at r2 t1 t3 t4 q2
     have fr1 : ∀ n, LIM <= n -> n ≠ NS -> n ≠ NP -> S3.blk n = S.blk n := fun n h1 h2 h6 => by
       have : n ≠ 263006 := by unfold LIM at h1; omega
       rw [t2 n h2]
       refine (h4 n h2 h6).trans ?_
       rw [q3 n (by unfold Out5; unfold LIM at h1; omega) h2 h6]
       simp [this]
       exact gb n h1 h2 h6
     have fr2 : ∀ n, LIM <= n -> n ≠ NF -> S3.tok n = S.tok n := fun n h1 h2 => by
       rw [t3]
       refine (h5 n h2).trans ?_
       rw [q4 n (by unfold Out5; unfold LIM at h1; omega)]
       exact gt n h1 h2
     have hlp2 : loopN' (visitN c (f + 1)) c w (e :: (allV c.b w).drop (i + 1)) sr' = (if sr2.ended = true then { sr2 with path := E.path } else loopN' (visitN c (f + 1)) c w ((allV c.b w).drop (i + 1)) { sr2 with path := E.path }) := by
       have hd2 : sr2.path.dropLast = E.path := by rw [hp2]; simp
       rw [loopN', <- hs2]
       simp only [hd2]
     rw [hlp2] at hlp
     cases hen : sr2.ended with
     | true =>
       simp [hen] at hlp
       simp [t1]
       rw [<- hlp] at hk
       obtain ⟨vf3, vp3, hb3, hf3, hp3⟩ := t5
       exact hk _ _ (.inl rfl) (by simp; omega) fr1 fr2 ⟨vf3, vp3, by simpa [SrC, hen] using hb3, hf3, hp3⟩
     | false =>
       simp [hen] at hlp
       simp [t1, g0, g33, g34, g35, g3, evts, ws]
       refine ⟨?_, by omega, fr1, fr2, { sr2 with path := E.path }, t5, rfl, hf2, ?_⟩
       . rw [t2 263003 (by omega)]
         exact (h4 263003 (by omega) (by omega)).trans q3b
       . rw [hen]; exact hlp
   . have e1 : i = (allV c.b w).length := by omega
     subst e1
     rw [List.drop_length] at hlp
     have hlp' : sr' = loopN' (visitN c (f + 1)) c w (allV c.b w) E := hlp
     rw [<- hlp'] at hk
     simp [visitN_l0, g0, g33, g34, g35]
     obtain ⟨vf0, vp0, hb0, hf0, hp0⟩ := hsr
     exact hk _ _ (.inr rfl) (by simp only []; omega) gb gt ⟨vf0, vp0, hb0, hf0, hp0⟩
theorem visitN_in (c : Cfg) (I : Nat -> Wld -> Prop) (hV : VOk c I) (f : Nat) (hrec : ∀ f', f' + 1 = f -> VisN c I f') : VisN c I f := by
 intro w sr NS NF NP s hNS hNF hNP hne hpl hI hfo S k u h hk
 obtain ⟨hw, hx, hal⟩ := hV.ok f w hI
 have hd := hV.hd
 have hfl := hfo.len
 have hl := hV.hl
 have l1 := hNS
 have l2 := hNF
 have l3 := hNP
 unfold LIM at hNS hNF hNP
 have n1 : NS ≠ 263003 := by omega
 have n2 : NP ≠ 263003 := by omega
 refine callV visitN_get (by simp) (by simp) ?_
 unfold visitN_c
 simp [Wld.av]
 obtain ⟨vf0, vp0, hb0, hf0, hp0⟩ := h
 refine enter_v c w hw hl hx NS NF NP s hNS hNF hNP hne sr (by omega) (by omega) ⟨vf0, vp0, by simp [n1, hb0], hf0.at rfl, hp0.at (by simp [n2])⟩ (fun S1 q1 q2 q3 q4 q5 => ?_)
 have hfe : FOk c (enterV c sr w).found := hfo.enter w
 have hpe := enterV_path c sr w
 have hvn : visitN c (f + 1) sr w = (let s := enterV c sr w; if s.ended = true then s else let all := allV c.b w; if c.depth <= s.path.length \/ all = [] then { s with runs := w64 (s.runs + 1) } else loopN' (visitN c f) c w all s) := rfl
 have b3 := q3 263003 (by unfold Out4; omega) (by omega)
 simp at b3
 cases hen : (enterV c sr w).ended with
 | true =>
   simp [q1, hen] at hvn ⊢
   rw [hvn] at hk
   refine hk _ rfl (by simp at q2 ⊢; omega) (fun n h1 h2 h3 => ?_) (fun n h1 h2 => ?_) q5
   . have : n ≠ 263003 := by unfold LIM at h1; omega
     rw [q3 n (by unfold Out4; unfold LIM at h1; omega) h2]
     simp [this]
   . rw [q4 n (by unfold Out4; unfold LIM at h1; omega) h2]
 | false =>
   simp only [hen] at hvn
   obtain ⟨vf, vp, hb, hf, hp⟩ := q5
   simp [q1, hen, hb, SrC, b3, n1]
   refine calld (eall_pc c.b w hw) (by simp [Bud.av, Wld.av]) ?_
   simp [q1]
   have hsr1 : SrIs c NS NF NP s (enterV c sr w) S1 := ⟨vf, vp, hb, hf, hp⟩
   refine deep_v c NS NF NP s (enterV c sr w) ⟨vf, vp, hb, hf, hp⟩ (fun S2 p1 p2 p3 p4 => ?_)
   simp at p1 p2 p3 p4
   by_cases hdp : c.depth <= (enterV c sr w).path.length \/ allV c.b w = []
   . have hvn2 : visitN c (f + 1) sr w = { enterV c sr w with runs := w64 ((enterV c sr w).runs + 1) } := by
       rw [hvn]; simp [hdp, hen]
     obtain ⟨vf2, vp2, hb2, hf2, hp2⟩ := hsr1
     have fin : ∀ S3 : St, S3.t = S.t -> S1.clk <= S3.clk -> S3.tok = S1.tok -> S3.blk = upd S1.blk NS (some ⟨s, 17, [.agg (SrC c vf2 vp2 { enterV c sr w with runs := w64 ((enterV c sr w).runs + 1) })]⟩) -> k (.tup []) S3 := by
       intro S3 r1 r2 r3 r4
       rw [hvn2] at hk
       refine hk _ r1 (by simp at q2; omega) (fun n h1 h2 h3 => ?_) (fun n h1 h2 => ?_) ⟨vf2, vp2, by rw [r4]; simp, hf2.at (by rw [r3]), hp2.at (by rw [r4]; simp [hne.symm])⟩
       . have : n ≠ 263003 := by unfold LIM at h1; omega
         rw [r4]
         simp only [upd_ne _ _ _ _ h2]
         rw [q3 n (by unfold Out4; unfold LIM at h1; omega) h2]
         simp [this]
       . rw [r3, q4 n (by unfold Out4; unfold LIM at h1; omega) h2]
     simp only [SrC, hen] at hb2 fin
     by_cases hdp1 : c.depth <= (enterV c sr w).path.length
     . simp [p1, p2, p3, hdp1, hb2]
       exact fin _ rfl (by simp only []; omega) rfl rfl
     . have hdp2 : allV c.b w = [] := by rcases hdp with q | q; exact absurd q hdp1; exact q
       simp [p1, p2, p3, hdp1, hdp2, hb2]
       exact fin _ rfl (by simp only []; omega) rfl rfl
   . have hdp1 : ¬ c.depth <= (enterV c sr w).path.length := fun q => hdp (.inl q)
     have hdp2 : allV c.b w ≠ [] := fun q => hdp (.inr q)
     have hdp3 : (allV c.b w).length ≠ 0 := fun q => hdp2 (List.length_eq_zero_iff.1 q)
     simp [p1, p2, p3, hdp1, hdp3, hdp2]
     obtain ⟨f', rfl⟩ : ∃ f', f = f' + 1 := ⟨f - 1, by rw [hpe] at hdp1; omega⟩
     have hvn2 : visitN c (f' + 1 + 1) sr w = loopN' (visitN c (f' + 1)) c w (allV c.b w) (enterV c sr w) := by
       rw [hvn]; simp [hdp1, hdp2, hen]
     rw [hvn2] at hk
     obtain ⟨vf2, vp2, hb2, hf2, hp2⟩ := hsr1
     refine visitN_loop c I hV f' (hrec f' rfl) w hI NS NF NP s l1 l2 l3 hne (enterV c sr w) (by rw [hpe]; exact hpl) hfe (by simp [p1]) (by simp [evts]) (by simp) (by simp) ⟨_, by simp [p1]; rfl, by simp [p2, b3, Wld.av]⟩ ⟨vf2, vp2, by simp [p2, hb2], hf2.at (by simp [p3]), hp2.at (by simp [p2])⟩ (fun e S' he r2 r3 r4 r5 => ?_)
     simp at r2
     have fin : ∀ S3 : St, S3.t = S.t -> S3.clk = S'.clk -> S3.tok = S'.tok -> S3.blk = S'.blk -> k (.tup []) S3 := by
       intro S3 t1 t2 t3 t4
       obtain ⟨vf3, vp3, hb3, hf3, hp3⟩ := r5
       refine hk _ t1 (by simp at q2; omega) (fun n h1 h2 h3 => ?_) (fun n h1 h2 => ?_) ⟨vf3, vp3, by rw [t4]; exact hb3, hf3.at (by rw [t3]), hp3.at (by rw [t4])⟩
       . have : n ≠ 263003 := by unfold LIM at h1; omega
         rw [t4, r3 n h1 h2 h3]
         simp only [p2]
         rw [q3 n (by unfold Out4; unfold LIM at h1; omega) h2]
         simp [this]
       . rw [t3, r4 n h1 h2]
         simp only [p3]
         rw [q4 n (by unfold Out4; unfold LIM at h1; omega) h2]
     rcases he with rfl | rfl
     . simp
       exact fin _ rfl rfl rfl rfl
     . simp
       exact fin _ rfl rfl rfl rfl
theorem visitN_v (c : Cfg) (I : Nat -> Wld -> Prop) (hV : VOk c I) : ∀ f, VisN c I f
 | 0 => visitN_in c I hV 0 (fun f' h => by omega)
 | f + 1 => visitN_in c I hV (f + 1) (fun f' h => by have : f' = f := by omega
                                                     subst this; exact visitN_v c I hV f')
end Go.Gv

namespace Go.Gv
open Go.Proofs
def visitS_r0 : List AI := [⟨(some 4), none, (.op (.box 262004 6 (.t 1)))⟩]
def visitS_r1 : List AI := [⟨(some 13), none, (.op (.mv (.t 0)))⟩, ⟨(some 14), none, (.op (.nilck (.t 13)))⟩, ⟨(some 15), none, (.op (.fld 0 (.t 14)))⟩, ⟨(some 16), none, (.op (.load none (.t 15)))⟩, ⟨(some 17), none, (.op (.load (some 6) (.t 4)))⟩, ⟨(some 18), none, (.call (.c (.fn 59 [])) [(.t 16), (.t 17)])⟩, ⟨(some 19), none, (.op (.not (.t 18)))⟩]
def visitS_p1 : List (List Nat) := [[], [0], [1, 0], [2, 1, 0], [], [3, 4, 2, 1, 0], [5, 3, 4, 2, 1, 0]]
def visitS_r2 : List AI := [⟨(some 20), none, (.op (.mv (.t 0)))⟩, ⟨(some 21), none, (.op (.nilck (.t 20)))⟩, ⟨(some 22), none, (.op (.fld 3 (.t 21)))⟩, ⟨(some 23), none, (.op (.fld 0 (.t 22)))⟩, ⟨(some 24), none, (.op (.load none (.t 23)))⟩, ⟨(some 25), none, (.op (.load (some 6) (.t 4)))⟩, ⟨(some 26), none, (.call (.t 24) [(.t 25)])⟩]
def visitS_p2 : List (List Nat) := [[], [0], [1, 0], [2, 1, 0], [3, 2, 1, 0], [], [4, 5, 3, 2, 1, 0]]
def visitS_r3 : List AI := [⟨(some 27), none, (.op (.mv (.t 0)))⟩, ⟨(some 28), none, (.op (.nilck (.t 27)))⟩, ⟨(some 29), none, (.op (.fld 0 (.t 28)))⟩, ⟨(some 30), none, (.op (.load none (.t 29)))⟩, ⟨(some 31), none, (.op (.nilck (.t 30)))⟩, ⟨(some 32), none, (.op (.fld 8 (.t 31)))⟩, ⟨(some 33), none, (.op (.load (some 4) (.t 32)))⟩, ⟨(some 34), none, (.op (.load (some 6) (.t 4)))⟩, ⟨(some 35), none, (.call (.c (.fn 60 [])) [(.t 33), (.t 34)])⟩, ⟨(some 6), none, (.op (.mv (.t 35)))⟩]
def visitS_p3 : List (List Nat) := [[], [0], [1, 0], [2, 1, 0], [3, 2, 1, 0], [4, 3, 2, 1, 0], [5, 4, 3, 2, 1, 0], [], [6, 7, 5, 4, 3, 2, 1, 0], [8, 0, 1, 2, 3, 4, 5, 6, 7]]
def visitS_r4 : List AI := [⟨(some 7), none, (.op (.mv (.c .nils)))⟩]
def visitS_r5 : List AI := [⟨(some 36), none, (.op (.mv (.t 6)))⟩, ⟨(some 37), none, (.op (.len (.t 36)))⟩, ⟨(some 38), none, (.op (.mv (.c (.int .i64 0))))⟩]
def visitS_r6 : List AI := [⟨(some 39), none, (.op (.ibin .lss (.t 38) (.t 37)))⟩]
def visitS_r7 : List AI := [⟨(some 40), none, (.op (.idx 5 (.t 36) (.t 38)))⟩, ⟨(some 41), none, (.op (.load (some 5) (.t 40)))⟩, ⟨(some 9), none, (.op (.new 262009 5 (.agg [(.int .i64 0), (.int .i64 0), (.int .i64 0), (.int .i64 0), (.int .i64 0)])))⟩, ⟨none, none, (.op (.store 5 (.t 9) (.t 41)))⟩]
def visitS_r8 : List AI := [⟨(some 42), none, (.op (.mv (.t 2)))⟩, ⟨(some 43), none, (.op (.load (some 5) (.t 9)))⟩, ⟨(some 44), none, (.call (.c (.fn 86 [])) [(.t 42), (.t 43)])⟩, ⟨(some 45), none, (.op (.not (.t 44)))⟩]
def visitS_r9 : List AI := [⟨(some 46), none, (.op (.mv (.t 7)))⟩, ⟨(some 47), none, (.op (.load (some 5) (.t 9)))⟩, ⟨(some 48), none, (.op (.bsl 262048 5 77 1 (.agg [(.int .i64 0), (.int .i64 0), (.int .i64 0), (.int .i64 0), (.int .i64 0)]) [(0, (.t 47))]))⟩, ⟨(some 49), none, (.op (.app 262049 5 77 40 (.t 46) (.t 48)))⟩, ⟨(some 7), none, (.op (.mv (.t 49)))⟩]
def visitS_r10 : List AI := [⟨(some 50), none, (.op (.ibin .add (.t 38) (.c (.int .i64 1))))⟩, ⟨(some 38), none, (.op (.mv (.t 50)))⟩]
def visitS_l0 : AC := (.seq (.reg visitS_r6) (.seq (.cond (.t 39) .skip (.exit 0)) (.seq (.block 1 (.seq (.reg visitS_r7) (.seq (.reg visitS_r8) (.cond (.t 45) (.reg visitS_r9) .skip)))) (.reg visitS_r10))))
def visitS_r11 : List AI := [⟨(some 51), none, (.op (.mv (.t 0)))⟩, ⟨(some 52), none, (.op (.nilck (.t 51)))⟩, ⟨(some 53), none, (.op (.fld 0 (.t 52)))⟩, ⟨(some 54), none, (.op (.load none (.t 53)))⟩, ⟨(some 55), none, (.call (.c (.fn 61 [])) [(.t 54)])⟩, ⟨(some 56), none, (.op (.mv (.t 55)))⟩, ⟨(some 57), (some (56, false)), (.op (.mv (.t 7)))⟩, ⟨(some 58), (some (56, false)), (.op (.len (.t 57)))⟩, ⟨(some 59), (some (56, false)), (.op (.ibin .eql (.t 58) (.c (.int .i64 0))))⟩, ⟨(some 60), none, (.op (.pick (.t 56) (.c (.bool true)) (.t 59)))⟩]
def visitS_r12 : List AI := [⟨(some 61), none, (.op (.mv (.t 0)))⟩, ⟨(some 62), none, (.op (.nilck (.t 61)))⟩, ⟨(some 63), none, (.op (.fld 0 (.t 62)))⟩, ⟨(some 64), none, (.op (.load none (.t 63)))⟩, ⟨(some 65), none, (.op (.nilck (.t 64)))⟩, ⟨(some 66), none, (.op (.fld 0 (.t 65)))⟩, ⟨(some 67), none, (.op (.fld 1 (.t 66)))⟩, ⟨(some 68), none, (.op (.load none (.t 67)))⟩, ⟨(some 69), none, (.op (.ibin .add (.t 68) (.c (.int .i64 1))))⟩, ⟨(some 70), none, (.op (.nilck (.t 64)))⟩, ⟨(some 71), none, (.op (.fld 0 (.t 70)))⟩, ⟨(some 72), none, (.op (.fld 1 (.t 71)))⟩, ⟨none, none, (.op (.store 1 (.t 72) (.t 69)))⟩]
def visitS_r13 : List AI := [⟨(some 73), none, (.op (.mv (.t 0)))⟩, ⟨(some 74), none, (.op (.nilck (.t 73)))⟩, ⟨(some 75), none, (.op (.fld 0 (.t 74)))⟩, ⟨(some 76), none, (.op (.load none (.t 75)))⟩, ⟨(some 77), none, (.call (.c (.fn 61 [])) [(.t 76)])⟩, ⟨(some 78), none, (.op (.not (.t 77)))⟩, ⟨(some 79), none, (.op (.mv (.t 78)))⟩, ⟨(some 80), (some (79, true)), (.op (.mv (.t 6)))⟩, ⟨(some 81), (some (79, true)), (.op (.len (.t 80)))⟩, ⟨(some 82), (some (79, true)), (.op (.ibin .gtr (.t 81) (.c (.int .i64 0))))⟩, ⟨(some 83), none, (.op (.pick (.t 79) (.t 82) (.c (.bool false))))⟩]
def visitS_r14 : List AI := [⟨(some 84), none, (.op (.mv (.t 0)))⟩, ⟨(some 85), none, (.op (.nilck (.t 84)))⟩, ⟨(some 86), none, (.op (.fld 1 (.t 85)))⟩, ⟨(some 87), none, (.op (.fld 1 (.t 86)))⟩, ⟨(some 88), none, (.op (.load none (.t 87)))⟩, ⟨(some 89), none, (.op (.ibin .add (.t 88) (.c (.int .i64 1))))⟩, ⟨(some 90), none, (.op (.nilck (.t 84)))⟩, ⟨(some 91), none, (.op (.fld 1 (.t 90)))⟩, ⟨(some 92), none, (.op (.fld 1 (.t 91)))⟩, ⟨none, none, (.op (.store 1 (.t 92) (.t 89)))⟩]
def visitS_r15 : List AI := [⟨(some 93), none, (.op (.mv (.t 0)))⟩, ⟨(some 94), none, (.op (.nilck (.t 93)))⟩, ⟨(some 95), none, (.op (.fld 1 (.t 94)))⟩, ⟨(some 96), none, (.op (.fld 0 (.t 95)))⟩, ⟨(some 97), none, (.op (.load none (.t 96)))⟩, ⟨(some 98), none, (.op (.mv (.t 6)))⟩, ⟨(some 99), none, (.op (.len (.t 98)))⟩, ⟨(some 100), none, (.op (.ibin .add (.t 97) (.t 99)))⟩, ⟨(some 101), none, (.op (.nilck (.t 93)))⟩, ⟨(some 102), none, (.op (.fld 1 (.t 101)))⟩, ⟨(some 103), none, (.op (.fld 0 (.t 102)))⟩, ⟨none, none, (.op (.store 1 (.t 103) (.t 100)))⟩]
def visitS_r16 : List AI := [⟨(some 104), none, (.op (.mv (.t 0)))⟩, ⟨(some 105), none, (.op (.nilck (.t 104)))⟩, ⟨(some 106), none, (.op (.fld 1 (.t 105)))⟩, ⟨(some 107), none, (.op (.fld 0 (.t 106)))⟩, ⟨(some 108), none, (.op (.load none (.t 107)))⟩, ⟨(some 109), none, (.op (.mv (.t 6)))⟩, ⟨(some 110), none, (.op (.len (.t 109)))⟩, ⟨(some 111), none, (.op (.mv (.t 7)))⟩, ⟨(some 112), none, (.op (.len (.t 111)))⟩, ⟨(some 113), none, (.op (.ibin .sub (.t 110) (.t 112)))⟩, ⟨(some 114), none, (.op (.ibin .add (.t 108) (.t 113)))⟩, ⟨(some 115), none, (.op (.nilck (.t 104)))⟩, ⟨(some 116), none, (.op (.fld 1 (.t 115)))⟩, ⟨(some 117), none, (.op (.fld 0 (.t 116)))⟩, ⟨none, none, (.op (.store 1 (.t 117) (.t 114)))⟩]
def visitS_r17 : List AI := [⟨(some 118), none, (.op (.mv (.t 7)))⟩, ⟨(some 119), none, (.op (.len (.t 118)))⟩, ⟨(some 120), none, (.op (.mv (.c (.int .i64 0))))⟩]
def visitS_r18 : List AI := [⟨(some 121), none, (.op (.ibin .lss (.t 120) (.t 119)))⟩]
def visitS_r19 : List AI := [⟨(some 122), none, (.op (.mv (.t 120)))⟩, ⟨(some 123), none, (.op (.idx 5 (.t 118) (.t 120)))⟩, ⟨(some 124), none, (.op (.load (some 5) (.t 123)))⟩, ⟨(some 11), none, (.op (.new 262011 5 (.agg [(.int .i64 0), (.int .i64 0), (.int .i64 0), (.int .i64 0), (.int .i64 0)])))⟩, ⟨(some 10), none, (.op (.mv (.t 122)))⟩, ⟨none, none, (.op (.store 5 (.t 11) (.t 124)))⟩]
def visitS_r20 : List AI := [⟨(some 125), none, (.op (.mv (.t 0)))⟩, ⟨(some 126), none, (.op (.nilck (.t 125)))⟩, ⟨(some 127), none, (.op (.fld 0 (.t 126)))⟩, ⟨(some 128), none, (.op (.load none (.t 127)))⟩, ⟨(some 129), none, (.op (.nilck (.t 128)))⟩, ⟨(some 130), none, (.op (.fld 4 (.t 129)))⟩, ⟨(some 131), none, (.op (.load (some 4) (.t 130)))⟩, ⟨(some 132), none, (.op (.load (some 6) (.t 4)))⟩, ⟨(some 133), none, (.op (.mv (.t 2)))⟩, ⟨(some 134), none, (.op (.mv (.t 7)))⟩, ⟨(some 135), none, (.op (.mv (.t 10)))⟩, ⟨(some 136), none, (.op (.slice (some 5) (.t 134) none (some (.t 135))))⟩, ⟨(some 137), none, (.op (.bsl 262137 1 41 2 .nils [(0, (.t 133)), (1, (.t 136))]))⟩, ⟨(some 138), none, (.call (.c (.fn 88 [])) [(.t 137)])⟩, ⟨(some 139), none, (.op (.load (some 5) (.t 11)))⟩, ⟨(some 140), none, (.call (.c (.fn 87 [])) [(.t 131), (.t 132), (.t 138), (.t 139)])⟩, ⟨(some 12), none, (.op (.mv (.t 140)))⟩]
def visitS_p20 : List (List Nat) := [[], [0], [1, 0], [2, 1, 0], [3, 2, 1, 0], [4, 3, 2, 1, 0], [5, 4, 3, 2, 1, 0], [], [], [], [], [9, 10], [8, 11, 9, 10], [12, 8, 11, 9, 10], [], [6, 7, 13, 14, 5, 4, 3, 2, 1, 0, 12, 8, 11, 9, 10], [15, 0, 1, 2, 3, 4, 5, 6, 7, 8, 9, 10, 11, 12, 13, 14]]
def visitS_r21 : List AI := [⟨(some 141), none, (.op (.mv (.t 0)))⟩, ⟨(some 142), none, (.op (.nilck (.t 141)))⟩, ⟨(some 143), none, (.op (.fld 3 (.t 142)))⟩, ⟨(some 144), none, (.op (.fld 1 (.t 143)))⟩, ⟨(some 145), none, (.op (.load none (.t 144)))⟩, ⟨(some 146), none, (.op (.load (some 5) (.t 11)))⟩, ⟨(some 147), none, (.op (.mv (.t 0)))⟩, ⟨(some 148), none, (.op (.nilck (.t 147)))⟩, ⟨(some 149), none, (.op (.fld 0 (.t 148)))⟩, ⟨(some 150), none, (.op (.load none (.t 149)))⟩, ⟨(some 151), none, (.op (.nilck (.t 150)))⟩, ⟨(some 152), none, (.op (.fld 14 (.t 151)))⟩, ⟨(some 153), none, (.op (.load none (.t 152)))⟩, ⟨(some 154), none, (.op (.len (.t 153)))⟩, ⟨(some 155), none, (.op (.ibin .add (.t 154) (.c (.int .i64 1))))⟩, ⟨(some 156), none, (.call (.t 145) [(.t 146), (.t 155)])⟩]
def visitS_p21 : List (List Nat) := [[], [0], [1, 0], [2, 1, 0], [3, 2, 1, 0], [], [], [6], [7, 6], [8, 7, 6], [9, 8, 7, 6], [10, 9, 8, 7, 6], [11, 10, 9, 8, 7, 6], [12, 11, 10, 9, 8, 7, 6], [13, 12, 11, 10, 9, 8, 7, 6], [4, 5, 14, 3, 2, 1, 0, 13, 12, 11, 10, 9, 8, 7, 6]]
def visitS_r22 : List AI := [⟨(some 157), none, (.op (.mv (.t 0)))⟩, ⟨(some 158), none, (.op (.mv (.t 0)))⟩, ⟨(some 159), none, (.op (.nilck (.t 158)))⟩, ⟨(some 160), none, (.op (.fld 0 (.t 159)))⟩, ⟨(some 161), none, (.op (.load none (.t 160)))⟩, ⟨(some 162), none, (.op (.load (some 6) (.t 4)))⟩, ⟨(some 163), none, (.op (.load (some 5) (.t 11)))⟩, ⟨(some 164), none, (.call (.c (.fn 62 [])) [(.t 161), (.t 162), (.t 163)])⟩, ⟨(some 165), none, (.op (.mv (.t 12)))⟩, ⟨(some 166), none, (.call (.c (.fn 54 [])) [(.t 157), (.t 164), (.t 165)])⟩]
def visitS_p22 : List (List Nat) := [[], [], [1], [2, 1], [3, 2, 1], [], [], [4, 5, 6, 3, 2, 1], [], [0, 7, 8, 4, 5, 6, 3, 2, 1]]
def visitS_r23 : List AI := [⟨(some 167), none, (.op (.mv (.t 0)))⟩, ⟨(some 168), none, (.op (.nilck (.t 167)))⟩, ⟨(some 169), none, (.op (.fld 0 (.t 168)))⟩, ⟨(some 170), none, (.op (.load none (.t 169)))⟩, ⟨(some 171), none, (.call (.c (.fn 63 [])) [(.t 170)])⟩, ⟨(some 172), none, (.op (.not (.t 171)))⟩]
def visitS_r24 : List AI := [⟨(some 173), none, (.op (.ibin .add (.t 120) (.c (.int .i64 1))))⟩, ⟨(some 120), none, (.op (.mv (.t 173)))⟩]
def visitS_l1 : AC := (.seq (.reg visitS_r18) (.seq (.cond (.t 121) .skip (.exit 2)) (.seq (.block 3 (.seq (.reg visitS_r19) (.seq (.regd visitS_r20 visitS_p20) (.seq (.regd visitS_r21 visitS_p21) (.seq (.regi visitS_r22 visitS_p22) (.seq (.reg visitS_r23) (.cond (.t 172) .ret .skip))))))) (.reg visitS_r24))))
def visitS_c : AC := (.seq (.reg visitS_r0) (.seq (.seq (.regi visitS_r1 visitS_p1) (.cond (.t 19) .ret .skip)) (.seq (.regd visitS_r2 visitS_p2) (.seq (.regd visitS_r3 visitS_p3) (.seq (.reg visitS_r4) (.seq (.seq (.reg visitS_r5) (.block 0 (.loop visitS_l0))) (.seq (.seq (.reg visitS_r11) (.cond (.t 60) (.seq (.reg visitS_r12) (.seq (.seq (.reg visitS_r13) (.cond (.t 83) (.seq (.reg visitS_r14) (.reg visitS_r15)) .skip)) .ret)) .skip)) (.seq (.reg visitS_r16) (.seq (.reg visitS_r17) (.block 2 (.loop visitS_l1)))))))))))
def visitS_res : List ARes := []
set_option maxRecDepth 100000 in
theorem visitS_get : getF Tryz.prog 54 262000 [(2000001, 1), (2000022, 1)] = some ("(*gavotte/sleep.search).visit", 174, visitS_c, visitS_res) := by kernel_rfl
def eye1_r0 : List AI := [⟨(some 1), none, (.op (.box 264001 6 (.t 0)))⟩]
def eye1_c : AC := (.reg eye1_r0)
def eye1_res : List ARes := []
set_option maxRecDepth 100000 in
theorem eye1_get : getF Tryz.prog 27 264000 [] = some ("gavotte/sleep.Explore$1", 2, eye1_c, eye1_res) := by kernel_rfl
def eye2_r0 : List AI := [⟨(some 2), none, (.op (.box 265002 5 (.t 0)))⟩]
def eye2_c : AC := (.reg eye2_r0)
def eye2_res : List ARes := []
set_option maxRecDepth 100000 in
theorem eye2_get : getF Tryz.prog 28 265000 [] = some ("gavotte/sleep.Explore$2", 4, eye2_c, eye2_res) := by kernel_rfl
attribute [simp] visitS_r0 visitS_r1 visitS_p1 visitS_r2 visitS_p2 visitS_r3 visitS_p3 visitS_r4 visitS_r5 visitS_r6 visitS_r7 visitS_r8 visitS_r9 visitS_r10 visitS_r11 visitS_r12 visitS_r13 visitS_r14 visitS_r15 visitS_r16 visitS_r17 visitS_r18 visitS_r19 visitS_r20 visitS_p20 visitS_r21 visitS_p21 visitS_r22 visitS_p22 visitS_r23 visitS_r24 visitS_res eye1_r0 eye1_res eye2_r0 eye2_res
theorem eye1_pc (w : Wld) : PC Tryz.prog 27 [w.av] (.tup []) := by
 refine pc_of_get eye1_get (by simp) _ (by simp) _ ?_
 unfold eye1_c
 simp [Wld.av]
theorem eye2_pc (e : Evt) (n : Int) : PC Tryz.prog 28 [e.av, iv n] (.tup []) := by
 refine pc_of_get eye2_get (by simp) _ (by simp) _ ?_
 unfold eye2_c
 simp [Evt.av]
def awakeV (all sl : List Evt) : List Evt := all.filter fun e => !sl.contains e
theorem awakeV_take (all sl : List Evt) (i : Nat) (h : i < all.length) : awakeV (all.take (i + 1)) sl = if sl.contains all[i] = true then awakeV (all.take i) sl else awakeV (all.take i) sl ++ [all[i]] := by
 unfold awakeV
 rw [List.take_succ_eq_append_getElem h, List.filter_append]
 cases hc : sl.contains all[i] <;> simp at hc <;> simp [hc]
theorem visitS_aw (all sl : List Evt) (ha : all.length <= 10000) (hs : sl.length <= 500000) {S : St} {κ : Ex -> St -> Prop} {u : Dep κ} (g2 : S.t 2 = evts sl) (g36 : S.t 36 = evts all) (g37 : S.t 37 = iv all.length) (g38 : S.t 38 = iv 0) (g7 : S.t 7 = .nils)
   (hk : ∀ S' v, S'.t 7 = v -> AccIs S' v 262049 5 77 ((awakeV all sl).map Evt.av) -> S'.t 0 = S.t 0 -> S'.t 2 = S.t 2 -> S'.t 4 = S.t 4 -> S'.t 6 = S.t 6 -> S.clk <= S'.clk -> (∀ n, n ≠ 262009 -> S'.blk n = S.blk n) -> (∀ n, n ≠ 262048 -> n ≠ 262049 -> S'.tok n = S.tok n) -> κ (.exit 0) S') : LoopG Tryz.prog visitS_l0 κ S u := by
 have G2 := g2
 refine loopN (fun i S' => S'.t 2 = evts sl /\ S'.t 36 = evts all /\ S'.t 37 = iv all.length /\ S'.t 38 = iv i /\ (∃ v, S'.t 7 = v /\ AccIs S' v 262049 5 77 ((awakeV (all.take i) sl).map Evt.av)) /\ S'.t 0 = S.t 0 /\ S'.t 4 = S.t 4 /\ S'.t 6 = S.t 6 /\ S.clk <= S'.clk /\ (∀ n, n ≠ 262009 -> S'.blk n = S.blk n) /\ (∀ n, n ≠ 262048 -> n ≠ 262049 -> S'.tok n = S.tok n)) all.length ?_ ?_
 . exact ⟨g2, g36, g37, g38, ⟨_, g7, .inl ⟨rfl, by simp [awakeV]⟩⟩, rfl, rfl, rfl, Nat.le_refl _, fun _ _ => rfl, fun _ _ _ => rfl⟩
 . rintro i S' hi ⟨g2, g36, g37, g38, ⟨v, g7, hv⟩, gt0, gt4, gt6, gc, gb, gk⟩
   by_cases hlt : i < all.length
   . have hw := wrap_succ i _ hlt (by omega)
     have htk := awakeV_take all sl i hlt
     have hln : (awakeV (all.take i) sl).length <= 10000 := by
       unfold awakeV
       refine Nat.le_trans (List.length_filter_le _ _) ?_
       simp
       omega
     have hbd : ((awakeV (all.take i) sl).length + 1) * 40 <= 140737488355328 := by omega
     simp [visitS_l0, g2, g36, g37, g38, g7, hlt, evts]
     refine call (contE_pc sl all[i] hs) (by simp [evts, Evt.av]) ?_
     cases hc : sl.contains all[i] with
     | true =>
       rw [hc] at htk
       simp at htk
       simp [g2, g36, g37, g38, g7, hw, htk, evts, gt0, gt4, gt6]
       exact ⟨hv.at rfl, by omega, fun n hn => by simp [hn]; exact gb n hn, gk⟩
     | false =>
       rw [hc] at htk
       simp at htk
       rcases hv with ⟨rfl, q⟩ | ⟨st, rfl, hk2⟩
       . simp at q
         simp [g2, g36, g37, g38, g7, hw, htk, q, evts, gt0, gt4, gt6]
         refine ⟨.inr ⟨_, by simp [Evt.av]; rfl, by simp⟩, by omega, fun n hn => by simp [hn]; exact gb n hn, fun n h1 h2 => by simp [h1, h2]; exact gk n h1 h2⟩
       . simp [g2, g36, g37, g38, g7, hw, htk, hk2, hbd, evts, gt0, gt4, gt6]
         refine ⟨.inr ⟨_, by simp [Evt.av]; rfl, by simp⟩, by omega, fun n hn => by simp [hn]; exact gb n hn, fun n h1 h2 => by simp [h1, h2]; exact gk n h1 h2⟩
   . have e1 : i = all.length := by omega
     subst e1
     rw [List.take_length] at hv
     simp [visitS_l0, g36, g37, g38]
     exact hk _ v (by simp [g7]) hv gt0 (g2.trans G2.symm) gt4 gt6 (by simp only []; omega) gb gk
end Go.Gv

namespace Go.Gv
open Go.Proofs
def SxIs (c : Cfg) (NX sx NS NF NP s : Nat) (sr : Sr) (S : St) : Prop := S.blk NX = some ⟨sx, 5, [.agg [.ptr NS s 17 0 0, iv sr.cut, iv sr.slept, .fn 27 [], .fn 28 []]]⟩ /\ SrIs c NS NF NP s sr S
theorem SrIs.at {c : Cfg} {NS NF NP s : Nat} {sr : Sr} {S S' : St} (h : SrIs c NS NF NP s sr S) (h1 : S'.blk NS = S.blk NS) (h2 : S'.tok NF = S.tok NF) (h3 : S'.blk NP = S.blk NP) : SrIs c NS NF NP s sr S' := by
 obtain ⟨vf, vp, hb, hf, hp⟩ := h
 exact ⟨vf, vp, h1.trans hb, hf.at h2, hp.at h3⟩
theorem SxIs.at {c : Cfg} {NX sx NS NF NP s : Nat} {sr : Sr} {S S' : St} (h : SxIs c NX sx NS NF NP s sr S) (h0 : S'.blk NX = S.blk NX) (h1 : S'.blk NS = S.blk NS) (h2 : S'.tok NF = S.tok NF) (h3 : S'.blk NP = S.blk NP) : SxIs c NX sx NS NF NP s sr S' := ⟨h0.trans h.1, h.2.at h1 h2 h3⟩
theorem SxIs.up {c : Cfg} {NX sx NS NF NP s : Nat} {sr : Sr} {T : St} (h : SxIs c NX sx NS NF NP s sr T) : SxIs c (NX + LIM) sx (NS + LIM) (NF + LIM) (NP + LIM) s sr ⟨T.t, (upH LIM T.h).blk, (upH LIM T.h).tok, T.clk⟩ := by
 have hb' : T.h.blk NX = _ := h.1
 refine ⟨?_, h.2.up⟩
 simp only [upH_blk, hb']
 simp [rnB, rnE]
theorem SxIs.dn {c : Cfg} {NX sx NS NF NP s : Nat} {sr : Sr} {S0 : St} {t : Nat -> AV} {clk : Nat} (h : SxIs c (NX + LIM) sx (NS + LIM) (NF + LIM) (NP + LIM) s sr S0) : SxIs c NX sx NS NF NP s sr ⟨t, (dnH LIM S0.h).blk, (dnH LIM S0.h).tok, clk⟩ := by
 have hb' : S0.h.blk (NX + LIM) = _ := h.1
 refine ⟨?_, h.2.dn⟩
 simp only [dnH_blk, hb']
 simp [rnB, rnE]
theorem loopS_path (c : Cfg) (rec : Sr -> Wld -> List Evt -> Sr) (w : Wld) (sl : List Evt) (hrec : ∀ s w l, (rec s w l).path = s.path) : ∀ (l dn : List Evt) (s : Sr), (loopS rec c w sl dn l s).path = s.path
 | [], dn, s => rfl
 | e :: l, dn, s => by
   unfold loopS
   simp only []
   split
   . simp [hrec]
   . rw [loopS_path c rec w sl hrec l]
     simp [hrec]
theorem visitS_path (c : Cfg) : ∀ (f : Nat) (s : Sr) (w : Wld) (sl : List Evt), (visitS c f s w sl).path = s.path
 | 0, s, w, sl => rfl
 | f + 1, s, w, sl => by
   unfold visitS
   simp only []
   split
   . exact enterV_path c s w
   . split
     . split <;> exact enterV_path c s w
     . rw [loopS_path c _ w sl (visitS_path c f)]
       exact enterV_path c s w
theorem loopS_fok {c : Cfg} (rec : Sr -> Wld -> List Evt -> Sr) (w : Wld) (sl : List Evt) (hrec : ∀ s w l, FOk c s.found -> FOk c (rec s w l).found) : ∀ (l dn : List Evt) (s : Sr), FOk c s.found -> FOk c (loopS rec c w sl dn l s).found
 | [], dn, s, h => h
 | e :: l, dn, s, h => by
   unfold loopS
   simp only []
   split
   . exact hrec _ _ _ h
   . exact loopS_fok rec w sl hrec l _ _ (hrec _ _ _ h)
theorem visitS_fok {c : Cfg} : ∀ (f : Nat) (s : Sr) (w : Wld) (sl : List Evt), FOk c s.found -> FOk c (visitS c f s w sl).found
 | 0, s, w, sl, h => h
 | f + 1, s, w, sl, h => by
   unfold visitS
   simp only []
   split
   . exact h.enter w
   . split
     . split <;> exact h.enter w
     . exact loopS_fok _ w sl (visitS_fok f) _ _ _ (h.enter w)
structure SOk (c : Cfg) (I : Nat -> Wld -> Prop) (T : Evt -> Prop) : Prop extends VOk c I where
 tk : ∀ f w, I (f + 1) w -> ∀ e, T e -> TOk c.p w e
 al : ∀ f w, I f w -> ∀ e ∈ allV c.b w, T e
def VisS (c : Cfg) (I : Nat -> Wld -> Prop) (T : Evt -> Prop) (f : Nat) : Prop := ∀ (w : Wld) (sl : List Evt) (sr : Sr) (NX sx NS NF NP s : Nat), LIM <= NX -> LIM <= NS -> LIM <= NF -> LIM <= NP -> NS ≠ NP -> NX ≠ NS -> NX ≠ NP -> (sr.path.length : Int) + f = c.depth -> I f w -> FOk c sr.found -> sl.length <= sr.path.length * 5000 -> (∀ x ∈ sl, T x) ->
 ∀ (S : St) (k : AV -> St -> Prop) (u : Dep k), SxIs c NX sx NS NF NP s sr S ->
   (∀ S', S'.t = S.t -> S.clk <= S'.clk -> (∀ n, LIM <= n -> n ≠ NX -> n ≠ NS -> n ≠ NP -> S'.blk n = S.blk n) -> (∀ n, LIM <= n -> n ≠ NF -> S'.tok n = S.tok n) -> SxIs c NX sx NS NF NP s (visitS c (f + 1) sr w sl) S' -> k (.tup []) S') ->
   CallG Tryz.prog (.fn 54 []) [.ptr NX sx 5 0 0, w.av, evts sl] S k u
def tb22 (NX sx NS s : Nat) (w : Wld) (e : Evt) (w' : Wld) (nx : List Evt) : List (Nat × AV) :=
 [(157, .ptr NX sx 5 0 0), (158, .ptr NX sx 5 0 0), (159, .ptr NX sx 5 0 0), (160, .ptr NX sx 5 0 0), (161, .ptr NS s 17 0 0), (162, w.av), (163, e.av), (164, w'.av), (165, evts nx)]
theorem visitS_r22_v (c : Cfg) (w : Wld) (e : Evt) (hap : PC Tryz.prog 101 [c.p.av, w.av, e.av] (applyV c.p w e).av) (NX sx NS NF NP s : Nat) (hNX : 10000000000 <= NX) (hNS : 10000000000 <= NS) (hNF : 10000000000 <= NF) (hNP : 10000000000 <= NP) (hne : NS ≠ NP) (hxs : NX ≠ NS) (hxp : NX ≠ NP) (sr : Sr) (hl : sr.path.length <= 100000) (nx : List Evt) (s4 s11 st0 : Nat) {S : St} {k : St -> Prop} {u : Dep k}
   (g0 : S.t 0 = .ptr NX sx 5 0 0) (g4 : S.t 4 = .ptr 262004 s4 6 0 0) (b4 : S.blk 262004 = some ⟨s4, 6, [w.av]⟩) (g11 : S.t 11 = .ptr 262011 s11 5 0 0) (b11 : S.blk 262011 = some ⟨s11, 5, [e.av]⟩) (g12 : S.t 12 = evts nx) (h : SxIs c NX sx NS NF NP s sr S)
   (hk : ∀ S', (∀ x, x < 157 -> S'.t x = S.t x) -> S.clk <= S'.clk -> (∀ n, Out5 n -> n ≠ NS -> n ≠ NP -> S'.blk n = S.blk n) -> (∀ n, Out5 n -> S'.tok n = S.tok n) -> SrIs c NS NF NP s { sr with path := sr.path ++ [e] } S' -> CallG Tryz.prog (.fn 54 []) [.ptr NX sx 5 0 0, (applyV c.p w e).av, evts nx] S' (fun r S'' => k (S''.put (some 166) r)) .mk) :
   regIG Tryz.prog visitS_p22 st0 visitS_r22 S k u := by
 refine regi_cut (visitS_r22.take 9) (visitS_r22.drop 9) rfl (by rfl) ?_
 obtain ⟨hbx, hsr⟩ := h
 obtain ⟨tbl, htb⟩ : ∃ tbl : List (Nat × AV), tbl = tb22 NX sx NS s w e (applyV c.p w e) nx := ⟨_, rfl⟩
 have hnd : (tbl.map (·.1)).Nodup := by simp [htb, tb22]
 obtain ⟨Q, hQ⟩ : ∃ Q : St -> Prop, ∀ S', Q S' ↔ ((∀ n, Out5 n -> n ≠ NS -> n ≠ NP -> S'.blk n = S.blk n) /\ (∀ n, Out5 n -> S'.tok n = S.tok n) /\ SrIs c NS NF NP s { sr with path := sr.path ++ [e] } S') := ⟨_, fun _ => Iff.rfl⟩
 have hQt : ∀ (S' : St) (t : Nat -> AV) (k : Nat), Q S' -> Q ⟨t, S'.blk, S'.tok, k⟩ := fun S' t k q => (hQ _).2 ⟨((hQ _).1 q).1, ((hQ _).1 q).2.1, ((hQ _).1 q).2.2.at rfl rfl rfl⟩
 obtain ⟨I, hI⟩ : ∃ I : (Nat -> Bool) -> St -> Prop, ∀ D S', I D S' ↔ (SF tbl D S' /\ (∀ x, x < 157 \/ 165 < x -> S'.t x = S.t x) /\ S.clk <= S'.clk /\ (D 7 = false -> S'.blk = S.blk /\ S'.tok = S.tok) /\ (D 7 = true -> Q S')) := ⟨_, fun _ _ => Iff.rfl⟩
 show regI _ _ _ _ _ _
 refine ⟨I, (hI _ _).2 ⟨SF.start _ _, fun _ _ => rfl, Nat.le_refl _, fun _ => ⟨rfl, rfl⟩, by simp⟩, ?_, ?_⟩
 . rintro D S' j ai hj hDj hpre hcl hi
   obtain ⟨hsf, ht, hc, h7f, h7t⟩ := (hI _ _).1 hi
   have stp : ∀ (j d : Nat) (val : AV) (op : AOp) (st' : Nat), tbl[j]? = some (d, val) -> j ≠ 7 -> 157 <= d -> d <= 165 -> ex S'.t S'.blk S'.tok st' op = some { v := val } -> stepV Tryz.prog st' ⟨some d, none, .op op⟩ S' (I (fun i => (i == j) || D i)) := by
     intro j d val op st' hj m7 d0 d1 he
     have e7 : (7 == j) = false := by simp; omega
     refine stepV_op _ he ((hI _ _).2 ⟨hsf.ins hnd hj (upd_same _ _ _) (fun y hy => upd_ne _ _ _ _ hy), fun x hx => (upd_ne _ _ _ _ (by omega)).trans (ht x hx), hc, fun q => h7f ?_, fun q => hQt S' _ _ (h7t ?_)⟩)
     . simpa [e7] using q
     . simpa [e7] using q
   have n7 : j ∈ [1, 2, 3, 4, 5, 6] -> D 7 = false := by
     intro q
     cases hx : D 7 with
     | false => rfl
     | true =>
       have := hcl 7 hx j (by simp at q ⊢; omega)
       rw [hDj] at this; cases this
   match j, hj, hDj, hpre, n7 with
   | 0, hj, hDj, hpre, n7 =>
     simp at hj; subst hj
     exact stp 0 157 _ _ _ (by simp [htb, tb22]; rfl) (by simp) (by simp) (by simp) (by simp [ht, g0])
   | 1, hj, hDj, hpre, n7 =>
     simp at hj; subst hj
     exact stp 1 158 _ _ _ (by simp [htb, tb22]; rfl) (by simp) (by simp) (by simp) (by simp [ht, g0])
   | 2, hj, hDj, hpre, n7 =>
     simp at hj hpre; subst hj
     exact stp 2 159 _ _ _ (by simp [htb, tb22]; rfl) (by simp) (by simp) (by simp) (by simp [hsf 1 158 _ (by simp [htb, tb22]; rfl) hpre])
   | 3, hj, hDj, hpre, n7 =>
     simp at hj hpre; subst hj
     exact stp 3 160 _ _ _ (by simp [htb, tb22]; rfl) (by simp) (by simp) (by simp) (by simp [hsf 2 159 _ (by simp [htb, tb22]; rfl) hpre.1])
   | 4, hj, hDj, hpre, n7 =>
     simp at hj hpre; subst hj
     obtain ⟨e1, e2⟩ := h7f (n7 (by simp))
     exact stp 4 161 _ _ _ (by simp [htb, tb22]; rfl) (by simp) (by simp) (by simp) (by simp [hsf 3 160 _ (by simp [htb, tb22]; rfl) hpre.1, e1, hbx])
   | 5, hj, hDj, hpre, n7 =>
     simp at hj hpre; subst hj
     obtain ⟨e1, e2⟩ := h7f (n7 (by simp))
     exact stp 5 162 _ _ _ (by simp [htb, tb22]; rfl) (by simp) (by simp) (by simp) (by simp [ht, g4, e1, b4, Wld.av])
   | 6, hj, hDj, hpre, n7 =>
     simp at hj hpre; subst hj
     obtain ⟨e1, e2⟩ := h7f (n7 (by simp))
     exact stp 6 163 _ _ _ (by simp [htb, tb22]; rfl) (by simp) (by simp) (by simp) (by simp [ht, g11, e1, b11, Evt.av])
   | 7, hj, hDj, hpre, n7 =>
     simp at hj hpre; subst hj
     obtain ⟨e1, e2⟩ := h7f hDj
     refine stepV_call ?_
     simp only [List.map_cons, List.map_nil, X.ev, hsf 4 161 _ (by simp [htb, tb22]; rfl) hpre.1, hsf 5 162 _ (by simp [htb, tb22]; rfl) hpre.2.1, hsf 6 163 _ (by simp [htb, tb22]; rfl) hpre.2.2.1]
     refine down_v c w e hap NS NF NP s hNS hNF hNP hne sr hl (hsr.at (by rw [e1]) (by rw [e2]) (by rw [e1])) (fun S1 q1 q2 q3 q4 q5 => ?_)
     refine (hI _ _).2 ⟨hsf.ins hnd (j := 7) (d := 164) (v := (applyV c.p w e).av) (by simp [htb, tb22]) (by simp) (fun y hy => by simp [hy, q1]), fun x hx => ?_, Nat.le_trans hc q2, fun q => by simp at q, fun _ => (hQ _).2 ⟨fun n h1 h2 h3 => (q3 n h1 h2 h3).trans (by rw [e1]), fun n h1 => (q4 n h1).trans (by rw [e2]), q5.at rfl rfl rfl⟩⟩
     have : x ≠ 164 := by omega
     simp [this, q1, ht x hx]
   | 8, hj, hDj, hpre, n7 =>
     simp at hj hpre; subst hj
     exact stp 8 165 _ _ _ (by simp [htb, tb22]; rfl) (by simp) (by simp) (by simp) (by simp [ht, g12, evts])
   | j + 9, hj, hDj, hpre, n7 => simp at hj
 . rintro D S' hD hi
   obtain ⟨hsf, ht, hc, h7f, h7t⟩ := (hI _ _).1 hi
   have e0 := hsf 0 157 _ (by simp [htb, tb22]; rfl) (hD 0 (by simp))
   have e7 := hsf 7 164 _ (by simp [htb, tb22]; rfl) (hD 7 (by simp))
   have e8 := hsf 8 165 _ (by simp [htb, tb22]; rfl) (hD 8 (by simp))
   obtain ⟨q1, q2, q3⟩ := (hQ _).1 (h7t (hD 7 (by simp)))
   simp [e0, e7, e8]
   exact hk S' (fun x hx => ht x (.inl hx)) hc q1 q2 q3
def SvI (c : Cfg) (w : Wld) (sl aw : List Evt) (NX sx NS NF NP s : Nat) (S : St) (i : Nat) (S' : St) : Prop :=
 S'.t 0 = .ptr NX sx 5 0 0 /\ S'.t 2 = evts sl /\ (∃ v, S'.t 7 = v /\ S'.t 118 = v /\ AccIs S' v 262049 5 77 (aw.map Evt.av)) /\ S'.t 119 = iv aw.length /\ S'.t 120 = iv i /\ (∃ s4, S'.t 4 = .ptr 262004 s4 6 0 0 /\ S'.blk 262004 = some ⟨s4, 6, [w.av]⟩) /\
   S.clk <= S'.clk /\ (∀ n, LIM <= n -> n ≠ NX -> n ≠ NS -> n ≠ NP -> S'.blk n = S.blk n) /\ (∀ n, LIM <= n -> n ≠ NF -> S'.tok n = S.tok n)
theorem visitS_loop (c : Cfg) (I : Nat -> Wld -> Prop) (T : Evt -> Prop) (hV : SOk c I T) (f : Nat) (hrec : VisS c I T f) (w : Wld) (hI : I (f + 1) w) (sl aw : List Evt) (haw : ∀ e ∈ aw, e ∈ allV c.b w) (hawl : aw.length <= 5000) (NX sx NS NF NP s : Nat) (hNX : LIM <= NX) (hNS : LIM <= NS) (hNF : LIM <= NF) (hNP : LIM <= NP) (hne : NS ≠ NP) (hxs : NX ≠ NS) (hxp : NX ≠ NP) (E : Sr) (hpl : (E.path.length : Int) + (f + 1 : Nat) = c.depth) (hfo : FOk c E.found) (hsl : sl.length <= E.path.length * 5000) (hsT : ∀ x ∈ sl, T x)
   {S : St} {κ : Ex -> St -> Prop} {u : Dep κ} (hJ : SvI c w sl aw NX sx NS NF NP s S 0 S) (h : SxIs c NX sx NS NF NP s E S)
   (hk : ∀ e S', e = Ex.ret \/ e = Ex.exit 2 -> S.clk <= S'.clk -> (∀ n, LIM <= n -> n ≠ NX -> n ≠ NS -> n ≠ NP -> S'.blk n = S.blk n) -> (∀ n, LIM <= n -> n ≠ NF -> S'.tok n = S.tok n) -> SxIs c NX sx NS NF NP s (loopS (visitS c (f + 1)) c w sl [] aw E) S' -> κ e S') : LoopG Tryz.prog visitS_l1 κ S u := by
 obtain ⟨hw, hx, hal⟩ := hV.ok _ w hI
 have hd := hV.hd
 have l0 := hNX
 have l1 := hNS
 have l2 := hNF
 have l3 := hNP
 unfold LIM at hNS hNF hNP hNX
 refine loopN (fun i S' => SvI c w sl aw NX sx NS NF NP s S i S' /\
   ∃ sr', SxIs c NX sx NS NF NP s sr' S' /\ sr'.path = E.path /\ FOk c sr'.found /\ loopS (visitS c (f + 1)) c w sl (aw.take i) (aw.drop i) sr' = loopS (visitS c (f + 1)) c w sl [] aw E) aw.length ⟨hJ, E, h, rfl, hfo, rfl⟩ ?_
 rintro i S' hi ⟨⟨g0, g2, ⟨v, g7, g118, hv⟩, g119, g120, ⟨s4, g4, b4⟩, gc, gb, gt⟩, sr', hsr, hpa, hfo', hlp⟩
 by_cases hlt : i < aw.length
 . have ws := wrap_succ i _ hlt (by omega)
   obtain ⟨hap, hI'⟩ := hV.ap f w hI _ (haw _ (List.getElem_mem hlt))
   obtain ⟨e, he⟩ : ∃ e, e = aw[i] := ⟨_, rfl⟩
   have heT : T e := by rw [he]; exact hV.al _ w hI _ (haw _ (List.getElem_mem hlt))
   rw [<- he] at hap hI'
   rw [List.drop_eq_getElem_cons hlt, <- he] at hlp
   rcases hv with ⟨rfl, q⟩ | ⟨sv, rfl, hk2⟩
   . have : aw = [] := by simpa using q
     subst this
     simp at hlt
   . obtain ⟨hbx, vf0, vp0, hb0, hf0, hp0⟩ := hsr
     have m0 : NX ≠ 262011 := by omega
     have m1 : NS ≠ 262011 := by omega
     have m2 : NP ≠ 262011 := by omega
     simp only [SrC] at hb0
     have hle : i <= aw.length := by omega
     have hTd : ∀ x ∈ sl ++ aw.take i, T x := fun x q => by
       rcases List.mem_append.1 q with q | q
       . exact hsT x q
       . exact hV.al _ w hI _ (haw _ (List.mem_of_mem_take q))
     have hcl : (sl ++ aw.take i).length <= (E.path.length + 1) * 5000 := by simp; omega
     simp [visitS_l1, g0, g2, g7, g118, g119, g120, g4, b4, hlt, <- he, hbx, hb0, m0, m1, m2, hle, evts]
     refine calld (conc2 sl (aw.take i) (by omega) (by simp; omega)) (by simp [evts, List.map_take]) ?_
     simp [evts]
     refine calld (still_pc c.p w (sl ++ aw.take i) e (by omega) (hV.tk f w hI e heT) (fun x q => hV.tk f w hI x (hTd x q))) (by simp [evts, Prg.av, Wld.av, Evt.av]) ?_
     obtain ⟨nx, hnx⟩ : ∃ nx, nx = stillV c.p w (sl ++ aw.take i) e := ⟨_, rfl⟩
     rw [<- hnx]
     obtain ⟨hvp1, hvp2, hvp3⟩ := hp0.one
     simp [g0, hbx, hb0, m0, m1, evts, hvp1, hvp2, hvp3]
     refine calld (eye2_pc e (IntKind.i64.wrap (sr'.path.length + 1))) (by simp [Evt.av]) ?_
     simp
     refine visitS_r22_v c w e hap NX sx NS NF NP s hNX hNS hNF hNP hne hxs hxp sr' (by rw [hpa]; omega) nx s4 _ _ (by simp [g0]) (by simp [g4]) (by simp [b4]) (by simp; rfl) (by simp [Evt.av]) (by simp [evts])
       ⟨by simp [m0, hbx], vf0, vp0, by simp [m1, hb0, SrC], hf0.at (by simp; intro q; omega), hp0.at (by simp [m2])⟩ (fun S1 q1 q2 q3 q4 q5 => ?_)
     have hnm : ∀ x ∈ nx, x ∈ sl ++ aw.take i := fun x q => by rw [hnx] at q; exact (List.mem_filter.1 q).1
     have hnl : nx.length <= (sl ++ aw.take i).length := by rw [hnx]; exact List.length_filter_le _ _
     have z0 := (q1 0 (by simp)).trans (by simp; exact g0)
     have z2 := (q1 2 (by simp)).trans (by simp; exact g2)
     have z4 := (q1 4 (by simp)).trans (by simp; exact g4)
     have z7 := (q1 7 (by simp)).trans (by simp; exact g7)
     have z118 := (q1 118 (by simp)).trans (by simp; exact g118)
     have z119 := (q1 119 (by simp)).trans (by simp; exact g119)
     have z120 := (q1 120 (by simp)).trans (by simp; exact g120)
     have yx := (q3 NX (by unfold Out5; omega) hxs hxp).trans (by simp [m0]; exact hbx)
     have y4 := (q3 262004 (by unfold Out5; omega) (by omega) (by omega)).trans (by simp; exact b4)
     have yk := (q4 262049 (by unfold Out5; omega)).trans (by simp; exact hk2)
     have fq1 : ∀ n, LIM <= n -> n ≠ NS -> n ≠ NP -> S1.blk n = S'.blk n := fun n h1 h2 h3 => by
       have : n ≠ 262011 := by unfold LIM at h1; omega
       rw [q3 n (by unfold Out5; unfold LIM at h1; omega) h2 h3]
       simp [this]
     have fq2 : ∀ n, LIM <= n -> S1.tok n = S'.tok n := fun n h1 => by
       have : n ≠ 262137 := by unfold LIM at h1; omega
       rw [q4 n (by unfold Out5; unfold LIM at h1; omega)]
       simp [this]
     simp at q2
     clear q1 q3 q4 hk2
     have q6 : SxIs c NX sx NS NF NP s { sr' with path := sr'.path ++ [e] } S1 := ⟨yx, q5⟩
     refine callUp LIM ?_
     obtain ⟨sr2, hs2⟩ : ∃ sr2, sr2 = visitS c (f + 1) { sr' with path := sr'.path ++ [e] } (applyV c.p w e) nx := ⟨_, rfl⟩
     have hp2 : sr2.path = E.path ++ [e] := by rw [hs2, visitS_path, hpa]
     have hf2 : FOk c sr2.found := by rw [hs2]; exact visitS_fok _ _ _ _ hfo'
     refine hrec (applyV c.p w e) nx { sr' with path := sr'.path ++ [e] } (NX + LIM) sx (NS + LIM) (NF + LIM) (NP + LIM) s (by omega) (by omega) (by omega) (by omega) (by omega) (by omega) (by omega) (by simp [hpa]; omega) hI' hfo' (by simp [hpa]; omega) (fun x q => hTd x (hnm x q)) _ _ _ (SxIs.up q6) (fun S2 r1 r2 r3 r4 r5 => ?_)
     rw [<- hs2] at r5
     have h3 := SxIs.dn (t := fun _ => .nils) (clk := 0) r5
     have h4 : ∀ n, n ≠ NX -> n ≠ NS -> n ≠ NP -> (dnH LIM S2.h).blk n = S1.blk n := fun n h0 h1 h2 => dn_frame (T := S1) n (r3 (n + LIM) (by omega) (by omega) (by omega) (by omega))
     have h5 : ∀ n, n ≠ NF -> (dnH LIM S2.h).tok n = S1.tok n := fun n h1 => dn_tok (T := S1) n (r4 (n + LIM) (by omega) (by omega))
     have h3x := h3.1
     simp at h3x
     simp [z0, h3x]
     refine up_v c NS NF NP s hNS hNP hne sr2 E.path e hp2 (by rw [hp2]; simp; omega) (h3.2.at rfl rfl rfl) (fun S3 t1 t2 t3 t4 t5 => ?_)
     simp at r2 t1 t3 t4
     have fr1 : ∀ n, LIM <= n -> n ≠ NX -> n ≠ NS -> n ≠ NP -> S3.blk n = S.blk n := fun n h1 h0 h2 h6 => by
       rw [t2 n h2]
       exact (h4 n h0 h2 h6).trans ((fq1 n h1 h2 h6).trans (gb n h1 h0 h2 h6))
     have fr2 : ∀ n, LIM <= n -> n ≠ NF -> S3.tok n = S.tok n := fun n h1 h2 => by
       rw [t3]
       exact (h5 n h2).trans ((fq2 n h1).trans (gt n h1 h2))
     have hx3 : S3.blk NX = _ := (t2 NX hxs).trans h3x
     have hlp2 : loopS (visitS c (f + 1)) c w sl (aw.take i) (e :: aw.drop (i + 1)) sr' = (if sr2.ended = true then { sr2 with path := E.path } else loopS (visitS c (f + 1)) c w sl (aw.take i ++ [e]) (aw.drop (i + 1)) { sr2 with path := E.path }) := by
       have hd2 : sr2.path.dropLast = E.path := by rw [hp2]; simp
       rw [loopS, <- hnx, <- hs2]
       simp only [hd2]
     rw [hlp2] at hlp
     cases hen : sr2.ended with
     | true =>
       simp [hen] at hlp
       simp [t1]
       rw [<- hlp] at hk
       obtain ⟨vf3, vp3, hb3, hf3, hp3⟩ := t5
       exact hk _ _ (.inl rfl) (by simp; omega) fr1 fr2 ⟨hx3, vf3, vp3, by simpa [SrC, hen] using hb3, hf3, hp3⟩
     | false =>
       simp [hen] at hlp
       have hta : aw.take (i + 1) = aw.take i ++ [e] := by rw [List.take_succ_eq_append_getElem hlt, <- he]
       simp [t1, z120, ws]
       refine ⟨⟨by simp [t1, z0], by simp [t1, z2], ⟨_, by simp [t1, z7], by simp [t1, z118], .inr ⟨sv, rfl, ?_⟩⟩, by simp [t1, z119], by simp, ⟨s4, by simp [t1, z4], ?_⟩, by simp; omega, fr1, fr2⟩, { sr2 with path := E.path }, ⟨hx3, t5⟩, rfl, hf2, ?_⟩
       . show S3.tok 262049 = _
         rw [t3]
         exact (h5 262049 (by omega)).trans yk
       . show S3.blk 262004 = _
         rw [t2 262004 (by omega)]
         exact (h4 262004 (by omega) (by omega) (by omega)).trans y4
       . rw [hta, hen]; exact hlp
 . have e1 : i = aw.length := by omega
   subst e1
   rw [List.drop_length] at hlp
   have hlp' : sr' = loopS (visitS c (f + 1)) c w sl [] aw E := hlp
   rw [<- hlp'] at hk
   simp [visitS_l1, g0, g119, g120]
   exact hk _ _ (.inr rfl) (by simp only []; omega) gb gt (hsr.at rfl rfl rfl rfl)
theorem visitS_in (c : Cfg) (I : Nat -> Wld -> Prop) (T : Evt -> Prop) (hV : SOk c I T) (f : Nat) (hrec : ∀ f', f' + 1 = f -> VisS c I T f') : VisS c I T f := by
 intro w sl sr NX sx NS NF NP s hNX hNS hNF hNP hne hxs hxp hpl hI hfo hsl hsT S k u h hk
 obtain ⟨hw, hx, hal⟩ := hV.ok f w hI
 have hd := hV.hd
 have hfl := hfo.len
 have hl := hV.hl
 have l0 := hNX
 have l1 := hNS
 have l2 := hNF
 have l3 := hNP
 unfold LIM at hNS hNF hNP hNX
 have n0 : NX ≠ 262004 := by omega
 have n1 : NS ≠ 262004 := by omega
 have n2 : NP ≠ 262004 := by omega
 refine callV visitS_get (by simp) (by simp) ?_
 unfold visitS_c
 simp [Wld.av]
 have hb0 := h.1
 refine regi_cut (visitS_r1.take 6) (visitS_r1.drop 6) rfl (by rfl) ?_
 refine regi_end (by simp [visitS_r1]) (by rfl) ?_
 simp [visitS_r1, hb0, n0]
 refine enter_v c w hw hl hx NS NF NP s hNS hNF hNP hne sr (by omega) (by omega) (h.2.at (by simp [n1]) rfl (by simp [n2])) (fun S1 q1 q2 q3 q4 q5 => ?_)
 obtain ⟨E, hE⟩ : ∃ E, E = enterV c sr w := ⟨_, rfl⟩
 rw [<- hE] at q5 ⊢
 have hfe : FOk c E.found := by rw [hE]; exact hfo.enter w
 have hpe : E.path = sr.path := by rw [hE]; exact enterV_path c sr w
 have hce : E.cut = sr.cut /\ E.slept = sr.slept := by rw [hE]; unfold enterV; split <;> exact ⟨rfl, rfl⟩
 obtain ⟨aw, haw⟩ : ∃ aw, aw = awakeV (allV c.b w) sl := ⟨_, rfl⟩
 have hvn : visitS c (f + 1) sr w sl = (if E.ended = true then E else if c.depth <= E.path.length \/ aw = [] then (if ¬ c.depth <= E.path.length /\ allV c.b w ≠ [] then { E with runs := w64 (E.runs + 1), slept := w64 (E.slept + 1), cut := w64 (E.cut + (allV c.b w).length) } else { E with runs := w64 (E.runs + 1) }) else loopS (visitS c f) c w sl [] aw { E with cut := w64 (E.cut + w64 ((allV c.b w).length - aw.length)) }) := by
   rw [haw, hE]
   unfold awakeV
   conv => lhs; unfold visitS
   simp
 have b3 := q3 262004 (by unfold Out4; omega) (by omega)
 have bx := (q3 NX (by unfold Out4; omega) hxs).trans (by simp [n0, hb0]; rfl)
 simp at b3 q2
 have fr1 : ∀ n, LIM <= n -> n ≠ NS -> S1.blk n = S.blk n := fun n h1 h2 => by
   have : n ≠ 262004 := by unfold LIM at h1; omega
   rw [q3 n (by unfold Out4; unfold LIM at h1; omega) h2]
   simp [this]
 have fr2 : ∀ n, LIM <= n -> n ≠ NF -> S1.tok n = S.tok n := fun n h1 h2 => q4 n (by unfold Out4; unfold LIM at h1; omega) h2
 cases hen : E.ended with
 | true =>
   simp [hen] at hvn
   simp [q1, hen]
   rw [hvn] at hk
   exact hk _ rfl (by simp; omega) (fun n h1 h2 h3 h4 => fr1 n h1 h3) fr2 ⟨by rw [hce.1, hce.2]; exact bx, q5⟩
 | false =>
   simp only [hen] at hvn
   simp at hvn
   simp [q1, hen, bx, b3]
   refine calld (eye1_pc w) (by simp [Wld.av]) ?_
   obtain ⟨vf, vp, hb, hf, hp⟩ := q5
   simp [q1, hen, bx, b3, hb, SrC]
   refine calld (eall_pc c.b w hw) (by simp [Bud.av, Wld.av]) ?_
   simp [q1, hen, bx, b3, hb, SrC]
   refine visitS_aw (allV c.b w) sl (by omega) (by omega) (by simp [evts]) (by simp [evts]) (by simp) (by simp) (by simp) (fun S2 v p7 pv p0 p2 p4 p6 pc pb pk => ?_)
   rw [<- haw] at pv
   simp at p0 p2 p4 p6 pc
   have sx2 : SxIs c NX sx NS NF NP s E S2 := ⟨by rw [pb NX (by omega), hce.1, hce.2]; exact bx, vf, vp, (pb NS (by omega)).trans hb, hf.at (pk NF (by omega) (by omega)), hp.at (pb NP (by omega))⟩
   have b4 := (pb 262004 (by omega)).trans b3
   have bx2 := sx2.1
   have fr3 : ∀ n, LIM <= n -> n ≠ NS -> S2.blk n = S.blk n := fun n h1 h2 => (pb n (by unfold LIM at h1; omega)).trans (fr1 n h1 h2)
   have fr4 : ∀ n, LIM <= n -> n ≠ NF -> S2.tok n = S.tok n := fun n h1 h2 => (pk n (by unfold LIM at h1; omega) (by unfold LIM at h1; omega)).trans (fr2 n h1 h2)
   simp [p0, bx2]
   refine deep_v c NS NF NP s E (sx2.2.at rfl rfl rfl) (fun S3 r1 r2 r3 r4 => ?_)
   simp at r1 r2 r3 r4
   have sx3 : SxIs c NX sx NS NF NP s E S3 := sx2.at (by rw [r2]) (by rw [r2]) (by rw [r3]) (by rw [r2])
   have hvl : lenOf v = some aw.length := by
     rcases pv with ⟨rfl, q⟩ | ⟨st, rfl, _⟩
     . have : aw = [] := by simpa using q
       rw [this]; rfl
     . simp
   have fr5 : ∀ n, LIM <= n -> n ≠ NS -> S3.blk n = S.blk n := fun n h1 h2 => by rw [r2]; exact fr3 n h1 h2
   have fr6 : ∀ n, LIM <= n -> n ≠ NF -> S3.tok n = S.tok n := fun n h1 h2 => by rw [r3]; exact fr4 n h1 h2
   have fin : ∀ (sr2 : Sr) (S4 : St), visitS c (f + 1) sr w sl = sr2 -> S4.t = S.t -> S3.clk <= S4.clk -> (∀ n, n ≠ NX -> n ≠ NS -> S4.blk n = S3.blk n) -> S4.tok = S3.tok -> SxIs c NX sx NS NF NP s sr2 S4 -> k (.tup []) S4 := by
     intro sr2 S4 e1 e2 e3 e4 e5 e6
     rw [e1] at hk
     exact hk S4 e2 (by omega) (fun n h1 h2 h3 h4 => (e4 n h2 h3).trans (fr5 n h1 h3)) (fun n h1 h2 => by rw [e5]; exact fr6 n h1 h2) e6
   obtain ⟨bx3, vf3, vp3, hb3, hf3, hp3⟩ := sx3
   simp only [SrC, hen] at hb3
   by_cases hdp : c.depth <= E.path.length \/ aw = []
   . have sx4 : ∀ (S4 : St) (run cu sp : Int), S4.blk NX = some ⟨sx, 5, [.agg [.ptr NS s 17 0 0, iv cu, iv sp, .fn 27 [], .fn 28 []]]⟩ -> S4.blk NS = some ⟨s, 17, [.agg (SrC c vf3 vp3 { E with runs := run })]⟩ -> S4.blk NP = S3.blk NP -> S4.tok = S3.tok -> SxIs c NX sx NS NF NP s { E with runs := run, cut := cu, slept := sp } S4 := by
       intro S4 run cu sp e1 e2 e3 e4
       exact ⟨e1, vf3, vp3, e2, hf3.at (by rw [e4]), hp3.at e3⟩
     simp only [SrC] at sx4
     by_cases hdp1 : c.depth <= E.path.length
     . have hvn2 : visitS c (f + 1) sr w sl = { E with runs := w64 (E.runs + 1) } := by rw [hvn]; simp [hdp1, hen]; omega
       simp [r1, p0, hdp1, bx3, hb3, hxs]
       refine deep_v c NS NF NP s { E with runs := w64 (E.runs + 1) } ⟨vf3, vp3, by simp [SrC, hen], hf3.at rfl, hp3.at (by simp [hne.symm])⟩ (fun S5 u1 u2 u3 u4 => ?_)
       simp at u1 u2 u3 u4
       simp [u1, hdp1]
       refine fin _ _ hvn2 rfl (by simp only []; omega) (fun n h1 h2 => by simp [u2, h2]) (by simp [u3]) ?_
       exact sx4 _ _ _ _ (by simp [u2, hxs, bx3]) (by simp [u2, hen]) (by simp [u2, hne.symm]) (by simp [u3])
     . have hdp2 : aw = [] := by rcases hdp with q | q; exact absurd q hdp1; exact q
       have hlt1 : E.path.length < c.depth := by omega
       have hvl0 : lenOf v = some 0 := by rw [hvl, hdp2]; rfl
       simp [r1, p0, p7, hdp1, hvl0, bx3, hb3, hxs]
       refine deep_v c NS NF NP s { E with runs := w64 (E.runs + 1) } ⟨vf3, vp3, by simp [SrC, hen], hf3.at rfl, hp3.at (by simp [hne.symm])⟩ (fun S5 u1 u2 u3 u4 => ?_)
       simp at u1 u2 u3 u4
       by_cases hall : allV c.b w = []
       . have hvn2 : visitS c (f + 1) sr w sl = { E with runs := w64 (E.runs + 1) } := by rw [hvn]; simp [hdp2, hen, hall]
         simp [u1, hdp1, p6, hall]
         refine fin _ _ hvn2 rfl (by simp only []; omega) (fun n h1 h2 => by simp [u2, h2]) (by simp [u3]) ?_
         exact sx4 _ _ _ _ (by simp [u2, hxs, bx3]) (by simp [u2, hen]) (by simp [u2, hne.symm]) (by simp [u3])
       . have hvn2 : visitS c (f + 1) sr w sl = { E with runs := w64 (E.runs + 1), slept := w64 (E.slept + 1), cut := w64 (E.cut + (allV c.b w).length) } := by rw [hvn]; simp [hdp2, hen, hall, hlt1]
         have hal0 : 0 < (allV c.b w).length := Nat.pos_of_ne_zero fun q => hall (List.length_eq_zero_iff.1 q)
         simp [u1, u2, hdp1, p0, p6, hal0, bx3, hxs]
         refine fin _ _ hvn2 rfl (by simp only []; omega) (fun n h1 h2 => by simp [u2, h1, h2]) (by simp [u3]) ?_
         exact sx4 _ _ _ _ (by simp [w64]) (by simp [u2, hxs.symm, hen]) (by simp [u2, hne.symm, hxp.symm]) (by simp [u3])
   . have hdp1 : ¬ c.depth <= E.path.length := fun q => hdp (.inl q)
     have hdp2 : aw ≠ [] := fun q => hdp (.inr q)
     have hdp3 : aw.length ≠ 0 := fun q => hdp2 (List.length_eq_zero_iff.1 q)
     obtain ⟨f', rfl⟩ : ∃ f', f = f' + 1 := ⟨f - 1, by rw [hpe] at hdp1; omega⟩
     have hvn2 : visitS c (f' + 1 + 1) sr w sl = loopS (visitS c (f' + 1)) c w sl [] aw { E with cut := w64 (E.cut + w64 ((allV c.b w).length - aw.length)) } := by rw [hvn]; simp [hdp1, hdp2, hen]
     rw [hvn2] at hk
     have hawm : ∀ e ∈ aw, e ∈ allV c.b w := fun e q => by rw [haw] at q; exact (List.mem_filter.1 q).1
     have hawl : aw.length <= 5000 := by rw [haw]; exact Nat.le_trans (List.length_filter_le _ _) hal
     have b5 : S3.blk 262004 = some ⟨S.clk, 6, [w.av]⟩ := by rw [r2, b4]; rfl
     simp [r1, p0, p7, p6, hdp1, hvl, hdp3, bx3, hb3, hxs]
     refine visitS_loop c I T hV f' (hrec f' rfl) w hI sl aw hawm hawl NX sx NS NF NP s l0 l1 l2 l3 hne hxs hxp { E with cut := w64 (E.cut + w64 ((allV c.b w).length - aw.length)) } (by rw [hpe]; exact hpl) hfe (by rw [hpe]; exact hsl) hsT
       ⟨by simp [r1, p0], by simp [r1, p2], ⟨v, by simp [r1, p7], by simp, pv.at (by rw [r3])⟩, by simp, by simp, ⟨S.clk, by simp [r1, p4], by simp [b5]; omega⟩, Nat.le_refl _, fun _ _ _ _ _ => rfl, fun _ _ _ => rfl⟩
       ⟨by simp [w64], vf3, vp3, by simp [SrC, hen, hxs.symm, hb3], hf3.at rfl, hp3.at (by simp [hxp.symm])⟩ (fun e S' he t1 t2 t3 t4 => ?_)
     simp at t1
     have fin2 : ∀ S4 : St, S4.t = S.t -> S4.clk = S'.clk -> S4.tok = S'.tok -> S4.blk = S'.blk -> k (.tup []) S4 := by
       intro S4 e1 e2 e3 e4
       refine hk S4 e1 (by omega) (fun n h1 h2 h3 h4 => ?_) (fun n h1 h2 => ?_) (t4.at (by rw [e4]) (by rw [e4]) (by rw [e3]) (by rw [e4]))
       . rw [e4, t2 n h1 h2 h3 h4]
         simp [h2]
         exact fr5 n h1 h3
       . rw [e3, t3 n h1 h2]
         exact fr6 n h1 h2
     rcases he with rfl | rfl
     . simp
       exact fin2 _ rfl rfl rfl rfl
     . simp
       exact fin2 _ rfl rfl rfl rfl
theorem visitS_v (c : Cfg) (I : Nat -> Wld -> Prop) (T : Evt -> Prop) (hV : SOk c I T) : ∀ f, VisS c I T f
 | 0 => visitS_in c I T hV 0 (fun f' h => by omega)
 | f + 1 => visitS_in c I T hV (f + 1) (fun f' h => by have : f' = f := by omega
                                                       subst this; exact visitS_v c I T hV f')
end Go.Gv

namespace Go.Gv
open Go.Proofs
def start_r0 : List AI := [⟨(some 1), none, (.op (.box 266001 4 (.t 0)))⟩, ⟨(some 2), none, (.op (.new 266002 6 (.agg [.nils, .nils, (.int .i64 0), (.int .i64 0), (.int .i64 0), (.int .i64 0)])))⟩, ⟨(some 3), none, (.op (.mv (.c (.int .i64 0))))⟩]
def start_r1 : List AI := [⟨(some 7), none, (.op (.load (some 4) (.t 1)))⟩, ⟨(some 8), none, (.call (.c (.fn 89 [])) [(.t 7)])⟩, ⟨(some 4), none, (.op (.mv (.t 8)))⟩]
def start_r2 : List AI := [⟨(some 9), none, (.op (.mv (.t 4)))⟩, ⟨(some 10), none, (.op (.ibin .neq (.t 9) (.c (.int .i64 0))))⟩]
def start_r3 : List AI := [⟨(some 11), none, (.op (.load (some 6) (.t 2)))⟩, ⟨(some 12), none, (.op (.mv (.t 4)))⟩, ⟨none, none, (.op (.store 6 (.t 2) (.t 11)))⟩, ⟨(some 3), none, (.op (.mv (.t 12)))⟩]
def start_r4 : List AI := [⟨(some 13), none, (.op (.fld 1 (.t 1)))⟩, ⟨(some 14), none, (.op (.load none (.t 13)))⟩, ⟨(some 15), none, (.op (.len (.t 14)))⟩, ⟨(some 16), none, (.op (.mv (.c (.int .i64 0))))⟩]
def start_r5 : List AI := [⟨(some 17), none, (.op (.ibin .lss (.t 16) (.t 15)))⟩]
def start_r6 : List AI := [⟨(some 18), none, (.op (.idx 4 (.t 14) (.t 16)))⟩, ⟨(some 19), none, (.op (.load (some 4) (.t 18)))⟩, ⟨(some 6), none, (.op (.new 266006 4 (.agg [.nils, (.int .i64 0), (.int .i64 0), (.bool false)])))⟩, ⟨none, none, (.op (.store 4 (.t 6) (.t 19)))⟩]
def start_r7 : List AI := [⟨(some 20), none, (.op (.fld 0 (.t 2)))⟩, ⟨(some 21), none, (.op (.load none (.t 20)))⟩, ⟨(some 22), none, (.op (.fld 0 (.t 6)))⟩, ⟨(some 23), none, (.op (.load none (.t 22)))⟩, ⟨(some 24), none, (.call (.c (.fn 91 [])) [(.t 23)])⟩, ⟨(some 25), none, (.op (.fld 3 (.t 6)))⟩, ⟨(some 26), none, (.op (.load none (.t 25)))⟩, ⟨(some 27), none, (.op (.build [.nils, (.bool false), (.int .i64 0), (.int .i64 0), (.int .i64 0)] [(0, (1, (.t 24))), (1, (1, (.t 26)))]))⟩, ⟨(some 28), none, (.op (.bslm 1000266028 5 167 1 (.agg [.nils, (.bool false), (.int .i64 0), (.int .i64 0), (.int .i64 0)]) [(0, (.t 27))]))⟩, ⟨(some 29), none, (.op (.appw 1000266029 5 167 56 (.t 21) (.t 28)))⟩, ⟨(some 30), none, (.op (.fld 0 (.t 2)))⟩, ⟨none, none, (.op (.store 1 (.t 30) (.t 29)))⟩]
def start_p7 : List (List Nat) := [[], [0], [], [2], [3, 2], [], [5], [4, 6, 3, 2, 5], [7, 4, 6, 3, 2, 5], [1, 8, 4, 0, 7, 6, 3, 2, 5], [0, 1, 2, 3, 4, 5, 6, 7, 8, 9], [10, 9, 0, 1, 2, 3, 4, 5, 6, 7, 8]]
def start_r8 : List AI := [⟨(some 31), none, (.op (.ibin .add (.t 16) (.c (.int .i64 1))))⟩, ⟨(some 16), none, (.op (.mv (.t 31)))⟩]
def start_l0 : AC := (.seq (.reg start_r5) (.seq (.cond (.t 17) .skip (.exit 0)) (.seq (.block 1 (.seq (.reg start_r6) (.regd start_r7 start_p7))) (.reg start_r8))))
def start_r9 : List AI := [⟨(some 32), none, (.op (.load (some 4) (.t 1)))⟩, ⟨(some 33), none, (.op (.fld 2 (.t 1)))⟩, ⟨(some 34), none, (.op (.load none (.t 33)))⟩, ⟨(some 35), none, (.call (.c (.fn 92 [])) [(.t 32), (.t 2), (.c (.int .i64 (-1))), (.t 34)])⟩]
def start_r10 : List AI := [⟨(some 36), none, (.op (.load (some 6) (.t 2)))⟩, ⟨none, none, (.op (.store 6 (.t 2) (.t 36)))⟩, ⟨(some 3), none, (.op (.mv (.c (.int .i64 0))))⟩]
def start_c : AC := (.seq (.reg start_r0) (.seq (.seq (.reg start_r1) (.seq (.reg start_r2) (.cond (.t 10) (.seq (.reg start_r3) .ret) .skip))) (.seq (.seq (.reg start_r4) (.block 0 (.loop start_l0))) (.seq (.reg start_r9) (.seq (.reg start_r10) .ret)))))
def start_res : List ARes := [(.cell (some 6) 2), (.tmp 3)]
set_option maxRecDepth 100000 in
theorem start_get : getF Tryz.prog 58 266000 [(28, 1000000028), (29, 1000000029)] = some ("gavotte/world.Start", 37, start_c, start_res) := by kernel_rfl
def ncheck_r0 : List AI := [⟨(some 1), none, (.op (.box 267001 2 (.t 0)))⟩, ⟨(some 2), none, (.op (.mv (.c (.bool false))))⟩]
def ncheck_r1 : List AI := [⟨(some 3), none, (.op (.fld 0 (.t 1)))⟩, ⟨(some 4), none, (.op (.load none (.t 3)))⟩, ⟨(some 5), none, (.op (.ibin .geq (.t 4) (.c (.int .i64 0))))⟩, ⟨(some 6), none, (.op (.mv (.t 5)))⟩, ⟨(some 7), (some (6, true)), (.op (.fld 0 (.t 1)))⟩, ⟨(some 8), (some (6, true)), (.op (.load none (.t 7)))⟩, ⟨(some 9), (some (6, true)), (.op (.ibin .leq (.t 8) (.c (.int .i64 64))))⟩, ⟨(some 10), none, (.op (.pick (.t 6) (.t 9) (.c (.bool false))))⟩, ⟨(some 11), none, (.op (.mv (.t 10)))⟩, ⟨(some 12), (some (11, true)), (.op (.fld 1 (.t 1)))⟩, ⟨(some 13), (some (11, true)), (.op (.load none (.t 12)))⟩, ⟨(some 14), (some (11, true)), (.op (.ibin .geq (.t 13) (.c (.int .i64 1))))⟩, ⟨(some 15), none, (.op (.pick (.t 11) (.t 14) (.c (.bool false))))⟩, ⟨(some 16), none, (.op (.mv (.t 15)))⟩, ⟨(some 17), (some (16, true)), (.op (.fld 1 (.t 1)))⟩, ⟨(some 18), (some (16, true)), (.op (.load none (.t 17)))⟩, ⟨(some 19), (some (16, true)), (.op (.ibin .leq (.t 18) (.c (.int .i64 65536))))⟩, ⟨(some 20), none, (.op (.pick (.t 16) (.t 19) (.c (.bool false))))⟩, ⟨(some 2), none, (.op (.mv (.t 20)))⟩]
def ncheck_c : AC := (.seq (.reg ncheck_r0) (.seq (.reg ncheck_r1) .ret))
def ncheck_res : List ARes := [(.tmp 2)]
set_option maxRecDepth 100000 in
theorem ncheck_get : getF Tryz.prog 57 267000 [] = some ("gavotte/naive.Check", 21, ncheck_c, ncheck_res) := by kernel_rfl
attribute [simp] start_r0 start_r1 start_r2 start_r3 start_r4 start_r5 start_r6 start_r7 start_p7 start_r8 start_r9 start_r10 start_res ncheck_r0 ncheck_r1 ncheck_res
def limOk (depth most : Int) : Bool := decide (0 <= depth) && decide (depth <= 64) && decide (1 <= most) && decide (most <= 65536)
theorem ncheck_pc (depth most : Int) : PC Tryz.prog 57 [.agg [iv depth, iv most]] (.bool (limOk depth most)) := by
 refine pc_of_get ncheck_get (by simp) _ (by simp) _ ?_
 unfold ncheck_c limOk
 by_cases h1 : 0 <= depth
 . by_cases h2 : depth <= 64
   . by_cases h3 : 1 <= most
     . simp [h1, h2, h3]
     . simp [h1, h2, h3]
   . simp [h1, h2]
 . simp [h1]
def actW (a : Actr) : Lcl := ⟨a.regs, a.armed, 0, 0, 0⟩
theorem start_loop (p : Prg) (hpa : p.as.length <= 1000) (hpr : ∀ a ∈ p.as, a.regs.length <= 1000) (s2 : Nat) {S : St} {κ : Ex -> St -> Prop} {u : Dep κ} (g2 : S.t 2 = .ptr 266002 s2 6 0 0) (b2 : S.blk 266002 = some ⟨s2, 6, [.agg [.nils, .nils, iv 0, iv 0, iv 0, iv 0]]⟩) (g14 : S.t 14 = .lst 4 (p.as.map Actr.av)) (g15 : S.t 15 = iv p.as.length) (g16 : S.t 16 = iv 0)
   (hk : ∀ S', S'.t 1 = S.t 1 -> S'.t 2 = S.t 2 -> (∀ n, n ≠ 266002 -> n ≠ 266006 -> n ≠ 1000266028 -> n ≠ 1000266029 -> S'.blk n = S.blk n) -> WIs 1000266029 266002 s2 ⟨p.as.map actW, [], ⟨0, 0, 0, 0⟩⟩ S' -> κ (.exit 0) S') : LoopG Tryz.prog start_l0 κ S u := by
 refine loopN (fun i S' => S'.t 1 = S.t 1 /\ S'.t 2 = .ptr 266002 s2 6 0 0 /\ S'.t 14 = .lst 4 (p.as.map Actr.av) /\ S'.t 15 = iv p.as.length /\ S'.t 16 = iv i /\ (∀ n, n ≠ 266002 -> n ≠ 266006 -> n ≠ 1000266028 -> n ≠ 1000266029 -> S'.blk n = S.blk n) /\
   ∃ va, S'.blk 266002 = some ⟨s2, 6, [.agg [va, .nils, iv 0, iv 0, iv 0, iv 0]]⟩ /\ MutIs S' 1000266029 5 va ((p.as.take i).map fun a => (actW a).av)) p.as.length ?_ ?_
 . exact ⟨rfl, g2, g14, g15, g16, fun _ _ _ _ _ => rfl, .nils, b2, .inl ⟨rfl, rfl⟩⟩
 . rintro i S' hi ⟨g1, g2', g14, g15, g16, gb, va, b2, hM⟩
   by_cases hlt : i < p.as.length
   . have hw := wrap_succ i _ hlt (by omega)
     have hra := hpr _ (List.getElem_mem hlt)
     have ht : (p.as.take (i + 1)).map (fun a => (actW a).av) = (p.as.take i).map (fun a => (actW a).av) ++ [(actW p.as[i]).av] := by rw [List.take_succ_eq_append_getElem hlt, List.map_append]; rfl
     have o1 := hM.one
     have o2 := hM.cells
     simp [start_l0, g1, g2', g14, g15, g16, hlt, b2, o1, o2]
     refine calld (cloneInts_pc p.as[i].regs hra) (by simp) ?_
     have hbd : (i + 1) * 56 <= 140737488355328 := by omega
     have hlen : ((p.as.take i).map fun a => (actW a).av).length = i := by simp; omega
     obtain ⟨xs, hxs⟩ : ∃ xs, xs = (p.as.take i).map fun a => (actW a).av := ⟨_, rfl⟩
     rw [<- hxs] at hM ht hlen
     subst hlen
     rw [List.map_take] at ht
     rcases hM with ⟨rfl, q⟩ | ⟨sa, rfl, hM⟩
     . subst q
       simp [g1, g2', g14, g15, g16, b2, wrap1]
       simp at ht
       rw [ht]
       refine ⟨fun n h1 h2 h3 h4 => ?_, .inr ⟨_, by simp; rfl, by simp [actW, ints, Lcl.av]⟩⟩
       simp [h1, h2, h3, h4]
       exact gb n h1 h2 h3 h4
     . simp [g1, g2', g14, g15, g16, b2, hM, hw, hbd]
       rw [ht]
       refine ⟨fun n h1 h2 h3 h4 => ?_, .inr ⟨_, by simp; rfl, by simp [actW, ints, Lcl.av]⟩⟩
       simp [h1, h2, h3, h4]
       exact gb n h1 h2 h3 h4
   . have e1 : i = p.as.length := by omega
     subst e1
     rw [List.take_length] at hM
     simp [start_l0, g1, g2', g14, g15, g16]
     exact hk _ (by simp [g1]) (by simp [g2, g2']) gb ⟨va, .nils, b2, by rw [List.map_map]; exact hM.at rfl, .inr ⟨rfl, rfl⟩⟩
theorem start_pc (hput : PutAll) (p : Prg) (hf : flowV p = 0) (hpa : p.as.length <= 1000) (hpr : ∀ a ∈ p.as, a.regs.length <= 1000) (hb : p.boot.length <= 900) (hba : ∀ n ∈ p.boot, n.args.length <= 1000) : PC Tryz.prog 58 [p.av] (.tup [(startV p).av, iv 0]) := by
 have hfc := fcheck_pc p
 rw [hf] at hfc
 refine pc_of_get start_get (by simp) _ (by simp) _ ?_
 unfold start_c
 simp [Prg.av]
 refine call hfc (by simp [Prg.av]) ?_
 simp
 refine start_loop p hpa hpr 1 (by simp) (by simp) (by simp) (by simp) (by simp) (fun S1 q1 q2 q3 q4 => ?_)
 simp at q1 q2
 have b1 := q3 266001 (by simp) (by simp) (by simp) (by simp)
 simp at b1
 simp [q1, q2, b1]
 have hw0 : WK p ⟨p.as.map actW, [], ⟨0, 0, 0, 0⟩⟩ 0 := ⟨by simp, by simp, by simpa using hpa, by simp, by simp⟩
 refine give_v hput 1000266029 266002 1 (by simp) (by simp) (by simp) p _ 0 hw0 p.boot (by omega) hba (-1) (by simp; omega) (q4.at rfl rfl) (fun S2 p1 p2 p3 p4 _ => ?_)
 have hst : startV p = giveV p ⟨p.as.map actW, [], ⟨0, 0, 0, 0⟩⟩ (-1) p.boot := rfl
 rw [<- hst] at p4
 obtain ⟨va, vm, f4, fA, fM⟩ := p4
 obtain ⟨o1, o2, o3, o4⟩ := fM.out
 simp [p1, q2, f4, fA.one, fA.cells, o1, o2, Wld.av]
 exact ⟨fA.co1 (by simp) (by simp) (lcls_closed _), fM.co1 _⟩
end Go.Gv
