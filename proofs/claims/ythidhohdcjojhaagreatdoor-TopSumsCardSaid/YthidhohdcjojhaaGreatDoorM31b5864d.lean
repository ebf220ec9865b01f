/- Texts of this proof, one behind the other. What is proved, and on which conditions, stands ahead of each. -/
import Derived.Test.YthidhohdcjojhaaGreatDoorProg
import Derived.Test.YthidhohdcjojhaaGreatDoorM3022a00d

set_option linter.unusedVariables false
set_option linter.unusedSimpArgs false
namespace Go.Gv
open Go.Proofs
def SxIs (c : Cfg) (NX sx NS NF NP s : Nat) (sr : Sr) (S : St) : Prop := S.blk NX = some ⟨sx, 5, [.agg [.ptr NS s 17 0 0, iv sr.cut, iv sr.slept, .fn 27 [], .fn 28 []]]⟩ /\ SrIs c NS NF NP s sr S
theorem SrIs.at {c : Cfg} {NS NF NP s : Nat} {sr : Sr} {S S' : St} (h : SrIs c NS NF NP s sr S) (h1 : S'.blk NS = S.blk NS) (h2 : S'.tok NF = S.tok NF) (h3 : S'.blk NP = S.blk NP) : SrIs c NS NF NP s sr S' := by
 obtain ⟨vf, vp, hb, hf, hp⟩ := h
 exact ⟨vf, vp, h1.trans hb, hf.at h2, hp.at h3⟩
theorem SxIs.at {c : Cfg} {NX sx NS NF NP s : Nat} {sr : Sr} {S S' : St} (h : SxIs c NX sx NS NF NP s sr S) (h0 : S'.blk NX = S.blk NX) (h1 : S'.blk NS = S.blk NS) (h2 : S'.tok NF = S.tok NF) (h3 : S'.blk NP = S.blk NP) : SxIs c NX sx NS NF NP s sr S' := ⟨h0.trans h.1, h.2.at h1 h2 h3⟩
theorem SxIs.up {c : Cfg} {NX sx NS NF NP s : Nat} {sr : Sr} {T : St} (h : SxIs c NX sx NS NF NP s sr T) : SxIs c (NX + LIM) sx (NS + LIM) (NF + LIM) (NP + LIM) s sr ⟨T.t, (upH LIM T.h).blk, (upH LIM T.h).tok, T.clk⟩ := by
 have hb' : T.h.blk NX = _ := h.1
 refine ⟨?_, h.2.up⟩
 simp only [upH_blk, hb']
 simp [rnB, rnE]
theorem SxIs.dn {c : Cfg} {NX sx NS NF NP s : Nat} {sr : Sr} {S0 : St} {t : Nat -> AV} {clk : Nat} (h : SxIs c (NX + LIM) sx (NS + LIM) (NF + LIM) (NP + LIM) s sr S0) : SxIs c NX sx NS NF NP s sr ⟨t, (dnH LIM S0.h).blk, (dnH LIM S0.h).tok, clk⟩ := by
 have hb' : S0.h.blk (NX + LIM) = _ := h.1
 refine ⟨?_, h.2.dn⟩
 simp only [dnH_blk, hb']
 simp [rnB, rnE]
theorem loopS_path (c : Cfg) (rec : Sr -> Wld -> List Evt -> Sr) (w : Wld) (sl : List Evt) (hrec : ∀ s w l, (rec s w l).path = s.path) : ∀ (l dn : List Evt) (s : Sr), (loopS rec c w sl dn l s).path = s.path
 | [], dn, s => rfl
 | e :: l, dn, s => by
   unfold loopS
   simp only []
   split
   . simp [hrec]
   . rw [loopS_path c rec w sl hrec l]
     simp [hrec]
theorem visitS_path (c : Cfg) : ∀ (f : Nat) (s : Sr) (w : Wld) (sl : List Evt), (visitS c f s w sl).path = s.path
 | 0, s, w, sl => rfl
 | f + 1, s, w, sl => by
   unfold visitS
   simp only []
   split
   . exact enterV_path c s w
   . split
     . split <;> exact enterV_path c s w
     . rw [loopS_path c _ w sl (visitS_path c f)]
       exact enterV_path c s w
theorem loopS_fok {c : Cfg} (rec : Sr -> Wld -> List Evt -> Sr) (w : Wld) (sl : List Evt) (hrec : ∀ s w l, FOk c s.found -> FOk c (rec s w l).found) : ∀ (l dn : List Evt) (s : Sr), FOk c s.found -> FOk c (loopS rec c w sl dn l s).found
 | [], dn, s, h => h
 | e :: l, dn, s, h => by
   unfold loopS
   simp only []
   split
   . exact hrec _ _ _ h
   . exact loopS_fok rec w sl hrec l _ _ (hrec _ _ _ h)
theorem visitS_fok {c : Cfg} : ∀ (f : Nat) (s : Sr) (w : Wld) (sl : List Evt), FOk c s.found -> FOk c (visitS c f s w sl).found
 | 0, s, w, sl, h => h
 | f + 1, s, w, sl, h => by
   unfold visitS
   simp only []
   split
   . exact h.enter w
   . split
     . split <;> exact h.enter w
     . exact loopS_fok _ w sl (visitS_fok f) _ _ _ (h.enter w)
structure SOk (c : Cfg) (I : Nat -> Wld -> Prop) (T : Evt -> Prop) : Prop extends VOk c I where
 tk : ∀ f w, I (f + 1) w -> ∀ e, T e -> TOk c.p w e
 al : ∀ f w, I f w -> ∀ e ∈ allV c.b w, T e
def VisS (c : Cfg) (I : Nat -> Wld -> Prop) (T : Evt -> Prop) (f : Nat) : Prop := ∀ (w : Wld) (sl : List Evt) (sr : Sr) (NX sx NS NF NP s : Nat), LIM <= NX -> LIM <= NS -> LIM <= NF -> LIM <= NP -> NS ≠ NP -> NX ≠ NS -> NX ≠ NP -> (sr.path.length : Int) + f = c.depth -> I f w -> FOk c sr.found -> sl.length <= sr.path.length * 5000 -> (∀ x ∈ sl, T x) ->
 ∀ (S : St) (k : AV -> St -> Prop) (u : Dep k), SxIs c NX sx NS NF NP s sr S ->
   (∀ S', S'.t = S.t -> S.clk <= S'.clk -> (∀ n, LIM <= n -> n ≠ NX -> n ≠ NS -> n ≠ NP -> S'.blk n = S.blk n) -> (∀ n, LIM <= n -> n ≠ NF -> S'.tok n = S.tok n) -> SxIs c NX sx NS NF NP s (visitS c (f + 1) sr w sl) S' -> k (.tup []) S') ->
   CallG Tryz.prog (.fn 54 []) [.ptr NX sx 5 0 0, w.av, evts sl] S k u
def tb22 (NX sx NS s : Nat) (w : Wld) (e : Evt) (w' : Wld) (nx : List Evt) : List (Nat × AV) :=
 [(157, .ptr NX sx 5 0 0), (158, .ptr NX sx 5 0 0), (159, .ptr NX sx 5 0 0), (160, .ptr NX sx 5 0 0), (161, .ptr NS s 17 0 0), (162, w.av), (163, e.av), (164, w'.av), (165, evts nx)]
theorem visitS_r22_v (c : Cfg) (w : Wld) (e : Evt) (hap : PC Tryz.prog 101 [c.p.av, w.av, e.av] (applyV c.p w e).av) (NX sx NS NF NP s : Nat) (hNX : 10000000000 <= NX) (hNS : 10000000000 <= NS) (hNF : 10000000000 <= NF) (hNP : 10000000000 <= NP) (hne : NS ≠ NP) (hxs : NX ≠ NS) (hxp : NX ≠ NP) (sr : Sr) (hl : sr.path.length <= 100000) (nx : List Evt) (s4 s11 st0 : Nat) {S : St} {k : St -> Prop} {u : Dep k}
   (g0 : S.t 0 = .ptr NX sx 5 0 0) (g4 : S.t 4 = .ptr 262004 s4 6 0 0) (b4 : S.blk 262004 = some ⟨s4, 6, [w.av]⟩) (g11 : S.t 11 = .ptr 262011 s11 5 0 0) (b11 : S.blk 262011 = some ⟨s11, 5, [e.av]⟩) (g12 : S.t 12 = evts nx) (h : SxIs c NX sx NS NF NP s sr S)
   (hk : ∀ S', (∀ x, x < 157 -> S'.t x = S.t x) -> S.clk <= S'.clk -> (∀ n, Out5 n -> n ≠ NS -> n ≠ NP -> S'.blk n = S.blk n) -> (∀ n, Out5 n -> S'.tok n = S.tok n) -> SrIs c NS NF NP s { sr with path := sr.path ++ [e] } S' -> CallG Tryz.prog (.fn 54 []) [.ptr NX sx 5 0 0, (applyV c.p w e).av, evts nx] S' (fun r S'' => k (S''.put (some 166) r)) .mk) :
   regIG Tryz.prog visitS_p22 st0 visitS_r22 S k u := by
 refine regi_cut (visitS_r22.take 9) (visitS_r22.drop 9) rfl (by rfl) ?_
 obtain ⟨hbx, hsr⟩ := h
 obtain ⟨tbl, htb⟩ : ∃ tbl : List (Nat × AV), tbl = tb22 NX sx NS s w e (applyV c.p w e) nx := ⟨_, rfl⟩
 have hnd : (tbl.map (·.1)).Nodup := by simp [htb, tb22]
 obtain ⟨Q, hQ⟩ : ∃ Q : St -> Prop, ∀ S', Q S' ↔ ((∀ n, Out5 n -> n ≠ NS -> n ≠ NP -> S'.blk n = S.blk n) /\ (∀ n, Out5 n -> S'.tok n = S.tok n) /\ SrIs c NS NF NP s { sr with path := sr.path ++ [e] } S') := ⟨_, fun _ => Iff.rfl⟩
 have hQt : ∀ (S' : St) (t : Nat -> AV) (k : Nat), Q S' -> Q ⟨t, S'.blk, S'.tok, k⟩ := fun S' t k q => (hQ _).2 ⟨((hQ _).1 q).1, ((hQ _).1 q).2.1, ((hQ _).1 q).2.2.at rfl rfl rfl⟩
 obtain ⟨I, hI⟩ : ∃ I : (Nat -> Bool) -> St -> Prop, ∀ D S', I D S' ↔ (SF tbl D S' /\ (∀ x, x < 157 \/ 165 < x -> S'.t x = S.t x) /\ S.clk <= S'.clk /\ (D 7 = false -> S'.blk = S.blk /\ S'.tok = S.tok) /\ (D 7 = true -> Q S')) := ⟨_, fun _ _ => Iff.rfl⟩
 show regI _ _ _ _ _ _
 refine ⟨I, (hI _ _).2 ⟨SF.start _ _, fun _ _ => rfl, Nat.le_refl _, fun _ => ⟨rfl, rfl⟩, by simp⟩, ?_, ?_⟩
 . rintro D S' j ai hj hDj hpre hcl hi
   obtain ⟨hsf, ht, hc, h7f, h7t⟩ := (hI _ _).1 hi
   have stp : ∀ (j d : Nat) (val : AV) (op : AOp) (st' : Nat), tbl[j]? = some (d, val) -> j ≠ 7 -> 157 <= d -> d <= 165 -> ex S'.t S'.blk S'.tok st' op = some { v := val } -> stepV Tryz.prog st' ⟨some d, none, .op op⟩ S' (I (fun i => (i == j) || D i)) := by
     intro j d val op st' hj m7 d0 d1 he
     have e7 : (7 == j) = false := by simp; omega
     refine stepV_op _ he ((hI _ _).2 ⟨hsf.ins hnd hj (upd_same _ _ _) (fun y hy => upd_ne _ _ _ _ hy), fun x hx => (upd_ne _ _ _ _ (by omega)).trans (ht x hx), hc, fun q => h7f ?_, fun q => hQt S' _ _ (h7t ?_)⟩)
     . simpa [e7] using q
     . simpa [e7] using q
   have n7 : j ∈ [1, 2, 3, 4, 5, 6] -> D 7 = false := by
     intro q
     cases hx : D 7 with
     | false => rfl
     | true =>
       have := hcl 7 hx j (by simp at q ⊢; omega)
       rw [hDj] at this; cases this
   match j, hj, hDj, hpre, n7 with
   | 0, hj, hDj, hpre, n7 =>
     simp at hj; subst hj
     exact stp 0 157 _ _ _ (by simp [htb, tb22]; rfl) (by simp) (by simp) (by simp) (by simp [ht, g0])
   | 1, hj, hDj, hpre, n7 =>
     simp at hj; subst hj
     exact stp 1 158 _ _ _ (by simp [htb, tb22]; rfl) (by simp) (by simp) (by simp) (by simp [ht, g0])
   | 2, hj, hDj, hpre, n7 =>
     simp at hj hpre; subst hj
     exact stp 2 159 _ _ _ (by simp [htb, tb22]; rfl) (by simp) (by simp) (by simp) (by simp [hsf 1 158 _ (by simp [htb, tb22]; rfl) hpre])
   | 3, hj, hDj, hpre, n7 =>
     simp at hj hpre; subst hj
     exact stp 3 160 _ _ _ (by simp [htb, tb22]; rfl) (by simp) (by simp) (by simp) (by simp [hsf 2 159 _ (by simp [htb, tb22]; rfl) hpre.1])
   | 4, hj, hDj, hpre, n7 =>
     simp at hj hpre; subst hj
     obtain ⟨e1, e2⟩ := h7f (n7 (by simp))
     exact stp 4 161 _ _ _ (by simp [htb, tb22]; rfl) (by simp) (by simp) (by simp) (by simp [hsf 3 160 _ (by simp [htb, tb22]; rfl) hpre.1, e1, hbx])
   | 5, hj, hDj, hpre, n7 =>
     simp at hj hpre; subst hj
     obtain ⟨e1, e2⟩ := h7f (n7 (by simp))
     exact stp 5 162 _ _ _ (by simp [htb, tb22]; rfl) (by simp) (by simp) (by simp) (by simp [ht, g4, e1, b4, Wld.av])
   | 6, hj, hDj, hpre, n7 =>
     simp at hj hpre; subst hj
     obtain ⟨e1, e2⟩ := h7f (n7 (by simp))
     exact stp 6 163 _ _ _ (by simp [htb, tb22]; rfl) (by simp) (by simp) (by simp) (by simp [ht, g11, e1, b11, Evt.av])
   | 7, hj, hDj, hpre, n7 =>
     simp at hj hpre; subst hj
     obtain ⟨e1, e2⟩ := h7f hDj
     refine stepV_call ?_
     simp only [List.map_cons, List.map_nil, X.ev, hsf 4 161 _ (by simp [htb, tb22]; rfl) hpre.1, hsf 5 162 _ (by simp [htb, tb22]; rfl) hpre.2.1, hsf 6 163 _ (by simp [htb, tb22]; rfl) hpre.2.2.1]
     refine down_v c w e hap NS NF NP s hNS hNF hNP hne sr hl (hsr.at (by rw [e1]) (by rw [e2]) (by rw [e1])) (fun S1 q1 q2 q3 q4 q5 => ?_)
     refine (hI _ _).2 ⟨hsf.ins hnd (j := 7) (d := 164) (v := (applyV c.p w e).av) (by simp [htb, tb22]) (by simp) (fun y hy => by simp [hy, q1]), fun x hx => ?_, Nat.le_trans hc q2, fun q => by simp at q, fun _ => (hQ _).2 ⟨fun n h1 h2 h3 => (q3 n h1 h2 h3).trans (by rw [e1]), fun n h1 => (q4 n h1).trans (by rw [e2]), q5.at rfl rfl rfl⟩⟩
     have : x ≠ 164 := by omega
     simp [this, q1, ht x hx]
   | 8, hj, hDj, hpre, n7 =>
     simp at hj hpre; subst hj
     exact stp 8 165 _ _ _ (by simp [htb, tb22]; rfl) (by simp) (by simp) (by simp) (by simp [ht, g12, evts])
   | j + 9, hj, hDj, hpre, n7 => simp at hj
 . rintro D S' hD hi
   obtain ⟨hsf, ht, hc, h7f, h7t⟩ := (hI _ _).1 hi
   have e0 := hsf 0 157 _ (by simp [htb, tb22]; rfl) (hD 0 (by simp))
   have e7 := hsf 7 164 _ (by simp [htb, tb22]; rfl) (hD 7 (by simp))
   have e8 := hsf 8 165 _ (by simp [htb, tb22]; rfl) (hD 8 (by simp))
   obtain ⟨q1, q2, q3⟩ := (hQ _).1 (h7t (hD 7 (by simp)))
   simp [e0, e7, e8]
   exact hk S' (fun x hx => ht x (.inl hx)) hc q1 q2 q3
def SvI (c : Cfg) (w : Wld) (sl aw : List Evt) (NX sx NS NF NP s : Nat) (S : St) (i : Nat) (S' : St) : Prop :=
 S'.t 0 = .ptr NX sx 5 0 0 /\ S'.t 2 = evts sl /\ (∃ v, S'.t 7 = v /\ S'.t 118 = v /\ AccIs S' v 262049 5 77 (aw.map Evt.av)) /\ S'.t 119 = iv aw.length /\ S'.t 120 = iv i /\ (∃ s4, S'.t 4 = .ptr 262004 s4 6 0 0 /\ S'.blk 262004 = some ⟨s4, 6, [w.av]⟩) /\
   S.clk <= S'.clk /\ (∀ n, LIM <= n -> n ≠ NX -> n ≠ NS -> n ≠ NP -> S'.blk n = S.blk n) /\ (∀ n, LIM <= n -> n ≠ NF -> S'.tok n = S.tok n)
theorem visitS_loop (c : Cfg) (I : Nat -> Wld -> Prop) (T : Evt -> Prop) (hV : SOk c I T) (f : Nat) (hrec : VisS c I T f) (w : Wld) (hI : I (f + 1) w) (sl aw : List Evt) (haw : ∀ e ∈ aw, e ∈ allV c.b w) (hawl : aw.length <= 5000) (NX sx NS NF NP s : Nat) (hNX : LIM <= NX) (hNS : LIM <= NS) (hNF : LIM <= NF) (hNP : LIM <= NP) (hne : NS ≠ NP) (hxs : NX ≠ NS) (hxp : NX ≠ NP) (E : Sr) (hpl : (E.path.length : Int) + (f + 1 : Nat) = c.depth) (hfo : FOk c E.found) (hsl : sl.length <= E.path.length * 5000) (hsT : ∀ x ∈ sl, T x)
   {S : St} {κ : Ex -> St -> Prop} {u : Dep κ} (hJ : SvI c w sl aw NX sx NS NF NP s S 0 S) (h : SxIs c NX sx NS NF NP s E S)
   (hk : ∀ e S', e = Ex.ret \/ e = Ex.exit 2 -> S.clk <= S'.clk -> (∀ n, LIM <= n -> n ≠ NX -> n ≠ NS -> n ≠ NP -> S'.blk n = S.blk n) -> (∀ n, LIM <= n -> n ≠ NF -> S'.tok n = S.tok n) -> SxIs c NX sx NS NF NP s (loopS (visitS c (f + 1)) c w sl [] aw E) S' -> κ e S') : LoopG Tryz.prog visitS_l1 κ S u := by
 obtain ⟨hw, hx, hal⟩ := hV.ok _ w hI
 have hd := hV.hd
 have l0 := hNX
 have l1 := hNS
 have l2 := hNF
 have l3 := hNP
 unfold LIM at hNS hNF hNP hNX
 refine loopN (fun i S' => SvI c w sl aw NX sx NS NF NP s S i S' /\
   ∃ sr', SxIs c NX sx NS NF NP s sr' S' /\ sr'.path = E.path /\ FOk c sr'.found /\ loopS (visitS c (f + 1)) c w sl (aw.take i) (aw.drop i) sr' = loopS (visitS c (f + 1)) c w sl [] aw E) aw.length ⟨hJ, E, h, rfl, hfo, rfl⟩ ?_
 rintro i S' hi ⟨⟨g0, g2, ⟨v, g7, g118, hv⟩, g119, g120, ⟨s4, g4, b4⟩, gc, gb, gt⟩, sr', hsr, hpa, hfo', hlp⟩
 by_cases hlt : i < aw.length
 . have ws := wrap_succ i _ hlt (by omega)
   obtain ⟨hap, hI'⟩ := hV.ap f w hI _ (haw _ (List.getElem_mem hlt))
   obtain ⟨e, he⟩ : ∃ e, e = aw[i] := ⟨_, rfl⟩
   have heT : T e := by rw [he]; exact hV.al _ w hI _ (haw _ (List.getElem_mem hlt))
   rw [<- he] at hap hI'
   rw [List.drop_eq_getElem_cons hlt, <- he] at hlp
   rcases hv with ⟨rfl, q⟩ | ⟨sv, rfl, hk2⟩
   . have : aw = [] := by simpa using q
     subst this
     simp at hlt
   . obtain ⟨hbx, vf0, vp0, hb0, hf0, hp0⟩ := hsr
     have m0 : NX ≠ 262011 := by omega
     have m1 : NS ≠ 262011 := by omega
     have m2 : NP ≠ 262011 := by omega
     simp only [SrC] at hb0
     have hle : i <= aw.length := by omega
     have hTd : ∀ x ∈ sl ++ aw.take i, T x := fun x q => by
       rcases List.mem_append.1 q with q | q
       . exact hsT x q
       . exact hV.al _ w hI _ (haw _ (List.mem_of_mem_take q))
     have hcl : (sl ++ aw.take i).length <= (E.path.length + 1) * 5000 := by simp; omega
     simp [visitS_l1, g0, g2, g7, g118, g119, g120, g4, b4, hlt, <- he, hbx, hb0, m0, m1, m2, hle, evts]
     refine calld (conc2 sl (aw.take i) (by omega) (by simp; omega)) (by simp [evts, List.map_take]) ?_
     simp [evts]
     refine calld (still_pc c.p w (sl ++ aw.take i) e (by omega) (hV.tk f w hI e heT) (fun x q => hV.tk f w hI x (hTd x q))) (by simp [evts, Prg.av, Wld.av, Evt.av]) ?_
     obtain ⟨nx, hnx⟩ : ∃ nx, nx = stillV c.p w (sl ++ aw.take i) e := ⟨_, rfl⟩
     rw [<- hnx]
     obtain ⟨hvp1, hvp2, hvp3⟩ := hp0.one
     simp [g0, hbx, hb0, m0, m1, evts, hvp1, hvp2, hvp3]
     refine calld (eye2_pc e (IntKind.i64.wrap (sr'.path.length + 1))) (by simp [Evt.av]) ?_
     simp
     refine visitS_r22_v c w e hap NX sx NS NF NP s hNX hNS hNF hNP hne hxs hxp sr' (by rw [hpa]; omega) nx s4 _ _ (by simp [g0]) (by simp [g4]) (by simp [b4]) (by simp; rfl) (by simp [Evt.av]) (by simp [evts])
       ⟨by simp [m0, hbx], vf0, vp0, by simp [m1, hb0, SrC], hf0.at (by simp; intro q; omega), hp0.at (by simp [m2])⟩ (fun S1 q1 q2 q3 q4 q5 => ?_)
     have hnm : ∀ x ∈ nx, x ∈ sl ++ aw.take i := fun x q => by rw [hnx] at q; exact (List.mem_filter.1 q).1
     have hnl : nx.length <= (sl ++ aw.take i).length := by rw [hnx]; exact List.length_filter_le _ _
     have z0 := (q1 0 (by simp)).trans (by simp; exact g0)
     have z2 := (q1 2 (by simp)).trans (by simp; exact g2)
     have z4 := (q1 4 (by simp)).trans (by simp; exact g4)
     have z7 := (q1 7 (by simp)).trans (by simp; exact g7)
     have z118 := (q1 118 (by simp)).trans (by simp; exact g118)
     have z119 := (q1 119 (by simp)).trans (by simp; exact g119)
     have z120 := (q1 120 (by simp)).trans (by simp; exact g120)
     have yx := (q3 NX (by unfold Out5; omega) hxs hxp).trans (by simp [m0]; exact hbx)
     have y4 := (q3 262004 (by unfold Out5; omega) (by omega) (by omega)).trans (by simp; exact b4)
     have yk := (q4 262049 (by unfold Out5; omega)).trans (by simp; exact hk2)
     have fq1 : ∀ n, LIM <= n -> n ≠ NS -> n ≠ NP -> S1.blk n = S'.blk n := fun n h1 h2 h3 => by
       have : n ≠ 262011 := by unfold LIM at h1; omega
       rw [q3 n (by unfold Out5; unfold LIM at h1; omega) h2 h3]
       simp [this]
     have fq2 : ∀ n, LIM <= n -> S1.tok n = S'.tok n := fun n h1 => by
       have : n ≠ 262137 := by unfold LIM at h1; omega
       rw [q4 n (by unfold Out5; unfold LIM at h1; omega)]
       simp [this]
     simp at q2
     clear q1 q3 q4 hk2
     have q6 : SxIs c NX sx NS NF NP s { sr' with path := sr'.path ++ [e] } S1 := ⟨yx, q5⟩
     refine callUp LIM ?_
     obtain ⟨sr2, hs2⟩ : ∃ sr2, sr2 = visitS c (f + 1) { sr' with path := sr'.path ++ [e] } (applyV c.p w e) nx := ⟨_, rfl⟩
     have hp2 : sr2.path = E.path ++ [e] := by rw [hs2, visitS_path, hpa]
     have hf2 : FOk c sr2.found := by rw [hs2]; exact visitS_fok _ _ _ _ hfo'
     refine hrec (applyV c.p w e) nx { sr' with path := sr'.path ++ [e] } (NX + LIM) sx (NS + LIM) (NF + LIM) (NP + LIM) s (by omega) (by omega) (by omega) (by omega) (by omega) (by omega) (by omega) (by simp [hpa]; omega) hI' hfo' (by simp [hpa]; omega) (fun x q => hTd x (hnm x q)) _ _ _ (SxIs.up q6) (fun S2 r1 r2 r3 r4 r5 => ?_)
     rw [<- hs2] at r5
     have h3 := SxIs.dn (t := fun _ => .nils) (clk := 0) r5
     have h4 : ∀ n, n ≠ NX -> n ≠ NS -> n ≠ NP -> (dnH LIM S2.h).blk n = S1.blk n := fun n h0 h1 h2 => dn_frame (T := S1) n (r3 (n + LIM) (by omega) (by omega) (by omega) (by omega))
     have h5 : ∀ n, n ≠ NF -> (dnH LIM S2.h).tok n = S1.tok n := fun n h1 => dn_tok (T := S1) n (r4 (n + LIM) (by omega) (by omega))
     have h3x := h3.1
     simp at h3x
     simp [z0, h3x]
     refine up_v c NS NF NP s hNS hNP hne sr2 E.path e hp2 (by rw [hp2]; simp; omega) (h3.2.at rfl rfl rfl) (fun S3 t1 t2 t3 t4 t5 => ?_)
     simp at r2 t1 t3 t4
     have fr1 : ∀ n, LIM <= n -> n ≠ NX -> n ≠ NS -> n ≠ NP -> S3.blk n = S.blk n := fun n h1 h0 h2 h6 => by
       rw [t2 n h2]
       exact (h4 n h0 h2 h6).trans ((fq1 n h1 h2 h6).trans (gb n h1 h0 h2 h6))
     have fr2 : ∀ n, LIM <= n -> n ≠ NF -> S3.tok n = S.tok n := fun n h1 h2 => by
       rw [t3]
       exact (h5 n h2).trans ((fq2 n h1).trans (gt n h1 h2))
     have hx3 : S3.blk NX = _ := (t2 NX hxs).trans h3x
     have hlp2 : loopS (visitS c (f + 1)) c w sl (aw.take i) (e :: aw.drop (i + 1)) sr' = (if sr2.ended = true then { sr2 with path := E.path } else loopS (visitS c (f + 1)) c w sl (aw.take i ++ [e]) (aw.drop (i + 1)) { sr2 with path := E.path }) := by
       have hd2 : sr2.path.dropLast = E.path := by rw [hp2]; simp
       rw [loopS, <- hnx, <- hs2]
       simp only [hd2]
     rw [hlp2] at hlp
     cases hen : sr2.ended with
     | true =>
       simp [hen] at hlp
       simp [t1]
       rw [<- hlp] at hk
       obtain ⟨vf3, vp3, hb3, hf3, hp3⟩ := t5
       exact hk _ _ (.inl rfl) (by simp; omega) fr1 fr2 ⟨hx3, vf3, vp3, by simpa [SrC, hen] using hb3, hf3, hp3⟩
     | false =>
       simp [hen] at hlp
       have hta : aw.take (i + 1) = aw.take i ++ [e] := by rw [List.take_succ_eq_append_getElem hlt, <- he]
       simp [t1, z120, ws]
       refine ⟨⟨by simp [t1, z0], by simp [t1, z2], ⟨_, by simp [t1, z7], by simp [t1, z118], .inr ⟨sv, rfl, ?_⟩⟩, by simp [t1, z119], by simp, ⟨s4, by simp [t1, z4], ?_⟩, by simp; omega, fr1, fr2⟩, { sr2 with path := E.path }, ⟨hx3, t5⟩, rfl, hf2, ?_⟩
       . show S3.tok 262049 = _
         rw [t3]
         exact (h5 262049 (by omega)).trans yk
       . show S3.blk 262004 = _
         rw [t2 262004 (by omega)]
         exact (h4 262004 (by omega) (by omega) (by omega)).trans y4
       . rw [hta, hen]; exact hlp
 . have e1 : i = aw.length := by omega
   subst e1
   rw [List.drop_length] at hlp
   have hlp' : sr' = loopS (visitS c (f + 1)) c w sl [] aw E := hlp
   rw [<- hlp'] at hk
   simp [visitS_l1, g0, g119, g120]
   exact hk _ _ (.inr rfl) (by simp only []; omega) gb gt (hsr.at rfl rfl rfl rfl)
theorem visitS_in (c : Cfg) (I : Nat -> Wld -> Prop) (T : Evt -> Prop) (hV : SOk c I T) (f : Nat) (hrec : ∀ f', f' + 1 = f -> VisS c I T f') : VisS c I T f := by
 intro w sl sr NX sx NS NF NP s hNX hNS hNF hNP hne hxs hxp hpl hI hfo hsl hsT S k u h hk
 obtain ⟨hw, hx, hal⟩ := hV.ok f w hI
 have hd := hV.hd
 have hfl := hfo.len
 have hl := hV.hl
 have l0 := hNX
 have l1 := hNS
 have l2 := hNF
 have l3 := hNP
 unfold LIM at hNS hNF hNP hNX
 have n0 : NX ≠ 262004 := by omega
 have n1 : NS ≠ 262004 := by omega
 have n2 : NP ≠ 262004 := by omega
 refine callV visitS_get (by simp) (by simp) ?_
 unfold visitS_c
 simp [Wld.av]
 have hb0 := h.1
 refine regi_cut (visitS_r1.take 6) (visitS_r1.drop 6) rfl (by rfl) ?_
 refine regi_end (by simp [visitS_r1]) (by rfl) ?_
 simp [visitS_r1, hb0, n0]
 refine enter_v c w hw hl hx NS NF NP s hNS hNF hNP hne sr (by omega) (by omega) (h.2.at (by simp [n1]) rfl (by simp [n2])) (fun S1 q1 q2 q3 q4 q5 => ?_)
 obtain ⟨E, hE⟩ : ∃ E, E = enterV c sr w := ⟨_, rfl⟩
 rw [<- hE] at q5 ⊢
 have hfe : FOk c E.found := by rw [hE]; exact hfo.enter w
 have hpe : E.path = sr.path := by rw [hE]; exact enterV_path c sr w
 have hce : E.cut = sr.cut /\ E.slept = sr.slept := by rw [hE]; unfold enterV; split <;> exact ⟨rfl, rfl⟩
 obtain ⟨aw, haw⟩ : ∃ aw, aw = awakeV (allV c.b w) sl := ⟨_, rfl⟩
 have hvn : visitS c (f + 1) sr w sl = (if E.ended = true then E else if c.depth <= E.path.length \/ aw = [] then (if ¬ c.depth <= E.path.length /\ allV c.b w ≠ [] then { E with runs := w64 (E.runs + 1), slept := w64 (E.slept + 1), cut := w64 (E.cut + (allV c.b w).length) } else { E with runs := w64 (E.runs + 1) }) else loopS (visitS c f) c w sl [] aw { E with cut := w64 (E.cut + w64 ((allV c.b w).length - aw.length)) }) := by
   rw [haw, hE]
   unfold awakeV
   conv => lhs; unfold visitS
   simp
 have b3 := q3 262004 (by unfold Out4; omega) (by omega)
 have bx := (q3 NX (by unfold Out4; omega) hxs).trans (by simp [n0, hb0]; rfl)
 simp at b3 q2
 have fr1 : ∀ n, LIM <= n -> n ≠ NS -> S1.blk n = S.blk n := fun n h1 h2 => by
   have : n ≠ 262004 := by unfold LIM at h1; omega
   rw [q3 n (by unfold Out4; unfold LIM at h1; omega) h2]
   simp [this]
 have fr2 : ∀ n, LIM <= n -> n ≠ NF -> S1.tok n = S.tok n := fun n h1 h2 => q4 n (by unfold Out4; unfold LIM at h1; omega) h2
 cases hen : E.ended with
 | true =>
   simp [hen] at hvn
   simp [q1, hen]
   rw [hvn] at hk
   exact hk _ rfl (by simp; omega) (fun n h1 h2 h3 h4 => fr1 n h1 h3) fr2 ⟨by rw [hce.1, hce.2]; exact bx, q5⟩
 | false =>
   simp only [hen] at hvn
   simp at hvn
   simp [q1, hen, bx, b3]
   refine calld (eye1_pc w) (by simp [Wld.av]) ?_
   obtain ⟨vf, vp, hb, hf, hp⟩ := q5
   simp [q1, hen, bx, b3, hb, SrC]
   refine calld (eall_pc c.b w hw) (by simp [Bud.av, Wld.av]) ?_
   simp [q1, hen, bx, b3, hb, SrC]
   refine visitS_aw (allV c.b w) sl (by omega) (by omega) (by simp [evts]) (by simp [evts]) (by simp) (by simp) (by simp) (fun S2 v p7 pv p0 p2 p4 p6 pc pb pk => ?_)
   rw [<- haw] at pv
   simp at p0 p2 p4 p6 pc
   have sx2 : SxIs c NX sx NS NF NP s E S2 := ⟨by rw [pb NX (by omega), hce.1, hce.2]; exact bx, vf, vp, (pb NS (by omega)).trans hb, hf.at (pk NF (by omega) (by omega)), hp.at (pb NP (by omega))⟩
   have b4 := (pb 262004 (by omega)).trans b3
   have bx2 := sx2.1
   have fr3 : ∀ n, LIM <= n -> n ≠ NS -> S2.blk n = S.blk n := fun n h1 h2 => (pb n (by unfold LIM at h1; omega)).trans (fr1 n h1 h2)
   have fr4 : ∀ n, LIM <= n -> n ≠ NF -> S2.tok n = S.tok n := fun n h1 h2 => (pk n (by unfold LIM at h1; omega) (by unfold LIM at h1; omega)).trans (fr2 n h1 h2)
   simp [p0, bx2]
   refine deep_v c NS NF NP s E (sx2.2.at rfl rfl rfl) (fun S3 r1 r2 r3 r4 => ?_)
   simp at r1 r2 r3 r4
   have sx3 : SxIs c NX sx NS NF NP s E S3 := sx2.at (by rw [r2]) (by rw [r2]) (by rw [r3]) (by rw [r2])
   have hvl : lenOf v = some aw.length := by
     rcases pv with ⟨rfl, q⟩ | ⟨st, rfl, _⟩
     . have : aw = [] := by simpa using q
       rw [this]; rfl
     . simp
   have fr5 : ∀ n, LIM <= n -> n ≠ NS -> S3.blk n = S.blk n := fun n h1 h2 => by rw [r2]; exact fr3 n h1 h2
   have fr6 : ∀ n, LIM <= n -> n ≠ NF -> S3.tok n = S.tok n := fun n h1 h2 => by rw [r3]; exact fr4 n h1 h2
   have fin : ∀ (sr2 : Sr) (S4 : St), visitS c (f + 1) sr w sl = sr2 -> S4.t = S.t -> S3.clk <= S4.clk -> (∀ n, n ≠ NX -> n ≠ NS -> S4.blk n = S3.blk n) -> S4.tok = S3.tok -> SxIs c NX sx NS NF NP s sr2 S4 -> k (.tup []) S4 := by
     intro sr2 S4 e1 e2 e3 e4 e5 e6
     rw [e1] at hk
     exact hk S4 e2 (by omega) (fun n h1 h2 h3 h4 => (e4 n h2 h3).trans (fr5 n h1 h3)) (fun n h1 h2 => by rw [e5]; exact fr6 n h1 h2) e6
   obtain ⟨bx3, vf3, vp3, hb3, hf3, hp3⟩ := sx3
   simp only [SrC, hen] at hb3
   by_cases hdp : c.depth <= E.path.length \/ aw = []
   . have sx4 : ∀ (S4 : St) (run cu sp : Int), S4.blk NX = some ⟨sx, 5, [.agg [.ptr NS s 17 0 0, iv cu, iv sp, .fn 27 [], .fn 28 []]]⟩ -> S4.blk NS = some ⟨s, 17, [.agg (SrC c vf3 vp3 { E with runs := run })]⟩ -> S4.blk NP = S3.blk NP -> S4.tok = S3.tok -> SxIs c NX sx NS NF NP s { E with runs := run, cut := cu, slept := sp } S4 := by
       intro S4 run cu sp e1 e2 e3 e4
       exact ⟨e1, vf3, vp3, e2, hf3.at (by rw [e4]), hp3.at e3⟩
     simp only [SrC] at sx4
     by_cases hdp1 : c.depth <= E.path.length
     . have hvn2 : visitS c (f + 1) sr w sl = { E with runs := w64 (E.runs + 1) } := by rw [hvn]; simp [hdp1, hen]; omega
       simp [r1, p0, hdp1, bx3, hb3, hxs]
       refine deep_v c NS NF NP s { E with runs := w64 (E.runs + 1) } ⟨vf3, vp3, by simp [SrC, hen], hf3.at rfl, hp3.at (by simp [hne.symm])⟩ (fun S5 u1 u2 u3 u4 => ?_)
       simp at u1 u2 u3 u4
       simp [u1, hdp1]
       refine fin _ _ hvn2 rfl (by simp only []; omega) (fun n h1 h2 => by simp [u2, h2]) (by simp [u3]) ?_
       exact sx4 _ _ _ _ (by simp [u2, hxs, bx3]) (by simp [u2, hen]) (by simp [u2, hne.symm]) (by simp [u3])
     . have hdp2 : aw = [] := by rcases hdp with q | q; exact absurd q hdp1; exact q
       have hlt1 : E.path.length < c.depth := by omega
       have hvl0 : lenOf v = some 0 := by rw [hvl, hdp2]; rfl
       simp [r1, p0, p7, hdp1, hvl0, bx3, hb3, hxs]
       refine deep_v c NS NF NP s { E with runs := w64 (E.runs + 1) } ⟨vf3, vp3, by simp [SrC, hen], hf3.at rfl, hp3.at (by simp [hne.symm])⟩ (fun S5 u1 u2 u3 u4 => ?_)
       simp at u1 u2 u3 u4
       by_cases hall : allV c.b w = []
       . have hvn2 : visitS c (f + 1) sr w sl = { E with runs := w64 (E.runs + 1) } := by rw [hvn]; simp [hdp2, hen, hall]
         simp [u1, hdp1, p6, hall]
         refine fin _ _ hvn2 rfl (by simp only []; omega) (fun n h1 h2 => by simp [u2, h2]) (by simp [u3]) ?_
         exact sx4 _ _ _ _ (by simp [u2, hxs, bx3]) (by simp [u2, hen]) (by simp [u2, hne.symm]) (by simp [u3])
       . have hvn2 : visitS c (f + 1) sr w sl = { E with runs := w64 (E.runs + 1), slept := w64 (E.slept + 1), cut := w64 (E.cut + (allV c.b w).length) } := by rw [hvn]; simp [hdp2, hen, hall, hlt1]
         have hal0 : 0 < (allV c.b w).length := Nat.pos_of_ne_zero fun q => hall (List.length_eq_zero_iff.1 q)
         simp [u1, u2, hdp1, p0, p6, hal0, bx3, hxs]
         refine fin _ _ hvn2 rfl (by simp only []; omega) (fun n h1 h2 => by simp [u2, h1, h2]) (by simp [u3]) ?_
         exact sx4 _ _ _ _ (by simp [w64]) (by simp [u2, hxs.symm, hen]) (by simp [u2, hne.symm, hxp.symm]) (by simp [u3])
   . have hdp1 : ¬ c.depth <= E.path.length := fun q => hdp (.inl q)
     have hdp2 : aw ≠ [] := fun q => hdp (.inr q)
     have hdp3 : aw.length ≠ 0 := fun q => hdp2 (List.length_eq_zero_iff.1 q)
     obtain ⟨f', rfl⟩ : ∃ f', f = f' + 1 := ⟨f - 1, by rw [hpe] at hdp1; omega⟩
     have hvn2 : visitS c (f' + 1 + 1) sr w sl = loopS (visitS c (f' + 1)) c w sl [] aw { E with cut := w64 (E.cut + w64 ((allV c.b w).length - aw.length)) } := by rw [hvn]; simp [hdp1, hdp2, hen]
     rw [hvn2] at hk
     have hawm : ∀ e ∈ aw, e ∈ allV c.b w := fun e q => by rw [haw] at q; exact (List.mem_filter.1 q).1
     have hawl : aw.length <= 5000 := by rw [haw]; exact Nat.le_trans (List.length_filter_le _ _) hal
     have b5 : S3.blk 262004 = some ⟨S.clk, 6, [w.av]⟩ := by rw [r2, b4]; rfl
     simp [r1, p0, p7, p6, hdp1, hvl, hdp3, bx3, hb3, hxs]
     refine visitS_loop c I T hV f' (hrec f' rfl) w hI sl aw hawm hawl NX sx NS NF NP s l0 l1 l2 l3 hne hxs hxp { E with cut := w64 (E.cut + w64 ((allV c.b w).length - aw.length)) } (by rw [hpe]; exact hpl) hfe (by rw [hpe]; exact hsl) hsT
       ⟨by simp [r1, p0], by simp [r1, p2], ⟨v, by simp [r1, p7], by simp, pv.at (by rw [r3])⟩, by simp, by simp, ⟨S.clk, by simp [r1, p4], by simp [b5]; omega⟩, Nat.le_refl _, fun _ _ _ _ _ => rfl, fun _ _ _ => rfl⟩
       ⟨by simp [w64], vf3, vp3, by simp [SrC, hen, hxs.symm, hb3], hf3.at rfl, hp3.at (by simp [hxp.symm])⟩ (fun e S' he t1 t2 t3 t4 => ?_)
     simp at t1
     have fin2 : ∀ S4 : St, S4.t = S.t -> S4.clk = S'.clk -> S4.tok = S'.tok -> S4.blk = S'.blk -> k (.tup []) S4 := by
       intro S4 e1 e2 e3 e4
       refine hk S4 e1 (by omega) (fun n h1 h2 h3 h4 => ?_) (fun n h1 h2 => ?_) (t4.at (by rw [e4]) (by rw [e4]) (by rw [e3]) (by rw [e4]))
       . rw [e4, t2 n h1 h2 h3 h4]
         simp [h2]
         exact fr5 n h1 h3
       . rw [e3, t3 n h1 h2]
         exact fr6 n h1 h2
     rcases he with rfl | rfl
     . simp
       exact fin2 _ rfl rfl rfl rfl
     . simp
       exact fin2 _ rfl rfl rfl rfl
theorem visitS_v (c : Cfg) (I : Nat -> Wld -> Prop) (T : Evt -> Prop) (hV : SOk c I T) : ∀ f, VisS c I T f
 | 0 => visitS_in c I T hV 0 (fun f' h => by omega)
 | f + 1 => visitS_in c I T hV (f + 1) (fun f' h => by have : f' = f := by omega
                                                       subst this; exact visitS_v c I T hV f')
end Go.Gv

namespace Go.Gv
open Go.Proofs
def start_l0 : AC := (.seq (.reg [oB 17 .lss 16 15]) (.seq (.cond (.t 17) .skip (.exit 0)) (.seq (.block 1 (.seq (.reg [oA 18 (.idx 4 (.t 14) (.t 16)), oA 19 (.load (some 4) (.t 18)), oA 6 (.new 266006 4 (.agg [.nils, (.int .i64 0), (.int .i64 0), (.bool false)])), oN (.store 4 (.t 6) (.t 19))]) (.regd [oF 20 0 2, oL 21 20, oF 22 0 6, oL 23 22, oC 24 (.c (.fn 91 [])) [(.t 23)], oF 25 3 6, oL 26 25, oA 27 (.build [.nils, (.bool false), (.int .i64 0), (.int .i64 0), (.int .i64 0)] [(0, (1, (.t 24))), (1, (1, (.t 26)))]), oA 28 (.bslm 1000266028 5 167 1 (.agg [.nils, (.bool false), (.int .i64 0), (.int .i64 0), (.int .i64 0)]) [(0, (.t 27))]), oA 29 (.appw 1000266029 5 167 56 (.t 21) (.t 28)), oF 30 0 2, oN (.store 1 (.t 30) (.t 29))] [[], [0], [], [2], [3, 2], [], [5], [4, 6, 3, 2, 5], [7, 4, 6, 3, 2, 5], [1, 8, 4, 0, 7, 6, 3, 2, 5], [0, 1, 2, 3, 4, 5, 6, 7, 8, 9], [10, 9, 0, 1, 2, 3, 4, 5, 6, 7, 8]]))) (.reg [oZ 31 .add 16 1, oM 16 31]))))
def start_c : AC := (.seq (.reg [oA 1 (.box 266001 4 (.t 0)), oA 2 (.new 266002 6 (.agg [.nils, .nils, (.int .i64 0), (.int .i64 0), (.int .i64 0), (.int .i64 0)])), oI 3 0]) (.seq (.seq (.reg [oA 7 (.load (some 4) (.t 1)), oC 8 (.c (.fn 89 [])) [(.t 7)], oM 4 8]) (.seq (.reg [oM 9 4, oZ 10 .neq 9 0]) (.cond (.t 10) (.seq (.reg [oA 11 (.load (some 6) (.t 2)), oM 12 4, oN (.store 6 (.t 2) (.t 11)), oM 3 12]) .ret) .skip))) (.seq (.seq (.reg [oF 13 1 1, oL 14 13, oK 15 14, oI 16 0]) (.block 0 (.loop start_l0))) (.seq (.reg [oA 32 (.load (some 4) (.t 1)), oF 33 2 1, oL 34 33, oC 35 (.c (.fn 92 [])) [(.t 32), (.t 2), (.c (.int .i64 (-1))), (.t 34)]]) (.seq (.reg [oA 36 (.load (some 6) (.t 2)), oN (.store 6 (.t 2) (.t 36)), oI 3 0]) .ret)))))
set_option maxRecDepth 100000 in
theorem start_get : getF Tryz.prog 58 266000 [(28, 1000000028), (29, 1000000029)] = some ("gavotte/world.Start", 37, start_c, [(.cell (some 6) 2), (.tmp 3)]) := by kernel_rfl
def ncheck_c : AC := (.seq (.reg [oA 1 (.box 267001 2 (.t 0)), oA 2 (.mv (.c (.bool false)))]) (.seq (.reg [oF 3 0 1, oL 4 3, oZ 5 .geq 4 0, oM 6 5, gF 7 6 true 0 1, gL 8 6 true 7, oG 9 6 true (.ibin .leq (.t 8) (.c (.int .i64 64))), oA 10 (.pick (.t 6) (.t 9) (.c (.bool false))), oM 11 10, gF 12 11 true 1 1, gL 13 11 true 12, oG 14 11 true (.ibin .geq (.t 13) (.c (.int .i64 1))), oA 15 (.pick (.t 11) (.t 14) (.c (.bool false))), oM 16 15, gF 17 16 true 1 1, gL 18 16 true 17, oG 19 16 true (.ibin .leq (.t 18) (.c (.int .i64 65536))), oA 20 (.pick (.t 16) (.t 19) (.c (.bool false))), oM 2 20]) .ret))
set_option maxRecDepth 100000 in
theorem ncheck_get : getF Tryz.prog 57 267000 [] = some ("gavotte/naive.Check", 21, ncheck_c, [(.tmp 2)]) := by kernel_rfl
def limOk (depth most : Int) : Bool := decide (0 <= depth) && decide (depth <= 64) && decide (1 <= most) && decide (most <= 65536)
theorem ncheck_pc (depth most : Int) : PC Tryz.prog 57 [.agg [iv depth, iv most]] (.bool (limOk depth most)) := by
 refine pc_of_get ncheck_get (by simp) _ (by simp) _ ?_
 unfold ncheck_c limOk
 by_cases h1 : 0 <= depth
 . by_cases h2 : depth <= 64
   . by_cases h3 : 1 <= most
     . simp [h1, h2, h3]
     . simp [h1, h2, h3]
   . simp [h1, h2]
 . simp [h1]
def actW (a : Actr) : Lcl := ⟨a.regs, a.armed, 0, 0, 0⟩
theorem start_loop (p : Prg) (hpa : p.as.length <= 1000) (hpr : ∀ a ∈ p.as, a.regs.length <= 1000) (s2 : Nat) {S : St} {κ : Ex -> St -> Prop} {u : Dep κ} (g2 : S.t 2 = .ptr 266002 s2 6 0 0) (b2 : S.blk 266002 = some ⟨s2, 6, [.agg [.nils, .nils, iv 0, iv 0, iv 0, iv 0]]⟩) (g14 : S.t 14 = .lst 4 (p.as.map Actr.av)) (g15 : S.t 15 = iv p.as.length) (g16 : S.t 16 = iv 0)
   (hk : ∀ S', S'.t 1 = S.t 1 -> S'.t 2 = S.t 2 -> (∀ n, n ≠ 266002 -> n ≠ 266006 -> n ≠ 1000266028 -> n ≠ 1000266029 -> S'.blk n = S.blk n) -> WIs 1000266029 266002 s2 ⟨p.as.map actW, [], ⟨0, 0, 0, 0⟩⟩ S' -> κ (.exit 0) S') : LoopG Tryz.prog start_l0 κ S u := by
 refine loopN (fun i S' => S'.t 1 = S.t 1 /\ S'.t 2 = .ptr 266002 s2 6 0 0 /\ S'.t 14 = .lst 4 (p.as.map Actr.av) /\ S'.t 15 = iv p.as.length /\ S'.t 16 = iv i /\ (∀ n, n ≠ 266002 -> n ≠ 266006 -> n ≠ 1000266028 -> n ≠ 1000266029 -> S'.blk n = S.blk n) /\
   ∃ va, S'.blk 266002 = some ⟨s2, 6, [.agg [va, .nils, iv 0, iv 0, iv 0, iv 0]]⟩ /\ MutIs S' 1000266029 5 va ((p.as.take i).map fun a => (actW a).av)) p.as.length ?_ ?_
 . exact ⟨rfl, g2, g14, g15, g16, fun _ _ _ _ _ => rfl, .nils, b2, .inl ⟨rfl, rfl⟩⟩
 . rintro i S' hi ⟨g1, g2', g14, g15, g16, gb, va, b2, hM⟩
   by_cases hlt : i < p.as.length
   . have hw := wrap_succ i _ hlt (by omega)
     have hra := hpr _ (List.getElem_mem hlt)
     have ht : (p.as.take (i + 1)).map (fun a => (actW a).av) = (p.as.take i).map (fun a => (actW a).av) ++ [(actW p.as[i]).av] := by rw [List.take_succ_eq_append_getElem hlt, List.map_append]; rfl
     have o1 := hM.one
     have o2 := hM.cells
     simp [start_l0, g1, g2', g14, g15, g16, hlt, b2, o1, o2]
     refine calld (cloneInts_pc p.as[i].regs hra) (by simp) ?_
     have hbd : (i + 1) * 56 <= 140737488355328 := by omega
     have hlen : ((p.as.take i).map fun a => (actW a).av).length = i := by simp; omega
     obtain ⟨xs, hxs⟩ : ∃ xs, xs = (p.as.take i).map fun a => (actW a).av := ⟨_, rfl⟩
     rw [<- hxs] at hM ht hlen
     subst hlen
     rw [List.map_take] at ht
     rcases hM with ⟨rfl, q⟩ | ⟨sa, rfl, hM⟩
     . subst q
       simp [g1, g2', g14, g15, g16, b2, wrap1]
       simp at ht
       rw [ht]
       refine ⟨fun n h1 h2 h3 h4 => ?_, .inr ⟨_, by simp; rfl, by simp [actW, ints, Lcl.av]⟩⟩
       simp [h1, h2, h3, h4]
       exact gb n h1 h2 h3 h4
     . simp [g1, g2', g14, g15, g16, b2, hM, hw, hbd]
       rw [ht]
       refine ⟨fun n h1 h2 h3 h4 => ?_, .inr ⟨_, by simp; rfl, by simp [actW, ints, Lcl.av]⟩⟩
       simp [h1, h2, h3, h4]
       exact gb n h1 h2 h3 h4
   . have e1 : i = p.as.length := by omega
     subst e1
     rw [List.take_length] at hM
     simp [start_l0, g1, g2', g14, g15, g16]
     exact hk _ (by simp [g1]) (by simp [g2, g2']) gb ⟨va, .nils, b2, by rw [List.map_map]; exact hM.at rfl, .inr ⟨rfl, rfl⟩⟩
theorem start_pc (hput : PutAll) (p : Prg) (hf : flowV p = 0) (hpa : p.as.length <= 1000) (hpr : ∀ a ∈ p.as, a.regs.length <= 1000) (hb : p.boot.length <= 900) (hba : ∀ n ∈ p.boot, n.args.length <= 1000) : PC Tryz.prog 58 [p.av] (.tup [(startV p).av, iv 0]) := by
 have hfc := fcheck_pc p
 rw [hf] at hfc
 refine pc_of_get start_get (by simp) _ (by simp) _ ?_
 unfold start_c
 simp [Prg.av]
 refine call hfc (by simp [Prg.av]) ?_
 simp
 refine start_loop p hpa hpr 1 (by simp) (by simp) (by simp) (by simp) (by simp) (fun S1 q1 q2 q3 q4 => ?_)
 simp at q1 q2
 have b1 := q3 266001 (by simp) (by simp) (by simp) (by simp)
 simp at b1
 simp [q1, q2, b1]
 have hw0 : WK p ⟨p.as.map actW, [], ⟨0, 0, 0, 0⟩⟩ 0 := ⟨by simp, by simp, by simpa using hpa, by simp, by simp⟩
 refine give_v hput 1000266029 266002 1 (by simp) (by simp) (by simp) p _ 0 hw0 p.boot (by omega) hba (-1) (by simp; omega) (q4.at rfl rfl) (fun S2 p1 p2 p3 p4 _ => ?_)
 have hst : startV p = giveV p ⟨p.as.map actW, [], ⟨0, 0, 0, 0⟩⟩ (-1) p.boot := rfl
 rw [<- hst] at p4
 obtain ⟨va, vm, f4, fA, fM⟩ := p4
 obtain ⟨o1, o2, o3, o4⟩ := fM.out
 simp [p1, q2, f4, fA.one, fA.cells, o1, o2, Wld.av]
 exact ⟨fA.co1 (by simp) (by simp) (lcls_closed _), fM.co1 _⟩
end Go.Gv

namespace Go.Gv
open Go.Proofs
def fnew_c : AC := (.seq (.reg [oA 4 (.box 268004 4 (.t 0)), oA 5 (.box 268005 4 (.t 1)), oA 7 (.box 268007 2 (.t 3)), oA 8 (.mv (.c .nilp)), oA 9 (.new 268009 6 (.agg [.nils, .nils, (.int .i64 0), (.int .i64 0), (.int .i64 0), (.int .i64 0)])), oI 10 0]) (.seq (.seq (.reg [oA 14 (.load (some 4) (.t 4)), oM 15 2, oC 16 (.c (.fn 55 [])) [(.t 14), (.t 15)], oM 11 16]) (.seq (.reg [oM 17 11, oZ 18 .neq 17 0]) (.cond (.t 18) (.seq (.reg [oA 19 (.build [.nils, .nils, (.int .i64 0), (.int .i64 0), (.int .i64 0), (.int .i64 0)] []), oM 20 11, oA 8 (.mv (.c .nilp)), oN (.store 6 (.t 9) (.t 19)), oM 10 20]) .ret) .skip))) (.seq (.seq (.reg [oA 21 (.load (some 4) (.t 5)), oC 22 (.c (.fn 56 [])) [(.t 21)], oA 23 (.not (.t 22)), oM 24 23, oG 25 24 false (.load (some 2) (.t 7)), ⟨(some 26), (some (24, false)), (.call (.c (.fn 57 [])) [(.t 25)])⟩, oG 27 24 false (.not (.t 26)), oA 28 (.pick (.t 24) (.c (.bool true)) (.t 27))]) (.cond (.t 28) (.seq (.reg [oA 29 (.build [.nils, .nils, (.int .i64 0), (.int .i64 0), (.int .i64 0), (.int .i64 0)] []), oA 8 (.mv (.c .nilp)), oN (.store 6 (.t 9) (.t 29)), oI 10 1]) .ret) .skip)) (.seq (.reg [oA 31 (.load (some 4) (.t 4)), oC 32 (.c (.fn 58 [])) [(.t 31)], oM 30 32, oE 33 30 0, oE 34 30 1, oA 12 (.new 268012 6 (.agg [.nils, .nils, (.int .i64 0), (.int .i64 0), (.int .i64 0), (.int .i64 0)])), oN (.store 6 (.t 12) (.t 33)), oM 13 34]) (.seq (.regd [oA 35 (.load (some 4) (.t 4)), oA 36 (.load (some 4) (.t 5)), oA 37 (.load (some 2) (.t 7)), oM 38 2, oA 39 (.build [(.bool false), (.int .i64 0), (.int .i64 0), .nils, .nils, .nils, .nils, (.int .i64 0), (.int .i64 0), (.int .i64 0), (.int .i64 0), (.int .i64 0), (.int .i64 0), (.int .i64 0), .nils, .nils, (.bool false)] [(4, (4, (.t 35))), (8, (4, (.t 36))), (12, (2, (.t 37))), (15, (1, (.t 38)))]), oA 40 (.box 268040 17 (.t 39)), oA 41 (.load (some 6) (.t 12)), oM 42 13, oM 8 40, oN (.store 6 (.t 9) (.t 41)), oM 10 42] [[], [], [], [], [0, 1, 2, 3], [4, 0, 1, 2, 3], [], [], [5, 0, 1, 2, 3, 4], [6, 8, 0, 1, 2, 3, 4, 5], [7, 9, 0, 1, 2, 3, 4, 5, 6, 8]]) .ret)))))
set_option maxRecDepth 100000 in
theorem fnew_get : getF Tryz.prog 29 268000 [] = some ("gavotte/naive.New", 43, fnew_c, [(.tmp 8), (.cell (some 6) 9), (.tmp 10)]) := by kernel_rfl
def watched_c : AC := (.seq (.reg [oA 5 (.box 269005 4 (.t 0)), oA 6 (.box 269006 4 (.t 1)), oA 8 (.box 269008 2 (.t 3)), oA 9 (.box 269009 2 (.t 4)), oA 10 (.new 269010 4 (.agg [(.bool false), (.int .i64 0), (.int .i64 0), .nils])), oA 11 (.new 269011 2 (.agg [(.int .i64 0), (.int .i64 0)])), oI 12 0]) (.seq (.reg [oA 18 (.load (some 4) (.t 5)), oA 19 (.load (some 4) (.t 6)), oM 20 2, oA 21 (.load (some 2) (.t 8)), oC 22 (.c (.fn 29 [])) [(.t 18), (.t 19), (.t 20), (.t 21)], oM 17 22, oE 23 17 0, oE 24 17 1, oE 25 17 2, oA 14 (.new 269014 6 (.agg [.nils, .nils, (.int .i64 0), (.int .i64 0), (.int .i64 0), (.int .i64 0)])), oM 13 23, oN (.store 6 (.t 14) (.t 24)), oM 15 25]) (.seq (.seq (.reg [oM 26 15, oZ 27 .neq 26 0]) (.cond (.t 27) (.seq (.reg [oA 28 (.build [(.bool false), (.int .i64 0), (.int .i64 0), .nils] []), oA 29 (.build [(.int .i64 0), (.int .i64 0)] []), oM 30 15, oN (.store 4 (.t 10) (.t 28)), oN (.store 2 (.t 11) (.t 29)), oM 12 30]) .ret) .skip)) (.seq (.reg [oM 31 13, oA 32 (.load (some 2) (.t 9)), oA 33 (.build [.nilp, (.int .i64 0), (.int .i64 0), .nilf, .nilf] [(0, (1, (.t 31))), (3, (2, (.t 32)))]), oA 34 (.box 269034 5 (.t 33)), oM 16 34]) (.seq (.reg [oM 35 16, oA 36 (.load (some 6) (.t 14)), oC 37 (.c (.fn 54 [])) [(.t 35), (.t 36), (.c .nils)]]) (.seq (.regd [oM 38 16, oH 39 38, oF 40 0 39, oL 41 40, oC 42 (.c (.fn 31 [])) [(.t 41)], oM 43 16, oH 44 43, oF 45 1 44, oA 46 (.load (some 2) (.t 45)), oN (.store 4 (.t 10) (.t 42)), oN (.store 2 (.t 11) (.t 46)), oI 12 0] [[], [0], [1, 0], [2, 1, 0], [3, 2, 1, 0], [], [5], [6, 5], [7, 6, 5], [4, 0, 1, 2, 3], [8, 9, 0, 1, 2, 3, 4, 5, 6, 7], [10, 0, 1, 2, 3, 4, 5, 6, 7, 8, 9]]) .ret))))))
set_option maxRecDepth 100000 in
theorem watched_get : getF Tryz.prog 26 269000 [] = some ("gavotte/sleep.Watched", 47, watched_c, [(.cell (some 4) 10), (.cell (some 2) 11), (.tmp 12)]) := by kernel_rfl
def sexplore_c : AC := (.seq (.reg [oA 4 (.box 270004 4 (.t 0)), oA 5 (.box 270005 4 (.t 1)), oA 7 (.box 270007 2 (.t 3)), oA 8 (.new 270008 4 (.agg [(.bool false), (.int .i64 0), (.int .i64 0), .nils])), oA 9 (.new 270009 2 (.agg [(.int .i64 0), (.int .i64 0)])), oI 10 0]) (.seq (.reg [oA 11 (.load (some 4) (.t 4)), oA 12 (.load (some 4) (.t 5)), oM 13 2, oA 14 (.load (some 2) (.t 7)), oA 15 (.build [.nilf, .nilf] [(0, (1, (.c (.fn 27 [])))), (1, (1, (.c (.fn 28 []))))]), oC 16 (.c (.fn 26 [])) [(.t 11), (.t 12), (.t 13), (.t 14), (.t 15)], oE 17 16 0, oE 18 16 1, oE 19 16 2, oN (.store 4 (.t 8) (.t 17)), oN (.store 2 (.t 9) (.t 18)), oM 10 19]) .ret))
set_option maxRecDepth 100000 in
theorem sexplore_get : getF Tryz.prog 19 270000 [] = some ("gavotte/sleep.Explore", 20, sexplore_c, [(.cell (some 4) 8), (.cell (some 2) 9), (.tmp 10)]) := by kernel_rfl
def told_c : AC := (.seq (.reg [oA 3 (.box 272003 4 (.t 0)), oA 4 (.box 272004 2 (.t 1)), oA 6 (.new 272006 7 (.agg [(.int .i64 0), (.int .i64 0), (.int .i64 0), (.int .i64 0), (.int .i64 0), (.int .i64 0), .nils]))]) (.seq (.seq (.reg [oM 8 2, oZ 9 .neq 8 0]) (.cond (.t 9) (.seq (.reg [oM 10 2, oA 11 (.build [(.int .i64 0), (.int .i64 0), (.int .i64 0), (.int .i64 0), (.int .i64 0), (.int .i64 0), .nils] [(0, (1, (.c (.int .i64 2)))), (1, (1, (.t 10)))]), oN (.store 7 (.t 6) (.t 11))]) .ret) .skip)) (.seq (.reg [oF 12 1 3, oL 13 12, oF 14 2 3, oL 15 14, oF 16 1 4, oL 17 16, oF 18 0 4, oL 19 18, oF 20 3 3, oL 21 20, oA 22 (.build [(.int .i64 0), (.int .i64 0), (.int .i64 0), (.int .i64 0), (.int .i64 0), (.int .i64 0), .nils] [(0, (1, (.c (.int .i64 3)))), (2, (1, (.t 13))), (3, (1, (.t 15))), (4, (1, (.t 17))), (5, (1, (.t 19))), (6, (1, (.t 21)))]), oA 7 (.new 272007 7 (.agg [(.int .i64 0), (.int .i64 0), (.int .i64 0), (.int .i64 0), (.int .i64 0), (.int .i64 0), .nils])), oN (.store 7 (.t 7) (.t 22))]) (.seq (.seq (.reg [oF 23 0 3, oL 24 23, oA 25 (.not (.t 24))]) (.cond (.t 25) (.reg [oF 26 0 7, oN (.store 1 (.t 26) (.c (.int .i64 4)))]) .skip)) (.seq (.reg [oA 27 (.load (some 7) (.t 7)), oN (.store 7 (.t 6) (.t 27))]) .ret)))))
set_option maxRecDepth 100000 in
theorem told_get : getF Tryz.prog 18 272000 [] = some ("gavotte/check.told", 28, told_c, [(.cell (some 7) 6)]) := by kernel_rfl
def task_c : AC := (.seq (.reg [oA 1 (.box 273001 11 (.t 0)), oA 2 (.new 273002 7 (.agg [(.int .i64 0), (.int .i64 0), (.int .i64 0), (.int .i64 0), (.int .i64 0), (.int .i64 0), .nils]))]) (.seq (.reg [oF 3 0 1, oA 4 (.load (some 4) (.t 3)), oF 5 5 1, oA 6 (.load (some 4) (.t 5)), oF 7 4 1, oL 8 7, oF 9 9 1, oA 10 (.load (some 2) (.t 9)), oC 11 (.c (.fn 19 [])) [(.t 4), (.t 6), (.t 8), (.t 10)], oE 12 11 0, oE 13 11 1, oE 14 11 2, oC 15 (.c (.fn 18 [])) [(.t 12), (.t 13), (.t 14)], oN (.store 7 (.t 2) (.t 15))]) .ret))
set_option maxRecDepth 100000 in
theorem task_get : getF Tryz.prog 9 273000 [] = some ("gavotte/check.Task", 16, task_c, [(.cell (some 7) 2)]) := by kernel_rfl
structure COk (c : Cfg) : Prop where
 wc : wcheckV c.p c.l = 0
 fl : flowV c.p = 0
 bu : budOk c.b = true
 li : limOk c.depth c.most = true
 im : ∀ x ∈ c.l, ∀ i ∈ x, i.a <= 9223372036854775807
 aa : c.p.as.length <= 1000
 rg : ∀ a ∈ c.p.as, a.regs.length <= 1000
 bo : c.p.boot.length <= 900
 ba : ∀ n ∈ c.p.boot, n.args.length <= 1000
def limAv (c : Cfg) : AV := .agg [iv c.depth, iv c.most]
theorem fnew_v (hput : PutAll) (c : Cfg) (h : COk c) {S : St} {k : AV -> St -> Prop} {u : Dep k}
   (hk : ∀ S' st, S'.t = S.t -> S.clk <= S'.clk -> (∀ n, n < 268000 \/ 269000 <= n -> S'.blk n = S.blk n) -> (∀ n, n < 268000 \/ 269000 <= n -> S'.tok n = S.tok n) -> S'.blk 268040 = some ⟨st, 17, [.agg (SrC c .nils .nils sr0)]⟩ -> k (.tup [.ptr 268040 st 17 0 0, (startV c.p).av, iv 0]) S') :
   CallG Tryz.prog (.fn 29 []) [c.p.av, c.b.av, watchesAv c.l, limAv c] S k u := by
 have hw := wcheck_pc c.p c.l h.im
 rw [h.wc] at hw
 have hb := emay_pc c.b
 rw [h.bu] at hb
 have hn := ncheck_pc c.depth c.most
 rw [h.li] at hn
 have hs := start_pc hput c.p h.fl h.aa h.rg h.bo h.ba
 refine callV fnew_get (by simp) (by simp) ?_
 unfold fnew_c
 simp [Prg.av, Bud.av, watchesAv, limAv]
 refine call hw (by simp [Prg.av]) ?_
 simp
 refine call hb (by simp [Bud.av]) ?_
 simp
 refine call hn (by simp) ?_
 simp
 refine call hs (by simp [Prg.av]) ?_
 simp [Wld.av]
 refine hk _ _ rfl (by simp only []; omega) (fun n hn => ?_) (fun n _ => rfl) (by simp [SrC, watchesAv, sr0])
 have n1 : n ≠ 268004 := by omega
 have n2 : n ≠ 268005 := by omega
 have n3 : n ≠ 268007 := by omega
 have n4 : n ≠ 268009 := by omega
 have n5 : n ≠ 268012 := by omega
 have n6 : n ≠ 268040 := by omega
 simp [n1, n2, n3, n4, n5, n6]
theorem COk.depth {c : Cfg} (h : COk c) : 0 <= c.depth := by
 have := h.li
 simp [limOk] at this
 omega
theorem watched_pc (hput : PutAll) (c : Cfg) (h : COk c) (I : Nat -> Wld -> Prop) (T : Evt -> Prop) (hV : SOk c I T) (hI : I c.depth.toNat (startV c.p)) :
   PC Tryz.prog 26 [c.p.av, c.b.av, watchesAv c.l, limAv c, .agg [.fn 27 [], .fn 28 []]] (.tup [(exploreS c).res, .agg [iv (exploreS c).cut, iv (exploreS c).slept], iv 0]) := by
 refine pc_of_get watched_get (by simp) _ (by simp) _ ?_
 unfold watched_c
 simp [Prg.av, Bud.av, watchesAv, limAv]
 refine fnew_v hput c h (fun S1 st q1 q2 q3 q4 q5 => ?_)
 have b9 := q3 269009 (by simp)
 have b10 := q3 269010 (by simp)
 have b11 := q3 269011 (by simp)
 simp at b9 b10 b11
 simp [q1, Wld.av, b9]
 refine callUp LIM ?_
 have h0 := h.depth
 refine call_coarse 0 (vals' := [.ptr (269034 + LIM) (S1.clk + 2 + 1 + 1 + 1) 5 0 0, (startV c.p).av, evts []]) rfl (fun j x y hx hy => ?_) ?_
 . match j, hx, hy with
   | 0, hx, hy => simp at hx hy; subst hx hy; exact .inl rfl
   | 1, hx, hy => simp at hx hy; subst hx hy; exact .inl rfl
   | 2, hx, hy => simp at hx hy; subst hx hy; exact .inr (by simp [elemR, dco, evts])
   | j + 3, hx, _ => simp at hx
 refine visitS_v c I T hV c.depth.toNat (startV c.p) [] sr0 (269034 + LIM) _ (268040 + LIM) (5 + LIM) (6 + LIM) st (Nat.le_add_left _ _) (Nat.le_add_left _ _) (Nat.le_add_left _ _) (Nat.le_add_left _ _) (by omega) (by omega) (by omega) (by simp [sr0]; omega) hI ⟨by simp [sr0], by simp [sr0]⟩ (by simp) (by simp) _ _ _ (SxIs.up ⟨by simp [sr0], .nils, .nils, by simp [q5], .inl ⟨rfl, by simp [sr0]⟩, .inl ⟨rfl, by simp [sr0]⟩⟩) (fun S2 r1 r2 r3 r4 r5 => ?_)
 have r6 := SxIs.dn (t := fun _ => .nils) (clk := 0) r5
 have c9 := dn_frame 269009 (r3 (269009 + LIM) (Nat.le_add_left _ _) (by omega) (by omega) (by omega))
 have c10 := dn_frame 269010 (r3 (269010 + LIM) (Nat.le_add_left _ _) (by omega) (by omega) (by omega))
 have c11 := dn_frame 269011 (r3 (269011 + LIM) (Nat.le_add_left _ _) (by omega) (by omega) (by omega))
 have hE : visitS c (c.depth.toNat + 1) sr0 (startV c.p) [] = exploreS c := rfl
 rw [hE] at r6
 simp [b10] at c10
 simp [b11] at c11
 obtain ⟨hx, vf, vp, g1, g2, g3⟩ := r6
 simp at hx g1
 simp [c10, c11, hx]
 refine callL (LCallP.of [268040, 261002] [] (exploreS c).res rfl (fun T hT => ?_)) ?_
 . refine fend_v (u := .mk) c 268040 st (by omega) (exploreS c) vf vp g2.fnd ((hT 268040 (by simp [rdV])).trans g1) (fun S' t1 t2 t3 t4 => ⟨fun E v h => res_rel _ _ g2.fnd E v h, ?_⟩)
   exact ⟨fun n hn => t2 n (by simpa using hn), fun n _ => by rw [t3]⟩
 simp [c10, c11, hx, Sr.res]
def Sr.rep (sr : Sr) (cut slept : Int) : AV := .agg [iv (if sr.ended = true then 4 else 3), iv 0, iv sr.runs, iv sr.worlds, iv slept, iv cut, .lst 2 (sr.found.map Fnd.av)]
theorem sexplore_pc (hput : PutAll) (c : Cfg) (h : COk c) (I : Nat -> Wld -> Prop) (T : Evt -> Prop) (hV : SOk c I T) (hI : I c.depth.toNat (startV c.p)) :
   PC Tryz.prog 19 [c.p.av, c.b.av, watchesAv c.l, limAv c] (.tup [(exploreS c).res, .agg [iv (exploreS c).cut, iv (exploreS c).slept], iv 0]) := by
 refine pc_of_get sexplore_get (by simp) _ (by simp) _ ?_
 unfold sexplore_c
 simp [Prg.av, Bud.av, watchesAv, limAv]
 refine call (watched_pc hput c h I T hV hI) (by simp [Prg.av, Bud.av, watchesAv, limAv]) ?_
 simp [Sr.res]
theorem told_pc (sr : Sr) (cut slept : Int) : PC Tryz.prog 18 [sr.res, .agg [iv cut, iv slept], iv 0] (sr.rep cut slept) := by
 refine pc_of_get told_get (by simp) _ (by simp) _ ?_
 unfold told_c
 cases he : sr.ended <;> simp [Sr.res, Sr.rep, he]
def Cfg.av (c : Cfg) : AV := .agg [.lst 2 (c.p.hs.map Hnd.av), .lst 4 (c.p.as.map Actr.av), .lst 3 (c.p.boot.map Nt.av), iv c.p.fuel, watchesAv c.l, iv c.b.drop, iv c.b.dup, iv c.b.time, iv c.b.crash, iv c.depth, iv c.most]
theorem task_pc (hput : PutAll) (c : Cfg) (h : COk c) (I : Nat -> Wld -> Prop) (T : Evt -> Prop) (hV : SOk c I T) (hI : I c.depth.toNat (startV c.p)) :
   PC Tryz.prog 9 [c.av] ((exploreS c).rep (exploreS c).cut (exploreS c).slept) := by
 refine pc_of_get task_get (by simp) _ (by simp) _ ?_
 unfold task_c
 simp [Cfg.av, watchesAv]
 refine call (sexplore_pc hput c h I T hV hI) (by simp [Prg.av, Bud.av, watchesAv, limAv]) ?_
 simp [Sr.res]
 refine call (told_pc (exploreS c) (exploreS c).cut (exploreS c).slept) (by simp [Sr.res]) ?_
 simp [Sr.rep]
end Go.Gv
