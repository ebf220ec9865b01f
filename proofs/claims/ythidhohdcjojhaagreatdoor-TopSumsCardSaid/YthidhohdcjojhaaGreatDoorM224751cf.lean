/- Texts of this proof, one behind the other. What is proved, and on which conditions, stands ahead of each. -/
import Derived.Test.YthidhohdcjojhaaGreatDoorProg
import Derived.Test.YthidhohdcjojhaaGreatDoorM21afb899
import Derived.Test.YthidhohdcjojhaaGreatDoorM170220fe
import Derived.Test.YthidhohdcjojhaaGreatDoorM192658a4

set_option linter.unusedVariables false
set_option linter.unusedSimpArgs false
namespace Go.Gv
open Go.Proofs
def copyLocal_c : AC := (.seq (.reg [oA 1 (.box 229001 5 (.t 0)), oA 2 (.new 229002 5 (.agg [.nils, (.bool false), (.int .i64 0), (.int .i64 0), (.int .i64 0)]))]) (.seq (.reg [oF 3 0 1, oL 4 3, oC 5 (.c (.fn 91 [])) [(.t 4)], oF 6 0 1, oN (.store 1 (.t 6) (.t 5))]) (.seq (.reg [oA 7 (.load (some 5) (.t 1)), oN (.store 5 (.t 2) (.t 7))]) .ret)))
set_option maxRecDepth 100000 in
theorem copyLocal_get : getF Tryz.prog 183 229000 [] = some ("gavotte/world.copyLocal", 8, copyLocal_c, [(.cell (some 5) 2)]) := by kernel_rfl
def mcopyX_l0 : AC := (.seq (.reg [oB 8 .lss 7 6]) (.seq (.cond (.t 8) .skip (.exit 0)) (.seq (.block 1 (.seq (.reg [oA 9 (.idx 6 (.t 5) (.t 7)), oA 10 (.load (some 6) (.t 9)), oA 4 (.new 230004 6 (.agg [(.int .i64 0), (.int .i64 0), (.int .i64 0), (.int .i64 0), (.int .i64 0), .nils])), oN (.store 6 (.t 4) (.t 10))]) (.reg [oM 11 2, oA 12 (.load (some 6) (.t 4)), oC 13 (.c (.fn 213 [])) [(.t 12)], oA 14 (.bslm 1000230014 6 179 1 (.agg [(.int .i64 0), (.int .i64 0), (.int .i64 0), (.int .i64 0), (.int .i64 0), .nils]) [(0, (.t 13))]), oA 15 (.appw 1000230015 6 179 64 (.t 11) (.t 14)), oM 2 15]))) (.reg [oZ 16 .add 7 1, oM 7 16]))))
def mcopyX_c : AC := (.seq (.reg [oA 2 (.mv (.c .nils))]) (.seq (.seq (.reg [oM 5 0, oK 6 5, oI 7 0]) (.block 0 (.loop mcopyX_l0))) (.seq (.reg [oM 17 2, oM 2 17]) .ret)))
set_option maxRecDepth 100000 in
theorem mcopyX_get : getF Tryz.prog 182 230000 [(14, 1000000014), (15, 1000000015)] = some ("gavotte/mail.Copy", 18, mcopyX_c, [(.tmp 2)]) := by kernel_rfl
def wcopy_r1 : List AI := [oF 6 1 1, oL 7 6, oC 8 (.c (.fn 182 [])) [(.t 7)], oF 9 2 1, oA 10 (.load (some 4) (.t 9)), oA 11 (.build [.nils, .nils, (.int .i64 0), (.int .i64 0), (.int .i64 0), (.int .i64 0)] [(1, (1, (.t 8))), (2, (4, (.t 10)))]), oA 3 (.new 231003 6 (.agg [.nils, .nils, (.int .i64 0), (.int .i64 0), (.int .i64 0), (.int .i64 0)])), oN (.store 6 (.t 3) (.t 11))]
def wcopy_p1 : List (List Nat) := [[], [0], [1, 0], [], [3], [2, 4, 1, 0, 3], [], [6, 5, 2, 0, 1, 3, 4]]
def wcopy_l0 : AC := (.seq (.reg [oB 16 .lss 15 14]) (.seq (.cond (.t 16) .skip (.exit 0)) (.seq (.block 1 (.seq (.reg [oA 17 (.idx 5 (.t 13) (.t 15)), oA 18 (.load (some 5) (.t 17)), oA 5 (.new 231005 5 (.agg [.nils, (.bool false), (.int .i64 0), (.int .i64 0), (.int .i64 0)])), oN (.store 5 (.t 5) (.t 18))]) (.regd [oF 19 0 3, oL 20 19, oA 21 (.load (some 5) (.t 5)), oC 22 (.c (.fn 183 [])) [(.t 21)], oA 23 (.bslm 1000231023 5 167 1 (.agg [.nils, (.bool false), (.int .i64 0), (.int .i64 0), (.int .i64 0)]) [(0, (.t 22))]), oA 24 (.appw 1000231024 5 167 56 (.t 20) (.t 23)), oF 25 0 3, oN (.store 1 (.t 25) (.t 24))] [[], [0], [], [2], [3, 2], [1, 4, 3, 0, 2], [0, 1, 2, 3, 4, 5], [6, 5, 0, 1, 2, 3, 4]]))) (.reg [oZ 26 .add 15 1, oM 15 26]))))
def wcopy_c : AC := (.seq (.reg [oA 1 (.box 231001 6 (.t 0)), oA 2 (.new 231002 6 (.agg [.nils, .nils, (.int .i64 0), (.int .i64 0), (.int .i64 0), (.int .i64 0)]))]) (.seq (.regi wcopy_r1 wcopy_p1) (.seq (.seq (.reg [oF 12 0 1, oL 13 12, oK 14 13, oI 15 0]) (.block 0 (.loop wcopy_l0))) (.seq (.reg [oA 27 (.load (some 6) (.t 3)), oN (.store 6 (.t 2) (.t 27))]) .ret))))
set_option maxRecDepth 100000 in
theorem wcopy_get : getF Tryz.prog 132 231000 [(23, 1000000023), (24, 1000000024), (2000001, 1)] = some ("gavotte/world.Copy", 28, wcopy_c, [(.cell (some 6) 2)]) := by kernel_rfl
attribute [simp] wcopy_r1 wcopy_p1
theorem copyLocal_pc (l : Lcl) (h : l.regs.length <= 1000) : PC Tryz.prog 183 [l.av] l.av := by
 refine pc_of_get copyLocal_get (by simp) _ (by simp) _ ?_
 unfold copyLocal_c
 simp [Lcl.av]
 refine call (cloneInts_pc l.regs h) (by simp) ?_
 simp
def Lmc (n : Nat) : Bool := decide (n = 230004) || decide (n = 1000230014) || decide (n = 1000230015)
theorem Lmc_f {n : Nat} (h : Lmc n = false) : n ≠ 230004 /\ n ≠ 1000230014 /\ n ≠ 1000230015 := by simpa [Lmc, and_assoc] using h
theorem mcopyX_v (l : List Msg) (hl : l.length <= 1000) (ha : ∀ m ∈ l, m.note.args.length <= 1000) {S : St} {k : AV -> St -> Prop} {u : Dep k}
   (hk : ∀ S' v, Fr Lmc S S' -> S'.tok = S.tok -> MutIs S' 1000230015 6 v (l.map Msg.av) -> k v S') : CallG Tryz.prog (.fn 182 []) [.lst 6 (l.map Msg.av)] S k u := by
 refine callV mcopyX_get (by simp) (by simp) ?_
 unfold mcopyX_c
 simp
 refine loopN (fun i S' => S'.t 5 = .lst 6 (l.map Msg.av) /\ S'.t 6 = iv l.length /\ S'.t 7 = iv i /\ MutIs S' 1000230015 6 (S'.t 2) ((l.map Msg.av).take i) /\ Fh Lmc S S' /\ S'.tok = S.tok) l.length ?_ ?_
 . exact ⟨by simp, by simp, by simp, .inl ⟨by simp, by simp⟩, ⟨fun _ _ => rfl, fun _ _ => rfl, by simp; omega⟩, rfl⟩
 . rintro i S' hi ⟨g1, g2, g3, g4, gF, gk⟩
   by_cases hlt : i < l.length
   . have ws := wrap_succ i _ hlt (by omega)
     have hb : (min i l.length + 1) * 64 <= 140737488355328 := by omega
     have ht := take_succ_map Msg.av l i hlt
     rcases g4 with ⟨g4, hx⟩ | ⟨s4, g4, hx⟩
     . simp [mcopyX_l0, g1, g2, g3, g4, hlt]
       refine call (mown_pc l[i] (ha _ (List.getElem_mem hlt))) (by simp [Msg.av]) ?_
       simp [g1, g2, g3, g4, ws]
       have hx1 : (l.map Msg.av).take (i + 1) = [l[i].av] := by rw [ht, hx]; rfl
       rw [hx1]
       refine ⟨.inr ⟨S'.clk + 1 + 4 + 1 + 1 + 1 + 1, by simp, by simp⟩, ⟨fun n hn => ?_, fun n hn => gF.k n hn, ?_⟩, gk⟩
       . obtain ⟨z1, z2, z3⟩ := Lmc_f hn
         simp [z1, z2, z3]
         exact gF.b n hn
       . have := gF.c
         simp only []
         omega
     . simp [mcopyX_l0, g1, g2, g3, g4, hlt]
       refine call (mown_pc l[i] (ha _ (List.getElem_mem hlt))) (by simp [Msg.av]) ?_
       simp [g1, g2, g3, g4, hx, ws, hb]
       rw [ht]
       refine ⟨.inr ⟨S'.clk + 1 + 4 + 1 + 1 + 1 + 1, by simp, by simp; exact List.take_of_length_le (by simp)⟩, ⟨fun n hn => ?_, fun n hn => gF.k n hn, ?_⟩, gk⟩
       . obtain ⟨z1, z2, z3⟩ := Lmc_f hn
         simp [z1, z2, z3]
         exact gF.b n hn
       . have := gF.c
         simp only []
         omega
   . have e1 : i = l.length := by omega
     subst e1
     rw [List.take_of_length_le (by simp)] at g4
     simp [mcopyX_l0, g1, g2, g3]
     exact hk _ _ ⟨rfl, gF.b, gF.k, by have := gF.c; simp only []; omega⟩ gk (g4.at rfl)
def Lwc (n : Nat) : Bool := Lmc n || decide (n = 231001) || decide (n = 231002) || decide (n = 231003) || decide (n = 231005) || decide (n = 1000231023) || decide (n = 1000231024)
def tbw (p3 x v y : AV) (w : Wld) (p1 ml : AV) : List (Nat × AV) := [(6, p1), (7, ml), (8, v), (9, y), (10, w.used.av), (11, .agg [.nils, v, iv w.used.drop, iv w.used.dup, iv w.used.time, iv w.used.crash]), (3, p3)]
def z6 : AV := .agg [.nils, .nils, iv 0, iv 0, iv 0, iv 0]
theorem wcopy1 (w : Wld) (hw : WOk w) (ha : ∀ m ∈ w.mail, m.note.args.length <= 1000) (s1 st : Nat) {S : St} {k : St -> Prop} {u : Dep k} (h1 : S.t 1 = .ptr 231001 s1 6 0 0) (b1 : S.blk 231001 = some ⟨s1, 6, [w.av]⟩)
   (hk : ∀ S' v, (∀ x, x ≠ 3 -> x < 6 \/ 11 < x -> S'.t x = S.t x) -> S'.t 3 = .ptr 231003 (st + 6) 6 0 0 -> S'.tok = S.tok -> S.clk <= S'.clk -> (∀ n, Lmc n = false -> n ≠ 231003 -> S'.blk n = S.blk n) ->
     S'.blk 231003 = some ⟨st + 6, 6, [.agg [.nils, v, iv w.used.drop, iv w.used.dup, iv w.used.time, iv w.used.crash]]⟩ -> MutIs S' 1000230015 6 v (w.mail.map Msg.av) -> k S') :
   regIG Tryz.prog wcopy_p1 st wcopy_r1 S k u := by
 refine regi_cut (wcopy_r1.take 7) (wcopy_r1.drop 7) rfl (by rfl) ?_
 obtain ⟨tbl, htb⟩ : ∃ tbl : AV -> List (Nat × AV), tbl = fun v => tbw (.ptr 231003 (st + 6) 6 0 0) .nils v (.ptr 231001 s1 6 0 2) w (.ptr 231001 s1 6 0 1) (.lst 6 (w.mail.map Msg.av)) := ⟨_, rfl⟩
 have hnd : ∀ v, ((tbl v).map (·.1)).Nodup := by intro v; simp [htb, tbw]
 obtain ⟨I, hI⟩ : ∃ I : (Nat -> Bool) -> St -> Prop, ∀ D S', I D S' ↔ ∃ v, SF (tbl v) D S' /\ (∀ x, x ≠ 3 -> x < 6 \/ 11 < x -> S'.t x = S.t x) /\ S'.tok = S.tok /\ S.clk <= S'.clk /\ (∀ n, Lmc n = false -> n ≠ 231003 -> S'.blk n = S.blk n) /\
   (D 6 = true -> S'.blk 231003 = some ⟨st + 6, 6, [z6]⟩) /\ (D 2 = true -> MutIs S' 1000230015 6 v (w.mail.map Msg.av)) := ⟨_, fun _ _ => Iff.rfl⟩
 show regI _ _ _ _ _ _
 refine ⟨I, (hI _ _).2 ⟨.nils, SF.start _ _, fun _ _ _ => rfl, rfl, Nat.le_refl _, fun _ _ _ => rfl, by simp, by simp⟩, ?_, ?_⟩
 . rintro D S' j ai hj hDj hpre hcl hi
   obtain ⟨v, hsf, ht, hk, hc, hbk, h6, h2⟩ := (hI _ _).1 hi
   have t1 := (ht 1 (by simp) (.inl (by simp))).trans h1
   have c1 := (hbk 231001 (by simp [Lmc]) (by simp)).trans b1
   have stp : ∀ (j d : Nat) (val : AV) (op : AOp) (st' : Nat), (tbl v)[j]? = some (d, val) -> j ≠ 2 -> j ≠ 6 -> 6 <= d -> d <= 11 -> ex S'.t S'.blk S'.tok st' op = some { v := val } -> stepV Tryz.prog st' ⟨some d, none, .op op⟩ S' (I (fun i => (i == j) || D i)) := by
     intro j d val op st' hj m2 m6 d0 d1 he
     refine stepV_op _ he ((hI _ _).2 ⟨v, hsf.ins (hnd v) hj (upd_same _ _ _) (fun y hy => upd_ne _ _ _ _ hy), fun x hx3 hx => (upd_ne _ _ _ _ (by omega)).trans (ht x hx3 hx), hk, hc, hbk, fun q => h6 ?_, fun q => h2 ?_⟩)
     . simpa [show (6 == j) = false by simp; omega] using q
     . simpa [show (2 == j) = false by simp; omega] using q
   match j, hj, hDj, hpre with
   | 0, hj, hDj, hpre =>
     simp at hj; subst hj
     exact stp 0 6 _ _ _ (by simp [htb, tbw]; rfl) (by simp) (by simp) (by simp) (by simp) (by simp [t1])
   | 1, hj, hDj, hpre =>
     simp at hj hpre; subst hj
     exact stp 1 7 _ _ _ (by simp [htb, tbw]; rfl) (by simp) (by simp) (by simp) (by simp) (by simp [hsf 0 6 _ (by simp [htb, tbw]; rfl) hpre, c1])
   | 2, hj, hDj, hpre =>
     simp at hj hpre; subst hj
     refine stepV_call ?_
     have e7 := hsf 1 7 _ (by simp [htb, tbw]; rfl) hpre.1
     simp only [List.map_cons, List.map_nil, X.ev, e7]
     refine mcopyX_v w.mail hw.ml ha (fun S1 r hF hk1 hM => ?_)
     have f5 : D 5 = false := by
       cases hx : D 5 with
       | false => rfl
       | true => have := hcl 5 hx 2 (by simp); rw [hDj] at this; cases this
     have hsr : SF (tbl r) D S' := by
       intro j' d' v' hj' hD'
       refine hsf j' d' v' ?_ hD'
       rw [htb] at hj' ⊢
       match j', hj', hD' with
       | 0, hj', _ => exact hj'
       | 1, hj', _ => exact hj'
       | 2, _, hD' => rw [hDj] at hD'; cases hD'
       | 3, hj', _ => exact hj'
       | 4, hj', _ => exact hj'
       | 5, _, hD' => rw [f5] at hD'; cases hD'
       | 6, hj', _ => exact hj'
       | j + 7, hj', _ => simp [tbw] at hj'
     refine (hI _ _).2 ⟨r, hsr.ins (hnd r) (j := 2) (d := 8) (v := r) (by simp [htb, tbw]) (by simp) (fun y hy => by simp [hy, hF.t]), fun x hx3 hx => ?_, hk1.trans hk, Nat.le_trans hc hF.c, fun n a1 a2 => ?_, fun q => ?_, fun _ => hM.at rfl⟩
     . have : x ≠ 8 := by omega
       simp [this, hF.t, ht x hx3 hx]
     . simp
       rw [hF.b n a1, hbk n a1 a2]
     . simp
       rw [hF.b _ (by simp [Lmc])]
       exact h6 (by simpa using q)
   | 3, hj, hDj, hpre =>
     simp at hj; subst hj
     exact stp 3 9 _ _ _ (by simp [htb, tbw]; rfl) (by simp) (by simp) (by simp) (by simp) (by simp [t1])
   | 4, hj, hDj, hpre =>
     simp at hj hpre; subst hj
     exact stp 4 10 _ _ _ (by simp [htb, tbw]; rfl) (by simp) (by simp) (by simp) (by simp) (by simp [hsf 3 9 _ (by simp [htb, tbw]; rfl) hpre, c1, Bud.av])
   | 5, hj, hDj, hpre =>
     simp at hj hpre; subst hj
     have hm := h2 hpre.1
     exact stp 5 11 _ _ _ (by simp [htb, tbw]; rfl) (by simp) (by simp) (by simp) (by simp) (by simp [hsf 2 8 _ (by simp [htb, tbw]; rfl) hpre.1, hsf 4 10 _ (by simp [htb, tbw]; rfl) hpre.2.1, hm.one, hm.cells, Bud.av])
   | 6, hj, hDj, hpre =>
     simp at hj; subst hj
     refine stepV_op { v := .ptr 231003 (st + 6) 6 0 0, wb := [(231003, some ⟨st + 6, 6, [z6]⟩)] } (by simp [z6]) ((hI _ _).2 ⟨v, hsf.ins (hnd v) (j := 6) (d := 3) (v := .ptr 231003 (st + 6) 6 0 0) (by simp [htb, tbw]) (by simp [St.app]) (fun y hy => by simp [St.app, hy]), fun x hx3 hx => ?_, hk, hc, fun n a1 a2 => ?_, fun _ => by simp [St.app, appB], fun q => (h2 (by simpa using q)).at (by simp [St.app, appB])⟩)
     . simp [St.app, hx3]; exact ht x hx3 hx
     . simp [St.app, appB, a2]; exact hbk n a1 a2
   | j + 7, hj, hDj, hpre => simp at hj
 . rintro D S' hD hi
   obtain ⟨v, hsf, ht, hk', hc, hbk, h6, h2⟩ := (hI _ _).1 hi
   have e3 := hsf 6 3 _ (by simp [htb, tbw]; rfl) (hD 6 (by simp))
   have e11 := hsf 5 11 _ (by simp [htb, tbw]; rfl) (hD 5 (by simp))
   have c3 := h6 (hD 6 (by simp))
   have hM := h2 (hD 2 (by simp))
   simp [e3, e11, c3, z6, hM.one]
   refine hk _ v ht e3 hk' hc (fun n a1 a2 => ?_) (by simp) (hM.at (by simp))
   simp [a2]
   exact hbk n a1 a2
theorem Lwc_f {n : Nat} (h : Lwc n = false) : Lmc n = false /\ n ≠ 231001 /\ n ≠ 231002 /\ n ≠ 231003 /\ n ≠ 231005 /\ n ≠ 1000231023 /\ n ≠ 1000231024 := by
 simpa [Lwc, and_assoc] using h
theorem wcopyX_v (w : Wld) (hw : WOk w) (ha : ∀ m ∈ w.mail, m.note.args.length <= 1000) (hr : ∀ l ∈ w.acts, l.regs.length <= 1000) {S : St} {k : AV -> St -> Prop} {u : Dep k}
   (hk : ∀ S' va vm, Fr Lwc S S' -> S'.tok = S.tok -> MutIs S' 1000231024 5 va (w.acts.map Lcl.av) -> MutIs S' 1000230015 6 vm (w.mail.map Msg.av) -> k (.agg [va, vm, iv w.used.drop, iv w.used.dup, iv w.used.time, iv w.used.crash]) S') :
   CallG Tryz.prog (.fn 132 []) [w.av] S k u := by
 refine callV wcopy_get (by simp) (by simp) ?_
 unfold wcopy_c
 simp
 refine wcopy1 w hw ha S.clk _ (by simp) (by simp) (fun S1 vm ht1 t3 hk1 hc1 hb1 b3 hM => ?_)
 have t1 : S1.t 1 = .ptr 231001 S.clk 6 0 0 := by rw [ht1 1 (by simp) (.inl (by simp))]; simp
 have t2 : S1.t 2 = .ptr 231002 (S.clk + 1) 6 0 0 := by rw [ht1 2 (by simp) (.inl (by simp))]; simp
 have b1 : S1.blk 231001 = some ⟨S.clk, 6, [w.av]⟩ := by rw [hb1 231001 (by simp [Lmc]) (by simp)]; simp
 have b2 : S1.blk 231002 = some ⟨S.clk + 1, 6, [z6]⟩ := by rw [hb1 231002 (by simp [Lmc]) (by simp)]; simp [z6]
 have hF1 : Fh Lwc S S1 := ⟨fun n hn => by
   obtain ⟨z0, z1, z2, z3, z4, z5, z6'⟩ := Lwc_f hn
   rw [hb1 n z0 z3]
   simp [z1, z2], fun n hn => by rw [hk1], by simp at hc1; omega⟩
 replace hk1 : S1.tok = S.tok := hk1
 clear ht1 hb1 hc1
 have hal := hw.al
 simp [t1, b1]
 refine loopN (fun i S' => S'.t 13 = .lst 5 (w.acts.map Lcl.av) /\ S'.t 14 = iv w.acts.length /\ S'.t 15 = iv i /\ S'.t 2 = .ptr 231002 (S.clk + 1) 6 0 0 /\ S'.blk 231002 = some ⟨S.clk + 1, 6, [z6]⟩ /\ (∃ s3 va, S'.t 3 = .ptr 231003 s3 6 0 0 /\ S'.blk 231003 = some ⟨s3, 6, [.agg [va, vm, iv w.used.drop, iv w.used.dup, iv w.used.time, iv w.used.crash]]⟩ /\ MutIs S' 1000231024 5 va ((w.acts.map Lcl.av).take i)) /\
   MutIs S' 1000230015 6 vm (w.mail.map Msg.av) /\ Fh Lwc S S' /\ S'.tok = S.tok) w.acts.length ?_ ?_
 . refine ⟨by simp, by simp, by simp, by simp [t2], by simp [b2], ⟨_, .nils, by simp [t3]; rfl, by simp [b3], .inl ⟨rfl, by simp⟩⟩, hM.at rfl, ⟨hF1.b, hF1.k, by have := hF1.c; simp only []; omega⟩, hk1⟩
 . clear t1 t2 t3 b1 b2 b3 hM hF1 hk1
   rintro i S' hi ⟨g13, g14, g15, t2, b2, ⟨s3, va, t3, b3, hA⟩, hM, hF, hk1⟩
   have o1 := hM.one
   have o2 := hM.cells
   by_cases hlt : i < w.acts.length
   . have ws := wrap_succ i _ hlt (by omega)
     have hb : (min i w.acts.length + 1) * 56 <= 140737488355328 := by omega
     have ht := take_succ_map Lcl.av w.acts i hlt
     rcases hA with ⟨rfl, hx⟩ | ⟨s4, rfl, hx⟩
     . simp [wcopy_l0, g13, g14, g15, t3, b3, hlt]
       refine calld (copyLocal_pc w.acts[i] (hr _ (List.getElem_mem hlt))) (by simp [Lcl.av]) ?_
       simp [g13, g14, g15, t2, t3, b2, b3, ws, o1, o2]
       have hx1 : (w.acts.map Lcl.av).take (i + 1) = [w.acts[i].av] := by rw [ht, hx]; rfl
       rw [hx1]
       refine ⟨.inr ⟨_, by simp; rfl, by simp⟩, hM.at (by simp), ⟨fun n hn => ?_, fun n hn => hF.k n hn, ?_⟩, hk1⟩
       . obtain ⟨z0, z1, z2, z3, z4, z5, z6'⟩ := Lwc_f hn
         simp [z3, z4, z5, z6']
         exact hF.b n hn
       . have := hF.c
         simp only []
         omega
     . simp [wcopy_l0, g13, g14, g15, t3, b3, hlt]
       refine calld (copyLocal_pc w.acts[i] (hr _ (List.getElem_mem hlt))) (by simp [Lcl.av]) ?_
       simp [g13, g14, g15, t2, t3, b2, b3, ws, o1, o2, hx, hb]
       rw [ht]
       refine ⟨.inr ⟨_, by simp; rfl, by simp; exact List.take_of_length_le (by simp)⟩, hM.at (by simp), ⟨fun n hn => ?_, fun n hn => hF.k n hn, ?_⟩, hk1⟩
       . obtain ⟨z0, z1, z2, z3, z4, z5, z6'⟩ := Lwc_f hn
         simp [z3, z4, z5, z6']
         exact hF.b n hn
       . have := hF.c
         simp only []
         omega
   . have e1 : i = w.acts.length := by omega
     subst e1
     rw [List.take_of_length_le (by simp)] at hA
     have o3 := hA.one
     have o4 := hA.cells
     simp [wcopy_l0, g13, g14, g15, t2, t3, b2, b3, z6, o1, o2, o3, o4]
     refine hk _ va vm ⟨rfl, fun n hn => ?_, hF.k, by have := hF.c; simp only []; omega⟩ hk1 (hA.at (by simp)) (hM.at (by simp))
     obtain ⟨z0, z1, z2, z3, z4, z5, z6'⟩ := Lwc_f hn
     simp [z2]
     exact hF.b n hn
end Go.Gv

namespace Go.Gv
open Go.Proofs
def post_c : AC := (.seq (.reg [oA 3 (.box 232003 4 (.t 0)), oA 5 (.box 232005 6 (.t 2))]) (.seq (.reg [oF 9 3 5, oF 10 0 9, oL 11 10, oM 6 11]) (.seq (.seq (.regd [oM 12 1, oH 13 12, oF 14 1 13, oL 15 14, oM 16 6, oC 17 (.c (.fn 175 [])) [(.t 15), (.t 16)], oF 18 1 3, oL 19 18, oM 20 6, oA 21 (.idx 4 (.t 19) (.t 20)), oF 22 1 21, oL 23 22, oB 24 .lss 17 23] [[], [0], [1, 0], [2, 1, 0], [], [3, 4, 2, 1, 0], [], [6], [], [7, 8, 6], [9, 7, 8, 6], [10, 9, 7, 8, 6], [5, 11, 3, 4, 2, 1, 0, 10, 9, 7, 8, 6]]) (.cond (.t 24) (.seq (.regd [oM 26 1, oH 27 26, oF 28 1 27, oL 29 28, oA 30 (.load (some 6) (.t 5)), oC 31 (.c (.fn 176 [])) [(.t 29), (.t 30)], oM 25 31, oE 32 25 0, oE 33 25 1, oM 7 32, oM 8 33] [[], [0], [1, 0], [2, 1, 0], [], [3, 4, 2, 1, 0], [5, 3, 4, 2, 1, 0], [6, 5, 3, 4, 2, 1, 0], [6, 5, 3, 4, 2, 1, 0], [7, 5, 0, 1, 2, 3, 4, 6], [8, 9, 0, 1, 2, 3, 4, 5, 6, 7]]) (.seq (.reg [oM 34 8, oZ 35 .eql 34 0]) (.cond (.t 35) (.seq (.reg [oM 36 1, oM 37 7, oH 38 36, oF 39 1 38, oN (.store 1 (.t 39) (.t 37))]) .ret) .skip))) .skip)) (.reg [oM 40 1, oH 41 40, oF 42 0 41, oL 43 42, oM 44 6, oA 45 (.idx 5 (.t 43) (.t 44)), oF 46 4 45, oL 47 46, oZ 48 .add 47 1, oA 49 (.idx 5 (.t 43) (.t 44)), oF 50 4 49, oN (.store 1 (.t 50) (.t 48))]))))
set_option maxRecDepth 100000 in
theorem post_get : getF Tryz.prog 127 232000 [] = some ("gavotte/world.Post", 51, post_c, []) := by kernel_rfl
def give_l0 : AC := (.seq (.reg [oB 27 .lss 26 25]) (.seq (.cond (.t 27) .skip (.exit 0)) (.seq (.block 1 (.seq (.reg [oM 28 26, oA 29 (.idx 3 (.t 24) (.t 26)), oA 30 (.load (some 3) (.t 29)), oA 10 (.new 233010 3 (.agg [(.int .i64 0), (.int .i64 0), .nils])), oM 9 28, oN (.store 3 (.t 10) (.t 30))]) (.seq (.regd [oF 31 0 10, oL 32 31, oZ 33 .geq 32 0, oM 34 33, gF 35 34 true 0 10, gL 36 34 true 35, gF 37 34 true 1 4, gL 38 34 true 37, oG 39 34 true (.len (.t 38)), gM 40 34 true 1, oG 41 34 true (.nilck (.t 40)), gF 42 34 true 0 41, gL 43 34 true 42, oG 44 34 true (.len (.t 43)), oG 45 34 true (.mm false (.t 39) [(.t 44)]), oG 46 34 true (.ibin .lss (.t 36) (.t 45)), oA 47 (.pick (.t 34) (.t 46) (.c (.bool false)))] [[], [0], [1, 0], [2, 1, 0], [3, 2, 1, 0], [4, 3, 2, 1, 0], [3, 2, 1, 0], [6, 3, 2, 1, 0], [7, 3, 6, 2, 1, 0], [3, 2, 1, 0], [9, 3, 2, 1, 0], [10, 3, 9, 2, 1, 0], [11, 3, 10, 9, 2, 1, 0], [12, 3, 11, 10, 9, 2, 1, 0], [8, 13, 3, 7, 6, 2, 1, 0, 12, 11, 10, 9], [5, 14, 3, 4, 2, 1, 0, 8, 13, 7, 6, 12, 11, 10, 9], [3, 15, 2, 1, 0, 5, 14, 4, 8, 13, 7, 6, 12, 11, 10, 9]]) (.cond (.t 47) (.reg [oA 48 (.load (some 4) (.t 4)), oM 49 1, oM 50 2, oM 51 8, oM 52 9, oB 53 .add 51 52, oA 54 (.build [(.int .i64 0), (.int .i64 0), (.int .i64 0)] [(0, (1, (.t 50))), (1, (1, (.t 53)))]), oA 55 (.load (some 3) (.t 10)), oA 56 (.build [(.int .i64 0), (.int .i64 0), (.int .i64 0), (.int .i64 0), (.int .i64 0), .nils] [(0, (3, (.t 54))), (3, (3, (.t 55)))]), oC 57 (.c (.fn 127 [])) [(.t 48), (.t 49), (.t 56)]]) .skip)))) (.reg [oZ 58 .add 26 1, oM 26 58]))))
def give_c : AC := (.seq (.reg [oA 4 (.box 233004 4 (.t 0))]) (.seq (.reg [oI 8 0]) (.seq (.seq (.reg [oM 11 2, oZ 12 .geq 11 0]) (.cond (.t 12) (.reg [oM 13 1, oH 14 13, oF 15 0 14, oL 16 15, oM 17 2, oA 18 (.idx 5 (.t 16) (.t 17)), oF 19 3 18, oL 20 19, oM 21 3, oK 22 21, oB 23 .sub 20 22, oM 8 23]) .skip)) (.seq (.reg [oM 24 3, oK 25 24, oI 26 0]) (.block 0 (.loop give_l0))))))
set_option maxRecDepth 100000 in
theorem give_get : getF Tryz.prog 92 233000 [] = some ("gavotte/world.Give", 59, give_c, []) := by kernel_rfl
theorem MutIs.len {S : St} {nm sz : Nat} {v : AV} {xs : List AV} (h : MutIs S nm sz v xs) : lenOf v = some xs.length := by
 rcases h with ⟨rfl, rfl⟩ | ⟨st, rfl, _⟩ <;> rfl
theorem MutIs.sl {S : St} {nm sz : Nat} {v : AV} {xs : List AV} (h : MutIs S nm sz v xs) (hx : 0 < xs.length) : ∃ st, v = .sl nm st sz 0 xs.length /\ S.blk nm = some ⟨st, sz, xs⟩ := by
 rcases h with ⟨rfl, rfl⟩ | h
 . simp at hx
 . exact h
def PutAll : Prop := ∀ (l : List Msg) (m : Msg), l.length <= 900 -> (∀ x ∈ l, x.note.args.length <= 1000) -> m.note.args.length <= 1000 ->
 PC Tryz.prog 176 [.lst 6 (l.map Msg.av), m.av] (if idxV m.id l = none then .tup [.lst 6 ((insV m l).map Msg.av), iv 0] else .tup [.nils, iv 1])
def LstIs (sz : Nat) (v : AV) (xs : List AV) : Prop := v = .lst sz xs \/ (v = .nils /\ xs = [])
theorem LstIs.out {sz : Nat} {v : AV} {xs : List AV} (h : LstIs sz v xs) : v.one = true /\ v.cells = [v] /\ rdV v = [] /\ ∀ B, co B v (.lst sz xs) := by
 rcases h with rfl | ⟨rfl, rfl⟩
 . simp [rdV]
 . simp [rdV]
def WIs (na nm st : Nat) (w : Wld) (S : St) : Prop :=
 ∃ va vm, S.blk nm = some ⟨st, 6, [.agg [va, vm, iv w.used.drop, iv w.used.dup, iv w.used.time, iv w.used.crash]]⟩ /\ MutIs S na 5 va (w.acts.map Lcl.av) /\ LstIs 6 vm (w.mail.map Msg.av)
structure FrW (na nm : Nat) (S S' : St) : Prop where
 t : S'.t = S.t
 b : ∀ n, n ≠ na -> n ≠ nm -> (n < 232000 \/ 233000 <= n) -> S'.blk n = S.blk n
 c : S.clk <= S'.clk
theorem FrW.refl (na nm : Nat) (S : St) : FrW na nm S S := ⟨rfl, fun _ _ _ _ => rfl, Nat.le_refl _⟩
theorem FrW.trans {na nm : Nat} {S S' S'' : St} (h : FrW na nm S S') (k : FrW na nm S' S'') : FrW na nm S S'' := ⟨k.t.trans h.t, fun n a b c => (k.b n a b c).trans (h.b n a b c), Nat.le_trans h.c k.c⟩
theorem overV_acts (w : Wld) {i : Nat} (h : i < w.acts.length) : (overV w i).acts.map Lcl.av = (w.acts.map Lcl.av).set i (setCells w.acts[i].av 4 [.int .i64 (IntKind.i64.wrap (w.acts[i].over + 1))]) := by
 unfold overV
 simp only [List.getElem?_eq_getElem h]
 rw [List.map_set]
 rfl
theorem post_v (hput : PutAll) (na nm st : Nat) (hna : 1000000000 <= na) (hnm : nm < 232000 \/ 234000 <= nm) (hne : na ≠ nm) (p : Prg) (w : Wld) (hw : WOk w) (hml : w.mail.length <= 900) (ha : ∀ m ∈ w.mail, m.note.args.length <= 1000) (hal : w.acts.length = p.as.length) (m : Msg) (hma : m.note.args.length <= 1000)
   (h0 : 0 <= m.note.to) (h1 : m.note.to < w.acts.length) {S : St} {k : AV -> St -> Prop} {u : Dep k} (h : WIs na nm st w S)
   (hk : ∀ S', FrW na nm S S' -> WIs na nm st (postV p w m) S' -> k (.tup []) S') : CallG Tryz.prog (.fn 127 []) [p.av, .ptr nm st 6 0 0, m.av] S k u := by
 obtain ⟨va, vm, hb, hA, hM⟩ := h
 obtain ⟨o1, o2, o4, o3⟩ := hM.out
 have n3 : nm ≠ 232003 := by omega
 have n5 : nm ≠ 232005 := by omega
 have t3 : m.note.to.toNat < w.acts.length := by omega
 have t4 : m.note.to.toNat < p.as.length := by rw [<- hal]; exact t3
 have h1' : m.note.to < p.as.length := by rw [<- hal]; exact h1
 have hcap : capV p m.note.to = p.as[m.note.to.toNat].cap := by unfold capV; rw [List.getElem?_eq_getElem t4]; rfl
 obtain ⟨sA, hva, bA⟩ := hA.sl (by rw [List.length_map]; omega)
 subst hva
 have a3 : na ≠ 232003 := by omega
 have a5 : na ≠ 232005 := by omega
 refine callV post_get (by simp) (by simp) ?_
 unfold post_c
 simp [n3, n5, hb]
 refine calld (mailTo_pc w.mail m.note.to hw.ml) (by simp [o3]) ?_
 simp [n3, n5, hb, h0, h1', t4, o4]
 by_cases hc : (toV w.mail m.note.to : Int) < p.as[m.note.to.toNat].cap
 . simp [hc, n3, n5, hb]
   refine calld (hput w.mail m hml ha hma) (by simp [o3, Msg.av]) ?_
   cases hi : idxV m.id w.mail with
   | none =>
     simp [hi, n3, n5, hb]
     have hpv : postV p w m = { w with mail := insV m w.mail } := by
       unfold postV
       rw [hcap, if_pos hc, if_pos hi]
     rw [hpv] at hk
     refine hk _ ⟨rfl, fun n e1 e2 e3 => ?_, by simp only []; omega⟩ ⟨.sl na sA 5 0 w.acts.length, .lst 6 ((insV m w.mail).map Msg.av), by simp, .inr ⟨sA, by simp, ?_⟩, .inl rfl⟩
     . simp [e2, show n ≠ 232003 by omega, show n ≠ 232005 by omega]
     . simp [hne, a3, a5, bA]
   | some i =>
     simp [hi, n3, n5, hb, a3, a5, bA, h0, h1, t3]
     have hpv : postV p w m = overV w m.note.to.toNat := by
       unfold postV
       rw [hcap]
       rw [if_pos hc, if_neg (by rw [hi]; simp)]
     rw [hpv] at hk
     refine hk _ ⟨rfl, fun n e1 e2 e3 => ?_, by simp only []; omega⟩ ⟨.sl na sA 5 0 w.acts.length, vm, by simp [n3, n5, Ne.symm hne, hb]; exact ⟨rfl, rfl, rfl, rfl⟩, .inr ⟨sA, by simp [overV], ?_⟩, hM⟩
     . simp [e1, show n ≠ 232003 by omega, show n ≠ 232005 by omega]
     . rw [overV_acts w t3]
       simp
 . simp [hc, n3, n5, hb, a3, a5, bA, h0, h1, t3]
   have hpv : postV p w m = overV w m.note.to.toNat := by
     unfold postV
     rw [hcap]
     rw [if_neg hc]
   rw [hpv] at hk
   refine hk _ ⟨rfl, fun n e1 e2 e3 => ?_, by simp only []; omega⟩ ⟨.sl na sA 5 0 w.acts.length, vm, by simp [n3, n5, Ne.symm hne, hb]; exact ⟨rfl, rfl, rfl, rfl⟩, .inr ⟨sA, by simp [overV], ?_⟩, hM⟩
   . simp [e1, show n ≠ 232003 by omega, show n ≠ 232005 by omega]
   . rw [overV_acts w t3]
     simp
structure WK (p : Prg) (w : Wld) (n : Nat) : Prop where
 ml : w.mail.length <= n
 al : w.acts.length = p.as.length
 a8 : w.acts.length <= 1000
 to : ∀ m ∈ w.mail, 0 <= m.note.to /\ m.note.to < w.acts.length
 ar : ∀ m ∈ w.mail, m.note.args.length <= 1000
theorem WK.ok {p : Prg} {w : Wld} {n : Nat} (h : WK p w n) (hn : n <= 1000) : WOk w := ⟨Nat.le_trans h.ml hn, h.a8, h.to⟩
theorem insV_len (m : Msg) : ∀ l : List Msg, (insV m l).length = l.length + 1
 | [] => rfl
 | x :: l => by
   unfold insV
   split
   . simp [insV_len m l]
   . rfl
theorem insV_mem (m x : Msg) : ∀ l : List Msg, x ∈ insV m l -> x = m \/ x ∈ l
 | [], h => by simp [insV] at h; exact .inl h
 | y :: l, h => by
   unfold insV at h
   split at h
   . rcases List.mem_cons.1 h with q | q
     . exact .inr (by simp [q])
     . rcases insV_mem m x l q with q | q
       . exact .inl q
       . exact .inr (by simp [q])
   . rcases List.mem_cons.1 h with q | q
     . exact .inl q
     . exact .inr q
theorem overV_len (w : Wld) (i : Nat) : (overV w i).acts.length = w.acts.length := by simp [overV]
theorem postV_cases (p : Prg) (w : Wld) (m : Msg) : postV p w m = { w with mail := insV m w.mail } \/ postV p w m = overV w m.note.to.toNat := by
 unfold postV
 split
 . split
   . exact .inl rfl
   . exact .inr rfl
 . exact .inr rfl
theorem WK.post {p : Prg} {w : Wld} {n : Nat} (h : WK p w n) (m : Msg) (h0 : 0 <= m.note.to) (h1 : m.note.to < w.acts.length) (ha : m.note.args.length <= 1000) : WK p (postV p w m) (n + 1) := by
 rcases postV_cases p w m with e | e
 . rw [e]
   refine ⟨by simp only [insV_len]; have := h.ml; omega, h.al, h.a8, fun x hx => ?_, fun x hx => ?_⟩
   . rcases insV_mem _ _ _ hx with q | q
     . rw [q]; exact ⟨h0, h1⟩
     . exact h.to x q
   . rcases insV_mem _ _ _ hx with q | q
     . rw [q]; exact ha
     . exact h.ar x q
 . rw [e]
   refine ⟨Nat.le_succ_of_le h.ml, by rw [overV_len]; exact h.al, by rw [overV_len]; exact h.a8, fun x hx => by rw [overV_len]; exact h.to x hx, h.ar⟩
theorem WK.mono {p : Prg} {w : Wld} {n n' : Nat} (h : WK p w n) (hn : n <= n') : WK p w n' := ⟨Nat.le_trans h.ml hn, h.al, h.a8, h.to, h.ar⟩
theorem giveL_take (p : Prg) (frm first : Int) : ∀ (l : List Nt) (j i : Nat) (h : i < l.length) (w : Wld), giveL p frm first j (l.take (i + 1)) w =
   (if 0 <= l[i].to /\ l[i].to < (min p.as.length (giveL p frm first j (l.take i) w).acts.length : Nat) then postV p (giveL p frm first j (l.take i) w) ⟨⟨frm, w64 (first + (j + i : Nat)), 0⟩, l[i]⟩ else giveL p frm first j (l.take i) w)
 | [], _, _, h, _ => by simp at h
 | n :: l, j, 0, _, w => by simp [giveL]
 | n :: l, j, i + 1, h, w => by
   rw [List.take_succ_cons, giveL, List.take_succ_cons, giveL, giveL_take p frm first l (j + 1) i (by simpa using h)]
   simp only [List.getElem_cons_succ]
   rw [show j + 1 + i = j + (i + 1) by omega]
theorem WIs.at {na nm st : Nat} {w : Wld} {S S' : St} (h : WIs na nm st w S) (h1 : S'.blk nm = S.blk nm) (h2 : S'.blk na = S.blk na) : WIs na nm st w S' := by
 obtain ⟨va, vm, hb, hA, hM⟩ := h
 exact ⟨va, vm, h1.trans hb, hA.at h2, hM⟩
theorem give_loop (hput : PutAll) (na nm st : Nat) (hna : 1000000000 <= na) (hnm : nm < 232000 \/ 234000 <= nm) (hne : na ≠ nm) (p : Prg) (w : Wld) (n : Nat) (hw : WK p w n) (l : List Nt) (hn : n + l.length <= 900) (hla : ∀ x ∈ l, x.args.length <= 1000)
   (frm first : Int) (s4 : Nat) {S : St} {κ : Ex -> St -> Prop} {u : Dep κ} (h : WIs na nm st w S) (g1 : S.t 1 = .ptr nm st 6 0 0) (g2 : S.t 2 = iv frm) (g4 : S.t 4 = .ptr 233004 s4 4 0 0) (b4 : S.blk 233004 = some ⟨s4, 4, [p.av]⟩) (g8 : S.t 8 = iv first) (g24 : S.t 24 = .lst 3 (l.map Nt.av)) (g25 : S.t 25 = iv l.length) (g26 : S.t 26 = iv 0)
   (hk : ∀ S', (∀ n, n ≠ na -> n ≠ nm -> (n < 232000 \/ 234000 <= n) -> S'.blk n = S.blk n) -> S.clk <= S'.clk -> WIs na nm st (giveL p frm first 0 l w) S' -> WK p (giveL p frm first 0 l w) (n + l.length) -> κ (.exit 0) S') : LoopG Tryz.prog give_l0 κ S u := by
 have n4 : nm ≠ 233004 := by omega
 have n10 : nm ≠ 233010 := by omega
 have a4 : na ≠ 233004 := by omega
 have a10 : na ≠ 233010 := by omega
 refine loopN (fun i S' => WIs na nm st (giveL p frm first 0 (l.take i) w) S' /\ WK p (giveL p frm first 0 (l.take i) w) (n + i) /\ S'.t 1 = .ptr nm st 6 0 0 /\ S'.t 2 = iv frm /\ S'.t 4 = .ptr 233004 s4 4 0 0 /\ S'.blk 233004 = some ⟨s4, 4, [p.av]⟩ /\ S'.t 8 = iv first /\ S'.t 24 = .lst 3 (l.map Nt.av) /\ S'.t 25 = iv l.length /\ S'.t 26 = iv i /\
   (∀ n, n ≠ na -> n ≠ nm -> (n < 232000 \/ 234000 <= n) -> S'.blk n = S.blk n) /\ S.clk <= S'.clk) l.length ?_ ?_
 . exact ⟨by simpa [giveL] using h, by simpa [giveL] using hw, g1, g2, g4, b4, g8, g24, g25, g26, fun _ _ _ _ => rfl, Nat.le_refl _⟩
 . clear h g1 g2 g4 b4 g8 g24 g25 g26
   rintro i S' hi ⟨h, hw, g1, g2, g4, b4, g8, g24, g25, g26, hF, hc⟩
   by_cases hlt : i < l.length
   . have ws := wrap_succ i _ hlt (by omega)
     have hgt := giveL_take p frm first l 0 i hlt w
     rw [Nat.zero_add] at hgt
     obtain ⟨w1, hw1⟩ : ∃ w1, w1 = giveL p frm first 0 (l.take i) w := ⟨_, rfl⟩
     rw [<- hw1] at hgt h hw
     obtain ⟨va, vm, hb, hA, hM⟩ := h
     have hW0 : WIs na nm st w1 S' := ⟨va, vm, hb, hA, hM⟩
     have o1 := hA.one
     have o2 := hA.cells
     have hlen := hA.len
     rw [List.length_map] at hlen
     have hal := hw.al
     have ha8 := hw.a8
     have hmin : min (p.as.length : Int) (w1.acts.length : Int) = ((min p.as.length w1.acts.length : Nat) : Int) := by omega
     simp [give_l0, g1, g2, g4, g8, g24, g25, g26, b4, hb, n4, n10, a4, a10, hlt, hlen, o1]
     by_cases h0 : 0 <= l[i].to
     . simp [h0, g1, g2, g4, g8, g24, g25, g26, b4, hb, n4, n10, a4, a10, hlt, hlen, o1]
       by_cases h1 : l[i].to < min (p.as.length : Int) (w1.acts.length : Int)
       . simp [h1, g1, g2, g4, g8, g24, g25, g26, b4, n4, n10, a4, a10]
         refine post_v hput na nm st hna hnm hne p w1 (hw.ok (by omega)) (by have := hw.ml; omega) hw.ar hal ⟨⟨frm, w64 (first + (i : Int)), 0⟩, l[i]⟩ (hla _ (List.getElem_mem hlt)) h0 (by simp only []; omega) (hW0.at (by simp [n10]) (by simp [a10])) (fun S2 hF2 hW2 => ?_)
         have ht2 := hF2.t
         simp [ht2, g1, g2, g4, g8, g24, g25, g26, ws]
         rw [hgt, if_pos ⟨h0, by rw [<- hmin]; exact h1⟩]
         have e1 : w64 (first + (i : Int)) = w64 (first + (i : Nat)) := rfl
         refine ⟨hW2.at rfl rfl, hw.post _ h0 (by simp only []; omega) (hla _ (List.getElem_mem hlt)), ?_, fun n e1 e2 e3 => ?_, ?_⟩
         . rw [hF2.b _ (Ne.symm a4) (Ne.symm n4) (.inr (by omega))]
           simp [b4]
         . rw [hF2.b n e1 e2 (by omega)]
           simp
           rw [if_neg (by omega), if_neg (by omega)]
           exact hF n e1 e2 e3
         . have := hF2.c
           simp only [] at this
           omega
       . simp [h1, g1, g2, g4, g8, g24, g25, g26, b4, n4, n10, a4, a10, ws]
         rw [hgt, if_neg (fun q => h1 (by rw [hmin]; exact q.2))]
         exact ⟨hW0.at (by simp [n10]) (by simp [a10]), hw.mono (by omega), fun n e1 e2 e3 => by rw [if_neg (by omega), if_neg (by omega)]; exact hF n e1 e2 e3, by first | omega | (simp only []; omega)⟩
     . simp [h0, g1, g2, g4, g8, g24, g25, g26, b4, hb, n4, n10, a4, a10, hlt, hlen, o1, ws]
       rw [hgt, if_neg (fun q => h0 q.1)]
       exact ⟨hW0.at (by simp [n10]) (by simp [a10]), hw.mono (by omega), fun n e1 e2 e3 => by rw [if_neg (by omega), if_neg (by omega)]; exact hF n e1 e2 e3, by first | omega | (simp only []; omega)⟩
   . have e1 : i = l.length := by omega
     subst e1
     rw [List.take_length] at h hw
     simp [give_l0, g24, g25, g26]
     exact hk _ hF (by simp only []; omega) (h.at rfl rfl) hw
theorem give_v (hput : PutAll) (na nm st : Nat) (hna : 1000000000 <= na) (hnm : nm < 232000 \/ 234000 <= nm) (hne : na ≠ nm) (p : Prg) (w : Wld) (n : Nat) (hw : WK p w n) (l : List Nt) (hn : n + l.length <= 900) (hla : ∀ x ∈ l, x.args.length <= 1000)
   (frm : Int) (hf : frm < w.acts.length) {S : St} {k : AV -> St -> Prop} {u : Dep k} (h : WIs na nm st w S)
   (hk : ∀ S', S'.t = S.t -> S.clk <= S'.clk -> (∀ n, n ≠ na -> n ≠ nm -> (n < 232000 \/ 234000 <= n) -> S'.blk n = S.blk n) -> WIs na nm st (giveV p w frm l) S' -> WK p (giveV p w frm l) (n + l.length) -> k (.tup []) S') : CallG Tryz.prog (.fn 92 []) [p.av, .ptr nm st 6 0 0, iv frm, .lst 3 (l.map Nt.av)] S k u := by
 refine callV give_get (by simp) (by simp) ?_
 unfold give_c
 have n4 : nm ≠ 233004 := by omega
 have n10 : nm ≠ 233010 := by omega
 have a4 : na ≠ 233004 := by omega
 have h' := h
 obtain ⟨va, vm, hb, hA, hM⟩ := h'
 unfold giveV at hk
 simp
 by_cases h0 : 0 <= frm
 . rw [if_pos h0] at hk
   have t3 : frm.toNat < w.acts.length := by omega
   have hs : sentV w frm = w.acts[frm.toNat].sent := by unfold sentV; rw [List.getElem?_eq_getElem t3]; rfl
   obtain ⟨sA, hva, bA⟩ := hA.sl (by rw [List.length_map]; omega)
   subst hva
   simp [h0, n4, n10, a4, hb, bA, hf, t3]
   refine give_loop hput na nm st hna hnm hne p w n hw l hn hla frm (w64 (sentV w frm - l.length)) S.clk (h.at (by simp [n4]) (by simp [a4])) (by simp) (by simp) (by simp) (by simp) (by simp [hs]) (by simp) (by simp) (by simp) (fun S' q1 q2 q3 q4 => ?_)
   simp
   exact hk _ rfl (by simp only [] at q2 ⊢; omega) (fun n e1 e2 e3 => by simp only []; rw [q1 n e1 e2 e3]; simp; omega) (q3.at rfl rfl) q4
 . rw [if_neg h0] at hk
   simp [h0]
   refine give_loop hput na nm st hna hnm hne p w n hw l hn hla frm 0 S.clk (h.at (by simp [n4]) (by simp [a4])) (by simp) (by simp) (by simp) (by simp) (by simp) (by simp) (by simp) (by simp) (fun S' q1 q2 q3 q4 => ?_)
   simp
   exact hk _ rfl (by simp only [] at q2 ⊢; omega) (fun n e1 e2 e3 => by simp only []; rw [q1 n e1 e2 e3]; simp; omega) (q3.at rfl rfl) q4
end Go.Gv

namespace Go.Gv
open Go.Proofs
def srun_c : AC := (.seq (.reg [oA 5 (.box 234005 4 (.t 0)), oA 10 (.mv (.c .nils))]) (.seq (.regd [oA 12 (.load (some 4) (.t 5)), oM 13 2, oM 14 1, oH 15 14, oF 16 0 15, oL 17 16, oM 18 2, oA 19 (.idx 5 (.t 17) (.t 18)), oA 20 (.load (some 5) (.t 19)), oM 21 3, oM 22 4, oC 23 (.c (.fn 184 [])) [(.t 12), (.t 13), (.t 20), (.t 21), (.t 22)], oA 11 (.new 234011 7 (.agg [.nils, (.bool false), (.int .i64 0), (.int .i64 0), (.int .i64 0), .nils, (.int .i64 0)])), oN (.store 7 (.t 11) (.t 23))] [[], [], [], [2], [3, 2], [4, 3, 2], [], [5, 6, 4, 3, 2], [7, 5, 6, 4, 3, 2], [], [], [0, 1, 8, 9, 10, 7, 5, 6, 4, 3, 2], [], [12, 11, 0, 1, 2, 3, 4, 5, 6, 7, 8, 9, 10]]) (.seq (.regd [oM 24 1, oH 25 24, oF 26 0 25, oL 27 26, oM 28 2, oF 29 0 11, oA 30 (.load (some 5) (.t 29)), oA 31 (.idx 5 (.t 27) (.t 28)), oN (.store 5 (.t 31) (.t 30))] [[], [0], [1, 0], [2, 1, 0], [], [], [5], [3, 4, 0, 1, 2, 5, 6], [7, 6, 0, 1, 2, 3, 4, 5]]) (.seq (.reg [oF 32 5 11, oL 33 32, oM 10 33]) .ret))))
set_option maxRecDepth 100000 in
theorem srun_get : getF Tryz.prog 133 234000 [] = some ("gavotte/step.run", 34, srun_c, [(.tmp 10)]) := by kernel_rfl
def sapply_c : AC := (.seq (.reg [oA 3 (.box 235003 4 (.t 0)), oA 4 (.box 235004 6 (.t 1)), oA 5 (.box 235005 5 (.t 2)), oA 6 (.new 235006 6 (.agg [.nils, .nils, (.int .i64 0), (.int .i64 0), (.int .i64 0), (.int .i64 0)]))]) (.seq (.reg [oA 12 (.load (some 6) (.t 4)), oC 13 (.c (.fn 132 [])) [(.t 12)], oN (.store 6 (.t 4) (.t 13))]) (.seq (.reg [oF 14 1 4, oL 15 14, oF 16 1 5, oA 17 (.load (some 3) (.t 16)), oC 18 (.c (.fn 131 [])) [(.t 15), (.t 17)], oM 7 18]) (.seq (.seq (.reg [oF 19 0 5, oL 20 19]) (.block 0 (.seq (.seq (.reg [oZ 22 .eql 20 1, oM 21 22]) (.cond (.t 21) .skip (.reg [oZ 23 .eql 20 2, oM 21 23]))) (.cond (.t 21) (.seq (.reg [oF 24 1 4, oL 25 24, oM 26 7, oA 27 (.idx 6 (.t 25) (.t 26)), oF 28 3 27, oA 29 (.load (some 3) (.t 28)), oA 8 (.new 235008 3 (.agg [(.int .i64 0), (.int .i64 0), .nils])), oN (.store 3 (.t 8) (.t 29))]) (.seq (.regd [oF 30 1 4, oL 31 30, oM 32 7, oA 33 (.slice (some 6) (.t 31) none (some (.t 32))), oF 34 1 4, oL 35 34, oM 36 7, oZ 37 .add 36 1, oA 38 (.slice (some 6) (.t 35) (some (.t 37)) none), oA 39 (.appw 1000235039 6 179 64 (.t 33) (.t 38)), oF 40 1 4, oN (.store 1 (.t 40) (.t 39))] [[], [0], [], [1, 2, 0], [], [4], [], [6], [5, 7, 4, 6], [3, 8, 1, 2, 0, 5, 7, 4, 6], [0, 1, 2, 3, 4, 5, 6, 7, 8, 9], [10, 9, 0, 1, 2, 3, 4, 5, 6, 7, 8]]) (.seq (.seq (.gh (.reg [oF 41 0 5, oL 42 41, oZ 43 .eql 42 2])) (.cond (.t 43) (.seq (.reg [oF 44 2 4, oF 45 0 44, oL 46 45, oZ 47 .add 46 1, oF 48 2 4, oF 49 0 48, oN (.store 1 (.t 49) (.t 47))]) (.exit 0)) .skip)) (.seq (.reg [oA 50 (.load (some 4) (.t 3)), oF 51 0 8, oL 52 51, oF 53 1 8, oL 54 53, oF 55 2 8, oL 56 55, oC 57 (.c (.fn 133 [])) [(.t 50), (.t 4), (.t 52), (.t 54), (.t 56)], oM 9 57]) (.reg [oA 58 (.load (some 4) (.t 3)), oF 59 0 8, oL 60 59, oM 61 9, oC 62 (.c (.fn 92 [])) [(.t 58), (.t 4), (.t 60), (.t 61)]]))))) (.seq (.gh (.reg [oZ 64 .eql 20 3, oM 63 64])) (.cond (.t 63) (.seq (.reg [oF 65 2 4, oF 66 1 65, oL 67 66, oZ 68 .add 67 1, oF 69 2 4, oF 70 1 69, oN (.store 1 (.t 70) (.t 68))]) (.seq (.reg [oF 71 1 4, oL 72 71, oM 73 7, oA 74 (.idx 6 (.t 72) (.t 73)), oA 75 (.load (some 6) (.t 74)), oA 10 (.new 235010 6 (.agg [(.int .i64 0), (.int .i64 0), (.int .i64 0), (.int .i64 0), (.int .i64 0), .nils])), oN (.store 6 (.t 10) (.t 75))]) (.seq (.reg [oF 76 2 4, oF 77 1 76, oL 78 77, oF 79 0 10, oF 80 2 79, oN (.store 1 (.t 80) (.t 78))]) (.reg [oA 81 (.load (some 4) (.t 3)), oA 82 (.load (some 6) (.t 10)), oC 83 (.c (.fn 127 [])) [(.t 81), (.t 4), (.t 82)]])))) (.seq (.reg [oZ 85 .eql 20 4, oM 84 85]) (.cond (.t 84) (.seq (.reg [oF 86 2 4, oF 87 2 86, oL 88 87, oZ 89 .add 88 1, oF 90 2 4, oF 91 2 90, oN (.store 1 (.t 91) (.t 89))]) (.seq (.reg [oF 92 0 4, oL 93 92, oF 94 4 5, oL 95 94, oA 96 (.idx 5 (.t 93) (.t 95)), oF 97 1 96, oN (.store 1 (.t 97) (.c (.bool false)))]) (.seq (.regi [oA 98 (.load (some 4) (.t 3)), oF 99 4 5, oL 100 99, oF 101 1 3, oL 102 101, oF 103 4 5, oL 104 103, oA 105 (.idx 4 (.t 102) (.t 104)), oF 106 2 105, oL 107 106, oC 108 (.c (.fn 133 [])) [(.t 98), (.t 4), (.t 100), (.t 107), (.c .nils)], oM 11 108] [[], [], [1], [], [3], [], [5], [4, 6, 3, 5], [7, 4, 6, 3, 5], [8, 7, 4, 6, 3, 5], [0, 2, 9, 1, 8, 7, 4, 6, 3, 5], [10, 0, 1, 2, 3, 4, 5, 6, 7, 8, 9]]) (.reg [oA 109 (.load (some 4) (.t 3)), oF 110 4 5, oL 111 110, oM 112 11, oC 113 (.c (.fn 92 [])) [(.t 109), (.t 4), (.t 111), (.t 112)]])))) (.seq (.reg [oZ 115 .eql 20 5, oM 114 115]) (.cond (.t 114) (.seq (.reg [oF 116 2 4, oF 117 3 116, oL 118 117, oZ 119 .add 118 1, oF 120 2 4, oF 121 3 120, oN (.store 1 (.t 121) (.t 119))]) (.reg [oF 122 0 4, oL 123 122, oF 124 4 5, oL 125 124, oA 126 (.idx 5 (.t 123) (.t 125)), oF 127 2 126, oN (.store 1 (.t 127) (.c (.int .i64 1)))])) .skip)))))))))) (.seq (.reg [oA 128 (.load (some 6) (.t 4)), oN (.store 6 (.t 6) (.t 128))]) .ret)))))
set_option maxRecDepth 100000 in
theorem sapply_get : getF Tryz.prog 101 235000 [(39, 1000000039), (1000008, 1), (1000012, 1), (2000020, 1)] = some ("gavotte/step.Apply", 129, sapply_c, [(.cell (some 6) 6)]) := by kernel_rfl
theorem srun_v (na nm st : Nat) (hna : 1000000000 <= na) (hnm : nm < 234000 \/ 235000 <= nm) (hne : na ≠ nm) (p : Prg) (w : Wld) (who h : Int) (args : List Int) (h0 : 0 <= who) (h1 : who < w.acts.length) (hg : GoOk p who (lclV w who) h args) (av : AV) (hav : av = ints args \/ (av = .nils /\ args = []))
   {S : St} {k : AV -> St -> Prop} {u : Dep k} (hW : WIs na nm st w S)
   (hk : ∀ S', S'.t = S.t -> S.clk <= S'.clk -> (∀ n, n ≠ na -> (n < 234000 \/ 235000 <= n) -> S'.blk n = S.blk n) -> WIs na nm st (setL w who (goV p who (lclV w who) h args).l) S' -> k (.lst 3 ((goV p who (lclV w who) h args).notes.map Nt.av)) S') :
   CallG Tryz.prog (.fn 133 []) [p.av, .ptr nm st 6 0 0, iv who, iv h, av] S k u := by
 have hG := goV_pc p who (lclV w who) h args hg
 have t3 : who.toNat < w.acts.length := by omega
 have hlc : lclV w who = w.acts[who.toNat] := by unfold lclV; rw [List.getElem?_eq_getElem t3]; rfl
 rw [hlc] at hG hk
 obtain ⟨R, hR⟩ : ∃ R, R = goV p who w.acts[who.toNat] h args := ⟨_, rfl⟩
 rw [<- hR] at hG hk
 obtain ⟨va, vm, hb, hA, hM⟩ := hW
 obtain ⟨sA, hva, bA⟩ := hA.sl (by rw [List.length_map]; omega)
 subst hva
 have n5 : nm ≠ 234005 := by omega
 have n11 : nm ≠ 234011 := by omega
 have a5 : na ≠ 234005 := by omega
 have a11 : na ≠ 234011 := by omega
 refine callV srun_get (by simp) (by simp) ?_
 unfold srun_c
 rcases hav with rfl | ⟨rfl, rfl⟩
 . simp [n5, n11, a5, a11, hb, bA, h0, h1, t3]
   refine calld hG (by simp [Lcl.av]) ?_
   simp [n5, n11, a5, a11, hb, bA, h0, h1, t3, Res.av, Ne.symm a11]
   refine hk _ rfl (by simp only []; omega) (fun n e1 e2 => ?_) ⟨.sl na sA 5 0 w.acts.length, vm, ?_, .inr ⟨sA, by simp [setL], ?_⟩, hM⟩
   . simp
     repeat rw [if_neg (by omega)]
   . simp [n5, n11, Ne.symm hne, hb, setL]
   . simp [setL, List.map_set]
     rfl
 . simp [n5, n11, a5, a11, hb, bA, h0, h1, t3]
   refine calldC hG 1 (by simp [Prg.av, Lcl.av, dco, elemR, coL, co1, ints]) ?_
   simp [n5, n11, a5, a11, hb, bA, h0, h1, t3, Res.av, Ne.symm a11]
   refine hk _ rfl (by simp only []; omega) (fun n e1 e2 => ?_) ⟨.sl na sA 5 0 w.acts.length, vm, ?_, .inr ⟨sA, by simp [setL], ?_⟩, hM⟩
   . simp
     repeat rw [if_neg (by omega)]
   . simp [n5, n11, Ne.symm hne, hb, setL]
   . simp [setL, List.map_set]
     rfl
theorem MutIs.dco {S : St} {nm sz : Nat} {v : AV} {xs : List AV} (hs : sz ≠ 0) (h : MutIs S nm sz v xs) (d : Nat) (hc : coL (elemR (dco S.blk d)) xs xs) : Go.Gv.dco S.blk (d + 1) v (.lst sz xs) := by
 rcases h with ⟨rfl, rfl⟩ | ⟨st, rfl, hb⟩
 . simp [Go.Gv.dco]
 . refine ⟨rfl, xs, by simp [getB, hb, hs], by simp, ?_⟩
   rw [List.drop_zero, List.take_of_length_le (Nat.le_refl _)]
   exact hc
theorem coL_of {R : AV -> AV -> Prop} : ∀ {xs ys : List AV}, xs.length = ys.length -> (∀ (j : Nat) (x y : AV), xs[j]? = some x -> ys[j]? = some y -> R x y) -> coL R xs ys
 | [], [], _, _ => trivial
 | [], _ :: _, h, _ => by simp at h
 | _ :: _, [], h, _ => by simp at h
 | x :: xs, y :: ys, h, hr => ⟨hr 0 x y rfl rfl, coL_of (by simpa using h) fun j a b ha hb => hr (j + 1) a b (by simpa using ha) (by simpa using hb)⟩
theorem msgs_co (blk : Nat -> Option Blk) (l : List Msg) : coL (elemR (dco blk 0)) (l.map Msg.av) (l.map Msg.av) :=
 coL_of rfl fun j a b ha hb => by
   rw [ha] at hb; cases hb
   rw [List.getElem?_map] at ha
   obtain ⟨x, _, rfl⟩ := Option.map_eq_some_iff.1 ha
   simp [Msg.av, elemR, Go.Gv.dco, co1, ints]
theorem msgs_closed (l : List Msg) : closedL (l.map Msg.av) := by
 intro x hx y hy
 obtain ⟨m, _, rfl⟩ := List.mem_map.1 hx
 simp at hy
 rcases hy with rfl | rfl | rfl | rfl | rfl | rfl <;> rfl
theorem wfreeze (na nm st NM sM : Nat) (h1 : na ≠ NM) (h2 : nm ≠ NM) (w : Wld) {S : St} {va : AV} (hb : S.blk nm = some ⟨st, 6, [.agg [va, .sl NM sM 6 0 w.mail.length, iv w.used.drop, iv w.used.dup, iv w.used.time, iv w.used.crash]]⟩)
   (hA : MutIs S na 5 va (w.acts.map Lcl.av)) (hM : S.blk NM = some ⟨sM, 6, w.mail.map Msg.av⟩) :
   ∃ S', Wk S S' /\ S'.t = S.t /\ S'.tok = S.tok /\ S'.clk = S.clk /\ WIs na nm st w S' /\ ∀ n b, n ≠ NM -> S.blk n = some b -> mapB (fzc NM sM 6 (w.mail.map Msg.av)) b = b -> S'.blk n = some b := by
 refine ⟨⟨S.t, (S.h.frz NM sM 6 (w.mail.map Msg.av)).blk, S.tok, S.clk⟩, Wk.of' (Wkh.frz (by simp) hM (msgs_closed _)) rfl, rfl, rfl, rfl, ?_, ?_⟩
 . have hva : fzc NM sM 6 (w.mail.map Msg.av) va = va := by
     rcases hA with ⟨rfl, _⟩ | ⟨s, rfl, _⟩
     . rfl
     . simp [fzc, fz0, h1]
   refine ⟨va, .lst 6 (w.mail.map Msg.av), ?_, ?_, .inl rfl⟩
   . simp [Hp.frz, St.h, h2, hb, mapB, mapE, hva]
     simp [fzc, fz0]
     exact List.take_of_length_le (by simp)
   . rcases hA with ⟨rfl, hx⟩ | ⟨s, rfl, hx⟩
     . exact .inl ⟨rfl, hx⟩
     . refine .inr ⟨s, rfl, ?_⟩
       simp [Hp.frz, St.h, h1, hx, mapB]
       intro a _
       simp [Lcl.av, mapE, fzc, fz0, ints]
 . intro n b hn hb hm
   simp [Hp.frz, St.h, hn, hb, hm]
end Go.Gv

namespace Go.Gv
open Go.Proofs
theorem find_co {blk : Nat -> Option Blk} {NM sM : Nat} {l : List Msg} (id : MId) (h : blk NM = some ⟨sM, 6, l.map Msg.av⟩) : coL (elemR (dco blk 1)) ([.sl NM sM 6 0 l.length, .agg [iv id.frm, iv id.n, iv id.cpy]] ++ []) [.lst 6 (l.map Msg.av), id.av] := by
 have h1 : dco blk 1 (.sl NM sM 6 0 l.length) (.lst 6 (l.map Msg.av)) := by
   refine ⟨rfl, l.map Msg.av, by simp [getB, h], by simp, ?_⟩
   rw [List.drop_zero, List.take_of_length_le (by simp)]
   exact msgs_co _ _
 have h2 : elemR (dco blk 1) (.agg [iv id.frm, iv id.n, iv id.cpy]) id.av := by simp [MId.av, elemR, dco, coL, co1]
 exact ⟨h1, h2, trivial⟩
theorem WK.setL {p : Prg} {w : Wld} {n : Nat} (h : WK p w n) (i : Int) (l : Lcl) : WK p (setL w i l) n :=
 ⟨h.ml, by simp only [Go.Gv.setL, List.length_set]; exact h.al, by simp only [Go.Gv.setL, List.length_set]; exact h.a8, fun m hm => by simp only [Go.Gv.setL, List.length_set]; exact h.to m hm, h.ar⟩
theorem WK.cut {p : Prg} {w : Wld} {n : Nat} (h : WK p w n) (i : Nat) : WK p { w with mail := w.mail.take i ++ w.mail.drop (i + 1) } n := by
 have hm : ∀ m ∈ w.mail.take i ++ w.mail.drop (i + 1), m ∈ w.mail := by
   intro m hm
   rcases List.mem_append.1 hm with q | q
   . exact List.mem_of_mem_take q
   . exact List.mem_of_mem_drop q
 refine ⟨?_, h.al, h.a8, fun m q => h.to m (hm m q), fun m q => h.ar m (hm m q)⟩
 have := h.ml
 simp
 omega
theorem MutIs.co1 {blk : Nat -> Option Blk} {S : St} {nm sz : Nat} {v : AV} {xs : List AV} (hs : sz ≠ 0) (h : MutIs S nm sz v xs) (hb : blk nm = S.blk nm) (hx : ∀ x ∈ xs, ∀ y ∈ x.cells, y.cl1 = true) : Go.Gv.co1 (some blk) v (.lst sz xs) := by
 rcases h with ⟨rfl, rfl⟩ | ⟨st, rfl, h⟩
 . simp
 . have e : blk nm = some ⟨st, sz, xs⟩ := hb.trans h
   simp [Go.Gv.co1, listOf, getB, e, hs]
   exact hx
theorem LstIs.co1 {sz : Nat} {v : AV} {xs : List AV} (h : LstIs sz v xs) (B : Option (Nat -> Option Blk)) : Go.Gv.co1 B v (.lst sz xs) := by
 rcases h with rfl | ⟨rfl, rfl⟩ <;> simp
theorem lcls_closed (l : List Lcl) : ∀ x ∈ l.map Lcl.av, ∀ y ∈ x.cells, y.cl1 = true := by
 intro x hx y hy
 obtain ⟨l, _, rfl⟩ := List.mem_map.1 hx
 simp at hy
 rcases hy with rfl | rfl | rfl | rfl | rfl <;> rfl
theorem ghost_w {P : Program} {a : AC} {κ : Ex -> St -> Prop} {S : St} {u : Dep κ} (na nm st NM sM m : Nat) (h1 : na ≠ NM) (h2 : nm ≠ NM) (w : Wld) (va : AV) (xs : List AV) (hx : xs = w.mail.map Msg.av) (hm : m = w.mail.length) (hb : S.blk nm = some ⟨st, 6, [.agg [va, .sl NM sM 6 0 m, iv w.used.drop, iv w.used.dup, iv w.used.time, iv w.used.crash]]⟩)
   (hA : MutIs S na 5 va (w.acts.map Lcl.av)) (hM : S.blk NM = some ⟨sM, 6, xs⟩)
   (hk : ∀ S', S'.t = S.t -> S'.clk = S.clk -> WIs na nm st w S' -> (∀ n b, n ≠ NM -> S.blk n = some b -> mapB (fzc NM sM 6 (w.mail.map Msg.av)) b = b -> S'.blk n = some b) -> V P a κ S') : GhG P a κ S u := by
 subst hx hm
 obtain ⟨S', q1, q2, q3, q4, q5, q6⟩ := wfreeze na nm st NM sM h1 h2 w hb hA hM
 exact ghost S' q1 (hk S' q2 q4 q5 q6)
theorem sapply_1 (hput : PutAll) (p : Prg) (w : Wld) (n : Nat) (hw : WK p w n) (hn : n <= 500) (hr : ∀ l ∈ w.acts, l.regs.length <= 1000) (e : Evt) (hk : e.kind = 1) (i : Nat) (hi : idxV e.id w.mail = some i) (hl : i < w.mail.length)
   (hg : GoOk p w.mail[i].note.to (lclV w w.mail[i].note.to) w.mail[i].note.hd w.mail[i].note.args) (hN : (goV p w.mail[i].note.to (lclV w w.mail[i].note.to) w.mail[i].note.hd w.mail[i].note.args).notes.length <= 300)
   (hA : ∀ x ∈ (goV p w.mail[i].note.to (lclV w w.mail[i].note.to) w.mail[i].note.hd w.mail[i].note.args).notes, x.args.length <= 1000) : PC Tryz.prog 101 [p.av, w.av, e.av] (applyV p w e).av := by
 obtain ⟨w1, hw1⟩ : ∃ w1 : Wld, w1 = { w with mail := w.mail.take i ++ w.mail.drop (i + 1) } := ⟨_, rfl⟩
 have hac : w1.acts = w.acts := by rw [hw1]
 have hlc : ∀ j, lclV w1 j = lclV w j := fun j => by unfold lclV; rw [hac]
 have hwo := hw.ok (by omega)
 have hml := hw.ml
 obtain ⟨_, q1, q2⟩ := ntAt_some hi
 have hf := mfind_pc w.mail e.id hwo.ml
 rw [q2] at hf
 obtain ⟨t1, t2⟩ := hw.to _ (List.getElem_mem hl)
 have happ : applyV p w e = giveV p (setL w1 w.mail[i].note.to (goV p w.mail[i].note.to (lclV w w.mail[i].note.to) w.mail[i].note.hd w.mail[i].note.args).l) w.mail[i].note.to (goV p w.mail[i].note.to (lclV w w.mail[i].note.to) w.mail[i].note.hd w.mail[i].note.args).notes := by
   unfold applyV
   rw [if_pos (.inl hk), q1, hi]
   simp only []
   rw [if_neg (by omega), <- hw1, hlc]
 rw [happ]
 refine pc_of_get sapply_get (by simp) _ (by simp) _ ?_
 unfold sapply_c
 simp [Evt.av, Wld.av, hk]
 refine wcopyX_v w hwo hw.ar hr (fun S va vm hF hk1 hMA hMM => ?_)
 have ht := hF.t
 have b3 := hF.b 235003 (by simp [Lwc, Lmc])
 have b4 := hF.b 235004 (by simp [Lwc, Lmc])
 have b5 := hF.b 235005 (by simp [Lwc, Lmc])
 have b6 := hF.b 235006 (by simp [Lwc, Lmc])
 simp at b3 b4 b5 b6
 clear hF hk1
 have o1 := hMA.one
 have o2 := hMA.cells
 obtain ⟨sM, hvm, bM⟩ := hMM.sl (by rw [List.length_map]; omega)
 subst hvm
 simp [ht, b3, b4, b5, b6, o1]
 refine callW hf 1 (find_co e.id (by simp [bM])) rfl ?_
 have hle : i <= w.mail.length := by omega
 have hle2 : i + 1 <= w.mail.length := by omega
 have ws := wrap_succ i _ hl (by omega)
 have hbd : (i + (w.mail.length - (i + 1))) * 64 <= 140737488355328 := by omega
 have h01 : (0 : Int) <= (i : Int) + 1 := by omega
 simp [ht, b3, b4, b5, b6, o1, bM, hl, hle, hle2, ws, h01]
 rw [if_pos hbd]
 have hx1 : List.take i (List.map Msg.av w.mail) ++ List.take (w.mail.length - (i + 1)) (List.drop (i + 1) (List.map Msg.av w.mail)) = w1.mail.map Msg.av := by
   have q : List.take (w.mail.length - (i + 1)) (List.drop (i + 1) (List.map Msg.av w.mail)) = List.drop (i + 1) (List.map Msg.av w.mail) := List.take_of_length_le (by simp)
   rw [q, hw1]
   simp [List.map_take, List.map_drop]
 have hl1 : i + (w.mail.length - (i + 1)) = w1.mail.length := by
   rw [hw1]; simp; omega
 simp [ht, b3, b4, b5, b6, o1, bM, hl, hle, hle2, ws, h01]
 refine ghost_w 1000231024 235004 1 1000235039 (S.clk + 6 + 2 + 2 + 8 + 1 + 1 + 1 + 1 + 1 + 1 + 1 + 1 + 1) _ (by simp) (by simp) w1 va _ hx1 hl1 (by simp [hw1]) (by rw [hw1]; exact hMA.at (by simp)) (by simp) (fun S1 ht1 hc1 hW1 hfz => ?_)
 have c3 := hfz 235003 _ (by simp) (by simp [b3]; rfl) (by simp [mapB, mapE, fzc, fz0])
 have c5 := hfz 235005 _ (by simp) (by simp [b5]; rfl) (by simp [mapB, mapE, fzc, fz0])
 have c6 := hfz 235006 _ (by simp) (by simp [b6]; rfl) (by simp [mapB, mapE, fzc, fz0])
 have c8 := hfz 235008 _ (by simp) (by simp; rfl) (by simp [mapB, mapE, fzc, fz0, ints])
 have u3 : S1.t 3 = .ptr 235003 0 4 0 0 := by rw [ht1]; simp [ht]
 have u4 : S1.t 4 = .ptr 235004 1 6 0 0 := by rw [ht1]; simp [ht]
 have u5 : S1.t 5 = .ptr 235005 2 5 0 0 := by rw [ht1]; simp [ht]
 have u6 : S1.t 6 = .ptr 235006 3 6 0 0 := by rw [ht1]; simp [ht]
 have u8 : S1.t 8 = .ptr 235008 (S.clk + 6 + 2 + 2 + 6) 3 0 0 := by rw [ht1]; simp [ht]
 clear hfz ht1 hc1 ht b3 b4 b5 b6 bM hMA
 simp [u3, u4, u5, u6, u8, c3, c5, c6, c8]
 have hw1k : WK p w1 n := by rw [hw1]; exact hw.cut i
 refine srun_v 1000231024 235004 1 (by simp) (by simp) (by simp) p w1 _ _ _ t1 (by rw [hac]; exact t2) (by rw [hlc]; exact hg) _ (.inl rfl) (hW1.at rfl rfl) (fun S2 ht2 hc2 hf2 hW2 => ?_)
 rw [hlc] at hW2 ⊢
 have d3 := (hf2 235003 (by simp) (by simp)).trans c3
 have d6 := (hf2 235006 (by simp) (by simp)).trans c6
 have d8 := (hf2 235008 (by simp) (by simp)).trans c8
 simp [ht2, u3, u4, u5, u6, u8, d3, d8]
 refine give_v hput 1000231024 235004 1 (by simp) (by simp) (by simp) p _ n (hw1k.setL _ _) _ (by omega) hA _ (by simp [setL, hac]; exact t2) (hW2.at rfl rfl) (fun S3 ht3 hc3 hf3 hW3 _ => ?_)
 have e6 := (hf3 235006 (by simp) (by simp) (by simp)).trans d6
 obtain ⟨va', vm', f4, fA, fM⟩ := hW3
 obtain ⟨o1', o2', o3', o4'⟩ := fM.out
 simp [ht3, ht2, u3, u4, u5, u6, u8, e6, f4, fA.one, fA.cells, o1', o2']
 exact ⟨fA.co1 (by simp) (by simp) (lcls_closed _), fM.co1 _⟩
end Go.Gv

namespace Go.Gv
open Go.Proofs
def xasks_c : AC := (.seq (.reg [oA 2 (.mv (.c (.bool false)))]) (.seq (.reg [oM 3 0, oZ 4 .geq 3 31, oM 5 4, gM 6 5 true 0, oG 7 5 true (.ibin .leq (.t 6) (.c (.int .i64 37))), oA 8 (.pick (.t 5) (.t 7) (.c (.bool false))), oM 2 8]) .ret))
set_option maxRecDepth 100000 in
theorem xasks_get : getF Tryz.prog 171 236000 [] = some ("gavotte/expr.asks", 9, xasks_c, [(.tmp 2)]) := by kernel_rfl
def xreck_c : AC := (.seq (.reg [oA 2 (.mv (.c (.bool false)))]) (.seq (.reg [oM 3 0, oZ 4 .geq 3 1, oM 5 4, gM 6 5 true 0, oG 7 5 true (.ibin .leq (.t 6) (.c (.int .i64 4))), oA 8 (.pick (.t 5) (.t 7) (.c (.bool false))), oM 9 8, gM 10 9 false 0, oG 11 9 false (.ibin .geq (.t 10) (.c (.int .i64 9))), gM 12 9 false 11, gM 13 12 true 0, oG 14 12 true (.ibin .leq (.t 13) (.c (.int .i64 19))), oG 15 9 false (.pick (.t 12) (.t 14) (.c (.bool false))), oA 16 (.pick (.t 9) (.c (.bool true)) (.t 15)), oM 2 16]) .ret))
set_option maxRecDepth 100000 in
theorem xreck_get : getF Tryz.prog 172 237000 [] = some ("gavotte/expr.reckons", 17, xreck_c, [(.tmp 2)]) := by kernel_rfl
def xsome_c : AC := (.seq (.reg [oA 2 (.mv (.c (.bool false)))]) (.seq (.reg [oM 3 0, oZ 4 .eql 3 1, oM 5 4, gM 6 5 false 0, ⟨(some 7), (some (5, false)), (.call (.c (.fn 171 [])) [(.t 6)])⟩, gM 8 5 false 7, gM 9 8 true 0, oG 10 8 true (.ibin .neq (.t 9) (.c (.int .i64 37))), oG 11 5 false (.pick (.t 8) (.t 10) (.c (.bool false))), oA 12 (.pick (.t 5) (.c (.bool true)) (.t 11)), oM 2 12]) .ret))
set_option maxRecDepth 100000 in
theorem xsome_get : getF Tryz.prog 173 238000 [] = some ("gavotte/expr.some", 13, xsome_c, [(.tmp 2)]) := by kernel_rfl
def xwhose_c : AC := (.seq (.reg [oA 1 (.box 239001 2 (.t 0)), oI 2 0, oA 3 (.mv (.c (.bool false)))]) (.seq (.block 0 (.seq (.seq (.reg [oF 5 0 1, oL 6 5, oC 7 (.c (.fn 171 [])) [(.t 6)], oA 8 (.not (.t 7)), oM 4 8]) (.cond (.t 4) .skip (.reg [oF 9 0 1, oL 10 9, oZ 11 .eql 10 37, oM 4 11]))) (.cond (.t 4) (.seq (.reg [oI 2 0, oA 3 (.mv (.c (.bool false)))]) .ret) (.seq (.reg [oF 13 0 1, oL 14 13, oZ 15 .eql 14 31, oM 16 15, gF 17 16 true 1 1, gL 18 16 true 17, oG 19 16 true (.ibin .geq (.t 18) (.c (.int .i64 0))), oA 20 (.pick (.t 16) (.t 19) (.c (.bool false))), oM 12 20]) (.cond (.t 12) (.seq (.reg [oF 21 1 1, oL 22 21, oZ 23 .quo 22 16, oM 2 23, oA 3 (.mv (.c (.bool true)))]) .ret) .skip))))) (.seq (.reg [oF 24 1 1, oL 25 24, oM 2 25, oA 3 (.mv (.c (.bool true)))]) .ret)))
set_option maxRecDepth 100000 in
theorem xwhose_get : getF Tryz.prog 170 239000 [] = some ("gavotte/expr.whose", 26, xwhose_c, [(.tmp 2), (.tmp 3)]) := by kernel_rfl
def xask_c : AC := (.seq (.reg [oA 2 (.box 240002 6 (.t 0)), oA 3 (.box 240003 2 (.t 1)), oI 4 0]) (.seq (.reg [oA 9 (.load (some 2) (.t 3)), oC 10 (.c (.fn 170 [])) [(.t 9)], oM 8 10, oE 11 8 0, oE 12 8 1, oM 5 11, oM 6 12]) (.seq (.seq (.reg [oF 13 0 2, oL 14 13, oM 15 5, oA 16 (.idx 5 (.t 14) (.t 15)), oA 17 (.load (some 5) (.t 16)), oA 7 (.new 240007 5 (.agg [.nils, (.bool false), (.int .i64 0), (.int .i64 0), (.int .i64 0)])), oN (.store 5 (.t 7) (.t 17))]) (.seq (.reg [oF 18 0 3, oL 19 18]) (.block 0 (.seq (.reg [oZ 21 .eql 19 31, oM 20 21]) (.cond (.t 20) (.seq (.seq (.reg [oF 22 1 3, oL 23 22, oZ 24 .rem 23 16, oF 25 0 7, oL 26 25, oK 27 26, oB 28 .geq 24 27]) (.cond (.t 28) (.seq (.reg [oI 4 0]) .ret) .skip)) (.seq (.reg [oF 29 0 7, oL 30 29, oF 31 1 3, oL 32 31, oZ 33 .rem 32 16, oA 34 (.idx 1 (.t 30) (.t 33)), oL 35 34, oM 4 35]) .ret)) (.seq (.reg [oZ 37 .eql 19 32, oM 36 37]) (.cond (.t 36) (.seq (.reg [oF 38 2 7, oL 39 38, oM 4 39]) .ret) (.seq (.reg [oZ 41 .eql 19 33, oM 40 41]) (.cond (.t 40) (.seq (.reg [oF 42 4 7, oL 43 42, oM 4 43]) .ret) (.seq (.reg [oZ 45 .eql 19 34, oM 44 45]) (.cond (.t 44) (.seq (.reg [oF 46 1 2, oL 47 46, oM 48 5, oC 49 (.c (.fn 175 [])) [(.t 47), (.t 48)], oM 4 49]) .ret) (.seq (.reg [oZ 51 .eql 19 35, oM 50 51]) (.cond (.t 50) (.seq (.reg [oF 52 1 7, oL 53 52, oC 54 (.c (.fn 214 [])) [(.t 53)], oM 4 54]) .ret) (.seq (.reg [oZ 56 .eql 19 36, oM 55 56]) (.cond (.t 55) (.seq (.reg [oF 57 3 7, oL 58 57, oM 4 58]) .ret) .skip))))))))))))))) (.seq (.reg [oF 59 1 2, oL 60 59, oK 61 60, oM 4 61]) .ret))))
set_option maxRecDepth 100000 in
theorem xask_get : getF Tryz.prog 177 240000 [] = some ("gavotte/expr.ask", 62, xask_c, [(.tmp 4)]) := by kernel_rfl
def asksV (op : Int) : Bool := decide (31 <= op) && decide (op <= 37)
theorem xasks_pc (op : Int) : PC Tryz.prog 171 [iv op] (.bool (asksV op)) := by
 refine pc_of_get xasks_get (by simp) _ (by simp) _ ?_
 unfold xasks_c asksV
 simp
 by_cases h : 31 <= op <;> simp [h]
def reckV (op : Int) : Bool := decide (1 <= op) && decide (op <= 4) || decide (9 <= op) && decide (op <= 19)
theorem xreck_pc (op : Int) : PC Tryz.prog 172 [iv op] (.bool (reckV op)) := by
 refine pc_of_get xreck_get (by simp) _ (by simp) _ ?_
 unfold xreck_c reckV
 simp
 by_cases h : 1 <= op
 . by_cases h2 : op <= 4
   . simp [h, h2]
   . by_cases h3 : 9 <= op <;> simp [h, h2, h3]
 . by_cases h3 : 9 <= op <;> simp [h, h3]
def someV (op : Int) : Bool := decide (op = 1) || asksV op && !decide (op = 37)
theorem xsome_pc (op : Int) : PC Tryz.prog 173 [iv op] (.bool (someV op)) := by
 refine pc_of_get xsome_get (by simp) _ (by simp) _ ?_
 unfold xsome_c someV
 simp
 by_cases h : op = 1
 . simp [h]
 . simp [h]
   refine call (xasks_pc op) (by simp) ?_
   cases ha : asksV op <;> simp
   . exact h
   . exact fun q => absurd q h
def whoX (i : Ins) : Int := if i.op = 37 then 0 else whoseV i
theorem xwhose_pc (i : Ins) (hb : i.a <= 9223372036854775807) : PC Tryz.prog 170 [i.av] (.tup [iv (if asksV i.op = true then whoX i else 0), .bool (asksV i.op && !decide (i.op = 37))]) := by
 refine pc_of_get xwhose_get (by simp) _ (by simp) _ ?_
 unfold xwhose_c whoX whoseV
 simp
 refine call (xasks_pc i.op) (by simp) ?_
 cases ha : asksV i.op with
 | false => simp
 | true =>
   simp
   by_cases h37 : i.op = 37
   . simp [h37]
   . by_cases h31 : i.op = 31
     . by_cases h0 : 0 <= i.a
       . have e : i.a.tdiv 16 = i.a / 16 := Int.tdiv_eq_ediv_of_nonneg h0
         have ew : IntKind.i64.wrap (i.a / 16) = i.a / 16 := wrap_in _ (by omega) (by omega)
         simp [h31, h0, e, ew]
       . simp [h31, h0]
     . simp [h37, h31]
def AskOk (w : Wld) (i : Ins) : Prop := asksV i.op = true /\ 0 <= whoX i /\ whoX i < w.acts.length /\ (i.op = 31 -> 0 <= i.a) /\ i.a <= 9223372036854775807
theorem xask_pc (w : Wld) (hw : WOk w) (i : Ins) (h : AskOk w i) : PC Tryz.prog 177 [w.av, i.av] (iv (askV w i)) := by
 obtain ⟨h1, h2, h3, h4, hb⟩ := h
 have t3 : (whoX i).toNat < w.acts.length := by omega
 have hwh := xwhose_pc i hb
 rw [h1, if_pos rfl] at hwh
 obtain ⟨L, hL⟩ : ∃ L, L = w.acts[(whoX i).toNat] := ⟨_, rfl⟩
 have hlc : i.op ≠ 37 -> lclV w (whoseV i) = L := fun q => by
   have e : whoX i = whoseV i := by unfold whoX; rw [if_neg q]
   rw [hL]
   unfold lclV
   rw [<- e, List.getElem?_eq_getElem t3]; rfl
 have hx : i.op ≠ 37 -> whoX i = whoseV i := fun q => by unfold whoX; rw [if_neg q]
 refine pc_of_get xask_get (by simp) _ (by simp) _ ?_
 unfold xask_c askV
 simp [Wld.av]
 refine call hwh (by simp) ?_
 simp [h2, h3, t3, <- hL]
 by_cases e1 : i.op = 31
 . have h0 := h4 e1
   have h6 : i.a.tmod 16 = i.a % 16 := Int.tmod_eq_emod_of_nonneg h0
   have h7 : 0 <= i.a % 16 := Int.emod_nonneg _ (by simp)
   rw [if_pos e1, hlc (by omega)]
   simp [e1, h6]
   by_cases h8 : (L.regs.length : Int) <= i.a % 16
   . simp [h8]
     intro q
     rw [h6] at q
     omega
   . have h9 : i.a % 16 < L.regs.length := by omega
     have h10 : (i.a % 16).toNat < L.regs.length := by omega
     simp [h6, h7, h8, h9, h10, ints]
 rw [if_neg e1]
 by_cases e2 : i.op = 32
 . rw [if_pos e2, hlc (by omega)]
   simp [e2]
 rw [if_neg e2]
 by_cases e3 : i.op = 33
 . rw [if_pos e3, hlc (by omega)]
   simp [e3]
 rw [if_neg e3]
 by_cases e4 : i.op = 34
 . rw [if_pos e4, <- hx (by omega)]
   simp [e4]
   refine call (mailTo_pc w.mail (whoX i) hw.ml) (by simp) ?_
   simp
 rw [if_neg e4]
 by_cases e5 : i.op = 35
 . rw [if_pos e5, hlc (by omega)]
   simp [e5]
   refine call (struth_pc L.armed) (by simp) ?_
   simp
 rw [if_neg e5]
 by_cases e6 : i.op = 36
 . rw [if_pos e6, hlc (by omega)]
   simp [e6]
 . rw [if_neg e6]
   simp [e1, e2, e3, e4, e5, e6]
end Go.Gv

namespace Go.Gv
open Go.Proofs
def xof_l0 : AC := (.seq (.reg [oB 16 .lss 15 14]) (.seq (.cond (.t 16) .skip (.exit 0)) (.seq (.block 1 (.seq (.reg [oA 17 (.idx 2 (.t 13) (.t 15)), oA 18 (.load (some 2) (.t 17)), oA 7 (.new 241007 2 (.agg [(.int .i64 0), (.int .i64 0)])), oN (.store 2 (.t 7) (.t 18))]) (.seq (.reg [oM 19 5, oK 20 19, oM 8 20]) (.block 2 (.seq (.reg [oF 62 0 7, oL 63 62, oC 64 (.c (.fn 171 [])) [(.t 63)], oM 61 64]) (.cond (.t 61) (.reg [oM 65 5, oA 66 (.load (some 6) (.t 2)), oA 67 (.load (some 2) (.t 7)), oC 68 (.c (.fn 177 [])) [(.t 66), (.t 67)], oA 69 (.bsl 241069 1 3 1 (.int .i64 0) [(0, (.t 68))]), oA 70 (.appw 1000241070 1 3 8 (.t 65) (.t 69)), oM 5 70]) (.seq (.reg [oF 72 0 7, oL 73 72, oZ 74 .eql 73 1, oM 71 74]) (.cond (.t 71) (.reg [oM 75 5, oF 76 1 7, oL 77 76, oA 78 (.bsl 241078 1 3 1 (.int .i64 0) [(0, (.t 77))]), oA 79 (.appw 1000241070 1 3 8 (.t 75) (.t 78)), oM 5 79]) (.seq (.reg [oF 81 0 7, oL 82 81, oZ 83 .eql 82 2, oM 80 83]) (.cond (.t 80) (.reg [oM 84 5, oM 85 8, oZ 86 .sub 85 1, oA 87 (.slice (some 1) (.t 84) none (some (.t 86))), oM 5 87]) (.seq (.reg [oF 89 0 7, oL 90 89, oZ 91 .eql 90 3, oM 88 91]) (.cond (.t 88) (.reg [oM 92 5, oM 93 5, oM 94 8, oZ 95 .sub 94 1, oA 96 (.idx 1 (.t 93) (.t 95)), oL 97 96, oA 98 (.bsl 241098 1 3 1 (.int .i64 0) [(0, (.t 97))]), oA 99 (.appw 1000241070 1 3 8 (.t 92) (.t 98)), oM 5 99]) (.seq (.reg [oF 101 0 7, oL 102 101, oZ 103 .eql 102 4, oM 100 103]) (.cond (.t 100) (.regd [oM 104 5, oM 105 8, oZ 106 .sub 105 1, oM 107 5, oM 108 8, oZ 109 .sub 108 2, oM 110 5, oM 111 8, oZ 112 .sub 111 2, oA 113 (.idx 1 (.t 110) (.t 112)), oL 114 113, oM 115 5, oM 116 8, oZ 117 .sub 116 1, oA 118 (.idx 1 (.t 115) (.t 117)), oL 119 118, oA 120 (.idx 1 (.t 104) (.t 106)), oN (.store 1 (.t 120) (.t 114)), oA 121 (.idx 1 (.t 107) (.t 109)), oN (.store 1 (.t 121) (.t 119))] [[], [], [1], [], [], [4], [], [], [7], [6, 8, 7], [9, 6, 8, 7], [], [], [12], [11, 13, 12], [14, 11, 13, 12], [0, 2, 1, 6, 7, 8, 9, 10, 15, 14, 11, 13, 12], [16, 10, 0, 1, 2, 6, 7, 8, 9, 15, 14, 11, 13, 12], [3, 5, 0, 1, 2, 4, 6, 7, 8, 9, 10, 11, 12, 13, 14, 15, 16, 17], [18, 15, 17, 0, 1, 2, 3, 4, 5, 6, 7, 8, 9, 10, 11, 12, 13, 14, 16]]) (.seq (.seq (.regd [oF 22 0 7, oL 23 22, oM 24 5, oM 25 8, oZ 26 .sub 25 1, oA 27 (.idx 1 (.t 24) (.t 26)), oL 28 27, oC 29 (.c (.fn 178 [])) [(.t 23), (.t 28)], oM 21 29, oE 30 21 0, oE 31 21 1, oM 9 30, oM 10 31] [[], [0], [], [], [3], [2, 4, 3], [5, 2, 4, 3], [1, 6, 0, 5, 2, 4, 3], [7, 1, 6, 0, 5, 2, 4, 3], [8, 7, 1, 6, 0, 5, 2, 4, 3], [8, 7, 1, 6, 0, 5, 2, 4, 3], [9, 7, 0, 1, 2, 3, 4, 5, 6, 8], [10, 11, 0, 1, 2, 3, 4, 5, 6, 7, 8, 9]]) (.seq (.reg [oM 32 10]) (.cond (.t 32) (.seq (.reg [oM 33 5, oM 34 8, oZ 35 .sub 34 1, oM 36 9, oA 37 (.idx 1 (.t 33) (.t 35)), oN (.store 1 (.t 37) (.t 36))]) (.exit 1)) .skip))) (.seq (.regd [oF 39 0 7, oL 40 39, oM 41 5, oM 42 8, oZ 43 .sub 42 2, oA 44 (.idx 1 (.t 41) (.t 43)), oL 45 44, oM 46 5, oM 47 8, oZ 48 .sub 47 1, oA 49 (.idx 1 (.t 46) (.t 48)), oL 50 49, oC 51 (.c (.fn 179 [])) [(.t 40), (.t 45), (.t 50)], oM 38 51, oE 52 38 0, oE 53 38 1, oM 11 52, oM 12 53] [[], [0], [], [], [3], [2, 4, 3], [5, 2, 4, 3], [], [], [8], [7, 9, 8], [10, 7, 9, 8], [1, 6, 11, 0, 5, 2, 4, 3, 10, 7, 9, 8], [12, 1, 6, 11, 0, 5, 2, 4, 3, 10, 7, 9, 8], [13, 12, 1, 6, 11, 0, 5, 2, 4, 3, 10, 7, 9, 8], [13, 12, 1, 6, 11, 0, 5, 2, 4, 3, 10, 7, 9, 8], [14, 12, 0, 1, 2, 3, 4, 5, 6, 7, 8, 9, 10, 11, 13], [15, 16, 0, 1, 2, 3, 4, 5, 6, 7, 8, 9, 10, 11, 12, 13, 14]]) (.reg [oM 54 5, oM 55 8, oZ 56 .sub 55 2, oA 57 (.slice (some 1) (.t 54) none (some (.t 56))), oM 58 11, oA 59 (.bsl 241059 1 3 1 (.int .i64 0) [(0, (.t 58))]), oA 60 (.appw 1000241070 1 3 8 (.t 57) (.t 59)), oM 5 60]))))))))))))))))) (.reg [oZ 122 .add 15 1, oM 15 122]))))
def xof_c : AC := (.seq (.reg [oA 2 (.box 241002 6 (.t 0)), oI 4 0]) (.seq (.reg [oA 5 (.mv (.c .nils))]) (.seq (.seq (.reg [oM 13 1, oK 14 13, oI 15 0]) (.block 0 (.loop xof_l0))) (.seq (.reg [oM 123 5, oA 124 (.idx 1 (.t 123) (.c (.int .i64 0))), oL 125 124, oM 4 125]) .ret))))
set_option maxRecDepth 100000 in
theorem xof_get : getF Tryz.prog 128 241000 [(70, 1000000070), (79, 1000000070), (99, 1000000070), (60, 1000000070)] = some ("gavotte/expr.Of", 126, xof_c, [(.tmp 4)]) := by kernel_rfl
def StkN (S : St) (v : AV) (xs : List Int) : Prop := (v = .nils /\ xs = []) \/ ∃ st es, v = .sl 1000241070 st 1 0 xs.length /\ S.blk 1000241070 = some ⟨st, 1, es⟩ /\ xs.length <= es.length /\ es.take xs.length = xs.map iv
theorem StkN.snoc {S : St} {v : AV} {xs : List Int} {x : Int} (h : StkN S v (xs ++ [x])) : ∃ st es, v = .sl 1000241070 st 1 0 (xs.length + 1) /\ S.blk 1000241070 = some ⟨st, 1, es⟩ /\ xs.length + 1 <= es.length /\ es[xs.length]? = some (iv x) /\ es.take xs.length = xs.map iv /\ es.take (xs.length + 1) = (xs ++ [x]).map iv := by
 rcases h with ⟨_, q⟩ | ⟨st, es, q1, q2, q3, q4⟩
 . simp at q
 have hlen : (xs ++ [x]).length = xs.length + 1 := by simp
 rw [hlen] at q1 q3 q4
 refine ⟨st, es, q1, q2, q3, ?_, ?_, q4⟩
 . have := congrArg (fun l => l[xs.length]?) q4
   simp only [List.getElem?_take_of_lt (Nat.lt_succ_self xs.length)] at this
   rw [this]; simp
 . have := congrArg (List.take xs.length) q4
   rw [List.take_take, Nat.min_eq_left (by omega)] at this
   rw [this]; simp
def exS (w : Wld) (i : Ins) (s : List Int) : List Int :=
 if 31 <= i.op /\ i.op <= 37 then s ++ [askV w i]
 else if i.op = 1 then s ++ [i.a]
 else if i.op = 2 then s.dropLast
 else if i.op = 3 then s ++ [top s]
 else if i.op = 4 then s.dropLast.dropLast ++ [top s, top s.dropLast]
 else if (oneV i.op (top s)).2 = true then s.dropLast ++ [(oneV i.op (top s)).1]
 else s.dropLast.dropLast ++ [(twoV i.op (top s.dropLast) (top s)).1]
theorem exV_take (w : Wld) : ∀ (x : List Ins) (i : Nat) (h : i < x.length) (s : List Int), exV w (x.take (i + 1)) s = exS w x[i] (exV w (x.take i) s)
 | [], _, h, _ => by simp at h
 | y :: x, 0, _, s => rfl
 | y :: x, i + 1, h, s => by
   rw [List.take_succ_cons, List.take_succ_cons]
   exact exV_take w x i (by simpa using h) _
structure XOk (w : Wld) (s : List Int) (i : Ins) : Prop where
 ask : asksV i.op = true -> AskOk w i
 len : s.length < 900
 n1 : asksV i.op = false -> i.op ≠ 1 -> 1 <= s.length
 n2 : asksV i.op = false -> i.op ≠ 1 -> i.op ≠ 2 -> i.op ≠ 3 -> i.op ≠ 14 -> i.op ≠ 19 -> 2 <= s.length
def XI (w : Wld) (x : List Ins) (s2 s4 i : Nat) (S : St) : Prop := S.t 2 = .ptr 241002 s2 6 0 0 /\ S.blk 241002 = some ⟨s2, 6, [w.av]⟩ /\ S.t 13 = .lst 2 (x.map Ins.av) /\ S.t 14 = iv x.length /\ S.t 15 = iv i /\ StkN S (S.t 5) (exV w (x.take i) [])
theorem wrap_in' {a b : Int} (h : a = b) (h1 : -9223372036854775808 <= b) (h2 : b <= 9223372036854775807) : IntKind.i64.wrap a = b := by
 rw [h]; exact wrap_in _ (by omega) (by omega)
theorem snoc1 {s : List Int} (h : 1 <= s.length) : ∃ r a, s = r ++ [a] := by
 refine ⟨s.dropLast, s.getLast (by intro q; subst q; simp at h), (List.dropLast_concat_getLast _).symm⟩
theorem top_snoc (r : List Int) (a : Int) : top (r ++ [a]) = a := by simp [top]
theorem StkN.len {S : St} {v : AV} {xs : List Int} (h : StkN S v xs) : lenOf v = some xs.length := by
 rcases h with ⟨rfl, rfl⟩ | ⟨st, es, rfl, _⟩ <;> rfl
set_option maxHeartbeats 1600000 in
theorem xof_step (w : Wld) (hw : WOk w) (x : List Ins) (hx : x.length <= 1000) (s2 i : Nat) (hi : i < x.length) (hok : XOk w (exV w (x.take i) []) x[i]) {S : St} {κ : Ex -> St -> Prop} (h : XI w x s2 0 i S) (hk : ∀ S', XI w x s2 0 (i + 1) S' -> κ .normal S') : V Tryz.prog xof_l0 κ S := by
 obtain ⟨g2, b2, g13, g14, g15, gS⟩ := h
 have ws := wrap_succ i _ hi (by omega)
 have het := exV_take w x i hi []
 obtain ⟨s, hs⟩ : ∃ s, s = exV w (x.take i) [] := ⟨_, rfl⟩
 rw [<- hs] at het hok gS
 obtain ⟨k1, k2, k3, k4⟩ := hok
 obtain ⟨I, hI⟩ : ∃ I, I = x[i] := ⟨_, rfl⟩
 rw [<- hI] at het k1 k3 k4
 have ha := xasks_pc I.op
 obtain ⟨v, g5⟩ : ∃ v, S.t 5 = v := ⟨_, rfl⟩
 rw [g5] at gS
 have hlen := gS.len
 have hbd : (s.length + 1) * 8 <= 140737488355328 := by omega
 have fin : ∀ (S' : St) (v' : AV), S'.t 2 = .ptr 241002 s2 6 0 0 -> S'.blk 241002 = some ⟨s2, 6, [w.av]⟩ -> S'.t 13 = .lst 2 (x.map Ins.av) -> S'.t 14 = iv x.length -> S'.t 15 = iv (i + 1 : Nat) -> S'.t 5 = v' -> StkN S' v' (exS w I s) -> κ .normal S' := by
   intro S' v' p1 p2 p3 p4 p5 p6 p7
   refine hk S' ⟨p1, p2, p3, p4, p5, ?_⟩
   rw [het, p6]
   exact p7
 cases hask : asksV I.op with
 | true =>
   rw [hask] at ha
   have hA := xask_pc w hw I (k1 hask)
   have hS : exS w I s = s ++ [askV w I] := by
     unfold exS
     rw [if_pos (by simpa [asksV] using hask)]
   simp [xof_l0, g2, b2, g5, g13, g14, g15, hi, <- hI, hlen]
   refine call ha (by simp) ?_
   simp [g2, b2, g5, g13, g14, g15]
   refine call hA (by simp [Wld.av]) ?_
   rcases gS with ⟨rfl, rfl⟩ | ⟨st, es, rfl, q2, q3, q4⟩
   . simp [g2, b2, g5, g13, g14, g15, ws]
     refine fin _ _ (by simp [g2]) (by simp [b2]) (by simp [g13]) (by simp [g14]) (by simp) rfl ?_
     rw [hS]
     exact .inr ⟨_, _, by simp; rfl, by simp; rfl, by simp, by simp⟩
   . have hbd2 : (min s.length es.length + 1) * 8 <= 140737488355328 := by omega
     simp [g2, b2, g5, g13, g14, g15, q2, q3, ws, hbd, hbd2]
     refine fin _ _ (by simp [g2]) (by simp [b2]) (by simp [g13]) (by simp [g14]) (by simp) rfl ?_
     rw [hS]
     exact .inr ⟨_, s.map iv ++ [iv (askV w I)], by simp; rfl, by simp [q4], by simp, by rw [List.take_of_length_le (by simp)]; simp⟩
 | false =>
   rw [hask] at ha
   have hna : ¬ (31 <= I.op /\ I.op <= 37) := by
     intro q
     unfold asksV at hask
     simp [q.1, q.2] at hask
   by_cases e1 : I.op = 1
   . have hS : exS w I s = s ++ [I.a] := by unfold exS; rw [if_neg hna, if_pos e1]
     simp [xof_l0, g2, b2, g5, g13, g14, g15, hi, <- hI, hlen]
     refine call ha (by simp) ?_
     rcases gS with ⟨rfl, rfl⟩ | ⟨st, es, rfl, q2, q3, q4⟩
     . simp [g2, b2, g5, g13, g14, g15, ws, e1]
       refine fin _ _ (by simp [g2]) (by simp [b2]) (by simp [g13]) (by simp [g14]) (by simp) rfl ?_
       rw [hS]
       exact .inr ⟨_, _, by simp; rfl, by simp; rfl, by simp, by simp⟩
     . have hbd2 : (min s.length es.length + 1) * 8 <= 140737488355328 := by omega
       simp [g2, b2, g5, g13, g14, g15, q2, q3, ws, hbd, hbd2, e1]
       refine fin _ _ (by simp [g2]) (by simp [b2]) (by simp [g13]) (by simp [g14]) (by simp) rfl ?_
       rw [hS]
       exact .inr ⟨_, s.map iv ++ [iv I.a], by simp; rfl, by simp [q4], by simp, by rw [List.take_of_length_le (by simp)]; simp⟩
   have hs1 := k3 hask e1
   obtain ⟨r, a, hra⟩ := snoc1 hs1
   subst hra
   obtain ⟨st, es, hv, q2, q3, q4, q5, q6⟩ := gS.snoc
   subst hv
   rw [List.length_append, List.length_singleton] at k2
   have wl : IntKind.i64.wrap (r.length : Int) = (r.length : Int) := wrap_in _ (by omega) (by omega)
   by_cases e2 : I.op = 2
   . have hS : exS w I (r ++ [a]) = r := by unfold exS; rw [if_neg hna, if_neg e1, if_pos e2]; simp
     simp [xof_l0, g2, b2, g5, g13, g14, g15, hi, <- hI]
     refine call ha (by simp) ?_
     simp [g2, b2, g5, g13, g14, g15, q2, q3, ws, wl, e2]
     refine fin _ _ (by simp [g2]) (by simp [b2]) (by simp [g13]) (by simp [g14]) (by simp) rfl ?_
     rw [hS]
     exact .inr ⟨st, es, by simp, by simp [q2], by omega, q5⟩
   by_cases e3 : I.op = 3
   . have hS : exS w I (r ++ [a]) = r ++ [a] ++ [a] := by unfold exS; rw [if_neg hna, if_neg e1, if_neg e2, if_pos e3, top_snoc]
     have hbd3 : (r.length + 1 + 1) * 8 <= 140737488355328 := by omega
     simp [xof_l0, g2, b2, g5, g13, g14, g15, hi, <- hI]
     refine call ha (by simp) ?_
     simp [g2, b2, g5, g13, g14, g15, q2, q3, q4, ws, wl, e3]
     rw [if_pos hbd3]
     simp [g2, b2, g5, g13, g14, g15, q2, q3, q4, ws, wl, e3]
     refine fin _ _ (by simp [g2]) (by simp [b2]) (by simp [g13]) (by simp [g14]) (by simp) rfl ?_
     rw [hS]
     refine .inr ⟨_, (r ++ [a]).map iv ++ [iv a], by simp; rfl, by simp [q6], by simp, ?_⟩
     rw [List.take_of_length_le (by simp)]; simp
   by_cases e14 : I.op = 14 \/ I.op = 19
   . have hone := sone_pc I.op a
     have hb : (oneV I.op a).2 = true := by unfold oneV; rcases e14 with e | e <;> simp [e]
     obtain ⟨o, ho⟩ : ∃ o, (oneV I.op a).1 = o := ⟨_, rfl⟩
     rw [hb, ho] at hone
     have e4 : I.op ≠ 4 := by omega
     have hS : exS w I (r ++ [a]) = r ++ [o] := by unfold exS; rw [if_neg hna, if_neg e1, if_neg e2, if_neg e3, if_neg e4, top_snoc, if_pos hb, ho]; simp
     simp [xof_l0, g2, b2, g5, g13, g14, g15, hi, <- hI]
     refine call ha (by simp) ?_
     simp [g2, b2, g5, g13, g14, g15, q2, q3, q4, ws, wl, e1, e2, e3, e4]
     refine calld hone (by simp) ?_
     simp [g2, b2, g5, g13, g14, g15, q2, q3, q4, ws, wl, e1, e2, e3, e4]
     refine fin _ _ (by simp [g2]) (by simp [b2]) (by simp [g13]) (by simp [g14]) (by simp) rfl ?_
     rw [hS]
     refine .inr ⟨st, es.set r.length (iv o), by simp [g5], by simp, by simp; omega, ?_⟩
     rw [List.take_set]
     simp only [List.length_append, List.length_singleton, q6]
     simp
   have hs2 := k4 hask e1 e2 e3 (fun q => e14 (.inl q)) (fun q => e14 (.inr q))
   rw [List.length_append, List.length_singleton] at hs2
   obtain ⟨r2, b, hrb⟩ := snoc1 (s := r) (by omega)
   subst hrb
   have hel : es[r2.length]? = some (iv b) := by
     have := congrArg (fun l => l[r2.length]?) q5
     simp only [List.length_append, List.length_singleton] at this
     rw [List.getElem?_take_of_lt (by omega)] at this
     rw [this]; simp
   simp only [List.length_append, List.length_singleton] at *
   have wl2 : IntKind.i64.wrap ((r2.length : Int) + 1) = (r2.length : Int) + 1 := wrap_in _ (by omega) (by omega)
   have wl3 : IntKind.i64.wrap (r2.length : Int) = (r2.length : Int) := wrap_in _ (by omega) (by omega)
   have wl4 : IntKind.i64.wrap ((r2.length : Int) + 1 + 1 - 2) = (r2.length : Int) := wrap_in' (by omega) (by omega) (by omega)
   have z1 : (0 : Int) <= (r2.length : Int) + 1 := by omega
   have z2 : r2.length < r2.length + 1 + 1 := by omega
   have z3 : r2.length + 1 < r2.length + 1 + 1 := by omega
   have z4 : r2.length < es.length := by omega
   have hel' : ∀ h, es[r2.length]'h = iv b := by
     intro h
     rw [List.getElem?_eq_getElem h] at hel
     exact Option.some.inj hel
   by_cases e4 : I.op = 4
   . have hS : exS w I (r2 ++ [b] ++ [a]) = r2 ++ [a] ++ [b] := by unfold exS; rw [if_neg hna, if_neg e1, if_neg e2, if_neg e3, if_pos e4, top_snoc]; simp [top_snoc]
     simp [xof_l0, g2, b2, g5, g13, g14, g15, hi, <- hI]
     refine call ha (by simp) ?_
     simp [g2, b2, g5, g13, g14, g15, q2, q3, q4, ws, wl, wl2, wl3, wl4, z1, z2, z3, z4, e4, hel']
     refine fin _ _ (by simp [g2]) (by simp [b2]) (by simp [g13]) (by simp [g14]) (by simp) rfl ?_
     rw [hS]
     refine .inr ⟨st, (es.set (r2.length + 1) (iv b)).set r2.length (iv a), by simp [g5], by simp, by simp; omega, ?_⟩
     rw [List.take_set, List.take_set]
     simp only [List.length_append, List.length_singleton, q6]
     simp
   . have htwo := stwo_pc I.op b a
     have hb : (oneV I.op a).2 = false := by unfold oneV; rw [if_neg (fun q => e14 (.inl q)), if_neg (fun q => e14 (.inr q))]
     have hS : exS w I (r2 ++ [b] ++ [a]) = r2 ++ [(twoV I.op b a).1] := by unfold exS; rw [if_neg hna, if_neg e1, if_neg e2, if_neg e3, if_neg e4, top_snoc, hb]; simp [top_snoc]
     have hone := sone_pc I.op a
     rw [hb] at hone
     simp [xof_l0, g2, b2, g5, g13, g14, g15, hi, <- hI]
     refine call ha (by simp) ?_
     simp [g2, b2, g5, g13, g14, g15, q2, q3, q4, ws, wl, wl2, wl3, wl4, z1, z2, z3, z4, e1, e2, e3, e4, hel']
     refine calld hone (by simp) ?_
     simp [g2, b2, g5, g13, g14, g15, q2, q3, q4, ws, wl, wl2, wl3, wl4, z1, z2, z3, z4, e1, e2, e3, e4, hel']
     refine calld htwo (by simp) ?_
     simp [g2, b2, g5, g13, g14, g15, q2, q3, q4, ws, wl, wl2, wl3, wl4, z1, z2, z3, z4, e1, e2, e3, e4, hel']
     have z5 : r2.length <= r2.length + 1 + 1 := by omega
     have z6 : r2.length <= es.length := by omega
     have z7 : (r2.length + 1) * 8 <= 140737488355328 := by omega
     have z8 : (min r2.length es.length + 1) * 8 <= 140737488355328 := by omega
     have q7 : es.take r2.length = r2.map iv := by
       have := congrArg (List.take r2.length) q5
       rw [List.take_take, Nat.min_eq_left (by omega)] at this
       rw [this]; simp
     rw [if_pos z5]
     simp [g2, b2, g5, g13, g14, g15, q2, q3, q4, ws, z6, z7, z8, q7]
     refine fin _ _ (by simp [g2]) (by simp [b2]) (by simp [g13]) (by simp [g14]) (by simp) rfl ?_
     rw [hS]
     refine .inr ⟨_, r2.map iv ++ [iv (twoV I.op b a).1], by simp; rfl, by simp, by simp, ?_⟩
     rw [List.take_of_length_le (by simp)]; simp
structure ExOk (w : Wld) (x : List Ins) : Prop where
 len : x.length <= 1000
 ok : ∀ (i : Nat) (h : i < x.length), XOk w (exV w (x.take i) []) x[i]
 one : 1 <= (exV w x []).length
theorem xof_pc (w : Wld) (hw : WOk w) (x : List Ins) (h : ExOk w x) : PC Tryz.prog 128 [w.av, .lst 2 (x.map Ins.av)] (iv (ofV w x)) := by
 obtain ⟨h1, h2, h3⟩ := h
 refine pc_of_get xof_get (by simp) _ (by simp) _ ?_
 unfold xof_c ofV
 simp
 refine loopN (fun i S => XI w x 0 0 i S) x.length ?_ ?_
 . exact ⟨by simp, by simp, by simp, by simp, by simp, .inl ⟨by simp, rfl⟩⟩
 . rintro i S hi hI
   by_cases hlt : i < x.length
   . refine xof_step w hw x h1 0 i hlt (h2 i hlt) hI (fun S' hI' => ?_)
     simp
     exact ⟨hlt, hI'⟩
   . have e1 : i = x.length := by omega
     subst e1
     obtain ⟨g2, b2, g13, g14, g15, gS⟩ := hI
     rw [List.take_length] at gS
     obtain ⟨v, g5⟩ : ∃ v, S.t 5 = v := ⟨_, rfl⟩
     rw [g5] at gS
     obtain ⟨s, hs⟩ : ∃ s, s = exV w x [] := ⟨_, rfl⟩
     rw [<- hs] at gS h3 ⊢
     cases s with
     | nil => simp at h3
     | cons a s =>
       rcases gS with ⟨_, q⟩ | ⟨st, es, rfl, q2, q3, q4⟩
       . cases q
       . have he : es[0]? = some (iv a) := by
           have := congrArg (fun l => l[0]?) q4
           rw [List.getElem?_take_of_lt (by simp)] at this
           rw [this]; rfl
         have h0 : 0 < es.length := by simp at q3; omega
         have he' : ∀ h, es[0]'h = iv a := by
           intro h
           rw [List.getElem?_eq_getElem h] at he
           exact Option.some.inj he
         simp [xof_l0, g13, g14, g15, g5, q2, he, he', h0]
end Go.Gv
