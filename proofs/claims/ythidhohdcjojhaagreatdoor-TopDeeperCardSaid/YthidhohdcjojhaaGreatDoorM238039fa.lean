/- Texts of this proof, one behind the other. What is proved, and on which conditions, stands ahead of each. -/
import Derived.Test.YthidhohdcjojhaaGreatDoorProg
import Derived.Test.YthidhohdcjojhaaGreatDoorM22612a85
import Derived.Test.YthidhohdcjojhaaGreatDoorM19c0ce97

set_option linter.unusedVariables false
set_option linter.unusedSimpArgs false
namespace Go.Gv
open Go.Proofs
def post_r0 : List AI := [oA 3 (.box 232003 4 (.t 0)), oA 5 (.box 232005 6 (.t 2))]
def post_r1 : List AI := [oA 9 (.fld 3 (.t 5)), oA 10 (.fld 0 (.t 9)), oA 11 (.load none (.t 10)), oA 6 (.mv (.t 11))]
def post_r2 : List AI := [oA 12 (.mv (.t 1)), oA 13 (.nilck (.t 12)), oA 14 (.fld 1 (.t 13)), oA 15 (.load none (.t 14)), oA 16 (.mv (.t 6)), oC 17 (.c (.fn 175 [])) [(.t 15), (.t 16)], oA 18 (.fld 1 (.t 3)), oA 19 (.load none (.t 18)), oA 20 (.mv (.t 6)), oA 21 (.idx 4 (.t 19) (.t 20)), oA 22 (.fld 1 (.t 21)), oA 23 (.load none (.t 22)), oA 24 (.ibin .lss (.t 17) (.t 23))]
def post_p2 : List (List Nat) := [[], [0], [1, 0], [2, 1, 0], [], [3, 4, 2, 1, 0], [], [6], [], [7, 8, 6], [9, 7, 8, 6], [10, 9, 7, 8, 6], [5, 11, 3, 4, 2, 1, 0, 10, 9, 7, 8, 6]]
def post_r3 : List AI := [oA 26 (.mv (.t 1)), oA 27 (.nilck (.t 26)), oA 28 (.fld 1 (.t 27)), oA 29 (.load none (.t 28)), oA 30 (.load (some 6) (.t 5)), oC 31 (.c (.fn 176 [])) [(.t 29), (.t 30)], oA 25 (.mv (.t 31)), oA 32 (.ext (.t 25) 0), oA 33 (.ext (.t 25) 1), oA 7 (.mv (.t 32)), oA 8 (.mv (.t 33))]
def post_p3 : List (List Nat) := [[], [0], [1, 0], [2, 1, 0], [], [3, 4, 2, 1, 0], [5, 3, 4, 2, 1, 0], [6, 5, 3, 4, 2, 1, 0], [6, 5, 3, 4, 2, 1, 0], [7, 5, 0, 1, 2, 3, 4, 6], [8, 9, 0, 1, 2, 3, 4, 5, 6, 7]]
def post_r4 : List AI := [oA 34 (.mv (.t 8)), oA 35 (.ibin .eql (.t 34) (.c (.int .i64 0)))]
def post_r5 : List AI := [oA 36 (.mv (.t 1)), oA 37 (.mv (.t 7)), oA 38 (.nilck (.t 36)), oA 39 (.fld 1 (.t 38)), oN (.store 1 (.t 39) (.t 37))]
def post_r6 : List AI := [oA 40 (.mv (.t 1)), oA 41 (.nilck (.t 40)), oA 42 (.fld 0 (.t 41)), oA 43 (.load none (.t 42)), oA 44 (.mv (.t 6)), oA 45 (.idx 5 (.t 43) (.t 44)), oA 46 (.fld 4 (.t 45)), oA 47 (.load none (.t 46)), oA 48 (.ibin .add (.t 47) (.c (.int .i64 1))), oA 49 (.idx 5 (.t 43) (.t 44)), oA 50 (.fld 4 (.t 49)), oN (.store 1 (.t 50) (.t 48))]
def post_c : AC := (.seq (.reg post_r0) (.seq (.reg post_r1) (.seq (.seq (.regd post_r2 post_p2) (.cond (.t 24) (.seq (.regd post_r3 post_p3) (.seq (.reg post_r4) (.cond (.t 35) (.seq (.reg post_r5) .ret) .skip))) .skip)) (.reg post_r6))))
def post_res : List ARes := []
set_option maxRecDepth 100000 in
theorem post_get : getF Tryz.prog 127 232000 [] = some ("gavotte/world.Post", 51, post_c, post_res) := by kernel_rfl
def give_r0 : List AI := [oA 4 (.box 233004 4 (.t 0))]
def give_r1 : List AI := [oA 8 (.mv (.c (.int .i64 0)))]
def give_r2 : List AI := [oA 11 (.mv (.t 2)), oA 12 (.ibin .geq (.t 11) (.c (.int .i64 0)))]
def give_r3 : List AI := [oA 13 (.mv (.t 1)), oA 14 (.nilck (.t 13)), oA 15 (.fld 0 (.t 14)), oA 16 (.load none (.t 15)), oA 17 (.mv (.t 2)), oA 18 (.idx 5 (.t 16) (.t 17)), oA 19 (.fld 3 (.t 18)), oA 20 (.load none (.t 19)), oA 21 (.mv (.t 3)), oA 22 (.len (.t 21)), oA 23 (.ibin .sub (.t 20) (.t 22)), oA 8 (.mv (.t 23))]
def give_r4 : List AI := [oA 24 (.mv (.t 3)), oA 25 (.len (.t 24)), oA 26 (.mv (.c (.int .i64 0)))]
def give_r5 : List AI := [oA 27 (.ibin .lss (.t 26) (.t 25))]
def give_r6 : List AI := [oA 28 (.mv (.t 26)), oA 29 (.idx 3 (.t 24) (.t 26)), oA 30 (.load (some 3) (.t 29)), oA 10 (.new 233010 3 (.agg [(.int .i64 0), (.int .i64 0), .nils])), oA 9 (.mv (.t 28)), oN (.store 3 (.t 10) (.t 30))]
def give_r7 : List AI := [oA 31 (.fld 0 (.t 10)), oA 32 (.load none (.t 31)), oA 33 (.ibin .geq (.t 32) (.c (.int .i64 0))), oA 34 (.mv (.t 33)), oG 35 34 true (.fld 0 (.t 10)), oG 36 34 true (.load none (.t 35)), oG 37 34 true (.fld 1 (.t 4)), oG 38 34 true (.load none (.t 37)), oG 39 34 true (.len (.t 38)), oG 40 34 true (.mv (.t 1)), oG 41 34 true (.nilck (.t 40)), oG 42 34 true (.fld 0 (.t 41)), oG 43 34 true (.load none (.t 42)), oG 44 34 true (.len (.t 43)), oG 45 34 true (.mm false (.t 39) [(.t 44)]), oG 46 34 true (.ibin .lss (.t 36) (.t 45)), oA 47 (.pick (.t 34) (.t 46) (.c (.bool false)))]
def give_p7 : List (List Nat) := [[], [0], [1, 0], [2, 1, 0], [3, 2, 1, 0], [4, 3, 2, 1, 0], [3, 2, 1, 0], [6, 3, 2, 1, 0], [7, 3, 6, 2, 1, 0], [3, 2, 1, 0], [9, 3, 2, 1, 0], [10, 3, 9, 2, 1, 0], [11, 3, 10, 9, 2, 1, 0], [12, 3, 11, 10, 9, 2, 1, 0], [8, 13, 3, 7, 6, 2, 1, 0, 12, 11, 10, 9], [5, 14, 3, 4, 2, 1, 0, 8, 13, 7, 6, 12, 11, 10, 9], [3, 15, 2, 1, 0, 5, 14, 4, 8, 13, 7, 6, 12, 11, 10, 9]]
def give_r8 : List AI := [oA 48 (.load (some 4) (.t 4)), oA 49 (.mv (.t 1)), oA 50 (.mv (.t 2)), oA 51 (.mv (.t 8)), oA 52 (.mv (.t 9)), oA 53 (.ibin .add (.t 51) (.t 52)), oA 54 (.build [(.int .i64 0), (.int .i64 0), (.int .i64 0)] [(0, (1, (.t 50))), (1, (1, (.t 53)))]), oA 55 (.load (some 3) (.t 10)), oA 56 (.build [(.int .i64 0), (.int .i64 0), (.int .i64 0), (.int .i64 0), (.int .i64 0), .nils] [(0, (3, (.t 54))), (3, (3, (.t 55)))]), oC 57 (.c (.fn 127 [])) [(.t 48), (.t 49), (.t 56)]]
def give_r9 : List AI := [oA 58 (.ibin .add (.t 26) (.c (.int .i64 1))), oA 26 (.mv (.t 58))]
def give_l0 : AC := (.seq (.reg give_r5) (.seq (.cond (.t 27) .skip (.exit 0)) (.seq (.block 1 (.seq (.reg give_r6) (.seq (.regd give_r7 give_p7) (.cond (.t 47) (.reg give_r8) .skip)))) (.reg give_r9))))
def give_c : AC := (.seq (.reg give_r0) (.seq (.reg give_r1) (.seq (.seq (.reg give_r2) (.cond (.t 12) (.reg give_r3) .skip)) (.seq (.reg give_r4) (.block 0 (.loop give_l0))))))
def give_res : List ARes := []
set_option maxRecDepth 100000 in
theorem give_get : getF Tryz.prog 92 233000 [] = some ("gavotte/world.Give", 59, give_c, give_res) := by kernel_rfl
attribute [simp] post_r0 post_r1 post_r2 post_p2 post_r3 post_p3 post_r4 post_r5 post_r6 post_res give_r0 give_r1 give_r2 give_r3 give_r4 give_r5 give_r6 give_r7 give_p7 give_r8 give_r9 give_res
theorem MutIs.len {S : St} {nm sz : Nat} {v : AV} {xs : List AV} (h : MutIs S nm sz v xs) : lenOf v = some xs.length := by
 rcases h with ⟨rfl, rfl⟩ | ⟨st, rfl, _⟩ <;> rfl
theorem MutIs.sl {S : St} {nm sz : Nat} {v : AV} {xs : List AV} (h : MutIs S nm sz v xs) (hx : 0 < xs.length) : ∃ st, v = .sl nm st sz 0 xs.length /\ S.blk nm = some ⟨st, sz, xs⟩ := by
 rcases h with ⟨rfl, rfl⟩ | h
 . simp at hx
 . exact h
def PutAll : Prop := ∀ (l : List Msg) (m : Msg), l.length <= 900 -> (∀ x ∈ l, x.note.args.length <= 1000) -> m.note.args.length <= 1000 ->
 PC Tryz.prog 176 [.lst 6 (l.map Msg.av), m.av] (if idxV m.id l = none then .tup [.lst 6 ((insV m l).map Msg.av), iv 0] else .tup [.nils, iv 1])
def LstIs (sz : Nat) (v : AV) (xs : List AV) : Prop := v = .lst sz xs \/ (v = .nils /\ xs = [])
theorem LstIs.out {sz : Nat} {v : AV} {xs : List AV} (h : LstIs sz v xs) : v.one = true /\ v.cells = [v] /\ rdV v = [] /\ ∀ B, co B v (.lst sz xs) := by
 rcases h with rfl | ⟨rfl, rfl⟩
 . simp [rdV]
 . simp [rdV]
def WIs (na nm st : Nat) (w : Wld) (S : St) : Prop :=
 ∃ va vm, S.blk nm = some ⟨st, 6, [.agg [va, vm, iv w.used.drop, iv w.used.dup, iv w.used.time, iv w.used.crash]]⟩ /\ MutIs S na 5 va (w.acts.map Lcl.av) /\ LstIs 6 vm (w.mail.map Msg.av)
structure FrW (na nm : Nat) (S S' : St) : Prop where
 t : S'.t = S.t
 b : ∀ n, n ≠ na -> n ≠ nm -> (n < 232000 \/ 233000 <= n) -> S'.blk n = S.blk n
 c : S.clk <= S'.clk
theorem FrW.refl (na nm : Nat) (S : St) : FrW na nm S S := ⟨rfl, fun _ _ _ _ => rfl, Nat.le_refl _⟩
theorem FrW.trans {na nm : Nat} {S S' S'' : St} (h : FrW na nm S S') (k : FrW na nm S' S'') : FrW na nm S S'' := ⟨k.t.trans h.t, fun n a b c => (k.b n a b c).trans (h.b n a b c), Nat.le_trans h.c k.c⟩
theorem overV_acts (w : Wld) {i : Nat} (h : i < w.acts.length) : (overV w i).acts.map Lcl.av = (w.acts.map Lcl.av).set i (setCells w.acts[i].av 4 [.int .i64 (IntKind.i64.wrap (w.acts[i].over + 1))]) := by
 unfold overV
 simp only [List.getElem?_eq_getElem h]
 rw [List.map_set]
 rfl
theorem post_v (hput : PutAll) (na nm st : Nat) (hna : 1000000000 <= na) (hnm : nm < 232000 \/ 234000 <= nm) (hne : na ≠ nm) (p : Prg) (w : Wld) (hw : WOk w) (hml : w.mail.length <= 900) (ha : ∀ m ∈ w.mail, m.note.args.length <= 1000) (hal : w.acts.length = p.as.length) (m : Msg) (hma : m.note.args.length <= 1000)
   (h0 : 0 <= m.note.to) (h1 : m.note.to < w.acts.length) {S : St} {k : AV -> St -> Prop} {u : Dep k} (h : WIs na nm st w S)
   (hk : ∀ S', FrW na nm S S' -> WIs na nm st (postV p w m) S' -> k (.tup []) S') : CallG Tryz.prog (.fn 127 []) [p.av, .ptr nm st 6 0 0, m.av] S k u := by
 obtain ⟨va, vm, hb, hA, hM⟩ := h
 obtain ⟨o1, o2, o4, o3⟩ := hM.out
 have n3 : nm ≠ 232003 := by omega
 have n5 : nm ≠ 232005 := by omega
 have t3 : m.note.to.toNat < w.acts.length := by omega
 have t4 : m.note.to.toNat < p.as.length := by rw [<- hal]; exact t3
 have h1' : m.note.to < p.as.length := by rw [<- hal]; exact h1
 have hcap : capV p m.note.to = p.as[m.note.to.toNat].cap := by unfold capV; rw [List.getElem?_eq_getElem t4]; rfl
 obtain ⟨sA, hva, bA⟩ := hA.sl (by rw [List.length_map]; omega)
 subst hva
 have a3 : na ≠ 232003 := by omega
 have a5 : na ≠ 232005 := by omega
 refine callV post_get (by simp) (by simp) ?_
 unfold post_c
 simp [n3, n5, hb]
 refine calld (mailTo_pc w.mail m.note.to hw.ml) (by simp [o3]) ?_
 simp [n3, n5, hb, h0, h1', t4, o4]
 by_cases hc : (toV w.mail m.note.to : Int) < p.as[m.note.to.toNat].cap
 . simp [hc, n3, n5, hb]
   refine calld (hput w.mail m hml ha hma) (by simp [o3, Msg.av]) ?_
   cases hi : idxV m.id w.mail with
   | none =>
     simp [hi, n3, n5, hb]
     have hpv : postV p w m = { w with mail := insV m w.mail } := by
       unfold postV
       rw [hcap, if_pos hc, if_pos hi]
     rw [hpv] at hk
     refine hk _ ⟨rfl, fun n e1 e2 e3 => ?_, by simp only []; omega⟩ ⟨.sl na sA 5 0 w.acts.length, .lst 6 ((insV m w.mail).map Msg.av), by simp, .inr ⟨sA, by simp, ?_⟩, .inl rfl⟩
     . simp [e2, show n ≠ 232003 by omega, show n ≠ 232005 by omega]
     . simp [hne, a3, a5, bA]
   | some i =>
     simp [hi, n3, n5, hb, a3, a5, bA, h0, h1, t3]
     have hpv : postV p w m = overV w m.note.to.toNat := by
       unfold postV
       rw [hcap]
       rw [if_pos hc, if_neg (by rw [hi]; simp)]
     rw [hpv] at hk
     refine hk _ ⟨rfl, fun n e1 e2 e3 => ?_, by simp only []; omega⟩ ⟨.sl na sA 5 0 w.acts.length, vm, by simp [n3, n5, Ne.symm hne, hb]; exact ⟨rfl, rfl, rfl, rfl⟩, .inr ⟨sA, by simp [overV], ?_⟩, hM⟩
     . simp [e1, show n ≠ 232003 by omega, show n ≠ 232005 by omega]
     . rw [overV_acts w t3]
       simp
 . simp [hc, n3, n5, hb, a3, a5, bA, h0, h1, t3]
   have hpv : postV p w m = overV w m.note.to.toNat := by
     unfold postV
     rw [hcap]
     rw [if_neg hc]
   rw [hpv] at hk
   refine hk _ ⟨rfl, fun n e1 e2 e3 => ?_, by simp only []; omega⟩ ⟨.sl na sA 5 0 w.acts.length, vm, by simp [n3, n5, Ne.symm hne, hb]; exact ⟨rfl, rfl, rfl, rfl⟩, .inr ⟨sA, by simp [overV], ?_⟩, hM⟩
   . simp [e1, show n ≠ 232003 by omega, show n ≠ 232005 by omega]
   . rw [overV_acts w t3]
     simp
structure WK (p : Prg) (w : Wld) (n : Nat) : Prop where
 ml : w.mail.length <= n
 al : w.acts.length = p.as.length
 a8 : w.acts.length <= 1000
 to : ∀ m ∈ w.mail, 0 <= m.note.to /\ m.note.to < w.acts.length
 ar : ∀ m ∈ w.mail, m.note.args.length <= 1000
theorem WK.ok {p : Prg} {w : Wld} {n : Nat} (h : WK p w n) (hn : n <= 1000) : WOk w := ⟨Nat.le_trans h.ml hn, h.a8, h.to⟩
theorem insV_len (m : Msg) : ∀ l : List Msg, (insV m l).length = l.length + 1
 | [] => rfl
 | x :: l => by
   unfold insV
   split
   . simp [insV_len m l]
   . rfl
theorem insV_mem (m x : Msg) : ∀ l : List Msg, x ∈ insV m l -> x = m \/ x ∈ l
 | [], h => by simp [insV] at h; exact .inl h
 | y :: l, h => by
   unfold insV at h
   split at h
   . rcases List.mem_cons.1 h with q | q
     . exact .inr (by simp [q])
     . rcases insV_mem m x l q with q | q
       . exact .inl q
       . exact .inr (by simp [q])
   . rcases List.mem_cons.1 h with q | q
     . exact .inl q
     . exact .inr q
theorem overV_len (w : Wld) (i : Nat) : (overV w i).acts.length = w.acts.length := by simp [overV]
theorem postV_cases (p : Prg) (w : Wld) (m : Msg) : postV p w m = { w with mail := insV m w.mail } \/ postV p w m = overV w m.note.to.toNat := by
 unfold postV
 split
 . split
   . exact .inl rfl
   . exact .inr rfl
 . exact .inr rfl
theorem WK.post {p : Prg} {w : Wld} {n : Nat} (h : WK p w n) (m : Msg) (h0 : 0 <= m.note.to) (h1 : m.note.to < w.acts.length) (ha : m.note.args.length <= 1000) : WK p (postV p w m) (n + 1) := by
 rcases postV_cases p w m with e | e
 . rw [e]
   refine ⟨by simp only [insV_len]; have := h.ml; omega, h.al, h.a8, fun x hx => ?_, fun x hx => ?_⟩
   . rcases insV_mem _ _ _ hx with q | q
     . rw [q]; exact ⟨h0, h1⟩
     . exact h.to x q
   . rcases insV_mem _ _ _ hx with q | q
     . rw [q]; exact ha
     . exact h.ar x q
 . rw [e]
   refine ⟨Nat.le_succ_of_le h.ml, by rw [overV_len]; exact h.al, by rw [overV_len]; exact h.a8, fun x hx => by rw [overV_len]; exact h.to x hx, h.ar⟩
theorem WK.mono {p : Prg} {w : Wld} {n n' : Nat} (h : WK p w n) (hn : n <= n') : WK p w n' := ⟨Nat.le_trans h.ml hn, h.al, h.a8, h.to, h.ar⟩
theorem giveL_take (p : Prg) (frm first : Int) : ∀ (l : List Nt) (j i : Nat) (h : i < l.length) (w : Wld), giveL p frm first j (l.take (i + 1)) w =
   (if 0 <= l[i].to /\ l[i].to < (min p.as.length (giveL p frm first j (l.take i) w).acts.length : Nat) then postV p (giveL p frm first j (l.take i) w) ⟨⟨frm, w64 (first + (j + i : Nat)), 0⟩, l[i]⟩ else giveL p frm first j (l.take i) w)
 | [], _, _, h, _ => by simp at h
 | n :: l, j, 0, _, w => by simp [giveL]
 | n :: l, j, i + 1, h, w => by
   rw [List.take_succ_cons, giveL, List.take_succ_cons, giveL, giveL_take p frm first l (j + 1) i (by simpa using h)]
   simp only [List.getElem_cons_succ]
   rw [show j + 1 + i = j + (i + 1) by omega]
theorem WIs.at {na nm st : Nat} {w : Wld} {S S' : St} (h : WIs na nm st w S) (h1 : S'.blk nm = S.blk nm) (h2 : S'.blk na = S.blk na) : WIs na nm st w S' := by
 obtain ⟨va, vm, hb, hA, hM⟩ := h
 exact ⟨va, vm, h1.trans hb, hA.at h2, hM⟩
theorem give_loop (hput : PutAll) (na nm st : Nat) (hna : 1000000000 <= na) (hnm : nm < 232000 \/ 234000 <= nm) (hne : na ≠ nm) (p : Prg) (w : Wld) (n : Nat) (hw : WK p w n) (l : List Nt) (hn : n + l.length <= 900) (hla : ∀ x ∈ l, x.args.length <= 1000)
   (frm first : Int) (s4 : Nat) {S : St} {κ : Ex -> St -> Prop} {u : Dep κ} (h : WIs na nm st w S) (g1 : S.t 1 = .ptr nm st 6 0 0) (g2 : S.t 2 = iv frm) (g4 : S.t 4 = .ptr 233004 s4 4 0 0) (b4 : S.blk 233004 = some ⟨s4, 4, [p.av]⟩) (g8 : S.t 8 = iv first) (g24 : S.t 24 = .lst 3 (l.map Nt.av)) (g25 : S.t 25 = iv l.length) (g26 : S.t 26 = iv 0)
   (hk : ∀ S', (∀ n, n ≠ na -> n ≠ nm -> (n < 232000 \/ 234000 <= n) -> S'.blk n = S.blk n) -> S.clk <= S'.clk -> WIs na nm st (giveL p frm first 0 l w) S' -> WK p (giveL p frm first 0 l w) (n + l.length) -> κ (.exit 0) S') : LoopG Tryz.prog give_l0 κ S u := by
 have n4 : nm ≠ 233004 := by omega
 have n10 : nm ≠ 233010 := by omega
 have a4 : na ≠ 233004 := by omega
 have a10 : na ≠ 233010 := by omega
 refine loopN (fun i S' => WIs na nm st (giveL p frm first 0 (l.take i) w) S' /\ WK p (giveL p frm first 0 (l.take i) w) (n + i) /\ S'.t 1 = .ptr nm st 6 0 0 /\ S'.t 2 = iv frm /\ S'.t 4 = .ptr 233004 s4 4 0 0 /\ S'.blk 233004 = some ⟨s4, 4, [p.av]⟩ /\ S'.t 8 = iv first /\ S'.t 24 = .lst 3 (l.map Nt.av) /\ S'.t 25 = iv l.length /\ S'.t 26 = iv i /\
   (∀ n, n ≠ na -> n ≠ nm -> (n < 232000 \/ 234000 <= n) -> S'.blk n = S.blk n) /\ S.clk <= S'.clk) l.length ?_ ?_
 . exact ⟨by simpa [giveL] using h, by simpa [giveL] using hw, g1, g2, g4, b4, g8, g24, g25, g26, fun _ _ _ _ => rfl, Nat.le_refl _⟩
 . clear h g1 g2 g4 b4 g8 g24 g25 g26
   rintro i S' hi ⟨h, hw, g1, g2, g4, b4, g8, g24, g25, g26, hF, hc⟩
   by_cases hlt : i < l.length
   . have ws := wrap_succ i _ hlt (by omega)
     have hgt := giveL_take p frm first l 0 i hlt w
     rw [Nat.zero_add] at hgt
     obtain ⟨w1, hw1⟩ : ∃ w1, w1 = giveL p frm first 0 (l.take i) w := ⟨_, rfl⟩
     rw [<- hw1] at hgt h hw
     obtain ⟨va, vm, hb, hA, hM⟩ := h
     have hW0 : WIs na nm st w1 S' := ⟨va, vm, hb, hA, hM⟩
     have o1 := hA.one
     have o2 := hA.cells
     have hlen := hA.len
     rw [List.length_map] at hlen
     have hal := hw.al
     have ha8 := hw.a8
     have hmin : min (p.as.length : Int) (w1.acts.length : Int) = ((min p.as.length w1.acts.length : Nat) : Int) := by omega
     simp [give_l0, g1, g2, g4, g8, g24, g25, g26, b4, hb, n4, n10, a4, a10, hlt, hlen, o1]
     by_cases h0 : 0 <= l[i].to
     . simp [h0, g1, g2, g4, g8, g24, g25, g26, b4, hb, n4, n10, a4, a10, hlt, hlen, o1]
       by_cases h1 : l[i].to < min (p.as.length : Int) (w1.acts.length : Int)
       . simp [h1, g1, g2, g4, g8, g24, g25, g26, b4, n4, n10, a4, a10]
         refine post_v hput na nm st hna hnm hne p w1 (hw.ok (by omega)) (by have := hw.ml; omega) hw.ar hal ⟨⟨frm, w64 (first + (i : Int)), 0⟩, l[i]⟩ (hla _ (List.getElem_mem hlt)) h0 (by simp only []; omega) (hW0.at (by simp [n10]) (by simp [a10])) (fun S2 hF2 hW2 => ?_)
         have ht2 := hF2.t
         simp [ht2, g1, g2, g4, g8, g24, g25, g26, ws]
         rw [hgt, if_pos ⟨h0, by rw [<- hmin]; exact h1⟩]
         have e1 : w64 (first + (i : Int)) = w64 (first + (i : Nat)) := rfl
         refine ⟨hW2.at rfl rfl, hw.post _ h0 (by simp only []; omega) (hla _ (List.getElem_mem hlt)), ?_, fun n e1 e2 e3 => ?_, ?_⟩
         . rw [hF2.b _ (Ne.symm a4) (Ne.symm n4) (.inr (by omega))]
           simp [b4]
         . rw [hF2.b n e1 e2 (by omega)]
           simp
           rw [if_neg (by omega), if_neg (by omega)]
           exact hF n e1 e2 e3
         . have := hF2.c
           simp only [] at this
           omega
       . simp [h1, g1, g2, g4, g8, g24, g25, g26, b4, n4, n10, a4, a10, ws]
         rw [hgt, if_neg (fun q => h1 (by rw [hmin]; exact q.2))]
         exact ⟨hW0.at (by simp [n10]) (by simp [a10]), hw.mono (by omega), fun n e1 e2 e3 => by rw [if_neg (by omega), if_neg (by omega)]; exact hF n e1 e2 e3, by first | omega | (simp only []; omega)⟩
     . simp [h0, g1, g2, g4, g8, g24, g25, g26, b4, hb, n4, n10, a4, a10, hlt, hlen, o1, ws]
       rw [hgt, if_neg (fun q => h0 q.1)]
       exact ⟨hW0.at (by simp [n10]) (by simp [a10]), hw.mono (by omega), fun n e1 e2 e3 => by rw [if_neg (by omega), if_neg (by omega)]; exact hF n e1 e2 e3, by first | omega | (simp only []; omega)⟩
   . have e1 : i = l.length := by omega
     subst e1
     rw [List.take_length] at h hw
     simp [give_l0, g24, g25, g26]
     exact hk _ hF (by simp only []; omega) (h.at rfl rfl) hw
theorem give_v (hput : PutAll) (na nm st : Nat) (hna : 1000000000 <= na) (hnm : nm < 232000 \/ 234000 <= nm) (hne : na ≠ nm) (p : Prg) (w : Wld) (n : Nat) (hw : WK p w n) (l : List Nt) (hn : n + l.length <= 900) (hla : ∀ x ∈ l, x.args.length <= 1000)
   (frm : Int) (hf : frm < w.acts.length) {S : St} {k : AV -> St -> Prop} {u : Dep k} (h : WIs na nm st w S)
   (hk : ∀ S', S'.t = S.t -> S.clk <= S'.clk -> (∀ n, n ≠ na -> n ≠ nm -> (n < 232000 \/ 234000 <= n) -> S'.blk n = S.blk n) -> WIs na nm st (giveV p w frm l) S' -> WK p (giveV p w frm l) (n + l.length) -> k (.tup []) S') : CallG Tryz.prog (.fn 92 []) [p.av, .ptr nm st 6 0 0, iv frm, .lst 3 (l.map Nt.av)] S k u := by
 refine callV give_get (by simp) (by simp) ?_
 unfold give_c
 have n4 : nm ≠ 233004 := by omega
 have n10 : nm ≠ 233010 := by omega
 have a4 : na ≠ 233004 := by omega
 have h' := h
 obtain ⟨va, vm, hb, hA, hM⟩ := h'
 unfold giveV at hk
 simp
 by_cases h0 : 0 <= frm
 . rw [if_pos h0] at hk
   have t3 : frm.toNat < w.acts.length := by omega
   have hs : sentV w frm = w.acts[frm.toNat].sent := by unfold sentV; rw [List.getElem?_eq_getElem t3]; rfl
   obtain ⟨sA, hva, bA⟩ := hA.sl (by rw [List.length_map]; omega)
   subst hva
   simp [h0, n4, n10, a4, hb, bA, hf, t3]
   refine give_loop hput na nm st hna hnm hne p w n hw l hn hla frm (w64 (sentV w frm - l.length)) S.clk (h.at (by simp [n4]) (by simp [a4])) (by simp) (by simp) (by simp) (by simp) (by simp [hs]) (by simp) (by simp) (by simp) (fun S' q1 q2 q3 q4 => ?_)
   simp
   exact hk _ rfl (by simp only [] at q2 ⊢; omega) (fun n e1 e2 e3 => by simp only []; rw [q1 n e1 e2 e3]; simp; omega) (q3.at rfl rfl) q4
 . rw [if_neg h0] at hk
   simp [h0]
   refine give_loop hput na nm st hna hnm hne p w n hw l hn hla frm 0 S.clk (h.at (by simp [n4]) (by simp [a4])) (by simp) (by simp) (by simp) (by simp) (by simp) (by simp) (by simp) (by simp) (fun S' q1 q2 q3 q4 => ?_)
   simp
   exact hk _ rfl (by simp only [] at q2 ⊢; omega) (fun n e1 e2 e3 => by simp only []; rw [q1 n e1 e2 e3]; simp; omega) (q3.at rfl rfl) q4
end Go.Gv

namespace Go.Gv
open Go.Proofs
def srun_r0 : List AI := [oA 5 (.box 234005 4 (.t 0)), oA 10 (.mv (.c .nils))]
def srun_r1 : List AI := [oA 12 (.load (some 4) (.t 5)), oA 13 (.mv (.t 2)), oA 14 (.mv (.t 1)), oA 15 (.nilck (.t 14)), oA 16 (.fld 0 (.t 15)), oA 17 (.load none (.t 16)), oA 18 (.mv (.t 2)), oA 19 (.idx 5 (.t 17) (.t 18)), oA 20 (.load (some 5) (.t 19)), oA 21 (.mv (.t 3)), oA 22 (.mv (.t 4)), oC 23 (.c (.fn 184 [])) [(.t 12), (.t 13), (.t 20), (.t 21), (.t 22)], oA 11 (.new 234011 7 (.agg [.nils, (.bool false), (.int .i64 0), (.int .i64 0), (.int .i64 0), .nils, (.int .i64 0)])), oN (.store 7 (.t 11) (.t 23))]
def srun_p1 : List (List Nat) := [[], [], [], [2], [3, 2], [4, 3, 2], [], [5, 6, 4, 3, 2], [7, 5, 6, 4, 3, 2], [], [], [0, 1, 8, 9, 10, 7, 5, 6, 4, 3, 2], [], [12, 11, 0, 1, 2, 3, 4, 5, 6, 7, 8, 9, 10]]
def srun_r2 : List AI := [oA 24 (.mv (.t 1)), oA 25 (.nilck (.t 24)), oA 26 (.fld 0 (.t 25)), oA 27 (.load none (.t 26)), oA 28 (.mv (.t 2)), oA 29 (.fld 0 (.t 11)), oA 30 (.load (some 5) (.t 29)), oA 31 (.idx 5 (.t 27) (.t 28)), oN (.store 5 (.t 31) (.t 30))]
def srun_p2 : List (List Nat) := [[], [0], [1, 0], [2, 1, 0], [], [], [5], [3, 4, 0, 1, 2, 5, 6], [7, 6, 0, 1, 2, 3, 4, 5]]
def srun_r3 : List AI := [oA 32 (.fld 5 (.t 11)), oA 33 (.load none (.t 32)), oA 10 (.mv (.t 33))]
def srun_c : AC := (.seq (.reg srun_r0) (.seq (.regd srun_r1 srun_p1) (.seq (.regd srun_r2 srun_p2) (.seq (.reg srun_r3) .ret))))
def srun_res : List ARes := [(.tmp 10)]
set_option maxRecDepth 100000 in
theorem srun_get : getF Tryz.prog 133 234000 [] = some ("gavotte/step.run", 34, srun_c, srun_res) := by kernel_rfl
def sapply_r0 : List AI := [oA 3 (.box 235003 4 (.t 0)), oA 4 (.box 235004 6 (.t 1)), oA 5 (.box 235005 5 (.t 2)), oA 6 (.new 235006 6 (.agg [.nils, .nils, (.int .i64 0), (.int .i64 0), (.int .i64 0), (.int .i64 0)]))]
def sapply_r1 : List AI := [oA 12 (.load (some 6) (.t 4)), oC 13 (.c (.fn 132 [])) [(.t 12)], oN (.store 6 (.t 4) (.t 13))]
def sapply_r2 : List AI := [oA 14 (.fld 1 (.t 4)), oA 15 (.load none (.t 14)), oA 16 (.fld 1 (.t 5)), oA 17 (.load (some 3) (.t 16)), oC 18 (.c (.fn 131 [])) [(.t 15), (.t 17)], oA 7 (.mv (.t 18))]
def sapply_r3 : List AI := [oA 19 (.fld 0 (.t 5)), oA 20 (.load none (.t 19))]
def sapply_r4 : List AI := [oA 22 (.ibin .eql (.t 20) (.c (.int .i64 1))), oA 21 (.mv (.t 22))]
def sapply_r5 : List AI := [oA 23 (.ibin .eql (.t 20) (.c (.int .i64 2))), oA 21 (.mv (.t 23))]
def sapply_r6 : List AI := [oA 24 (.fld 1 (.t 4)), oA 25 (.load none (.t 24)), oA 26 (.mv (.t 7)), oA 27 (.idx 6 (.t 25) (.t 26)), oA 28 (.fld 3 (.t 27)), oA 29 (.load (some 3) (.t 28)), oA 8 (.new 235008 3 (.agg [(.int .i64 0), (.int .i64 0), .nils])), oN (.store 3 (.t 8) (.t 29))]
def sapply_r7 : List AI := [oA 30 (.fld 1 (.t 4)), oA 31 (.load none (.t 30)), oA 32 (.mv (.t 7)), oA 33 (.slice (some 6) (.t 31) none (some (.t 32))), oA 34 (.fld 1 (.t 4)), oA 35 (.load none (.t 34)), oA 36 (.mv (.t 7)), oA 37 (.ibin .add (.t 36) (.c (.int .i64 1))), oA 38 (.slice (some 6) (.t 35) (some (.t 37)) none), oA 39 (.appw 1000235039 6 179 64 (.t 33) (.t 38)), oA 40 (.fld 1 (.t 4)), oN (.store 1 (.t 40) (.t 39))]
def sapply_p7 : List (List Nat) := [[], [0], [], [1, 2, 0], [], [4], [], [6], [5, 7, 4, 6], [3, 8, 1, 2, 0, 5, 7, 4, 6], [0, 1, 2, 3, 4, 5, 6, 7, 8, 9], [10, 9, 0, 1, 2, 3, 4, 5, 6, 7, 8]]
def sapply_r8 : List AI := [oA 41 (.fld 0 (.t 5)), oA 42 (.load none (.t 41)), oA 43 (.ibin .eql (.t 42) (.c (.int .i64 2)))]
def sapply_r9 : List AI := [oA 44 (.fld 2 (.t 4)), oA 45 (.fld 0 (.t 44)), oA 46 (.load none (.t 45)), oA 47 (.ibin .add (.t 46) (.c (.int .i64 1))), oA 48 (.fld 2 (.t 4)), oA 49 (.fld 0 (.t 48)), oN (.store 1 (.t 49) (.t 47))]
def sapply_r10 : List AI := [oA 50 (.load (some 4) (.t 3)), oA 51 (.fld 0 (.t 8)), oA 52 (.load none (.t 51)), oA 53 (.fld 1 (.t 8)), oA 54 (.load none (.t 53)), oA 55 (.fld 2 (.t 8)), oA 56 (.load none (.t 55)), oC 57 (.c (.fn 133 [])) [(.t 50), (.t 4), (.t 52), (.t 54), (.t 56)], oA 9 (.mv (.t 57))]
def sapply_r11 : List AI := [oA 58 (.load (some 4) (.t 3)), oA 59 (.fld 0 (.t 8)), oA 60 (.load none (.t 59)), oA 61 (.mv (.t 9)), oC 62 (.c (.fn 92 [])) [(.t 58), (.t 4), (.t 60), (.t 61)]]
def sapply_r12 : List AI := [oA 64 (.ibin .eql (.t 20) (.c (.int .i64 3))), oA 63 (.mv (.t 64))]
def sapply_r13 : List AI := [oA 65 (.fld 2 (.t 4)), oA 66 (.fld 1 (.t 65)), oA 67 (.load none (.t 66)), oA 68 (.ibin .add (.t 67) (.c (.int .i64 1))), oA 69 (.fld 2 (.t 4)), oA 70 (.fld 1 (.t 69)), oN (.store 1 (.t 70) (.t 68))]
def sapply_r14 : List AI := [oA 71 (.fld 1 (.t 4)), oA 72 (.load none (.t 71)), oA 73 (.mv (.t 7)), oA 74 (.idx 6 (.t 72) (.t 73)), oA 75 (.load (some 6) (.t 74)), oA 10 (.new 235010 6 (.agg [(.int .i64 0), (.int .i64 0), (.int .i64 0), (.int .i64 0), (.int .i64 0), .nils])), oN (.store 6 (.t 10) (.t 75))]
def sapply_r15 : List AI := [oA 76 (.fld 2 (.t 4)), oA 77 (.fld 1 (.t 76)), oA 78 (.load none (.t 77)), oA 79 (.fld 0 (.t 10)), oA 80 (.fld 2 (.t 79)), oN (.store 1 (.t 80) (.t 78))]
def sapply_r16 : List AI := [oA 81 (.load (some 4) (.t 3)), oA 82 (.load (some 6) (.t 10)), oC 83 (.c (.fn 127 [])) [(.t 81), (.t 4), (.t 82)]]
def sapply_r17 : List AI := [oA 85 (.ibin .eql (.t 20) (.c (.int .i64 4))), oA 84 (.mv (.t 85))]
def sapply_r18 : List AI := [oA 86 (.fld 2 (.t 4)), oA 87 (.fld 2 (.t 86)), oA 88 (.load none (.t 87)), oA 89 (.ibin .add (.t 88) (.c (.int .i64 1))), oA 90 (.fld 2 (.t 4)), oA 91 (.fld 2 (.t 90)), oN (.store 1 (.t 91) (.t 89))]
def sapply_r19 : List AI := [oA 92 (.fld 0 (.t 4)), oA 93 (.load none (.t 92)), oA 94 (.fld 4 (.t 5)), oA 95 (.load none (.t 94)), oA 96 (.idx 5 (.t 93) (.t 95)), oA 97 (.fld 1 (.t 96)), oN (.store 1 (.t 97) (.c (.bool false)))]
def sapply_r20 : List AI := [oA 98 (.load (some 4) (.t 3)), oA 99 (.fld 4 (.t 5)), oA 100 (.load none (.t 99)), oA 101 (.fld 1 (.t 3)), oA 102 (.load none (.t 101)), oA 103 (.fld 4 (.t 5)), oA 104 (.load none (.t 103)), oA 105 (.idx 4 (.t 102) (.t 104)), oA 106 (.fld 2 (.t 105)), oA 107 (.load none (.t 106)), oC 108 (.c (.fn 133 [])) [(.t 98), (.t 4), (.t 100), (.t 107), (.c .nils)], oA 11 (.mv (.t 108))]
def sapply_p20 : List (List Nat) := [[], [], [1], [], [3], [], [5], [4, 6, 3, 5], [7, 4, 6, 3, 5], [8, 7, 4, 6, 3, 5], [0, 2, 9, 1, 8, 7, 4, 6, 3, 5], [10, 0, 1, 2, 3, 4, 5, 6, 7, 8, 9]]
def sapply_r21 : List AI := [oA 109 (.load (some 4) (.t 3)), oA 110 (.fld 4 (.t 5)), oA 111 (.load none (.t 110)), oA 112 (.mv (.t 11)), oC 113 (.c (.fn 92 [])) [(.t 109), (.t 4), (.t 111), (.t 112)]]
def sapply_r22 : List AI := [oA 115 (.ibin .eql (.t 20) (.c (.int .i64 5))), oA 114 (.mv (.t 115))]
def sapply_r23 : List AI := [oA 116 (.fld 2 (.t 4)), oA 117 (.fld 3 (.t 116)), oA 118 (.load none (.t 117)), oA 119 (.ibin .add (.t 118) (.c (.int .i64 1))), oA 120 (.fld 2 (.t 4)), oA 121 (.fld 3 (.t 120)), oN (.store 1 (.t 121) (.t 119))]
def sapply_r24 : List AI := [oA 122 (.fld 0 (.t 4)), oA 123 (.load none (.t 122)), oA 124 (.fld 4 (.t 5)), oA 125 (.load none (.t 124)), oA 126 (.idx 5 (.t 123) (.t 125)), oA 127 (.fld 2 (.t 126)), oN (.store 1 (.t 127) (.c (.int .i64 1)))]
def sapply_r25 : List AI := [oA 128 (.load (some 6) (.t 4)), oN (.store 6 (.t 6) (.t 128))]
def sapply_c : AC := (.seq (.reg sapply_r0) (.seq (.reg sapply_r1) (.seq (.reg sapply_r2) (.seq (.seq (.reg sapply_r3) (.block 0 (.seq (.seq (.reg sapply_r4) (.cond (.t 21) .skip (.reg sapply_r5))) (.cond (.t 21) (.seq (.reg sapply_r6) (.seq (.regd sapply_r7 sapply_p7) (.seq (.seq (.gh (.reg sapply_r8)) (.cond (.t 43) (.seq (.reg sapply_r9) (.exit 0)) .skip)) (.seq (.reg sapply_r10) (.reg sapply_r11))))) (.seq (.gh (.reg sapply_r12)) (.cond (.t 63) (.seq (.reg sapply_r13) (.seq (.reg sapply_r14) (.seq (.reg sapply_r15) (.reg sapply_r16)))) (.seq (.reg sapply_r17) (.cond (.t 84) (.seq (.reg sapply_r18) (.seq (.reg sapply_r19) (.seq (.regi sapply_r20 sapply_p20) (.reg sapply_r21)))) (.seq (.reg sapply_r22) (.cond (.t 114) (.seq (.reg sapply_r23) (.reg sapply_r24)) .skip)))))))))) (.seq (.reg sapply_r25) .ret)))))
def sapply_res : List ARes := [(.cell (some 6) 6)]
set_option maxRecDepth 100000 in
theorem sapply_get : getF Tryz.prog 101 235000 [(39, 1000000039), (1000008, 1), (1000012, 1), (2000020, 1)] = some ("gavotte/step.Apply", 129, sapply_c, sapply_res) := by kernel_rfl
attribute [simp] srun_r0 srun_r1 srun_p1 srun_r2 srun_p2 srun_r3 srun_res sapply_r0 sapply_r1 sapply_r2 sapply_r3 sapply_r4 sapply_r5 sapply_r6 sapply_r7 sapply_p7 sapply_r8 sapply_r9 sapply_r10 sapply_r11 sapply_r12 sapply_r13 sapply_r14 sapply_r15 sapply_r16 sapply_r17 sapply_r18 sapply_r19 sapply_r20 sapply_p20 sapply_r21 sapply_r22 sapply_r23 sapply_r24 sapply_r25 sapply_res
theorem srun_v (na nm st : Nat) (hna : 1000000000 <= na) (hnm : nm < 234000 \/ 235000 <= nm) (hne : na ≠ nm) (p : Prg) (w : Wld) (who h : Int) (args : List Int) (h0 : 0 <= who) (h1 : who < w.acts.length) (hg : GoOk p who (lclV w who) h args) (av : AV) (hav : av = ints args \/ (av = .nils /\ args = []))
   {S : St} {k : AV -> St -> Prop} {u : Dep k} (hW : WIs na nm st w S)
   (hk : ∀ S', S'.t = S.t -> S.clk <= S'.clk -> (∀ n, n ≠ na -> (n < 234000 \/ 235000 <= n) -> S'.blk n = S.blk n) -> WIs na nm st (setL w who (goV p who (lclV w who) h args).l) S' -> k (.lst 3 ((goV p who (lclV w who) h args).notes.map Nt.av)) S') :
   CallG Tryz.prog (.fn 133 []) [p.av, .ptr nm st 6 0 0, iv who, iv h, av] S k u := by
 have hG := goV_pc p who (lclV w who) h args hg
 have t3 : who.toNat < w.acts.length := by omega
 have hlc : lclV w who = w.acts[who.toNat] := by unfold lclV; rw [List.getElem?_eq_getElem t3]; rfl
 rw [hlc] at hG hk
 obtain ⟨R, hR⟩ : ∃ R, R = goV p who w.acts[who.toNat] h args := ⟨_, rfl⟩
 rw [<- hR] at hG hk
 obtain ⟨va, vm, hb, hA, hM⟩ := hW
 obtain ⟨sA, hva, bA⟩ := hA.sl (by rw [List.length_map]; omega)
 subst hva
 have n5 : nm ≠ 234005 := by omega
 have n11 : nm ≠ 234011 := by omega
 have a5 : na ≠ 234005 := by omega
 have a11 : na ≠ 234011 := by omega
 refine callV srun_get (by simp) (by simp) ?_
 unfold srun_c
 rcases hav with rfl | ⟨rfl, rfl⟩
 . simp [n5, n11, a5, a11, hb, bA, h0, h1, t3]
   refine calld hG (by simp [Lcl.av]) ?_
   simp [n5, n11, a5, a11, hb, bA, h0, h1, t3, Res.av, Ne.symm a11]
   refine hk _ rfl (by simp only []; omega) (fun n e1 e2 => ?_) ⟨.sl na sA 5 0 w.acts.length, vm, ?_, .inr ⟨sA, by simp [setL], ?_⟩, hM⟩
   . simp
     repeat rw [if_neg (by omega)]
   . simp [n5, n11, Ne.symm hne, hb, setL]
   . simp [setL, List.map_set]
     rfl
 . simp [n5, n11, a5, a11, hb, bA, h0, h1, t3]
   refine calldC hG 1 (by simp [Prg.av, Lcl.av, dco, elemR, coL, co1, ints]) ?_
   simp [n5, n11, a5, a11, hb, bA, h0, h1, t3, Res.av, Ne.symm a11]
   refine hk _ rfl (by simp only []; omega) (fun n e1 e2 => ?_) ⟨.sl na sA 5 0 w.acts.length, vm, ?_, .inr ⟨sA, by simp [setL], ?_⟩, hM⟩
   . simp
     repeat rw [if_neg (by omega)]
   . simp [n5, n11, Ne.symm hne, hb, setL]
   . simp [setL, List.map_set]
     rfl
theorem MutIs.dco {S : St} {nm sz : Nat} {v : AV} {xs : List AV} (hs : sz ≠ 0) (h : MutIs S nm sz v xs) (d : Nat) (hc : coL (elemR (dco S.blk d)) xs xs) : Go.Gv.dco S.blk (d + 1) v (.lst sz xs) := by
 rcases h with ⟨rfl, rfl⟩ | ⟨st, rfl, hb⟩
 . simp [Go.Gv.dco]
 . refine ⟨rfl, xs, by simp [getB, hb, hs], by simp, ?_⟩
   rw [List.drop_zero, List.take_of_length_le (Nat.le_refl _)]
   exact hc
theorem coL_of {R : AV -> AV -> Prop} : ∀ {xs ys : List AV}, xs.length = ys.length -> (∀ (j : Nat) (x y : AV), xs[j]? = some x -> ys[j]? = some y -> R x y) -> coL R xs ys
 | [], [], _, _ => trivial
 | [], _ :: _, h, _ => by simp at h
 | _ :: _, [], h, _ => by simp at h
 | x :: xs, y :: ys, h, hr => ⟨hr 0 x y rfl rfl, coL_of (by simpa using h) fun j a b ha hb => hr (j + 1) a b (by simpa using ha) (by simpa using hb)⟩
theorem msgs_co (blk : Nat -> Option Blk) (l : List Msg) : coL (elemR (dco blk 0)) (l.map Msg.av) (l.map Msg.av) :=
 coL_of rfl fun j a b ha hb => by
   rw [ha] at hb; cases hb
   rw [List.getElem?_map] at ha
   obtain ⟨x, _, rfl⟩ := Option.map_eq_some_iff.1 ha
   simp [Msg.av, elemR, Go.Gv.dco, co1, ints]
theorem msgs_closed (l : List Msg) : closedL (l.map Msg.av) := by
 intro x hx y hy
 obtain ⟨m, _, rfl⟩ := List.mem_map.1 hx
 simp at hy
 rcases hy with rfl | rfl | rfl | rfl | rfl | rfl <;> rfl
theorem wfreeze (na nm st NM sM : Nat) (h1 : na ≠ NM) (h2 : nm ≠ NM) (w : Wld) {S : St} {va : AV} (hb : S.blk nm = some ⟨st, 6, [.agg [va, .sl NM sM 6 0 w.mail.length, iv w.used.drop, iv w.used.dup, iv w.used.time, iv w.used.crash]]⟩)
   (hA : MutIs S na 5 va (w.acts.map Lcl.av)) (hM : S.blk NM = some ⟨sM, 6, w.mail.map Msg.av⟩) :
   ∃ S', Wk S S' /\ S'.t = S.t /\ S'.tok = S.tok /\ S'.clk = S.clk /\ WIs na nm st w S' /\ ∀ n b, n ≠ NM -> S.blk n = some b -> mapB (fzc NM sM 6 (w.mail.map Msg.av)) b = b -> S'.blk n = some b := by
 refine ⟨⟨S.t, (S.h.frz NM sM 6 (w.mail.map Msg.av)).blk, S.tok, S.clk⟩, Wk.of' (Wkh.frz (by simp) hM (msgs_closed _)) rfl, rfl, rfl, rfl, ?_, ?_⟩
 . have hva : fzc NM sM 6 (w.mail.map Msg.av) va = va := by
     rcases hA with ⟨rfl, _⟩ | ⟨s, rfl, _⟩
     . rfl
     . simp [fzc, fz0, h1]
   refine ⟨va, .lst 6 (w.mail.map Msg.av), ?_, ?_, .inl rfl⟩
   . simp [Hp.frz, St.h, h2, hb, mapB, mapE, hva]
     simp [fzc, fz0]
     exact List.take_of_length_le (by simp)
   . rcases hA with ⟨rfl, hx⟩ | ⟨s, rfl, hx⟩
     . exact .inl ⟨rfl, hx⟩
     . refine .inr ⟨s, rfl, ?_⟩
       simp [Hp.frz, St.h, h1, hx, mapB]
       intro a _
       simp [Lcl.av, mapE, fzc, fz0, ints]
 . intro n b hn hb hm
   simp [Hp.frz, St.h, hn, hb, hm]
end Go.Gv

namespace Go.Gv
open Go.Proofs
theorem find_co {blk : Nat -> Option Blk} {NM sM : Nat} {l : List Msg} (id : MId) (h : blk NM = some ⟨sM, 6, l.map Msg.av⟩) : coL (elemR (dco blk 1)) ([.sl NM sM 6 0 l.length, .agg [iv id.frm, iv id.n, iv id.cpy]] ++ []) [.lst 6 (l.map Msg.av), id.av] := by
 have h1 : dco blk 1 (.sl NM sM 6 0 l.length) (.lst 6 (l.map Msg.av)) := by
   refine ⟨rfl, l.map Msg.av, by simp [getB, h], by simp, ?_⟩
   rw [List.drop_zero, List.take_of_length_le (by simp)]
   exact msgs_co _ _
 have h2 : elemR (dco blk 1) (.agg [iv id.frm, iv id.n, iv id.cpy]) id.av := by simp [MId.av, elemR, dco, coL, co1]
 exact ⟨h1, h2, trivial⟩
theorem WK.setL {p : Prg} {w : Wld} {n : Nat} (h : WK p w n) (i : Int) (l : Lcl) : WK p (setL w i l) n :=
 ⟨h.ml, by simp only [Go.Gv.setL, List.length_set]; exact h.al, by simp only [Go.Gv.setL, List.length_set]; exact h.a8, fun m hm => by simp only [Go.Gv.setL, List.length_set]; exact h.to m hm, h.ar⟩
theorem WK.cut {p : Prg} {w : Wld} {n : Nat} (h : WK p w n) (i : Nat) : WK p { w with mail := w.mail.take i ++ w.mail.drop (i + 1) } n := by
 have hm : ∀ m ∈ w.mail.take i ++ w.mail.drop (i + 1), m ∈ w.mail := by
   intro m hm
   rcases List.mem_append.1 hm with q | q
   . exact List.mem_of_mem_take q
   . exact List.mem_of_mem_drop q
 refine ⟨?_, h.al, h.a8, fun m q => h.to m (hm m q), fun m q => h.ar m (hm m q)⟩
 have := h.ml
 simp
 omega
theorem MutIs.co1 {blk : Nat -> Option Blk} {S : St} {nm sz : Nat} {v : AV} {xs : List AV} (hs : sz ≠ 0) (h : MutIs S nm sz v xs) (hb : blk nm = S.blk nm) (hx : ∀ x ∈ xs, ∀ y ∈ x.cells, y.cl1 = true) : Go.Gv.co1 (some blk) v (.lst sz xs) := by
 rcases h with ⟨rfl, rfl⟩ | ⟨st, rfl, h⟩
 . simp
 . have e : blk nm = some ⟨st, sz, xs⟩ := hb.trans h
   simp [Go.Gv.co1, listOf, getB, e, hs]
   exact hx
theorem LstIs.co1 {sz : Nat} {v : AV} {xs : List AV} (h : LstIs sz v xs) (B : Option (Nat -> Option Blk)) : Go.Gv.co1 B v (.lst sz xs) := by
 rcases h with rfl | ⟨rfl, rfl⟩ <;> simp
theorem lcls_closed (l : List Lcl) : ∀ x ∈ l.map Lcl.av, ∀ y ∈ x.cells, y.cl1 = true := by
 intro x hx y hy
 obtain ⟨l, _, rfl⟩ := List.mem_map.1 hx
 simp at hy
 rcases hy with rfl | rfl | rfl | rfl | rfl <;> rfl
theorem ghost_w {P : Program} {a : AC} {κ : Ex -> St -> Prop} {S : St} {u : Dep κ} (na nm st NM sM m : Nat) (h1 : na ≠ NM) (h2 : nm ≠ NM) (w : Wld) (va : AV) (xs : List AV) (hx : xs = w.mail.map Msg.av) (hm : m = w.mail.length) (hb : S.blk nm = some ⟨st, 6, [.agg [va, .sl NM sM 6 0 m, iv w.used.drop, iv w.used.dup, iv w.used.time, iv w.used.crash]]⟩)
   (hA : MutIs S na 5 va (w.acts.map Lcl.av)) (hM : S.blk NM = some ⟨sM, 6, xs⟩)
   (hk : ∀ S', S'.t = S.t -> S'.clk = S.clk -> WIs na nm st w S' -> (∀ n b, n ≠ NM -> S.blk n = some b -> mapB (fzc NM sM 6 (w.mail.map Msg.av)) b = b -> S'.blk n = some b) -> V P a κ S') : GhG P a κ S u := by
 subst hx hm
 obtain ⟨S', q1, q2, q3, q4, q5, q6⟩ := wfreeze na nm st NM sM h1 h2 w hb hA hM
 exact ghost S' q1 (hk S' q2 q4 q5 q6)
theorem sapply_1 (hput : PutAll) (p : Prg) (w : Wld) (n : Nat) (hw : WK p w n) (hn : n <= 500) (hr : ∀ l ∈ w.acts, l.regs.length <= 1000) (e : Evt) (hk : e.kind = 1) (i : Nat) (hi : idxV e.id w.mail = some i) (hl : i < w.mail.length)
   (hg : GoOk p w.mail[i].note.to (lclV w w.mail[i].note.to) w.mail[i].note.hd w.mail[i].note.args) (hN : (goV p w.mail[i].note.to (lclV w w.mail[i].note.to) w.mail[i].note.hd w.mail[i].note.args).notes.length <= 300)
   (hA : ∀ x ∈ (goV p w.mail[i].note.to (lclV w w.mail[i].note.to) w.mail[i].note.hd w.mail[i].note.args).notes, x.args.length <= 1000) : PC Tryz.prog 101 [p.av, w.av, e.av] (applyV p w e).av := by
 obtain ⟨w1, hw1⟩ : ∃ w1 : Wld, w1 = { w with mail := w.mail.take i ++ w.mail.drop (i + 1) } := ⟨_, rfl⟩
 have hac : w1.acts = w.acts := by rw [hw1]
 have hlc : ∀ j, lclV w1 j = lclV w j := fun j => by unfold lclV; rw [hac]
 have hwo := hw.ok (by omega)
 have hml := hw.ml
 obtain ⟨_, q1, q2⟩ := ntAt_some hi
 have hf := mfind_pc w.mail e.id hwo.ml
 rw [q2] at hf
 obtain ⟨t1, t2⟩ := hw.to _ (List.getElem_mem hl)
 have happ : applyV p w e = giveV p (setL w1 w.mail[i].note.to (goV p w.mail[i].note.to (lclV w w.mail[i].note.to) w.mail[i].note.hd w.mail[i].note.args).l) w.mail[i].note.to (goV p w.mail[i].note.to (lclV w w.mail[i].note.to) w.mail[i].note.hd w.mail[i].note.args).notes := by
   unfold applyV
   rw [if_pos (.inl hk), q1, hi]
   simp only []
   rw [if_neg (by omega), <- hw1, hlc]
 rw [happ]
 refine pc_of_get sapply_get (by simp) _ (by simp) _ ?_
 unfold sapply_c
 simp [Evt.av, Wld.av, hk]
 refine wcopyX_v w hwo hw.ar hr (fun S va vm hF hk1 hMA hMM => ?_)
 have ht := hF.t
 have b3 := hF.b 235003 (by simp [Lwc, Lmc])
 have b4 := hF.b 235004 (by simp [Lwc, Lmc])
 have b5 := hF.b 235005 (by simp [Lwc, Lmc])
 have b6 := hF.b 235006 (by simp [Lwc, Lmc])
 simp at b3 b4 b5 b6
 clear hF hk1
 have o1 := hMA.one
 have o2 := hMA.cells
 obtain ⟨sM, hvm, bM⟩ := hMM.sl (by rw [List.length_map]; omega)
 subst hvm
 simp [ht, b3, b4, b5, b6, o1]
 refine callW hf 1 (find_co e.id (by simp [bM])) rfl ?_
 have hle : i <= w.mail.length := by omega
 have hle2 : i + 1 <= w.mail.length := by omega
 have ws := wrap_succ i _ hl (by omega)
 have hbd : (i + (w.mail.length - (i + 1))) * 64 <= 140737488355328 := by omega
 have h01 : (0 : Int) <= (i : Int) + 1 := by omega
 simp [ht, b3, b4, b5, b6, o1, bM, hl, hle, hle2, ws, h01]
 rw [if_pos hbd]
 have hx1 : List.take i (List.map Msg.av w.mail) ++ List.take (w.mail.length - (i + 1)) (List.drop (i + 1) (List.map Msg.av w.mail)) = w1.mail.map Msg.av := by
   have q : List.take (w.mail.length - (i + 1)) (List.drop (i + 1) (List.map Msg.av w.mail)) = List.drop (i + 1) (List.map Msg.av w.mail) := List.take_of_length_le (by simp)
   rw [q, hw1]
   simp [List.map_take, List.map_drop]
 have hl1 : i + (w.mail.length - (i + 1)) = w1.mail.length := by
   rw [hw1]; simp; omega
 simp [ht, b3, b4, b5, b6, o1, bM, hl, hle, hle2, ws, h01]
 refine ghost_w 1000231024 235004 1 1000235039 (S.clk + 6 + 2 + 2 + 8 + 1 + 1 + 1 + 1 + 1 + 1 + 1 + 1 + 1) _ (by simp) (by simp) w1 va _ hx1 hl1 (by simp [hw1]) (by rw [hw1]; exact hMA.at (by simp)) (by simp) (fun S1 ht1 hc1 hW1 hfz => ?_)
 have c3 := hfz 235003 _ (by simp) (by simp [b3]; rfl) (by simp [mapB, mapE, fzc, fz0])
 have c5 := hfz 235005 _ (by simp) (by simp [b5]; rfl) (by simp [mapB, mapE, fzc, fz0])
 have c6 := hfz 235006 _ (by simp) (by simp [b6]; rfl) (by simp [mapB, mapE, fzc, fz0])
 have c8 := hfz 235008 _ (by simp) (by simp; rfl) (by simp [mapB, mapE, fzc, fz0, ints])
 have u3 : S1.t 3 = .ptr 235003 0 4 0 0 := by rw [ht1]; simp [ht]
 have u4 : S1.t 4 = .ptr 235004 1 6 0 0 := by rw [ht1]; simp [ht]
 have u5 : S1.t 5 = .ptr 235005 2 5 0 0 := by rw [ht1]; simp [ht]
 have u6 : S1.t 6 = .ptr 235006 3 6 0 0 := by rw [ht1]; simp [ht]
 have u8 : S1.t 8 = .ptr 235008 (S.clk + 6 + 2 + 2 + 6) 3 0 0 := by rw [ht1]; simp [ht]
 clear hfz ht1 hc1 ht b3 b4 b5 b6 bM hMA
 simp [u3, u4, u5, u6, u8, c3, c5, c6, c8]
 have hw1k : WK p w1 n := by rw [hw1]; exact hw.cut i
 refine srun_v 1000231024 235004 1 (by simp) (by simp) (by simp) p w1 _ _ _ t1 (by rw [hac]; exact t2) (by rw [hlc]; exact hg) _ (.inl rfl) (hW1.at rfl rfl) (fun S2 ht2 hc2 hf2 hW2 => ?_)
 rw [hlc] at hW2 ⊢
 have d3 := (hf2 235003 (by simp) (by simp)).trans c3
 have d6 := (hf2 235006 (by simp) (by simp)).trans c6
 have d8 := (hf2 235008 (by simp) (by simp)).trans c8
 simp [ht2, u3, u4, u5, u6, u8, d3, d8]
 refine give_v hput 1000231024 235004 1 (by simp) (by simp) (by simp) p _ n (hw1k.setL _ _) _ (by omega) hA _ (by simp [setL, hac]; exact t2) (hW2.at rfl rfl) (fun S3 ht3 hc3 hf3 hW3 _ => ?_)
 have e6 := (hf3 235006 (by simp) (by simp) (by simp)).trans d6
 obtain ⟨va', vm', f4, fA, fM⟩ := hW3
 obtain ⟨o1', o2', o3', o4'⟩ := fM.out
 simp [ht3, ht2, u3, u4, u5, u6, u8, e6, f4, fA.one, fA.cells, o1', o2']
 exact ⟨fA.co1 (by simp) (by simp) (lcls_closed _), fM.co1 _⟩
end Go.Gv

namespace Go.Gv
open Go.Proofs
def xasks_r0 : List AI := [oA 2 (.mv (.c (.bool false)))]
def xasks_r1 : List AI := [oA 3 (.mv (.t 0)), oA 4 (.ibin .geq (.t 3) (.c (.int .i64 31))), oA 5 (.mv (.t 4)), oG 6 5 true (.mv (.t 0)), oG 7 5 true (.ibin .leq (.t 6) (.c (.int .i64 37))), oA 8 (.pick (.t 5) (.t 7) (.c (.bool false))), oA 2 (.mv (.t 8))]
def xasks_c : AC := (.seq (.reg xasks_r0) (.seq (.reg xasks_r1) .ret))
def xasks_res : List ARes := [(.tmp 2)]
set_option maxRecDepth 100000 in
theorem xasks_get : getF Tryz.prog 171 236000 [] = some ("gavotte/expr.asks", 9, xasks_c, xasks_res) := by kernel_rfl
def xreck_r0 : List AI := [oA 2 (.mv (.c (.bool false)))]
def xreck_r1 : List AI := [oA 3 (.mv (.t 0)), oA 4 (.ibin .geq (.t 3) (.c (.int .i64 1))), oA 5 (.mv (.t 4)), oG 6 5 true (.mv (.t 0)), oG 7 5 true (.ibin .leq (.t 6) (.c (.int .i64 4))), oA 8 (.pick (.t 5) (.t 7) (.c (.bool false))), oA 9 (.mv (.t 8)), oG 10 9 false (.mv (.t 0)), oG 11 9 false (.ibin .geq (.t 10) (.c (.int .i64 9))), oG 12 9 false (.mv (.t 11)), oG 13 12 true (.mv (.t 0)), oG 14 12 true (.ibin .leq (.t 13) (.c (.int .i64 19))), oG 15 9 false (.pick (.t 12) (.t 14) (.c (.bool false))), oA 16 (.pick (.t 9) (.c (.bool true)) (.t 15)), oA 2 (.mv (.t 16))]
def xreck_c : AC := (.seq (.reg xreck_r0) (.seq (.reg xreck_r1) .ret))
def xreck_res : List ARes := [(.tmp 2)]
set_option maxRecDepth 100000 in
theorem xreck_get : getF Tryz.prog 172 237000 [] = some ("gavotte/expr.reckons", 17, xreck_c, xreck_res) := by kernel_rfl
def xsome_r0 : List AI := [oA 2 (.mv (.c (.bool false)))]
def xsome_r1 : List AI := [oA 3 (.mv (.t 0)), oA 4 (.ibin .eql (.t 3) (.c (.int .i64 1))), oA 5 (.mv (.t 4)), oG 6 5 false (.mv (.t 0)), ⟨(some 7), (some (5, false)), (.call (.c (.fn 171 [])) [(.t 6)])⟩, oG 8 5 false (.mv (.t 7)), oG 9 8 true (.mv (.t 0)), oG 10 8 true (.ibin .neq (.t 9) (.c (.int .i64 37))), oG 11 5 false (.pick (.t 8) (.t 10) (.c (.bool false))), oA 12 (.pick (.t 5) (.c (.bool true)) (.t 11)), oA 2 (.mv (.t 12))]
def xsome_c : AC := (.seq (.reg xsome_r0) (.seq (.reg xsome_r1) .ret))
def xsome_res : List ARes := [(.tmp 2)]
set_option maxRecDepth 100000 in
theorem xsome_get : getF Tryz.prog 173 238000 [] = some ("gavotte/expr.some", 13, xsome_c, xsome_res) := by kernel_rfl
def xwhose_r0 : List AI := [oA 1 (.box 239001 2 (.t 0)), oA 2 (.mv (.c (.int .i64 0))), oA 3 (.mv (.c (.bool false)))]
def xwhose_r1 : List AI := [oA 5 (.fld 0 (.t 1)), oA 6 (.load none (.t 5)), oC 7 (.c (.fn 171 [])) [(.t 6)], oA 8 (.not (.t 7)), oA 4 (.mv (.t 8))]
def xwhose_r2 : List AI := [oA 9 (.fld 0 (.t 1)), oA 10 (.load none (.t 9)), oA 11 (.ibin .eql (.t 10) (.c (.int .i64 37))), oA 4 (.mv (.t 11))]
def xwhose_r3 : List AI := [oA 2 (.mv (.c (.int .i64 0))), oA 3 (.mv (.c (.bool false)))]
def xwhose_r4 : List AI := [oA 13 (.fld 0 (.t 1)), oA 14 (.load none (.t 13)), oA 15 (.ibin .eql (.t 14) (.c (.int .i64 31))), oA 16 (.mv (.t 15)), oG 17 16 true (.fld 1 (.t 1)), oG 18 16 true (.load none (.t 17)), oG 19 16 true (.ibin .geq (.t 18) (.c (.int .i64 0))), oA 20 (.pick (.t 16) (.t 19) (.c (.bool false))), oA 12 (.mv (.t 20))]
def xwhose_r5 : List AI := [oA 21 (.fld 1 (.t 1)), oA 22 (.load none (.t 21)), oA 23 (.ibin .quo (.t 22) (.c (.int .i64 16))), oA 2 (.mv (.t 23)), oA 3 (.mv (.c (.bool true)))]
def xwhose_r6 : List AI := [oA 24 (.fld 1 (.t 1)), oA 25 (.load none (.t 24)), oA 2 (.mv (.t 25)), oA 3 (.mv (.c (.bool true)))]
def xwhose_c : AC := (.seq (.reg xwhose_r0) (.seq (.block 0 (.seq (.seq (.reg xwhose_r1) (.cond (.t 4) .skip (.reg xwhose_r2))) (.cond (.t 4) (.seq (.reg xwhose_r3) .ret) (.seq (.reg xwhose_r4) (.cond (.t 12) (.seq (.reg xwhose_r5) .ret) .skip))))) (.seq (.reg xwhose_r6) .ret)))
def xwhose_res : List ARes := [(.tmp 2), (.tmp 3)]
set_option maxRecDepth 100000 in
theorem xwhose_get : getF Tryz.prog 170 239000 [] = some ("gavotte/expr.whose", 26, xwhose_c, xwhose_res) := by kernel_rfl
def xask_r0 : List AI := [oA 2 (.box 240002 6 (.t 0)), oA 3 (.box 240003 2 (.t 1)), oA 4 (.mv (.c (.int .i64 0)))]
def xask_r1 : List AI := [oA 9 (.load (some 2) (.t 3)), oC 10 (.c (.fn 170 [])) [(.t 9)], oA 8 (.mv (.t 10)), oA 11 (.ext (.t 8) 0), oA 12 (.ext (.t 8) 1), oA 5 (.mv (.t 11)), oA 6 (.mv (.t 12))]
def xask_r2 : List AI := [oA 13 (.fld 0 (.t 2)), oA 14 (.load none (.t 13)), oA 15 (.mv (.t 5)), oA 16 (.idx 5 (.t 14) (.t 15)), oA 17 (.load (some 5) (.t 16)), oA 7 (.new 240007 5 (.agg [.nils, (.bool false), (.int .i64 0), (.int .i64 0), (.int .i64 0)])), oN (.store 5 (.t 7) (.t 17))]
def xask_r3 : List AI := [oA 18 (.fld 0 (.t 3)), oA 19 (.load none (.t 18))]
def xask_r4 : List AI := [oA 21 (.ibin .eql (.t 19) (.c (.int .i64 31))), oA 20 (.mv (.t 21))]
def xask_r5 : List AI := [oA 22 (.fld 1 (.t 3)), oA 23 (.load none (.t 22)), oA 24 (.ibin .rem (.t 23) (.c (.int .i64 16))), oA 25 (.fld 0 (.t 7)), oA 26 (.load none (.t 25)), oA 27 (.len (.t 26)), oA 28 (.ibin .geq (.t 24) (.t 27))]
def xask_r6 : List AI := [oA 4 (.mv (.c (.int .i64 0)))]
def xask_r7 : List AI := [oA 29 (.fld 0 (.t 7)), oA 30 (.load none (.t 29)), oA 31 (.fld 1 (.t 3)), oA 32 (.load none (.t 31)), oA 33 (.ibin .rem (.t 32) (.c (.int .i64 16))), oA 34 (.idx 1 (.t 30) (.t 33)), oA 35 (.load none (.t 34)), oA 4 (.mv (.t 35))]
def xask_r8 : List AI := [oA 37 (.ibin .eql (.t 19) (.c (.int .i64 32))), oA 36 (.mv (.t 37))]
def xask_r9 : List AI := [oA 38 (.fld 2 (.t 7)), oA 39 (.load none (.t 38)), oA 4 (.mv (.t 39))]
def xask_r10 : List AI := [oA 41 (.ibin .eql (.t 19) (.c (.int .i64 33))), oA 40 (.mv (.t 41))]
def xask_r11 : List AI := [oA 42 (.fld 4 (.t 7)), oA 43 (.load none (.t 42)), oA 4 (.mv (.t 43))]
def xask_r12 : List AI := [oA 45 (.ibin .eql (.t 19) (.c (.int .i64 34))), oA 44 (.mv (.t 45))]
def xask_r13 : List AI := [oA 46 (.fld 1 (.t 2)), oA 47 (.load none (.t 46)), oA 48 (.mv (.t 5)), oC 49 (.c (.fn 175 [])) [(.t 47), (.t 48)], oA 4 (.mv (.t 49))]
def xask_r14 : List AI := [oA 51 (.ibin .eql (.t 19) (.c (.int .i64 35))), oA 50 (.mv (.t 51))]
def xask_r15 : List AI := [oA 52 (.fld 1 (.t 7)), oA 53 (.load none (.t 52)), oC 54 (.c (.fn 214 [])) [(.t 53)], oA 4 (.mv (.t 54))]
def xask_r16 : List AI := [oA 56 (.ibin .eql (.t 19) (.c (.int .i64 36))), oA 55 (.mv (.t 56))]
def xask_r17 : List AI := [oA 57 (.fld 3 (.t 7)), oA 58 (.load none (.t 57)), oA 4 (.mv (.t 58))]
def xask_r18 : List AI := [oA 59 (.fld 1 (.t 2)), oA 60 (.load none (.t 59)), oA 61 (.len (.t 60)), oA 4 (.mv (.t 61))]
def xask_c : AC := (.seq (.reg xask_r0) (.seq (.reg xask_r1) (.seq (.seq (.reg xask_r2) (.seq (.reg xask_r3) (.block 0 (.seq (.reg xask_r4) (.cond (.t 20) (.seq (.seq (.reg xask_r5) (.cond (.t 28) (.seq (.reg xask_r6) .ret) .skip)) (.seq (.reg xask_r7) .ret)) (.seq (.reg xask_r8) (.cond (.t 36) (.seq (.reg xask_r9) .ret) (.seq (.reg xask_r10) (.cond (.t 40) (.seq (.reg xask_r11) .ret) (.seq (.reg xask_r12) (.cond (.t 44) (.seq (.reg xask_r13) .ret) (.seq (.reg xask_r14) (.cond (.t 50) (.seq (.reg xask_r15) .ret) (.seq (.reg xask_r16) (.cond (.t 55) (.seq (.reg xask_r17) .ret) .skip))))))))))))))) (.seq (.reg xask_r18) .ret))))
def xask_res : List ARes := [(.tmp 4)]
set_option maxRecDepth 100000 in
theorem xask_get : getF Tryz.prog 177 240000 [] = some ("gavotte/expr.ask", 62, xask_c, xask_res) := by kernel_rfl
attribute [simp] xasks_r0 xasks_r1 xasks_res xreck_r0 xreck_r1 xreck_res xsome_r0 xsome_r1 xsome_res xwhose_r0 xwhose_r1 xwhose_r2 xwhose_r3 xwhose_r4 xwhose_r5 xwhose_r6 xwhose_res xask_r0 xask_r1 xask_r2 xask_r3 xask_r4 xask_r5 xask_r6 xask_r7 xask_r8 xask_r9 xask_r10 xask_r11 xask_r12 xask_r13 xask_r14 xask_r15 xask_r16 xask_r17 xask_r18 xask_res
def asksV (op : Int) : Bool := decide (31 <= op) && decide (op <= 37)
theorem xasks_pc (op : Int) : PC Tryz.prog 171 [iv op] (.bool (asksV op)) := by
 refine pc_of_get xasks_get (by simp) _ (by simp) _ ?_
 unfold xasks_c asksV
 simp
 by_cases h : 31 <= op <;> simp [h]
def reckV (op : Int) : Bool := decide (1 <= op) && decide (op <= 4) || decide (9 <= op) && decide (op <= 19)
theorem xreck_pc (op : Int) : PC Tryz.prog 172 [iv op] (.bool (reckV op)) := by
 refine pc_of_get xreck_get (by simp) _ (by simp) _ ?_
 unfold xreck_c reckV
 simp
 by_cases h : 1 <= op
 . by_cases h2 : op <= 4
   . simp [h, h2]
   . by_cases h3 : 9 <= op <;> simp [h, h2, h3]
 . by_cases h3 : 9 <= op <;> simp [h, h3]
def someV (op : Int) : Bool := decide (op = 1) || asksV op && !decide (op = 37)
theorem xsome_pc (op : Int) : PC Tryz.prog 173 [iv op] (.bool (someV op)) := by
 refine pc_of_get xsome_get (by simp) _ (by simp) _ ?_
 unfold xsome_c someV
 simp
 by_cases h : op = 1
 . simp [h]
 . simp [h]
   refine call (xasks_pc op) (by simp) ?_
   cases ha : asksV op <;> simp
   . exact h
   . exact fun q => absurd q h
def whoX (i : Ins) : Int := if i.op = 37 then 0 else whoseV i
theorem xwhose_pc (i : Ins) (hb : i.a <= 9223372036854775807) : PC Tryz.prog 170 [i.av] (.tup [iv (if asksV i.op = true then whoX i else 0), .bool (asksV i.op && !decide (i.op = 37))]) := by
 refine pc_of_get xwhose_get (by simp) _ (by simp) _ ?_
 unfold xwhose_c whoX whoseV
 simp
 refine call (xasks_pc i.op) (by simp) ?_
 cases ha : asksV i.op with
 | false => simp
 | true =>
   simp
   by_cases h37 : i.op = 37
   . simp [h37]
   . by_cases h31 : i.op = 31
     . by_cases h0 : 0 <= i.a
       . have e : i.a.tdiv 16 = i.a / 16 := Int.tdiv_eq_ediv_of_nonneg h0
         have ew : IntKind.i64.wrap (i.a / 16) = i.a / 16 := wrap_in _ (by omega) (by omega)
         simp [h31, h0, e, ew]
       . simp [h31, h0]
     . simp [h37, h31]
def AskOk (w : Wld) (i : Ins) : Prop := asksV i.op = true /\ 0 <= whoX i /\ whoX i < w.acts.length /\ (i.op = 31 -> 0 <= i.a) /\ i.a <= 9223372036854775807
theorem xask_pc (w : Wld) (hw : WOk w) (i : Ins) (h : AskOk w i) : PC Tryz.prog 177 [w.av, i.av] (iv (askV w i)) := by
 obtain ⟨h1, h2, h3, h4, hb⟩ := h
 have t3 : (whoX i).toNat < w.acts.length := by omega
 have hwh := xwhose_pc i hb
 rw [h1, if_pos rfl] at hwh
 obtain ⟨L, hL⟩ : ∃ L, L = w.acts[(whoX i).toNat] := ⟨_, rfl⟩
 have hlc : i.op ≠ 37 -> lclV w (whoseV i) = L := fun q => by
   have e : whoX i = whoseV i := by unfold whoX; rw [if_neg q]
   rw [hL]
   unfold lclV
   rw [<- e, List.getElem?_eq_getElem t3]; rfl
 have hx : i.op ≠ 37 -> whoX i = whoseV i := fun q => by unfold whoX; rw [if_neg q]
 refine pc_of_get xask_get (by simp) _ (by simp) _ ?_
 unfold xask_c askV
 simp [Wld.av]
 refine call hwh (by simp) ?_
 simp [h2, h3, t3, <- hL]
 by_cases e1 : i.op = 31
 . have h0 := h4 e1
   have h6 : i.a.tmod 16 = i.a % 16 := Int.tmod_eq_emod_of_nonneg h0
   have h7 : 0 <= i.a % 16 := Int.emod_nonneg _ (by simp)
   rw [if_pos e1, hlc (by omega)]
   simp [e1, h6]
   by_cases h8 : (L.regs.length : Int) <= i.a % 16
   . simp [h8]
     intro q
     rw [h6] at q
     omega
   . have h9 : i.a % 16 < L.regs.length := by omega
     have h10 : (i.a % 16).toNat < L.regs.length := by omega
     simp [h6, h7, h8, h9, h10, ints]
 rw [if_neg e1]
 by_cases e2 : i.op = 32
 . rw [if_pos e2, hlc (by omega)]
   simp [e2]
 rw [if_neg e2]
 by_cases e3 : i.op = 33
 . rw [if_pos e3, hlc (by omega)]
   simp [e3]
 rw [if_neg e3]
 by_cases e4 : i.op = 34
 . rw [if_pos e4, <- hx (by omega)]
   simp [e4]
   refine call (mailTo_pc w.mail (whoX i) hw.ml) (by simp) ?_
   simp
 rw [if_neg e4]
 by_cases e5 : i.op = 35
 . rw [if_pos e5, hlc (by omega)]
   simp [e5]
   refine call (struth_pc L.armed) (by simp) ?_
   simp
 rw [if_neg e5]
 by_cases e6 : i.op = 36
 . rw [if_pos e6, hlc (by omega)]
   simp [e6]
 . rw [if_neg e6]
   simp [e1, e2, e3, e4, e5, e6]
end Go.Gv

namespace Go.Gv
open Go.Proofs
def xof_r0 : List AI := [oA 2 (.box 241002 6 (.t 0)), oA 4 (.mv (.c (.int .i64 0)))]
def xof_r1 : List AI := [oA 5 (.mv (.c .nils))]
def xof_r2 : List AI := [oA 13 (.mv (.t 1)), oA 14 (.len (.t 13)), oA 15 (.mv (.c (.int .i64 0)))]
def xof_r3 : List AI := [oA 16 (.ibin .lss (.t 15) (.t 14))]
def xof_r4 : List AI := [oA 17 (.idx 2 (.t 13) (.t 15)), oA 18 (.load (some 2) (.t 17)), oA 7 (.new 241007 2 (.agg [(.int .i64 0), (.int .i64 0)])), oN (.store 2 (.t 7) (.t 18))]
def xof_r5 : List AI := [oA 19 (.mv (.t 5)), oA 20 (.len (.t 19)), oA 8 (.mv (.t 20))]
def xof_r6 : List AI := [oA 62 (.fld 0 (.t 7)), oA 63 (.load none (.t 62)), oC 64 (.c (.fn 171 [])) [(.t 63)], oA 61 (.mv (.t 64))]
def xof_r7 : List AI := [oA 65 (.mv (.t 5)), oA 66 (.load (some 6) (.t 2)), oA 67 (.load (some 2) (.t 7)), oC 68 (.c (.fn 177 [])) [(.t 66), (.t 67)], oA 69 (.bsl 241069 1 3 1 (.int .i64 0) [(0, (.t 68))]), oA 70 (.appw 1000241070 1 3 8 (.t 65) (.t 69)), oA 5 (.mv (.t 70))]
def xof_r8 : List AI := [oA 72 (.fld 0 (.t 7)), oA 73 (.load none (.t 72)), oA 74 (.ibin .eql (.t 73) (.c (.int .i64 1))), oA 71 (.mv (.t 74))]
def xof_r9 : List AI := [oA 75 (.mv (.t 5)), oA 76 (.fld 1 (.t 7)), oA 77 (.load none (.t 76)), oA 78 (.bsl 241078 1 3 1 (.int .i64 0) [(0, (.t 77))]), oA 79 (.appw 1000241070 1 3 8 (.t 75) (.t 78)), oA 5 (.mv (.t 79))]
def xof_r10 : List AI := [oA 81 (.fld 0 (.t 7)), oA 82 (.load none (.t 81)), oA 83 (.ibin .eql (.t 82) (.c (.int .i64 2))), oA 80 (.mv (.t 83))]
def xof_r11 : List AI := [oA 84 (.mv (.t 5)), oA 85 (.mv (.t 8)), oA 86 (.ibin .sub (.t 85) (.c (.int .i64 1))), oA 87 (.slice (some 1) (.t 84) none (some (.t 86))), oA 5 (.mv (.t 87))]
def xof_r12 : List AI := [oA 89 (.fld 0 (.t 7)), oA 90 (.load none (.t 89)), oA 91 (.ibin .eql (.t 90) (.c (.int .i64 3))), oA 88 (.mv (.t 91))]
def xof_r13 : List AI := [oA 92 (.mv (.t 5)), oA 93 (.mv (.t 5)), oA 94 (.mv (.t 8)), oA 95 (.ibin .sub (.t 94) (.c (.int .i64 1))), oA 96 (.idx 1 (.t 93) (.t 95)), oA 97 (.load none (.t 96)), oA 98 (.bsl 241098 1 3 1 (.int .i64 0) [(0, (.t 97))]), oA 99 (.appw 1000241070 1 3 8 (.t 92) (.t 98)), oA 5 (.mv (.t 99))]
def xof_r14 : List AI := [oA 101 (.fld 0 (.t 7)), oA 102 (.load none (.t 101)), oA 103 (.ibin .eql (.t 102) (.c (.int .i64 4))), oA 100 (.mv (.t 103))]
def xof_r15 : List AI := [oA 104 (.mv (.t 5)), oA 105 (.mv (.t 8)), oA 106 (.ibin .sub (.t 105) (.c (.int .i64 1))), oA 107 (.mv (.t 5)), oA 108 (.mv (.t 8)), oA 109 (.ibin .sub (.t 108) (.c (.int .i64 2))), oA 110 (.mv (.t 5)), oA 111 (.mv (.t 8)), oA 112 (.ibin .sub (.t 111) (.c (.int .i64 2))), oA 113 (.idx 1 (.t 110) (.t 112)), oA 114 (.load none (.t 113)), oA 115 (.mv (.t 5)), oA 116 (.mv (.t 8)), oA 117 (.ibin .sub (.t 116) (.c (.int .i64 1))), oA 118 (.idx 1 (.t 115) (.t 117)), oA 119 (.load none (.t 118)), oA 120 (.idx 1 (.t 104) (.t 106)), oN (.store 1 (.t 120) (.t 114)), oA 121 (.idx 1 (.t 107) (.t 109)), oN (.store 1 (.t 121) (.t 119))]
def xof_p15 : List (List Nat) := [[], [], [1], [], [], [4], [], [], [7], [6, 8, 7], [9, 6, 8, 7], [], [], [12], [11, 13, 12], [14, 11, 13, 12], [0, 2, 1, 6, 7, 8, 9, 10, 15, 14, 11, 13, 12], [16, 10, 0, 1, 2, 6, 7, 8, 9, 15, 14, 11, 13, 12], [3, 5, 0, 1, 2, 4, 6, 7, 8, 9, 10, 11, 12, 13, 14, 15, 16, 17], [18, 15, 17, 0, 1, 2, 3, 4, 5, 6, 7, 8, 9, 10, 11, 12, 13, 14, 16]]
def xof_r16 : List AI := [oA 22 (.fld 0 (.t 7)), oA 23 (.load none (.t 22)), oA 24 (.mv (.t 5)), oA 25 (.mv (.t 8)), oA 26 (.ibin .sub (.t 25) (.c (.int .i64 1))), oA 27 (.idx 1 (.t 24) (.t 26)), oA 28 (.load none (.t 27)), oC 29 (.c (.fn 178 [])) [(.t 23), (.t 28)], oA 21 (.mv (.t 29)), oA 30 (.ext (.t 21) 0), oA 31 (.ext (.t 21) 1), oA 9 (.mv (.t 30)), oA 10 (.mv (.t 31))]
def xof_p16 : List (List Nat) := [[], [0], [], [], [3], [2, 4, 3], [5, 2, 4, 3], [1, 6, 0, 5, 2, 4, 3], [7, 1, 6, 0, 5, 2, 4, 3], [8, 7, 1, 6, 0, 5, 2, 4, 3], [8, 7, 1, 6, 0, 5, 2, 4, 3], [9, 7, 0, 1, 2, 3, 4, 5, 6, 8], [10, 11, 0, 1, 2, 3, 4, 5, 6, 7, 8, 9]]
def xof_r17 : List AI := [oA 32 (.mv (.t 10))]
def xof_r18 : List AI := [oA 33 (.mv (.t 5)), oA 34 (.mv (.t 8)), oA 35 (.ibin .sub (.t 34) (.c (.int .i64 1))), oA 36 (.mv (.t 9)), oA 37 (.idx 1 (.t 33) (.t 35)), oN (.store 1 (.t 37) (.t 36))]
def xof_r19 : List AI := [oA 39 (.fld 0 (.t 7)), oA 40 (.load none (.t 39)), oA 41 (.mv (.t 5)), oA 42 (.mv (.t 8)), oA 43 (.ibin .sub (.t 42) (.c (.int .i64 2))), oA 44 (.idx 1 (.t 41) (.t 43)), oA 45 (.load none (.t 44)), oA 46 (.mv (.t 5)), oA 47 (.mv (.t 8)), oA 48 (.ibin .sub (.t 47) (.c (.int .i64 1))), oA 49 (.idx 1 (.t 46) (.t 48)), oA 50 (.load none (.t 49)), oC 51 (.c (.fn 179 [])) [(.t 40), (.t 45), (.t 50)], oA 38 (.mv (.t 51)), oA 52 (.ext (.t 38) 0), oA 53 (.ext (.t 38) 1), oA 11 (.mv (.t 52)), oA 12 (.mv (.t 53))]
def xof_p19 : List (List Nat) := [[], [0], [], [], [3], [2, 4, 3], [5, 2, 4, 3], [], [], [8], [7, 9, 8], [10, 7, 9, 8], [1, 6, 11, 0, 5, 2, 4, 3, 10, 7, 9, 8], [12, 1, 6, 11, 0, 5, 2, 4, 3, 10, 7, 9, 8], [13, 12, 1, 6, 11, 0, 5, 2, 4, 3, 10, 7, 9, 8], [13, 12, 1, 6, 11, 0, 5, 2, 4, 3, 10, 7, 9, 8], [14, 12, 0, 1, 2, 3, 4, 5, 6, 7, 8, 9, 10, 11, 13], [15, 16, 0, 1, 2, 3, 4, 5, 6, 7, 8, 9, 10, 11, 12, 13, 14]]
def xof_r20 : List AI := [oA 54 (.mv (.t 5)), oA 55 (.mv (.t 8)), oA 56 (.ibin .sub (.t 55) (.c (.int .i64 2))), oA 57 (.slice (some 1) (.t 54) none (some (.t 56))), oA 58 (.mv (.t 11)), oA 59 (.bsl 241059 1 3 1 (.int .i64 0) [(0, (.t 58))]), oA 60 (.appw 1000241070 1 3 8 (.t 57) (.t 59)), oA 5 (.mv (.t 60))]
def xof_r21 : List AI := [oA 122 (.ibin .add (.t 15) (.c (.int .i64 1))), oA 15 (.mv (.t 122))]
def xof_l0 : AC := (.seq (.reg xof_r3) (.seq (.cond (.t 16) .skip (.exit 0)) (.seq (.block 1 (.seq (.reg xof_r4) (.seq (.reg xof_r5) (.block 2 (.seq (.reg xof_r6) (.cond (.t 61) (.reg xof_r7) (.seq (.reg xof_r8) (.cond (.t 71) (.reg xof_r9) (.seq (.reg xof_r10) (.cond (.t 80) (.reg xof_r11) (.seq (.reg xof_r12) (.cond (.t 88) (.reg xof_r13) (.seq (.reg xof_r14) (.cond (.t 100) (.regd xof_r15 xof_p15) (.seq (.seq (.regd xof_r16 xof_p16) (.seq (.reg xof_r17) (.cond (.t 32) (.seq (.reg xof_r18) (.exit 1)) .skip))) (.seq (.regd xof_r19 xof_p19) (.reg xof_r20))))))))))))))))) (.reg xof_r21))))
def xof_r22 : List AI := [oA 123 (.mv (.t 5)), oA 124 (.idx 1 (.t 123) (.c (.int .i64 0))), oA 125 (.load none (.t 124)), oA 4 (.mv (.t 125))]
def xof_c : AC := (.seq (.reg xof_r0) (.seq (.reg xof_r1) (.seq (.seq (.reg xof_r2) (.block 0 (.loop xof_l0))) (.seq (.reg xof_r22) .ret))))
def xof_res : List ARes := [(.tmp 4)]
set_option maxRecDepth 100000 in
theorem xof_get : getF Tryz.prog 128 241000 [(70, 1000000070), (79, 1000000070), (99, 1000000070), (60, 1000000070)] = some ("gavotte/expr.Of", 126, xof_c, xof_res) := by kernel_rfl
attribute [simp] xof_r0 xof_r1 xof_r2 xof_r3 xof_r4 xof_r5 xof_r6 xof_r7 xof_r8 xof_r9 xof_r10 xof_r11 xof_r12 xof_r13 xof_r14 xof_r15 xof_p15 xof_r16 xof_p16 xof_r17 xof_r18 xof_r19 xof_p19 xof_r20 xof_r21 xof_r22 xof_res
def StkN (S : St) (v : AV) (xs : List Int) : Prop := (v = .nils /\ xs = []) \/ ∃ st es, v = .sl 1000241070 st 1 0 xs.length /\ S.blk 1000241070 = some ⟨st, 1, es⟩ /\ xs.length <= es.length /\ es.take xs.length = xs.map iv
theorem StkN.snoc {S : St} {v : AV} {xs : List Int} {x : Int} (h : StkN S v (xs ++ [x])) : ∃ st es, v = .sl 1000241070 st 1 0 (xs.length + 1) /\ S.blk 1000241070 = some ⟨st, 1, es⟩ /\ xs.length + 1 <= es.length /\ es[xs.length]? = some (iv x) /\ es.take xs.length = xs.map iv /\ es.take (xs.length + 1) = (xs ++ [x]).map iv := by
 rcases h with ⟨_, q⟩ | ⟨st, es, q1, q2, q3, q4⟩
 . simp at q
 have hlen : (xs ++ [x]).length = xs.length + 1 := by simp
 rw [hlen] at q1 q3 q4
 refine ⟨st, es, q1, q2, q3, ?_, ?_, q4⟩
 . have := congrArg (fun l => l[xs.length]?) q4
   simp only [List.getElem?_take_of_lt (Nat.lt_succ_self xs.length)] at this
   rw [this]; simp
 . have := congrArg (List.take xs.length) q4
   rw [List.take_take, Nat.min_eq_left (by omega)] at this
   rw [this]; simp
def exS (w : Wld) (i : Ins) (s : List Int) : List Int :=
 if 31 <= i.op /\ i.op <= 37 then s ++ [askV w i]
 else if i.op = 1 then s ++ [i.a]
 else if i.op = 2 then s.dropLast
 else if i.op = 3 then s ++ [top s]
 else if i.op = 4 then s.dropLast.dropLast ++ [top s, top s.dropLast]
 else if (oneV i.op (top s)).2 = true then s.dropLast ++ [(oneV i.op (top s)).1]
 else s.dropLast.dropLast ++ [(twoV i.op (top s.dropLast) (top s)).1]
theorem exV_take (w : Wld) : ∀ (x : List Ins) (i : Nat) (h : i < x.length) (s : List Int), exV w (x.take (i + 1)) s = exS w x[i] (exV w (x.take i) s)
 | [], _, h, _ => by simp at h
 | y :: x, 0, _, s => rfl
 | y :: x, i + 1, h, s => by
   rw [List.take_succ_cons, List.take_succ_cons]
   exact exV_take w x i (by simpa using h) _
structure XOk (w : Wld) (s : List Int) (i : Ins) : Prop where
 ask : asksV i.op = true -> AskOk w i
 len : s.length < 900
 n1 : asksV i.op = false -> i.op ≠ 1 -> 1 <= s.length
 n2 : asksV i.op = false -> i.op ≠ 1 -> i.op ≠ 2 -> i.op ≠ 3 -> i.op ≠ 14 -> i.op ≠ 19 -> 2 <= s.length
def XI (w : Wld) (x : List Ins) (s2 s4 i : Nat) (S : St) : Prop := S.t 2 = .ptr 241002 s2 6 0 0 /\ S.blk 241002 = some ⟨s2, 6, [w.av]⟩ /\ S.t 13 = .lst 2 (x.map Ins.av) /\ S.t 14 = iv x.length /\ S.t 15 = iv i /\ StkN S (S.t 5) (exV w (x.take i) [])
theorem wrap_in' {a b : Int} (h : a = b) (h1 : -9223372036854775808 <= b) (h2 : b <= 9223372036854775807) : IntKind.i64.wrap a = b := by
 rw [h]; exact wrap_in _ (by omega) (by omega)
theorem snoc1 {s : List Int} (h : 1 <= s.length) : ∃ r a, s = r ++ [a] := by
 refine ⟨s.dropLast, s.getLast (by intro q; subst q; simp at h), (List.dropLast_concat_getLast _).symm⟩
theorem top_snoc (r : List Int) (a : Int) : top (r ++ [a]) = a := by simp [top]
theorem StkN.len {S : St} {v : AV} {xs : List Int} (h : StkN S v xs) : lenOf v = some xs.length := by
 rcases h with ⟨rfl, rfl⟩ | ⟨st, es, rfl, _⟩ <;> rfl
set_option maxHeartbeats 1600000 in
theorem xof_step (w : Wld) (hw : WOk w) (x : List Ins) (hx : x.length <= 1000) (s2 i : Nat) (hi : i < x.length) (hok : XOk w (exV w (x.take i) []) x[i]) {S : St} {κ : Ex -> St -> Prop} (h : XI w x s2 0 i S) (hk : ∀ S', XI w x s2 0 (i + 1) S' -> κ .normal S') : V Tryz.prog xof_l0 κ S := by
 obtain ⟨g2, b2, g13, g14, g15, gS⟩ := h
 have ws := wrap_succ i _ hi (by omega)
 have het := exV_take w x i hi []
 obtain ⟨s, hs⟩ : ∃ s, s = exV w (x.take i) [] := ⟨_, rfl⟩
 rw [<- hs] at het hok gS
 obtain ⟨k1, k2, k3, k4⟩ := hok
 obtain ⟨I, hI⟩ : ∃ I, I = x[i] := ⟨_, rfl⟩
 rw [<- hI] at het k1 k3 k4
 have ha := xasks_pc I.op
 obtain ⟨v, g5⟩ : ∃ v, S.t 5 = v := ⟨_, rfl⟩
 rw [g5] at gS
 have hlen := gS.len
 have hbd : (s.length + 1) * 8 <= 140737488355328 := by omega
 have fin : ∀ (S' : St) (v' : AV), S'.t 2 = .ptr 241002 s2 6 0 0 -> S'.blk 241002 = some ⟨s2, 6, [w.av]⟩ -> S'.t 13 = .lst 2 (x.map Ins.av) -> S'.t 14 = iv x.length -> S'.t 15 = iv (i + 1 : Nat) -> S'.t 5 = v' -> StkN S' v' (exS w I s) -> κ .normal S' := by
   intro S' v' p1 p2 p3 p4 p5 p6 p7
   refine hk S' ⟨p1, p2, p3, p4, p5, ?_⟩
   rw [het, p6]
   exact p7
 cases hask : asksV I.op with
 | true =>
   rw [hask] at ha
   have hA := xask_pc w hw I (k1 hask)
   have hS : exS w I s = s ++ [askV w I] := by
     unfold exS
     rw [if_pos (by simpa [asksV] using hask)]
   simp [xof_l0, g2, b2, g5, g13, g14, g15, hi, <- hI, hlen]
   refine call ha (by simp) ?_
   simp [g2, b2, g5, g13, g14, g15]
   refine call hA (by simp [Wld.av]) ?_
   rcases gS with ⟨rfl, rfl⟩ | ⟨st, es, rfl, q2, q3, q4⟩
   . simp [g2, b2, g5, g13, g14, g15, ws]
     refine fin _ _ (by simp [g2]) (by simp [b2]) (by simp [g13]) (by simp [g14]) (by simp) rfl ?_
     rw [hS]
     exact .inr ⟨_, _, by simp; rfl, by simp; rfl, by simp, by simp⟩
   . have hbd2 : (min s.length es.length + 1) * 8 <= 140737488355328 := by omega
     simp [g2, b2, g5, g13, g14, g15, q2, q3, ws, hbd, hbd2]
     refine fin _ _ (by simp [g2]) (by simp [b2]) (by simp [g13]) (by simp [g14]) (by simp) rfl ?_
     rw [hS]
     exact .inr ⟨_, s.map iv ++ [iv (askV w I)], by simp; rfl, by simp [q4], by simp, by rw [List.take_of_length_le (by simp)]; simp⟩
 | false =>
   rw [hask] at ha
   have hna : ¬ (31 <= I.op /\ I.op <= 37) := by
     intro q
     unfold asksV at hask
     simp [q.1, q.2] at hask
   by_cases e1 : I.op = 1
   . have hS : exS w I s = s ++ [I.a] := by unfold exS; rw [if_neg hna, if_pos e1]
     simp [xof_l0, g2, b2, g5, g13, g14, g15, hi, <- hI, hlen]
     refine call ha (by simp) ?_
     rcases gS with ⟨rfl, rfl⟩ | ⟨st, es, rfl, q2, q3, q4⟩
     . simp [g2, b2, g5, g13, g14, g15, ws, e1]
       refine fin _ _ (by simp [g2]) (by simp [b2]) (by simp [g13]) (by simp [g14]) (by simp) rfl ?_
       rw [hS]
       exact .inr ⟨_, _, by simp; rfl, by simp; rfl, by simp, by simp⟩
     . have hbd2 : (min s.length es.length + 1) * 8 <= 140737488355328 := by omega
       simp [g2, b2, g5, g13, g14, g15, q2, q3, ws, hbd, hbd2, e1]
       refine fin _ _ (by simp [g2]) (by simp [b2]) (by simp [g13]) (by simp [g14]) (by simp) rfl ?_
       rw [hS]
       exact .inr ⟨_, s.map iv ++ [iv I.a], by simp; rfl, by simp [q4], by simp, by rw [List.take_of_length_le (by simp)]; simp⟩
   have hs1 := k3 hask e1
   obtain ⟨r, a, hra⟩ := snoc1 hs1
   subst hra
   obtain ⟨st, es, hv, q2, q3, q4, q5, q6⟩ := gS.snoc
   subst hv
   rw [List.length_append, List.length_singleton] at k2
   have wl : IntKind.i64.wrap (r.length : Int) = (r.length : Int) := wrap_in _ (by omega) (by omega)
   by_cases e2 : I.op = 2
   . have hS : exS w I (r ++ [a]) = r := by unfold exS; rw [if_neg hna, if_neg e1, if_pos e2]; simp
     simp [xof_l0, g2, b2, g5, g13, g14, g15, hi, <- hI]
     refine call ha (by simp) ?_
     simp [g2, b2, g5, g13, g14, g15, q2, q3, ws, wl, e2]
     refine fin _ _ (by simp [g2]) (by simp [b2]) (by simp [g13]) (by simp [g14]) (by simp) rfl ?_
     rw [hS]
     exact .inr ⟨st, es, by simp, by simp [q2], by omega, q5⟩
   by_cases e3 : I.op = 3
   . have hS : exS w I (r ++ [a]) = r ++ [a] ++ [a] := by unfold exS; rw [if_neg hna, if_neg e1, if_neg e2, if_pos e3, top_snoc]
     have hbd3 : (r.length + 1 + 1) * 8 <= 140737488355328 := by omega
     simp [xof_l0, g2, b2, g5, g13, g14, g15, hi, <- hI]
     refine call ha (by simp) ?_
     simp [g2, b2, g5, g13, g14, g15, q2, q3, q4, ws, wl, e3]
     rw [if_pos hbd3]
     simp [g2, b2, g5, g13, g14, g15, q2, q3, q4, ws, wl, e3]
     refine fin _ _ (by simp [g2]) (by simp [b2]) (by simp [g13]) (by simp [g14]) (by simp) rfl ?_
     rw [hS]
     refine .inr ⟨_, (r ++ [a]).map iv ++ [iv a], by simp; rfl, by simp [q6], by simp, ?_⟩
     rw [List.take_of_length_le (by simp)]; simp
   by_cases e14 : I.op = 14 \/ I.op = 19
   . have hone := sone_pc I.op a
     have hb : (oneV I.op a).2 = true := by unfold oneV; rcases e14 with e | e <;> simp [e]
     obtain ⟨o, ho⟩ : ∃ o, (oneV I.op a).1 = o := ⟨_, rfl⟩
     rw [hb, ho] at hone
     have e4 : I.op ≠ 4 := by omega
     have hS : exS w I (r ++ [a]) = r ++ [o] := by unfold exS; rw [if_neg hna, if_neg e1, if_neg e2, if_neg e3, if_neg e4, top_snoc, if_pos hb, ho]; simp
     simp [xof_l0, g2, b2, g5, g13, g14, g15, hi, <- hI]
     refine call ha (by simp) ?_
     simp [g2, b2, g5, g13, g14, g15, q2, q3, q4, ws, wl, e1, e2, e3, e4]
     refine calld hone (by simp) ?_
     simp [g2, b2, g5, g13, g14, g15, q2, q3, q4, ws, wl, e1, e2, e3, e4]
     refine fin _ _ (by simp [g2]) (by simp [b2]) (by simp [g13]) (by simp [g14]) (by simp) rfl ?_
     rw [hS]
     refine .inr ⟨st, es.set r.length (iv o), by simp [g5], by simp, by simp; omega, ?_⟩
     rw [List.take_set]
     simp only [List.length_append, List.length_singleton, q6]
     simp
   have hs2 := k4 hask e1 e2 e3 (fun q => e14 (.inl q)) (fun q => e14 (.inr q))
   rw [List.length_append, List.length_singleton] at hs2
   obtain ⟨r2, b, hrb⟩ := snoc1 (s := r) (by omega)
   subst hrb
   have hel : es[r2.length]? = some (iv b) := by
     have := congrArg (fun l => l[r2.length]?) q5
     simp only [List.length_append, List.length_singleton] at this
     rw [List.getElem?_take_of_lt (by omega)] at this
     rw [this]; simp
   simp only [List.length_append, List.length_singleton] at *
   have wl2 : IntKind.i64.wrap ((r2.length : Int) + 1) = (r2.length : Int) + 1 := wrap_in _ (by omega) (by omega)
   have wl3 : IntKind.i64.wrap (r2.length : Int) = (r2.length : Int) := wrap_in _ (by omega) (by omega)
   have wl4 : IntKind.i64.wrap ((r2.length : Int) + 1 + 1 - 2) = (r2.length : Int) := wrap_in' (by omega) (by omega) (by omega)
   have z1 : (0 : Int) <= (r2.length : Int) + 1 := by omega
   have z2 : r2.length < r2.length + 1 + 1 := by omega
   have z3 : r2.length + 1 < r2.length + 1 + 1 := by omega
   have z4 : r2.length < es.length := by omega
   have hel' : ∀ h, es[r2.length]'h = iv b := by
     intro h
     rw [List.getElem?_eq_getElem h] at hel
     exact Option.some.inj hel
   by_cases e4 : I.op = 4
   . have hS : exS w I (r2 ++ [b] ++ [a]) = r2 ++ [a] ++ [b] := by unfold exS; rw [if_neg hna, if_neg e1, if_neg e2, if_neg e3, if_pos e4, top_snoc]; simp [top_snoc]
     simp [xof_l0, g2, b2, g5, g13, g14, g15, hi, <- hI]
     refine call ha (by simp) ?_
     simp [g2, b2, g5, g13, g14, g15, q2, q3, q4, ws, wl, wl2, wl3, wl4, z1, z2, z3, z4, e4, hel']
     refine fin _ _ (by simp [g2]) (by simp [b2]) (by simp [g13]) (by simp [g14]) (by simp) rfl ?_
     rw [hS]
     refine .inr ⟨st, (es.set (r2.length + 1) (iv b)).set r2.length (iv a), by simp [g5], by simp, by simp; omega, ?_⟩
     rw [List.take_set, List.take_set]
     simp only [List.length_append, List.length_singleton, q6]
     simp
   . have htwo := stwo_pc I.op b a
     have hb : (oneV I.op a).2 = false := by unfold oneV; rw [if_neg (fun q => e14 (.inl q)), if_neg (fun q => e14 (.inr q))]
     have hS : exS w I (r2 ++ [b] ++ [a]) = r2 ++ [(twoV I.op b a).1] := by unfold exS; rw [if_neg hna, if_neg e1, if_neg e2, if_neg e3, if_neg e4, top_snoc, hb]; simp [top_snoc]
     have hone := sone_pc I.op a
     rw [hb] at hone
     simp [xof_l0, g2, b2, g5, g13, g14, g15, hi, <- hI]
     refine call ha (by simp) ?_
     simp [g2, b2, g5, g13, g14, g15, q2, q3, q4, ws, wl, wl2, wl3, wl4, z1, z2, z3, z4, e1, e2, e3, e4, hel']
     refine calld hone (by simp) ?_
     simp [g2, b2, g5, g13, g14, g15, q2, q3, q4, ws, wl, wl2, wl3, wl4, z1, z2, z3, z4, e1, e2, e3, e4, hel']
     refine calld htwo (by simp) ?_
     simp [g2, b2, g5, g13, g14, g15, q2, q3, q4, ws, wl, wl2, wl3, wl4, z1, z2, z3, z4, e1, e2, e3, e4, hel']
     have z5 : r2.length <= r2.length + 1 + 1 := by omega
     have z6 : r2.length <= es.length := by omega
     have z7 : (r2.length + 1) * 8 <= 140737488355328 := by omega
     have z8 : (min r2.length es.length + 1) * 8 <= 140737488355328 := by omega
     have q7 : es.take r2.length = r2.map iv := by
       have := congrArg (List.take r2.length) q5
       rw [List.take_take, Nat.min_eq_left (by omega)] at this
       rw [this]; simp
     rw [if_pos z5]
     simp [g2, b2, g5, g13, g14, g15, q2, q3, q4, ws, z6, z7, z8, q7]
     refine fin _ _ (by simp [g2]) (by simp [b2]) (by simp [g13]) (by simp [g14]) (by simp) rfl ?_
     rw [hS]
     refine .inr ⟨_, r2.map iv ++ [iv (twoV I.op b a).1], by simp; rfl, by simp, by simp, ?_⟩
     rw [List.take_of_length_le (by simp)]; simp
structure ExOk (w : Wld) (x : List Ins) : Prop where
 len : x.length <= 1000
 ok : ∀ (i : Nat) (h : i < x.length), XOk w (exV w (x.take i) []) x[i]
 one : 1 <= (exV w x []).length
theorem xof_pc (w : Wld) (hw : WOk w) (x : List Ins) (h : ExOk w x) : PC Tryz.prog 128 [w.av, .lst 2 (x.map Ins.av)] (iv (ofV w x)) := by
 obtain ⟨h1, h2, h3⟩ := h
 refine pc_of_get xof_get (by simp) _ (by simp) _ ?_
 unfold xof_c ofV
 simp
 refine loopN (fun i S => XI w x 0 0 i S) x.length ?_ ?_
 . exact ⟨by simp, by simp, by simp, by simp, by simp, .inl ⟨by simp, rfl⟩⟩
 . rintro i S hi hI
   by_cases hlt : i < x.length
   . refine xof_step w hw x h1 0 i hlt (h2 i hlt) hI (fun S' hI' => ?_)
     simp
     exact ⟨hlt, hI'⟩
   . have e1 : i = x.length := by omega
     subst e1
     obtain ⟨g2, b2, g13, g14, g15, gS⟩ := hI
     rw [List.take_length] at gS
     obtain ⟨v, g5⟩ : ∃ v, S.t 5 = v := ⟨_, rfl⟩
     rw [g5] at gS
     obtain ⟨s, hs⟩ : ∃ s, s = exV w x [] := ⟨_, rfl⟩
     rw [<- hs] at gS h3 ⊢
     cases s with
     | nil => simp at h3
     | cons a s =>
       rcases gS with ⟨_, q⟩ | ⟨st, es, rfl, q2, q3, q4⟩
       . cases q
       . have he : es[0]? = some (iv a) := by
           have := congrArg (fun l => l[0]?) q4
           rw [List.getElem?_take_of_lt (by simp)] at this
           rw [this]; rfl
         have h0 : 0 < es.length := by simp at q3; omega
         have he' : ∀ h, es[0]'h = iv a := by
           intro h
           rw [List.getElem?_eq_getElem h] at he
           exact Option.some.inj he
         simp [xof_l0, g13, g14, g15, g5, q2, he, he', h0]
end Go.Gv
