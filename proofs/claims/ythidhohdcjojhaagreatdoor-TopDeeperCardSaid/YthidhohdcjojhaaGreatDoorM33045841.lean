/- Texts of this proof, one behind the other. What is proved, and on which conditions, stands ahead of each. -/
import Derived.Test.YthidhohdcjojhaaGreatDoorProg
import Derived.Test.YthidhohdcjojhaaGreatDoorM32462f5c
import Derived.Test.YthidhohdcjojhaaGreatDoorM24a038b1
import Derived.Test.YthidhohdcjojhaaGreatDoorM31a9b2b2
import Derived.Test.YthidhohdcjojhaaGreatDoorM16dc7a1b

set_option linter.unusedVariables false
set_option linter.unusedSimpArgs false
namespace Go.Gv
open Go.Proofs
def NOk (p : Prg) (n : Nt) : Prop := 0 <= n.to /\ n.to < p.as.length /\ 0 <= n.hd /\ n.hd < p.hs.length /\ (n.args.length : Int) = argsOf p.hs n.hd
def LOk (p : Prg) (i : Int) (l : Lcl) : Prop := l.regs.length <= 8 /\ (l.armed = true -> 0 <= timerV p i /\ timerV p i < p.hs.length /\ argsOf p.hs (timerV p i) = 0)
structure WV (p : Prg) (w : Wld) : Prop where
 al : w.acts.length = p.as.length
 ac : ∀ (i : Nat) l, w.acts[i]? = some l -> LOk p i l
 ms : ∀ m ∈ w.mail, NOk p m.note
 bx : ∀ i : Nat, i < p.as.length -> (toV w.mail i : Int) <= capV p i
structure PV (p : Prg) : Prop where
 fl : flowV p = 0
 hl : p.hs.length <= 16
 al : p.as.length <= 8
 bl : p.boot.length <= 16
 a0 : 0 < p.as.length
 f1 : 1 <= p.fuel
 f2 : p.fuel <= 256
 hs : ∀ x ∈ p.hs, handlerV p.hs.length x = 0
 aa : ∀ a ∈ p.as, actorV p.hs a = 0
 nt : ∀ n ∈ p.boot, noteV p.hs p.as.length n = 0
theorem pv_of {p : Prg} (h : flowV p = 0) : PV p := by
 have hc : checkV p = 0 := by
   unfold flowV at h
   split at h
   . rename_i q; exact absurd h q
   . rename_i q; simpa using q
 obtain ⟨c1, c2, c3, c4, c5, c6, c7, c8, c9⟩ := checkV_zero hc
 exact ⟨h, c1, c2, c3, c4, c5, c6, c7, c8, c9⟩
theorem actorV_zero {hs : List Hnd} {a : Actr} (h : actorV hs a = 0) : a.regs.length <= 8 /\ 0 <= a.cap /\ a.cap <= 16 /\ (a.timer ≠ -1 -> 0 <= a.timer /\ a.timer < hs.length /\ argsOf hs a.timer = 0) /\ (a.armed = true -> a.timer ≠ -1) := by
 unfold actorV at h
 split at h
 . omega
 . rename_i h1
   split at h
   . omega
   . rename_i h2
     split at h
     . omega
     . rename_i h3
       split at h
       . omega
       . rename_i h4
         refine ⟨by omega, by omega, by omega, fun ht => ?_, fun ha ht => h4 ⟨ha, ht⟩⟩
         unfold argsOf
         refine ⟨?_, ?_, ?_⟩
         . rcases Int.lt_or_le a.timer 0 with q | q
           . exact absurd ⟨ht, .inl q⟩ h3
           . exact q
         . rcases Int.lt_or_le a.timer hs.length with q | q
           . exact q
           . exact absurd ⟨ht, .inr (.inl q)⟩ h3
         . by_cases q : (hs[a.timer.toNat]?.map Hnd.args).getD 0 = 0
           . exact q
           . exact absurd ⟨ht, .inr (.inr q)⟩ h3
theorem noteV_zero {hs : List Hnd} {na : Int} {n : Nt} (h : noteV hs na n = 0) : 0 <= n.to /\ n.to < na /\ 0 <= n.hd /\ n.hd < hs.length /\ (n.args.length : Int) = argsOf hs n.hd := by
 unfold noteV at h
 split at h
 . omega
 . rename_i h1
   split at h
   . omega
   . rename_i h2
     unfold argsOf
     exact ⟨by omega, by omega, by omega, by omega, by omega⟩
theorem argsOf_rng {p : Prg} (h : PV p) (a : Int) : 0 <= argsOf p.hs a /\ argsOf p.hs a <= 4 := by
 unfold argsOf
 cases e : p.hs[a.toNat]? with
 | none => simp
 | some x =>
   obtain ⟨h1, h2, _, _⟩ := handlerV_zero (h.hs x (List.mem_of_getElem? e))
   exact ⟨h1, h2⟩
theorem capV_rng {p : Prg} (h : PV p) (i : Int) : 0 <= capV p i /\ capV p i <= 16 := by
 unfold capV
 cases e : p.as[i.toNat]? with
 | none => simp
 | some x =>
   obtain ⟨_, h1, h2, _, _⟩ := actorV_zero (h.aa x (List.mem_of_getElem? e))
   exact ⟨h1, h2⟩
theorem NOk.al {p : Prg} (h : PV p) {n : Nt} (k : NOk p n) : n.args.length <= 4 := by
 have := argsOf_rng h n.hd
 have := k.2.2.2.2
 omega
theorem timer_of {p : Prg} (h : PV p) (i : Int) (ht : timerV p i ≠ -1) (hi : i.toNat < p.as.length) : 0 <= timerV p i /\ timerV p i < p.hs.length /\ argsOf p.hs (timerV p i) = 0 := by
 unfold timerV at ht ⊢
 have e := List.getElem?_eq_getElem hi
 rw [e] at ht ⊢
 obtain ⟨_, _, _, h1, _⟩ := actorV_zero (h.aa _ (List.getElem_mem hi))
 exact h1 ht
structure RI (p : Prg) (who : Int) (n8 : Nat) (m : Mach) : Prop where
 rg : m.regs.length <= n8
 nt : ∀ n ∈ m.notes, NOk p n
 ar : m.armed = true -> timerV p who ≠ -1
theorem ite_RI {c : Prop} [Decidable c] {p : Prg} {who : Int} {k : Nat} {a b : Mach × Int} (h1 : c -> RI p who k a.1) (h2 : ¬ c -> RI p who k b.1) : RI p who k (if c then a else b).1 := by
 by_cases h : c
 . rw [if_pos h]; exact h1 h
 . rw [if_neg h]; exact h2 h
theorem doV_RI {F : Fx} {i : Ins} {m : Mach} {k : Nat} (hd : DoOk F i m) (h : RI F.p F.who k m) : RI F.p F.who k (doV F i m).1 := by
 obtain ⟨a, b, c⟩ := h
 unfold doV
 repeat' (refine ite_RI (fun _ => ?_) (fun _ => ?_))
 all_goals first
   | exact ⟨a, b, c⟩
   | skip
 . refine ⟨?_, b, c⟩
   show (if i.a < m.regs.length then m.regs.set i.a.toNat (top m.st) else m.regs).length <= k
   split
   . rw [List.length_set]; exact a
   . exact a
 . rename_i e22 ht
   have hs := hd.snd e22
   have htk := hd.takes
   unfold takesV popsV at htk
   rw [if_pos e22, e22] at htk
   simp at htk
   refine ⟨a, fun n hn => ?_, c⟩
   rcases List.mem_append.1 hn with q | q
   . exact b n q
   . rw [List.mem_singleton.1 q]
     refine ⟨by simp only []; omega, by simp only []; omega, hs.1, by have := hs.2.1; simp only []; omega, ?_⟩
     simp only [List.length_drop, List.length_dropLast, argsN]
     omega
 . refine ⟨a, b, fun hq => ?_⟩
   simp only [Bool.or_eq_true, Bool.not_eq_true', decide_eq_false_iff_not] at hq
   rcases hq with q | q
   . exact c q
   . exact q
 . exact ⟨a, b, fun hq => by cases hq⟩
theorem runG_RI (F : Fx) (code : List Ins) (k : Nat) : ∀ (f : Nat) (m : Mach) (s : Int), RunOk F code f m s -> RI F.p F.who k m -> ∀ m', (runG F code f m s).1 = some m' -> RI F.p F.who k m'
 | 0, m, s, _, _, m', h => by cases h
 | f + 1, m, s, hr, hi, m', h => by
   unfold runG at h
   split at h
   . rename_i h1
     split at h
     . rename_i h2
       split at h
       . rename_i i hc
         obtain ⟨q1, q2⟩ := hr h1 h2 i hc
         split at h
         . cases h
         . rename_i h3
           exact runG_RI F code k f _ _ (q2 (by simpa using h3)) (doV_RI q1 hi) m' h
       . cases h
     . cases h
   . rename_i h1
     cases h
     exact hi
theorem go_ok {p : Prg} (hp : PV p) {who : Int} {l : Lcl} {h : Int} {args : List Int} (h0 : 0 <= who) (h1 : who < p.as.length) (hl : l.regs.length <= 8) (hh : 0 <= h) (hh2 : h < p.hs.length) (ha : (args.length : Int) = argsOf p.hs h) :
   GoOk p who l h args /\ (goV p who l h args).notes.length <= 256 := by
 have hm : mayV p who { l with down := 0 } h args := ⟨hp.fl, h0, h1, hh, hh2, ha, hl, rfl⟩
 obtain ⟨x, hx, _, _, hro, hmi, f1, f2, _⟩ := hm.ro
 have hro' : RFix (fxOf p who l args) x.code := ⟨hro.ok, hro.good, hro.ins, hro.who, hro.fuel⟩
 have hmi' : MI (fxOf p who l args) x.code (m0Of l) 0 := ⟨hmi.pc, hmi.st, hmi.rl, hmi.nl, hmi.s0⟩
 refine ⟨⟨x, hh, hx, ⟨by omega, by omega⟩, by omega, hro'.run _ _ _ hmi'⟩, ?_⟩
 unfold goV
 rw [hx]
 have key : ∀ (f : Nat) (m : Mach) (s : Int), (m.notes.length : Int) <= s -> s <= p.fuel -> ∀ m', (runG (fxOf p who l args) x.code f m s).1 = some m' -> (m'.notes.length : Int) <= p.fuel := by
   intro f
   induction f with
   | zero => intro m s _ _ m' h; cases h
   | succ f ih =>
     intro m s hs hs2 m' h
     unfold runG at h
     split at h
     . split at h
       . rename_i h2
         split at h
         . rename_i i hc
           split at h
           . cases h
           . refine ih _ _ ?_ ?_ m' h
             . have := doV_notes (fxOf p who l args) i m
               omega
             . have h2' : s < p.fuel := h2
               omega
         . cases h
       . cases h
     . cases h
       omega
 simp only []
 generalize hR : runG (fxOf p who l args) x.code (p.fuel.toNat + 1) (m0Of l) 0 = R
 obtain ⟨a, b, c⟩ := R
 cases a with
 | none => simp [goR]
 | some m =>
   have := key (p.fuel.toNat + 1) (m0Of l) 0 (by simp [m0Of]) (by omega) m (by rw [hR])
   simp only [goR]
   omega
theorem go_keeps {p : Prg} (hp : PV p) {who : Int} {l : Lcl} {h : Int} {args : List Int} (h0 : 0 <= who) (h1 : who < p.as.length) (hl : LOk p who l) (hh : 0 <= h) (hh2 : h < p.hs.length) (ha : (args.length : Int) = argsOf p.hs h) :
   LOk p who (goV p who l h args).l /\ ∀ n ∈ (goV p who l h args).notes, NOk p n := by
 obtain ⟨⟨x, _, hx, _, _, hr⟩, _⟩ := go_ok hp h0 h1 hl.1 hh hh2 ha
 unfold goV
 rw [hx]
 simp only []
 have hi : RI p who 8 (m0Of l) := ⟨hl.1, (fun n hn => by cases hn), (fun q => by have := (hl.2 q).1; omega)⟩
 have key := runG_RI (fxOf p who l args) x.code 8 _ _ _ hr hi
 generalize runG (fxOf p who l args) x.code (p.fuel.toNat + 1) (m0Of l) 0 = R at key
 obtain ⟨a, b, c⟩ := R
 cases a with
 | none => exact ⟨hl, (fun n hn => by cases hn)⟩
 | some m =>
   obtain ⟨q1, q2, q3⟩ := key m rfl
   exact ⟨⟨q1, fun q => timer_of hp who (q3 q) (by omega)⟩, q2⟩
theorem len_box : ∀ (n : Nat) (l : List Msg), (∀ m ∈ l, 0 <= m.note.to /\ m.note.to < n) -> (∀ i : Nat, i < n -> toV l i <= 16) -> l.length <= 16 * n
 | 0, l, h, _ => by
   cases l with
   | nil => simp
   | cons m l => have := h m (by simp); omega
 | n + 1, l, h, hb => by
   have h1 := hb n (by omega)
   have h2 := len_box n (l.filter fun m => !decide (m.note.to = (n : Int))) (fun m hm => by
     obtain ⟨q1, q2⟩ := List.mem_filter.1 hm
     have := h m q1
     simp at q2
     omega) (fun i hi => by
     refine Nat.le_trans ?_ (hb i (by omega))
     unfold toV
     rw [List.filter_filter]
     refine List.Sublist.length_le ?_
     have : (fun a : Msg => decide (a.note.to = (i : Int)) && !decide (a.note.to = (n : Int))) = fun a => decide (a.note.to = (i : Int)) && (!decide (a.note.to = (n : Int))) := rfl
     rw [<- List.filter_filter]
     exact List.Sublist.filter _ List.filter_sublist)
   have h3 : l.length = (l.filter fun m => decide (m.note.to = (n : Int))).length + (l.filter fun m => !decide (m.note.to = (n : Int))).length := by
     rw [<- List.length_append]; exact ((List.filter_append_perm _ l).length_eq).symm
   unfold toV at h1
   omega
theorem WV.ml {p : Prg} (hp : PV p) {w : Wld} (h : WV p w) : w.mail.length <= 128 := by
 have := len_box p.as.length w.mail (fun m hm => ⟨(h.ms m hm).1, (h.ms m hm).2.1⟩) (fun i hi => by
   have := h.bx i hi
   have := capV_rng hp i
   omega)
 have := hp.al
 omega
theorem toV_ins (m : Msg) (i : Int) : ∀ l : List Msg, toV (insV m l) i = toV l i + if m.note.to = i then 1 else 0
 | [] => by unfold insV toV; by_cases h : m.note.to = i <;> simp [h]
 | x :: l => by
   have ih := toV_ins m i l
   unfold insV
   unfold toV at ih ⊢
   split
   . by_cases h : x.note.to = i
     . simp only [List.filter_cons, h, decide_true, if_true, List.length_cons, ih]; omega
     . simp [List.filter_cons, h, ih]
   . by_cases h : m.note.to = i
     . by_cases h' : x.note.to = i <;> simp [List.filter_cons, h, h']
     . by_cases h' : x.note.to = i <;> simp [List.filter_cons, h, h']
theorem toV_sub {l l' : List Msg} (h : l.Sublist l') (i : Int) : toV l i <= toV l' i := (h.filter _).length_le
theorem lcl_at {w : Wld} {i : Int} {l : Lcl} (h0 : 0 <= i) (h : w.acts[i.toNat]? = some l) : lclV w i = l := by unfold lclV; rw [h]; rfl
theorem WV.lcl {p : Prg} {w : Wld} (h : WV p w) {i : Int} (h0 : 0 <= i) (h1 : i < p.as.length) : LOk p i (lclV w i) := by
 have hl : i.toNat < w.acts.length := by rw [h.al]; omega
 have := h.ac i.toNat _ (List.getElem?_eq_getElem hl)
 rw [lcl_at h0 (List.getElem?_eq_getElem hl)]
 have e : ((i.toNat : Nat) : Int) = i := by omega
 rw [e] at this
 exact this
theorem WV.set {p : Prg} {w : Wld} (h : WV p w) {i : Int} {l : Lcl} (h0 : 0 <= i) (hl : LOk p i l) : WV p (setL w i l) := by
 refine ⟨by simp [setL, h.al], fun j l' hj => ?_, h.ms, h.bx⟩
 simp only [setL, List.getElem?_set] at hj
 split at hj
 . rename_i e
   split at hj
   . cases hj
     have e : (j : Int) = i := by omega
     rw [e]; exact hl
   . cases hj
 . exact h.ac j l' hj
theorem WV.over {p : Prg} {w : Wld} (h : WV p w) (i : Nat) : WV p (overV w i) := by
 refine ⟨by simp [overV, h.al], fun j l' hj => ?_, h.ms, h.bx⟩
 simp only [overV, List.getElem?_set] at hj
 split at hj
 . rename_i e
   subst e
   split at hj
   . rename_i hlt
     rw [List.getElem?_eq_getElem hlt] at hj
     cases hj
     have q := h.ac i w.acts[i] (List.getElem?_eq_getElem hlt)
     exact q
   . cases hj
 . exact h.ac j l' hj
theorem WV.used {p : Prg} {w : Wld} (h : WV p w) (u : Bud) : WV p { w with used := u } := ⟨h.al, h.ac, h.ms, h.bx⟩
theorem WV.post {p : Prg} (hp : PV p) {w : Wld} (h : WV p w) {m : Msg} (hm : NOk p m.note) : WV p (postV p w m) := by
 unfold postV
 split
 . rename_i hc
   split
   . refine ⟨h.al, h.ac, fun x hx => ?_, fun i hi => ?_⟩
     . rcases insV_mem m x _ hx with q | q
       . rw [q]; exact hm
       . exact h.ms x q
     . rw [toV_ins]
       have := h.bx i hi
       split
       . rename_i e
         rw [e] at hc
         omega
       . omega
   . exact h.over _
 . exact h.over _
theorem WV.giveL {p : Prg} (hp : PV p) (frm first : Int) : ∀ (l : List Nt) (j : Nat) (w : Wld), (∀ n ∈ l, NOk p n) -> WV p w -> WV p (Go.Gv.giveL p frm first j l w)
 | [], _, w, _, h => h
 | n :: l, j, w, hn, h => by
   unfold Go.Gv.giveL
   refine WV.giveL hp frm first l _ _ (fun x hx => hn x (by simp [hx])) ?_
   split
   . exact h.post hp (hn n (by simp))
   . exact h
theorem WV.give {p : Prg} (hp : PV p) {w : Wld} (h : WV p w) (frm : Int) {l : List Nt} (hn : ∀ n ∈ l, NOk p n) : WV p (giveV p w frm l) := WV.giveL hp _ _ l 0 w hn h
theorem WV.start {p : Prg} (hp : PV p) : WV p (startV p) := by
 unfold startV
 refine WV.give hp ⟨by simp, fun i l hi => ?_, (fun m hm => by cases hm), (fun i hi => by simp [toV]; exact (capV_rng hp i).1)⟩ _ (fun n hn => noteV_zero (hp.nt n hn))
 rw [List.getElem?_map, Option.map_eq_some_iff] at hi
 obtain ⟨a, ha, rfl⟩ := hi
 obtain ⟨h1, _, _, _, h5⟩ := actorV_zero (hp.aa a (List.mem_of_getElem? ha))
 refine ⟨h1, fun q => ?_⟩
 have hlt : i < p.as.length := (List.getElem?_eq_some_iff.1 ha).1
 refine timer_of hp i ?_ (by omega)
 have e : timerV p i = a.timer := by unfold timerV; simp [ha]
 rw [e]
 exact h5 q
theorem WV.cut {p : Prg} {w : Wld} (h : WV p w) (i : Nat) : WV p { w with mail := w.mail.take i ++ w.mail.drop (i + 1) } := by
 have hs : (w.mail.take i ++ w.mail.drop (i + 1)).Sublist w.mail := by
   rw [<- List.eraseIdx_eq_take_drop_succ]
   exact List.eraseIdx_sublist _ _
 refine ⟨h.al, h.ac, fun m hm => h.ms m (hs.subset hm), fun j hj => ?_⟩
 have := toV_sub hs j
 have := h.bx j hj
 simp only []
 omega
theorem WV.can4 {w : Wld} {e : Evt} (hc : canV w e = true) (hk : e.kind = 4 \/ e.kind = 5) : 0 <= e.who /\ e.who < w.acts.length /\ (e.kind = 4 -> armedV w e.who = true) := by
 unfold canV at hc
 rw [if_neg (by omega), if_pos hk] at hc
 simp at hc
 refine ⟨hc.1.1.1.2, hc.1.1.2, fun q => ?_⟩
 rcases hc.2 with r | r
 . exact absurd q r
 . exact r
theorem armed_lcl (w : Wld) (i : Int) : armedV w i = (lclV w i).armed := by
 unfold armedV lclV
 cases w.acts[i.toNat]? <;> rfl
theorem WV.apply {p : Prg} (hp : PV p) {w : Wld} (h : WV p w) {e : Evt} (hc : canV w e = true) : WV p (applyV p w e) := by
 unfold applyV
 split
 . rename_i hk
   cases hi : idxV e.id w.mail with
   | none =>
     obtain ⟨q1, q2⟩ := ntAt_none hi
     rw [q1]
     exact h
   | some i =>
     obtain ⟨hl, q1, q2⟩ := ntAt_some hi
     rw [q1]
     simp only []
     have hn := h.ms _ (List.getElem_mem hl)
     have h1 := h.cut i
     split
     . exact h1.used _
     . have hlc := h1.lcl hn.1 hn.2.1
       obtain ⟨g1, g2⟩ := go_keeps hp hn.1 hn.2.1 hlc hn.2.2.1 hn.2.2.2.1 hn.2.2.2.2
       exact WV.give hp (h1.set hn.1 g1) _ g2
 . split
   . rename_i hk hk3
     split
     . rename_i i hi
       split
       . rename_i m hm
         exact (h.used _).post hp (h.ms m (List.mem_of_getElem? hm))
       . exact h
     . exact h
   . split
     . rename_i hk hk3 hk4
       obtain ⟨c1, c2, c3⟩ := WV.can4 hc (.inl hk4)
       rw [h.al] at c2
       have hlc := h.lcl c1 c2
       have c3 := c3 hk4
       rw [armed_lcl] at c3
       obtain ⟨t1, t2, t3⟩ := hlc.2 c3
       have h1 := (h.used ({ w.used with time := w64 (w.used.time + 1) })).set (i := e.who) (l := { lclV w e.who with armed := false }) c1 ⟨hlc.1, fun q => by cases q⟩
       have hlc1 := h1.lcl c1 c2
       obtain ⟨g1, g2⟩ := go_keeps (args := []) hp c1 c2 hlc1 t1 t2 (by simp [t3])
       exact WV.give hp (h1.set c1 g1) _ g2
     . split
       . rename_i hk5
         obtain ⟨c1, c2, _⟩ := WV.can4 hc (.inr hk5)
         rw [h.al] at c2
         have hlc := h.lcl c1 c2
         exact (h.used _).set c1 ⟨hlc.1, hlc.2⟩
       . exact h
end Go.Gv

namespace Go.Gv
open Go.Proofs
theorem touch123_pc (p : Prg) (w : Wld) (hw : WOk w) (hg : WGo p w) (e : Evt) (hN : (wouldV p w e).length <= 1000) (hk : e.kind = 1 \/ e.kind = 2 \/ e.kind = 3) : PC Tryz.prog 119 [p.av, w.av, e.av] (ints (touchV p w e)) := by
 have hf := mfind_pc w.mail e.id hw.ml
 have hwd := would_pc p w hw hg e
 cases hi : idxV e.id w.mail with
 | none =>
   obtain ⟨q1, q2⟩ := ntAt_none hi
   have hv : touchV p w e = [] := by unfold touchV; rw [if_pos hk, q1]
   rw [hv]
   rw [q2] at hf
   refine pc_of_get tset_get (by simp) _ (by simp) _ ?_
   unfold tset_c
   rcases hk with hk | hk | hk
   all_goals
     simp [Prg.av, Wld.av, Evt.av, hk]
     refine call hf (by simp [MId.av]) ?_
     simp [ints]
 | some i =>
   obtain ⟨hl, q1, q2⟩ := ntAt_some hi
   have hv : touchV p w e = compI (sortI (w.mail[i].note.to :: (wouldV p w e).map Nt.to)) := by unfold touchV; rw [if_pos hk, q1]
   rw [hv]
   rw [q2] at hf
   refine pc_of_get tset_get (by simp) _ (by simp) _ ?_
   unfold tset_c
   have hneg : ¬ (i : Int) < 0 := by omega
   rcases hk with hk | hk | hk
   all_goals
     simp [Prg.av, Wld.av, Evt.av, hk]
     refine call hf (by simp [MId.av]) ?_
     simp [hl, hneg]
     refine call hwd (by simp [Prg.av, Wld.av, Evt.av, hk]) ?_
     simp
     refine tset_loop (wouldV p w e) hN w.mail[i].note.to (by simp) (by simp) (by simp) (.inr ⟨_, by simp; rfl, by simp⟩) (fun S' st g9 hb => ?_)
     simp [g9]
     have hlen : ((wouldV p w e).length + 1) = (w.mail[i].note.to :: (wouldV p w e).map Nt.to).length := by simp
     rw [hlen]
     refine sort_v 1000248047 st ((w.mail[i].note.to :: (wouldV p w e).map Nt.to).map iv) (w.mail[i].note.to :: (wouldV p w e).map Nt.to) (by simp) (by simp; omega) (fun j hj => by rw [List.getElem?_map, List.getElem?_eq_getElem hj]; rfl) (by simpa using hb) ?_
     rw [<- sortI_merge]
     obtain ⟨zs, hzs⟩ : ∃ zs, zs = sortI (w.mail[i].note.to :: (wouldV p w e).map Nt.to) := ⟨_, rfl⟩
     have hz1 : zs.length = (wouldV p w e).length + 1 := by rw [hzs, (sortI_perm _).length_eq]; simp
     have hcl := compI_len zs
     rw [<- hzs]
     rw [compI_lib] at hcl ⊢
     simp [g9]
     rw [<- hz1]
     refine compact_v 1000248047 st zs (by omega) (by simp) ?_ hcl
     simp [ints, listOf]
theorem touch45_pc (p : Prg) (w : Wld) (hw : WOk w) (hg : WGo p w) (e : Evt) (hN : (wouldV p w e).length <= 1000) (hk : e.kind = 4 \/ e.kind = 5) : PC Tryz.prog 119 [p.av, w.av, e.av] (ints (touchV p w e)) := by
 have hwd := would_pc p w hw hg e
 have n1 : ¬ (e.kind = 1 \/ e.kind = 2 \/ e.kind = 3) := by omega
 refine pc_of_get tset_get (by simp) _ (by simp) _ ?_
 unfold tset_c
 by_cases h0 : e.who < 0
 . have hv : touchV p w e = [] := by unfold touchV; rw [if_neg n1, if_pos hk, if_pos (.inl h0)]
   rw [hv]
   rcases hk with hk | hk
   all_goals
     simp [Prg.av, Wld.av, Evt.av, hk, h0, ints]
 by_cases h1 : (w.acts.length : Int) <= e.who
 . have hv : touchV p w e = [] := by unfold touchV; rw [if_neg n1, if_pos hk, if_pos (.inr h1)]
   rw [hv]
   rcases hk with hk | hk
   all_goals
     simp [Prg.av, Wld.av, Evt.av, hk, h0, h1, ints]
 have hv : touchV p w e = compI (sortI (e.who :: (wouldV p w e).map Nt.to)) := by unfold touchV; rw [if_neg n1, if_pos hk, if_neg (by omega)]
 rw [hv]
 rcases hk with hk | hk
 all_goals
   simp [Prg.av, Wld.av, Evt.av, hk, h0, h1]
   refine call hwd (by simp [Prg.av, Wld.av, Evt.av, hk]) ?_
   simp
   refine tset_loop (wouldV p w e) hN e.who (by simp) (by simp) (by simp) (.inr ⟨_, by simp; rfl, by simp⟩) (fun S' st g9 hb => ?_)
   simp [g9]
   have hlen : ((wouldV p w e).length + 1) = (e.who :: (wouldV p w e).map Nt.to).length := by simp
   rw [hlen]
   refine sort_v 1000248047 st ((e.who :: (wouldV p w e).map Nt.to).map iv) (e.who :: (wouldV p w e).map Nt.to) (by simp) (by simp; omega) (fun j hj => by rw [List.getElem?_map, List.getElem?_eq_getElem hj]; rfl) (by simpa using hb) ?_
   rw [<- sortI_merge]
   obtain ⟨zs, hzs⟩ : ∃ zs, zs = sortI (e.who :: (wouldV p w e).map Nt.to) := ⟨_, rfl⟩
   have hz1 : zs.length = (wouldV p w e).length + 1 := by rw [hzs, (sortI_perm _).length_eq]; simp
   have hcl := compI_len zs
   rw [<- hzs]
   rw [compI_lib] at hcl ⊢
   simp [g9]
   rw [<- hz1]
   refine compact_v 1000248047 st zs (by omega) (by simp) ?_ hcl
   simp [ints, listOf]
end Go.Gv

namespace Go.Gv
open Go.Proofs
open Go.Proofs
theorem wfirst_zero {p : Prg} : ∀ {l : List (List Ins)}, wfirst p l = 0 -> ∀ x ∈ l, xcheckV p x = 0
 | [], _, x, hx => by cases hx
 | y :: l, h, x, hx => by
   unfold wfirst at h
   split at h
   . rename_i q; exact absurd h q
   . rename_i q
     rcases List.mem_cons.1 hx with e | e
     . rw [e]; simpa using q
     . exact wfirst_zero h x e
theorem xwalk_st {p : Prg} (hp : PV p) : ∀ (l : List Ins) (d : Nat), d <= 8 -> (∀ i ∈ l, i.a <= 9223372036854775807) -> xwalkV p d l = 0 -> stB p.as.length l d = true
 | [], d, hd, _, h => by
   unfold xwalkV at h
   split at h
   . omega
   . unfold stB; simp; omega
 | i :: l, d, hd, hm, h => by
   unfold xwalkV at h
   split at h
   . rename_i q; exact absurd h q
   . rename_i q
     have q : xinstrV p i d = 0 := by simpa using q
     unfold xinstrV at q
     split at q
     . omega
     . rename_i q1
       split at q
       . omega
       . rename_i q2
         split at q
         . omega
         . rename_i q3
           split at q
           . omega
           . rename_i q4
             have ha := hm i (by simp)
             have ha0 := hp.a0
             have hwho : asksV i.op = true -> 0 <= whoX i /\ whoX i < p.as.length := by
               intro q
               by_cases h37 : i.op = 37
               . unfold whoX; rw [if_pos h37]; omega
               . constructor
                 . rcases Int.lt_or_le (whoX i) 0 with r | r
                   . exact absurd ⟨⟨q, h37⟩, .inl r⟩ q3
                   . exact r
                 . rcases Int.lt_or_le (whoX i) p.as.length with r | r
                   . exact r
                   . exact absurd ⟨⟨q, h37⟩, .inr r⟩ q3
             have h31 : i.op = 31 -> 0 <= i.a := by
               intro q
               have hq : asksV i.op = true := by unfold asksV; simp; omega
               have := (hwho hq).1
               unfold whoX whoseV at this
               rw [if_neg (by omega)] at this
               rcases Int.lt_or_le i.a 0 with r | r
               . rw [if_neg (by omega)] at this; omega
               . exact r
             have hops : asksV i.op = true \/ reckV i.op = true := by
               cases e1 : asksV i.op
               . cases e2 : reckV i.op
                 . exact absurd (.inl ⟨e1, e2⟩) q1
                 . exact .inr rfl
               . exact .inl rfl
             have hx : (xlen i d : Int) = d + (xputsV i.op - popsV i.op) /\ (asksV i.op = true \/ i.op = 1 \/ 1 <= d) /\ (asksV i.op = true \/ i.op = 1 \/ i.op = 2 \/ i.op = 3 \/ i.op = 14 \/ i.op = 19 \/ 2 <= d) /\ xlen i d <= 8 := by
               have q5 : popsV i.op <= d /\ d - popsV i.op + xputsV i.op <= 8 := by omega
               rcases hops with r | r
               . have r' : 31 <= i.op /\ i.op <= 37 := by unfold asksV at r; simpa using r
                 have p0 : popsV i.op = 0 := by unfold popsV; rw [if_neg (by omega), if_neg (by omega)]
                 have p1 : xputsV i.op = 1 := by unfold xputsV; rw [if_pos r]
                 unfold xlen
                 rw [if_pos r', p0, p1]
                 rw [p0, p1] at q5
                 refine ⟨by omega, .inl r, .inl r, by omega⟩
               . have r' : (1 <= i.op /\ i.op <= 4) \/ (9 <= i.op /\ i.op <= 19) := by unfold reckV at r; simpa using r
                 have na : asksV i.op = false := by unfold asksV; simp; omega
                 unfold xputsV at q5 ⊢
                 rw [na] at q5 ⊢
                 simp only [Bool.false_eq_true, if_false, false_or] at q5 ⊢
                 unfold popsV putsV at q5 ⊢
                 unfold xlen
                 rw [if_neg (by omega)]
                 repeat' split at q5
                 all_goals (repeat' split)
                 all_goals omega
             unfold stB
             simp only [Bool.and_eq_true, decide_eq_true_eq]
             refine ⟨⟨fun q => ⟨(hwho q).1, (hwho q).2, h31, ha⟩, by omega, hx.2.1, hx.2.2.1⟩, ?_⟩
             refine xwalk_st hp l (xlen i d) hx.2.2.2 (fun j hj => hm j (by simp [hj])) ?_
             rw [hx.1]
             exact h
theorem exOk_of {p : Prg} (hp : PV p) {x : List Ins} (hx : xcheckV p x = 0) (hm : ∀ i ∈ x, i.a <= 9223372036854775807) {w : Wld} (hw : w.acts.length = p.as.length) : ExOk w x := by
 unfold xcheckV at hx
 rw [if_neg (by simp [hp.fl])] at hx
 split at hx
 . omega
 . have h := stB_ok w p.as.length hw x [] (xwalk_st hp x 0 (by omega) hm hx)
   obtain ⟨r1, r2⟩ := exB_ok w x [] h
   exact ⟨by omega, r1, r2⟩
theorem WV.wk {p : Prg} (hp : PV p) {w : Wld} (h : WV p w) : WK p w 128 :=
 ⟨h.ml hp, h.al, by rw [h.al]; have := hp.al; omega, fun m hm => by rw [h.al]; exact ⟨(h.ms m hm).1, (h.ms m hm).2.1⟩, fun m hm => by have := (h.ms m hm).al hp; omega⟩
theorem WV.rg {p : Prg} {w : Wld} (h : WV p w) : ∀ l ∈ w.acts, l.regs.length <= 1000 := by
 intro l hl
 obtain ⟨i, hi, rfl⟩ := List.mem_iff_getElem.1 hl
 have := (h.ac i _ (List.getElem?_eq_getElem hi)).1
 omega
theorem WV.tm {p : Prg} (hp : PV p) {w : Wld} (h : WV p w) {i : Int} (h0 : 0 <= i) (h1 : i < p.as.length) (ha : armedV w i = true) :
   (GoOk p i { lclV w i with armed := false } (timerV p i) [] /\ (goV p i { lclV w i with armed := false } (timerV p i) []).notes.length <= 256) /\ ∀ x ∈ (goV p i { lclV w i with armed := false } (timerV p i) []).notes, NOk p x := by
 have hlc := h.lcl h0 h1
 rw [armed_lcl] at ha
 obtain ⟨t1, t2, t3⟩ := hlc.2 ha
 exact ⟨go_ok (args := []) hp h0 h1 hlc.1 t1 t2 (by simp [t3]), (go_keeps (l := { lclV w i with armed := false }) (args := []) hp h0 h1 ⟨hlc.1, fun q => by cases q⟩ t1 t2 (by simp [t3])).2⟩
theorem WV.nt {p : Prg} (hp : PV p) {w : Wld} (h : WV p w) {m : Msg} (hm : m ∈ w.mail) :
   (GoOk p m.note.to (lclV w m.note.to) m.note.hd m.note.args /\ (goV p m.note.to (lclV w m.note.to) m.note.hd m.note.args).notes.length <= 256) /\ ∀ x ∈ (goV p m.note.to (lclV w m.note.to) m.note.hd m.note.args).notes, NOk p x := by
 have hn := h.ms m hm
 have hlc := h.lcl hn.1 hn.2.1
 exact ⟨go_ok hp hn.1 hn.2.1 hlc.1 hn.2.2.1 hn.2.2.2.1 hn.2.2.2.2, (go_keeps hp hn.1 hn.2.1 hlc hn.2.2.1 hn.2.2.2.1 hn.2.2.2.2).2⟩
theorem WV.go {p : Prg} (hp : PV p) {w : Wld} (h : WV p w) : WGo p w :=
 ⟨fun m hm => (h.nt hp hm).1.1, fun i hi ha => (h.tm hp (by omega) (by rw [<- h.al]; omega) ha).1.1, h.al⟩
theorem WV.would {p : Prg} (hp : PV p) {w : Wld} (h : WV p w) (e : Evt) : (wouldV p w e).length <= 256 := by
 unfold wouldV
 split
 . rename_i hc
   split
   . split
     . rename_i n hn
       unfold ntAt at hn
       rw [Option.bind_eq_some_iff] at hn
       obtain ⟨i, _, hi⟩ := hn
       rw [Option.map_eq_some_iff] at hi
       obtain ⟨m, hm, rfl⟩ := hi
       exact (h.nt hp (List.mem_of_getElem? hm)).1.2
     . simp
   . split
     . rename_i hk
       obtain ⟨c1, c2, c3⟩ := WV.can4 hc (.inl hk)
       rw [h.al] at c2
       exact (h.tm hp c1 c2 (c3 hk)).1.2
     . simp
 . simp
theorem allV_in {b : Bud} {w : Wld} {e : Evt} (h : e ∈ allV b w) : canV w e = true /\ (1 <= e.kind /\ e.kind <= 5) := by
 unfold allV at h
 have hc := (List.mem_filter.1 h).2
 rw [Bool.and_eq_true] at hc
 refine ⟨hc.2, ?_⟩
 have := hc.2
 unfold canV at this
 split at this
 . omega
 . split at this
   . omega
   . cases this
theorem allV_le (b : Bud) (w : Wld) : (allV b w).length <= 3 * w.mail.length + 2 * w.acts.length := by
 unfold allV
 refine Nat.le_trans (List.length_filter_le _ _) ?_
 simp [evM, evA]
 omega
theorem can123 {w : Wld} {e : Evt} (hc : canV w e = true) (hk : e.kind = 1 \/ e.kind = 2 \/ e.kind = 3) : ∃ i, idxV e.id w.mail = some i := by
 cases hi : idxV e.id w.mail with
 | some i => exact ⟨i, rfl⟩
 | none =>
   obtain ⟨q1, _⟩ := ntAt_none hi
   unfold canV at hc
   rw [if_pos hk, q1] at hc
   simp at hc
theorem WV.ap (hput : PutAll) {p : Prg} (hp : PV p) {w : Wld} (h : WV p w) {e : Evt} (hc : canV w e = true) (hk : 1 <= e.kind /\ e.kind <= 5) : PC Tryz.prog 101 [p.av, w.av, e.av] (applyV p w e).av := by
 have hwk := h.wk hp
 by_cases h1 : e.kind = 1
 . obtain ⟨i, hi⟩ := can123 hc (.inl h1)
   obtain ⟨hl, _⟩ := idxV_some hi
   have hm := h.nt hp (List.getElem_mem hl)
   exact sapply_1 hput p w 128 hwk (by decide) h.rg e h1 i hi hl hm.1.1 (by have := hm.1.2; omega) (fun x hx => by have := (hm.2 x hx).al hp; omega)
 by_cases h2 : e.kind = 2
 . obtain ⟨i, hi⟩ := can123 hc (.inr (.inl h2))
   obtain ⟨hl, _⟩ := idxV_some hi
   exact sapply_2 p w 128 hwk (by decide) h.rg e h2 i hi hl
 refine sapply_345 hput p w 128 hwk (by decide) h.rg e (by omega) (fun q => can123 hc (.inr (.inr q))) (fun q => ?_) (fun q => ?_)
 . obtain ⟨c1, c2, _⟩ := WV.can4 hc (by omega)
   exact ⟨c1, c2⟩
 . obtain ⟨c1, c2, c3⟩ := WV.can4 hc (.inl q)
   rw [h.al] at c2
   have := h.tm hp c1 c2 (c3 q)
   exact ⟨this.1.1, by have := this.1.2; omega, fun x hx => by have := (this.2 x hx).al hp; omega⟩
theorem touch_len' (p : Prg) (w : Wld) (e : Evt) : (touchV p w e).length <= (wouldV p w e).length + 1 := by
 unfold touchV
 split
 . split
   . rename_i n _
     have h1 := compI_len (sortI (n.to :: (wouldV p w e).map Nt.to))
     rw [(sortI_perm _).length_eq] at h1
     simp at h1
     omega
   . simp
 . split
   . split
     . simp
     . have h1 := compI_len (sortI (e.who :: (wouldV p w e).map Nt.to))
       rw [(sortI_perm _).length_eq] at h1
       simp at h1
       omega
   . simp
theorem sokG (hput : PutAll) (c : Cfg) (h : COk c) : SOk c (fun _ w => WV c.p w) (fun e => 1 <= e.kind /\ e.kind <= 5) := by
 have hp := pv_of h.fl
 have hwc := h.wc
 unfold wcheckV at hwc
 split at hwc
 . omega
 . rename_i hl8
   rw [if_neg (by simp [h.fl])] at hwc
   have hli := h.li
   simp [limOk] at hli
   refine { hl := by omega, hd := by omega, ok := fun f w hw => ⟨(hw.wk hp).ok (by decide), fun x hx => exOk_of hp (wfirst_zero hwc x hx) (h.im x hx) hw.al, ?_⟩, ap := fun f w hw e he => ?_, tk := fun f w hw e he => ?_, al := fun f w hw e he => (allV_in he).2 }
   . have h1 := allV_le c.b w
     have h2 := hw.ml hp
     have h3 := hw.al
     have h4 := hp.al
     omega
   . obtain ⟨q1, q2⟩ := allV_in he
     exact ⟨hw.ap hput hp q1 q2, hw.apply hp q1⟩
   . have hN := hw.would hp e
     have hwo := (hw.wk hp).ok (by decide)
     refine ⟨?_, by have := touch_len' c.p w e; omega⟩
     by_cases hk : e.kind = 1 \/ e.kind = 2 \/ e.kind = 3
     . exact touch123_pc c.p w hwo (hw.go hp) e (by omega) hk
     . exact touch45_pc c.p w hwo (hw.go hp) e (by omega) (by omega)
theorem taskG_pc (hput : PutAll) (c : Cfg) (h : COk c) : PC Tryz.prog 9 [c.av] ((exploreS c).rep (exploreS c).cut (exploreS c).slept) :=
 task_pc hput c h _ _ (sokG hput c h) (WV.start (pv_of h.fl))
end Go.Gv

namespace Go.Gv
open Go.Proofs
open Go.Proofs
def whyV (c : Cfg) : Int := if wcheckV c.p c.l ≠ 0 then wcheckV c.p c.l else if budOk c.b = true /\ limOk c.depth c.most = true then 0 else 1
theorem cok_of {c : Cfg} (h : whyV c = 0) (hm : ∀ x ∈ c.l, ∀ i ∈ x, i.a <= 9223372036854775807) : COk c := by
 unfold whyV at h
 split at h
 . rename_i q; exact absurd h q
 . rename_i q
   have q : wcheckV c.p c.l = 0 := by simpa using q
   split at h
   . rename_i r
     have hf : flowV c.p = 0 := by
       have q' := q
       unfold wcheckV at q'
       split at q'
       . omega
       . split at q'
         . rename_i t; exact absurd q' t
         . rename_i t; simpa using t
     have hp := pv_of hf
     refine ⟨q, hf, r.1, r.2, hm, by have := hp.al; omega, fun a ha => ?_, by have := hp.bl; omega, fun n hn => ?_⟩
     . have := (actorV_zero (hp.aa a ha)).1
       omega
     . have h1 := (noteV_zero (hp.nt n hn)).2.2.2.2
       have h2 := argsOf_rng hp n.hd
       omega
   . omega
theorem fnew_e (c : Cfg) (hm : ∀ x ∈ c.l, ∀ i ∈ x, i.a <= 9223372036854775807) (h : whyV c ≠ 0) {S : St} {k : AV -> St -> Prop} {u : Dep k}
   (hk : ∀ S', S'.t = S.t -> S.clk <= S'.clk -> (∀ n, n < 268000 \/ 269000 <= n -> S'.blk n = S.blk n) -> k (.tup [.nilp, .agg [.nils, .nils, iv 0, iv 0, iv 0, iv 0], iv (whyV c)]) S') :
   CallG Tryz.prog (.fn 29 []) [c.p.av, c.b.av, watchesAv c.l, limAv c] S k u := by
 have hw := wcheck_pc c.p c.l hm
 have hb := emay_pc c.b
 have hn := ncheck_pc c.depth c.most
 refine callV fnew_get (by simp) (by simp) ?_
 unfold fnew_c
 simp [Prg.av, Bud.av, watchesAv, limAv]
 refine call hw (by simp [Prg.av]) ?_
 by_cases h1 : wcheckV c.p c.l = 0
 . simp [h1]
   refine call hb (by simp [Bud.av]) ?_
   by_cases h2 : budOk c.b = true
   . simp [h2]
     refine call hn (by simp) ?_
     have h3 : limOk c.depth c.most = false := by
       cases e : limOk c.depth c.most
       . rfl
       . exfalso; apply h; unfold whyV; rw [if_neg (by simpa using h1), if_pos ⟨h2, e⟩]
     have hv : whyV c = 1 := by unfold whyV; rw [if_neg (by simpa using h1), if_neg (by simp [h3])]
     rw [hv] at hk
     simp [h3]
     refine hk _ rfl ?_ (fun n hn => by
       have n1 : n ≠ 268004 := by omega
       have n2 : n ≠ 268005 := by omega
       have n3 : n ≠ 268007 := by omega
       have n4 : n ≠ 268009 := by omega
       have n5 : n ≠ 268012 := by omega
       have n6 : n ≠ 268040 := by omega
       simp [n1, n2, n3, n4, n5, n6])
     first | omega | (simp only []; omega) | (simp; omega)
   . have hv : whyV c = 1 := by unfold whyV; rw [if_neg (by simpa using h1), if_neg (by simp [h2])]
     rw [hv] at hk
     simp [h2]
     refine hk _ rfl ?_ (fun n hn => by
       have n1 : n ≠ 268004 := by omega
       have n2 : n ≠ 268005 := by omega
       have n3 : n ≠ 268007 := by omega
       have n4 : n ≠ 268009 := by omega
       have n5 : n ≠ 268012 := by omega
       have n6 : n ≠ 268040 := by omega
       simp [n1, n2, n3, n4, n5, n6])
     first | omega | (simp only []; omega) | (simp; omega)
 . have hv : whyV c = wcheckV c.p c.l := by unfold whyV; rw [if_pos h1]
   rw [hv] at hk
   simp [h1]
   refine hk _ rfl ?_ (fun n hn => by
     have n1 : n ≠ 268004 := by omega
     have n2 : n ≠ 268005 := by omega
     have n3 : n ≠ 268007 := by omega
     have n4 : n ≠ 268009 := by omega
     have n5 : n ≠ 268012 := by omega
     have n6 : n ≠ 268040 := by omega
     simp [n1, n2, n3, n4, n5, n6])
   first | omega | (simp only []; omega) | (simp; omega)
theorem watched_e (c : Cfg) (hm : ∀ x ∈ c.l, ∀ i ∈ x, i.a <= 9223372036854775807) (h : whyV c ≠ 0) :
   PC Tryz.prog 26 [c.p.av, c.b.av, watchesAv c.l, limAv c, .agg [.fn 27 [], .fn 28 []]] (.tup [.agg [.bool false, iv 0, iv 0, .nils], .agg [iv 0, iv 0], iv (whyV c)]) := by
 refine pc_of_get watched_get (by simp) _ (by simp) _ ?_
 unfold watched_c
 simp [Prg.av, Bud.av, watchesAv, limAv]
 refine fnew_e c hm h (fun S1 q1 q2 q3 => ?_)
 have b9 := q3 269009 (by simp)
 have b10 := q3 269010 (by simp)
 have b11 := q3 269011 (by simp)
 have b12 := q3 269012 (by simp)
 simp at b9 b10 b11 b12
 simp [q1, h, b9, b10, b11, b12]
theorem sexplore_e (c : Cfg) (hm : ∀ x ∈ c.l, ∀ i ∈ x, i.a <= 9223372036854775807) (h : whyV c ≠ 0) :
   PC Tryz.prog 19 [c.p.av, c.b.av, watchesAv c.l, limAv c] (.tup [.agg [.bool false, iv 0, iv 0, .nils], .agg [iv 0, iv 0], iv (whyV c)]) := by
 refine pc_of_get sexplore_get (by simp) _ (by simp) _ ?_
 unfold sexplore_c
 simp [Prg.av, Bud.av, watchesAv, limAv]
 refine call (watched_e c hm h) (by simp [Prg.av, Bud.av, watchesAv, limAv]) ?_
 simp
theorem told_e (why : Int) (h : why ≠ 0) : PC Tryz.prog 18 [.agg [.bool false, iv 0, iv 0, .nils], .agg [iv 0, iv 0], iv why] (errRep why) := by
 refine pc_of_get told_get (by simp) _ (by simp) _ ?_
 unfold told_c
 simp [h, errRep]
theorem task_e (c : Cfg) (hm : ∀ x ∈ c.l, ∀ i ∈ x, i.a <= 9223372036854775807) (h : whyV c ≠ 0) : PC Tryz.prog 9 [c.av] (errRep (whyV c)) := by
 refine pc_of_get task_get (by simp) _ (by simp) _ ?_
 unfold task_c
 simp [Cfg.av, watchesAv]
 refine call (sexplore_e c hm h) (by simp [Prg.av, Bud.av, watchesAv, limAv]) ?_
 simp
 refine call (told_e (whyV c) h) (by simp) ?_
 simp [errRep]
end Go.Gv

namespace Go.Gv
open Go.Proofs
end Go.Gv

namespace Go.Gv
open Go.Proofs
def wfound_r0 : List AI := [oA 2 (.box 301002 7 (.t 0)), oA 4 (.mv (.c (.bool false)))]
def wfound_r1 : List AI := [oA 5 (.mv (.c (.int .i64 0)))]
def wfound_r2 : List AI := [oA 6 (.mv (.t 5)), oA 7 (.fld 6 (.t 2)), oA 8 (.load none (.t 7)), oA 9 (.len (.t 8)), oA 10 (.ibin .lss (.t 6) (.t 9))]
def wfound_r3 : List AI := [oA 13 (.fld 6 (.t 2)), oA 14 (.load none (.t 13)), oA 15 (.mv (.t 5)), oA 16 (.idx 2 (.t 14) (.t 15)), oA 17 (.fld 0 (.t 16)), oA 18 (.load none (.t 17)), oA 19 (.mv (.t 1)), oA 20 (.ibin .eql (.t 18) (.t 19))]
def wfound_r4 : List AI := [oA 4 (.mv (.c (.bool true)))]
def wfound_r5 : List AI := [oA 11 (.mv (.t 5)), oA 12 (.ibin .add (.t 11) (.c (.int .i64 1))), oA 5 (.mv (.t 12))]
def wfound_l0 : AC := (.seq (.seq (.reg wfound_r2) (.cond (.t 10) .skip (.exit 0))) (.seq (.block 1 (.seq (.reg wfound_r3) (.cond (.t 20) (.seq (.reg wfound_r4) .ret) .skip))) (.reg wfound_r5)))
def wfound_r6 : List AI := [oA 4 (.mv (.c (.bool false)))]
def wfound_c : AC := (.seq (.reg wfound_r0) (.seq (.seq (.reg wfound_r1) (.block 0 (.loop wfound_l0))) (.seq (.reg wfound_r6) .ret)))
def wfound_res : List ARes := [(.tmp 4)]
set_option maxRecDepth 100000 in
theorem wfound_get : getF Tryz.prog 10 301000 [] = some ("gavotte/gavottetop.found", 21, wfound_c, wfound_res) := by kernel_rfl
def gwatches_r0 : List AI := [oA 2 (.mv (.c (.bool false)))]
def gwatches_r1 : List AI := [oA 3 (.mv (.c (.int .i64 0)))]
def gwatches_r2 : List AI := [oA 4 (.mv (.t 3)), oA 5 (.mv (.t 0)), oA 6 (.len (.t 5)), oA 7 (.ibin .lss (.t 4) (.t 6)), oA 8 (.mv (.t 7)), oG 9 8 true (.mv (.t 3)), oG 10 8 true (.ibin .lss (.t 9) (.c (.int .i64 12))), oA 11 (.pick (.t 8) (.t 10) (.c (.bool false)))]
def gwatches_r3 : List AI := [oA 14 (.mv (.t 0)), oA 15 (.mv (.t 3)), oA 16 (.idx 1 (.t 14) (.t 15)), oA 17 (.load none (.t 16)), oA 18 (.len (.t 17)), oA 19 (.ibin .gtr (.t 18) (.c (.int .i64 70)))]
def gwatches_r4 : List AI := [oA 2 (.mv (.c (.bool false)))]
def gwatches_r5 : List AI := [oA 12 (.mv (.t 3)), oA 13 (.ibin .add (.t 12) (.c (.int .i64 1))), oA 3 (.mv (.t 13))]
def gwatches_l0 : AC := (.seq (.seq (.reg gwatches_r2) (.cond (.t 11) .skip (.exit 0))) (.seq (.block 1 (.seq (.reg gwatches_r3) (.cond (.t 19) (.seq (.reg gwatches_r4) .ret) .skip))) (.reg gwatches_r5)))
def gwatches_r6 : List AI := [oA 20 (.mv (.t 0)), oA 21 (.len (.t 20)), oA 22 (.ibin .leq (.t 21) (.c (.int .i64 10))), oA 2 (.mv (.t 22))]
def gwatches_c : AC := (.seq (.reg gwatches_r0) (.seq (.seq (.reg gwatches_r1) (.block 0 (.loop gwatches_l0))) (.seq (.reg gwatches_r6) .ret)))
def gwatches_res : List ARes := [(.tmp 2)]
set_option maxRecDepth 100000 in
theorem gwatches_get : getF Tryz.prog 16 304000 [] = some ("gavotte/gavottealike.Watches", 23, gwatches_c, gwatches_res) := by kernel_rfl
def gsmall_r0 : List AI := [oA 1 (.box 306001 11 (.t 0)), oA 2 (.mv (.c (.bool false)))]
def gsmall_r1 : List AI := [oA 3 (.fld 0 (.t 1)), oA 4 (.load (some 4) (.t 3)), oC 5 (.c (.fn 15 [])) [(.t 4)], oA 6 (.mv (.t 5)), oG 7 6 true (.fld 4 (.t 1)), oG 8 6 true (.load none (.t 7)), ⟨(some 9), (some (6, true)), (.call (.c (.fn 16 [])) [(.t 8)])⟩, oA 10 (.pick (.t 6) (.t 9) (.c (.bool false))), oA 2 (.mv (.t 10))]
def gsmall_c : AC := (.seq (.reg gsmall_r0) (.seq (.reg gsmall_r1) .ret))
def gsmall_res : List ARes := [(.tmp 2)]
set_option maxRecDepth 100000 in
theorem gsmall_get : getF Tryz.prog 7 306000 [] = some ("gavotte/gavottetop.small", 11, gsmall_c, gsmall_res) := by kernel_rfl
attribute [simp] wfound_r0 wfound_r1 wfound_r2 wfound_r3 wfound_r4 wfound_r5 wfound_r6 wfound_res gwatches_r0 gwatches_r1 gwatches_r2 gwatches_r3 gwatches_r4 gwatches_r5 gwatches_r6 gwatches_res gsmall_r0 gsmall_r1 gsmall_res
theorem wfound_pc (a b c d e f : Int) (fs : List Fnd) (hl : fs.length <= 1000) (i : Int) : PC Tryz.prog 10 [.agg [iv a, iv b, iv c, iv d, iv e, iv f, .lst 2 (fs.map Fnd.av)], iv i] (.bool (fs.any fun x => decide (x.watch = i))) := by
 refine pc_of_get wfound_get (by simp) _ (by simp) _ ?_
 unfold wfound_c
 simp
 refine loopN (fun j S' => S'.t 1 = iv i /\ S'.t 5 = iv j /\ (∃ s, S'.t 2 = .ptr 301002 s 7 0 0 /\ S'.blk 301002 = some ⟨s, 7, [.agg [iv a, iv b, iv c, iv d, iv e, iv f, .lst 2 (fs.map Fnd.av)]]⟩) /\ ∀ x ∈ fs.take j, decide (x.watch = i) = false) fs.length ?_ ?_
 . simp
 . rintro j S' hj ⟨g1, g5, ⟨s, g2, b2⟩, gp⟩
   by_cases hlt : j < fs.length
   . have hw := wrap_succ j _ hlt (by omega)
     have hc : ∀ x : Fnd, x.av.cells = [iv x.watch, evts x.path] := fun _ => rfl
     by_cases hp : fs[j].watch = i
     . simp [wfound_l0, g1, g5, g2, b2, hlt, hc, hp]
       exact ⟨fs[j], List.getElem_mem hlt, hp⟩
     . simp [wfound_l0, g1, g5, g2, b2, hlt, hc, hp, hw]
       intro x hx
       rw [List.take_succ_eq_append_getElem hlt] at hx
       rcases List.mem_append.1 hx with q | q
       . simpa using gp x q
       . rw [List.mem_singleton.1 q]; exact hp
   . have e1 : j = fs.length := by omega
     subst e1
     rw [List.take_length] at gp
     simp [wfound_l0, g1, g5, g2, b2]
     intro x hx
     simpa using gp x hx
def watchesB (l : List (List Ins)) : Bool := (l.take 12).all (fun x => decide (x.length <= 70)) && decide (l.length <= 10)
theorem all_take {α : Type} {q : α -> Bool} {l : List α} {i : Nat} (h : i < l.length) (h1 : (l.take i).all q = true) (h2 : q l[i] = true) : (l.take (i + 1)).all q = true := by
 rw [List.take_succ_eq_append_getElem h, List.all_append, h1]
 simp [h2]
theorem gwatches_pc (l : List (List Ins)) : PC Tryz.prog 16 [watchesAv l] (.bool (watchesB l)) := by
 refine pc_of_get gwatches_get (by simp) _ (by simp) _ ?_
 unfold gwatches_c
 simp [watchesAv]
 refine loopN (fun i S => S.t 0 = watchesAv l /\ S.t 3 = iv i /\ (l.take i).all (fun x => decide (x.length <= 70)) = true) 12 ?_ ?_
 . simp [watchesAv]
 rintro i S hi ⟨g0, g3, ga⟩
 simp only [watchesAv] at g0
 by_cases hlt : i < l.length
 . by_cases h12 : (i : Int) < 12
   . have hw : IntKind.i64.wrap ((i : Int) + 1) = ((i + 1 : Nat) : Int) := by rw [wrap_in _ (by omega) (by omega)]; rfl
     by_cases hq : (70 : Int) < l[i].length
     . have hn : watchesB l = false := by
         unfold watchesB
         have : (l.take 12).all (fun x => decide (x.length <= 70)) = false := by
           cases e : (l.take 12).all (fun x => decide (x.length <= 70)) with
           | false => rfl
           | true =>
             have hm : l[i] ∈ l.take 12 := by
               rw [List.mem_iff_getElem]
               exact ⟨i, by simp; omega, by simp⟩
             have := List.all_eq_true.1 e _ hm
             simp at this
             omega
         rw [this]; rfl
       rw [hn]
       simp [gwatches_l0, g3, g0, hlt, h12, hq]
     . have hn := all_take (q := fun x : List Ins => decide (x.length <= 70)) hlt ga (by simp; omega)
       simp [gwatches_l0, g3, g0, hlt, h12, hq, hw]
       exact ⟨by omega, rfl, by simpa using hn⟩
   . have hv : watchesB l = decide ((l.length : Int) <= 10) := by
       unfold watchesB
       rw [show decide (l.length <= 10) = false by simp; omega, Bool.and_false]
       symm; simp; omega
     rw [hv]
     simp [gwatches_l0, g3, g0, hlt, h12]
 . have e1 : l.take 12 = l.take i := by rw [List.take_of_length_le (by omega), List.take_of_length_le (by omega)]
   have hv : watchesB l = decide ((l.length : Int) <= 10) := by
     unfold watchesB
     rw [e1, ga, Bool.true_and]
     exact decide_eq_decide.2 (by omega)
   rw [hv]
   simp [gwatches_l0, g3, g0, hlt]
def Cfg.small (c : Cfg) : Bool := decide (smallV c.p) && watchesB c.l
theorem gsmall_pc (c : Cfg) : PC Tryz.prog 7 [c.av] (.bool c.small) := by
 refine pc_of_get gsmall_get (by simp) _ (by simp) _ ?_
 unfold gsmall_c
 simp [Cfg.av, watchesAv]
 refine call (small_pc c.p) (by simp [Prg.av]) ?_
 by_cases h : smallV c.p
 . simp [h]
   refine call (gwatches_pc c.l) (by simp [watchesAv]) ?_
   simp [Cfg.small, h]
 . simp [h, Cfg.small]
end Go.Gv

namespace Go.Gv
open Go.Proofs
def nodesL (rec : Wld -> List Evt -> List Wld) (p : Prg) (w : Wld) (sl : List Evt) : List Evt -> List Evt -> List Wld
 | _, [] => []
 | dn, e :: r => rec (applyV p w e) (stillV p w (sl ++ dn) e) ++ nodesL rec p w sl (dn ++ [e]) r
def awkE (b : Bud) (w : Wld) (sl : List Evt) : List Evt := (allV b w).filter fun e => !sl.contains e
def nodes (p : Prg) (b : Bud) : Nat -> Wld -> List Evt -> List Wld
 | 0, w, _ => [w]
 | f + 1, w, sl => w :: nodesL (nodes p b f) p w sl [] (awkE b w sl)
structure Vis (c : Cfg) (s r : Sr) (L : List Wld) : Prop where
 w : r.worlds = s.worlds + L.length
 f : ∀ k : Int, (r.found.any fun x => decide (x.watch = k)) = true ↔ (s.found.any fun x => decide (x.watch = k)) = true \/ ∃ w ∈ L, k ∈ badV w c.l
theorem addF_any (s : Sr) (k : Int) : ∀ (l : List Int) (f : List Fnd), ((addF s l f).any fun x => decide (x.watch = k)) = true ↔ (f.any fun x => decide (x.watch = k)) = true \/ k ∈ l
 | [], f => by simp [addF]
 | i :: l, f => by
   unfold addF
   rw [addF_any s k l]
   by_cases ha : (f.any fun x => decide (x.watch = i)) = true
   . rw [if_pos ha]
     by_cases hki : k = i
     . subst hki; simp only [ha, true_or]
     . rw [List.mem_cons]; simp only [hki, false_or]
   . rw [if_neg ha, List.any_append]
     by_cases hki : k = i
     . subst hki; simp
     . rw [List.mem_cons]
       simp only [hki, false_or]
       have : (([⟨i, s.path⟩] : List Fnd).any fun x => decide (x.watch = k)) = false := by simp [Ne.symm hki]
       rw [this, Bool.or_false]
theorem vis_enter (c : Cfg) (s : Sr) (w : Wld) (h0 : 0 <= s.worlds) (h1 : s.worlds < 4611686018427387904) (he : (enterV c s w).ended = false) : Vis c s (enterV c s w) [w] /\ (enterV c s w).path = s.path := by
 refine ⟨?_, enterV_path c s w⟩
 unfold enterV at he ⊢
 split
 . rename_i q
   rw [if_pos q] at he
   cases he
 . refine ⟨?_, fun k => ?_⟩
   . show w64 (s.worlds + 1) = s.worlds + ((1 : Nat) : Int)
     exact wrap_in _ (by omega) (by omega)
   . simp only []
     rw [addF_any]
     simp
theorem Vis.trans {c : Cfg} {s r t : Sr} {L M : List Wld} (h : Vis c s r L) (k : Vis c r t M) : Vis c s t (L ++ M) := by
 refine ⟨by rw [k.w, h.w, List.length_append]; omega, fun i => ?_⟩
 rw [k.f, h.f]
 constructor
 . rintro ((a | ⟨w, a, b⟩) | ⟨w, a, b⟩)
   . exact .inl a
   . exact .inr ⟨w, List.mem_append.2 (.inl a), b⟩
   . exact .inr ⟨w, List.mem_append.2 (.inr a), b⟩
 . rintro (a | ⟨w, a, b⟩)
   . exact .inl (.inl a)
   . rcases List.mem_append.1 a with q | q
     . exact .inl (.inr ⟨w, q, b⟩)
     . exact .inr ⟨w, q, b⟩
theorem Vis.same {c : Cfg} {s s' r r' : Sr} {L : List Wld} (h : Vis c s r L) (h1 : s'.worlds = s.worlds) (h2 : s'.found = s.found) (h3 : r'.worlds = r.worlds) (h4 : r'.found = r.found) : Vis c s' r' L :=
 ⟨by rw [h1, h3]; exact h.w, fun k => by rw [h2, h4]; exact h.f k⟩
def VisF (c : Cfg) (f : Nat) : Prop := ∀ (s : Sr) (w : Wld) (sl : List Evt), (s.path.length : Int) + f = c.depth -> 0 <= s.worlds -> s.worlds + (nodes c.p c.b f w sl).length < 4611686018427387904 -> (visitS c (f + 1) s w sl).ended = false -> Vis c s (visitS c (f + 1) s w sl) (nodes c.p c.b f w sl)
theorem visL (c : Cfg) (f : Nat) (hrec : VisF c f) (w : Wld) (sl : List Evt) : ∀ (l dn : List Evt) (s : Sr), (s.path.length : Int) + (f + 1 : Nat) = c.depth -> 0 <= s.worlds -> s.worlds + (nodesL (nodes c.p c.b f) c.p w sl dn l).length < 4611686018427387904 ->
   (loopS (visitS c (f + 1)) c w sl dn l s).ended = false -> Vis c s (loopS (visitS c (f + 1)) c w sl dn l s) (nodesL (nodes c.p c.b f) c.p w sl dn l)
 | [], dn, s, _, _, _, _ => ⟨by simp [loopS, nodesL], fun k => by simp [loopS, nodesL]⟩
 | e :: l, dn, s, hp, h0, hb, he => by
   unfold loopS at he ⊢
   unfold nodesL at hb ⊢
   simp only [] at he ⊢
   rw [List.length_append] at hb
   have hpa := visitS_path c (f + 1) { s with path := s.path ++ [e] } (applyV c.p w e) (stillV c.p w (sl ++ dn) e)
   have hr := hrec { s with path := s.path ++ [e] } (applyV c.p w e) (stillV c.p w (sl ++ dn) e) (by simp; omega) h0 (by simp only []; omega)
   generalize visitS c (f + 1) { s with path := s.path ++ [e] } (applyV c.p w e) (stillV c.p w (sl ++ dn) e) = A at he hr hpa ⊢
   by_cases ha : A.ended = true
   . rw [if_pos ha] at he
     rw [ha] at he; cases he
   . rw [if_neg ha] at he ⊢
     have hv := hr (by simpa using ha)
     have hw := hv.w
     simp only [] at hw
     have ih := visL c f hrec w sl l (dn ++ [e]) { A with path := A.path.dropLast } (by simp only [hpa]; simp; omega) (by simp only []; omega) (by simp only []; omega) he
     exact (hv.same (s' := s) (r' := A) rfl rfl rfl rfl).trans (ih.same (s' := A) rfl rfl rfl rfl)
theorem vis (c : Cfg) : ∀ f, VisF c f
 | 0 => by
   intro s w sl hp h0 hb he
   unfold visitS at he ⊢
   simp only [] at he ⊢
   have hve := vis_enter c s w h0 (by simp [nodes] at hb; omega)
   generalize enterV c s w = A at he hve ⊢
   by_cases ha : A.ended = true
   . rw [if_pos ha] at he
     rw [ha] at he; cases he
   . obtain ⟨hv, hpa⟩ := hve (by simpa using ha)
     rw [if_neg ha]
     have hd : decide (c.depth <= (A.path.length : Int)) = true := by rw [hpa]; simp; omega
     rw [if_pos (.inl hd), if_neg (by rw [hd]; simp)]
     exact hv.same rfl rfl rfl rfl
 | f + 1 => by
   intro s w sl hp h0 hb he
   unfold visitS at he ⊢
   simp only [] at he ⊢
   unfold nodes at hb ⊢
   rw [List.length_cons] at hb
   have hve := vis_enter c s w h0 (by omega)
   generalize enterV c s w = A at he hve ⊢
   by_cases ha : A.ended = true
   . rw [if_pos ha] at he
     rw [ha] at he; cases he
   . obtain ⟨hv, hpa⟩ := hve (by simpa using ha)
     rw [if_neg ha] at he ⊢
     have hd : decide (c.depth <= (A.path.length : Int)) = false := by rw [hpa]; simp; omega
     have hA := hv.w
     simp only [List.length_singleton] at hA
     by_cases hn : (allV c.b w).filter (fun e => !sl.contains e) = []
     . rw [if_pos (.inr hn)]
       have e1 : awkE c.b w sl = [] := hn
       rw [e1]
       unfold nodesL
       split
       . exact hv.same rfl rfl rfl rfl
       . exact hv.same rfl rfl rfl rfl
     . rw [if_neg (by rw [hd]; simp only [Bool.false_eq_true, false_or]; exact hn)] at he ⊢
       have := visL c f (vis c f) w sl ((allV c.b w).filter fun e => !sl.contains e) [] _ (by simp only [hpa]; omega) (by simp only []; omega) (by simp only []; unfold awkE at hb; omega) he
       have h2 := hv.trans (this.same (s' := A) rfl rfl rfl rfl)
       exact h2
structure BR (b : Bud) : Prop where
 d : 0 <= b.drop /\ b.drop <= 1000
 u : 0 <= b.dup /\ b.dup <= 1000
 t : 0 <= b.time /\ b.time <= 1000
 c : 0 <= b.crash /\ b.crash <= 1000
structure BLe (b b' : Bud) : Prop where
 d : b.drop <= b'.drop
 u : b.dup <= b'.dup
 t : b.time <= b'.time
 c : b.crash <= b'.crash
def PdE (b : Bud) (w : Wld) (e : Evt) : Bool := paidV (leftV b w) e.kind
theorem lessB_pos {a u : Int} (ha : 0 <= a /\ a <= 1000) (hu : 0 <= u /\ u <= 1000) : 0 < lessB a u ↔ u < a := by
 have e : w64 (a - u) = a - u := wrap_in _ (by omega) (by omega)
 unfold lessB
 rw [e]
 split <;> omega
theorem pd_iff {b : Bud} (hb : BR b) {w : Wld} (hw : BR w.used) (e : Evt) : PdE b w e = true ↔ (e.kind = 2 -> w.used.drop < b.drop) /\ (e.kind = 3 -> w.used.dup < b.dup) /\ (e.kind = 4 -> w.used.time < b.time) /\ (e.kind = 5 -> w.used.crash < b.crash) := by
 unfold PdE paidV leftV
 have h1 := lessB_pos hb.d hw.d
 have h2 := lessB_pos hb.u hw.u
 have h3 := lessB_pos hb.t hw.t
 have h4 := lessB_pos hb.c hw.c
 by_cases k2 : e.kind = 2
 . simp [k2, h1]
 by_cases k3 : e.kind = 3
 . simp [k3, h2]
 by_cases k4 : e.kind = 4
 . simp [k4, h3]
 by_cases k5 : e.kind = 5
 . simp [k5, h4]
 . simp [k2, k3, k4, k5]
theorem postV_used (p : Prg) (w : Wld) (m : Msg) : (postV p w m).used = w.used := by
 rcases postV_cases p w m with h | h <;> rw [h] <;> rfl
theorem giveL_used (p : Prg) (frm first : Int) : ∀ (l : List Nt) (j : Nat) (w : Wld), (giveL p frm first j l w).used = w.used
 | [], _, _ => rfl
 | n :: l, j, w => by
   unfold giveL
   rw [giveL_used p frm first l]
   split
   . exact postV_used p w _
   . rfl
theorem giveV_used (p : Prg) (w : Wld) (frm : Int) (l : List Nt) : (giveV p w frm l).used = w.used := giveL_used _ _ _ _ _ _
theorem BLe.refl (u : Bud) : BLe u u := ⟨Int.le_refl _, Int.le_refl _, Int.le_refl _, Int.le_refl _⟩
theorem w64_succ {a b : Int} (h : 0 <= a /\ a < b) (hb : b <= 1000) : w64 (a + 1) = a + 1 := wrap_in _ (by omega) (by omega)
theorem used_apply {p : Prg} {b : Bud} (hb : BR b) {w : Wld} (hw : BR w.used) {e : Evt} (hp : PdE b w e = true) : BR (applyV p w e).used /\ BLe w.used (applyV p w e).used := by
 obtain ⟨p2, p3, p4, p5⟩ := (pd_iff hb hw e).1 hp
 unfold applyV
 split
 . split
   . simp only []
     split
     . rename_i k2
       have h := p2 k2
       have e1 := w64_succ ⟨hw.d.1, h⟩ hb.d.2
       simp only [e1]
       exact ⟨⟨⟨by have := hw.d; simp only []; omega, by have := hb.d; simp only []; omega⟩, hw.u, hw.t, hw.c⟩, ⟨by simp only []; omega, Int.le_refl _, Int.le_refl _, Int.le_refl _⟩⟩
     . rw [giveV_used]
       exact ⟨hw, .refl _⟩
   . exact ⟨hw, .refl _⟩
 . split
   . rename_i k3
     have h := p3 k3
     have e1 := w64_succ ⟨hw.u.1, h⟩ hb.u.2
     split
     . split
       . rw [postV_used]
         simp only [e1]
         exact ⟨⟨hw.d, ⟨by have := hw.u; simp only []; omega, by have := hb.u; simp only []; omega⟩, hw.t, hw.c⟩, ⟨Int.le_refl _, by simp only []; omega, Int.le_refl _, Int.le_refl _⟩⟩
       . exact ⟨hw, .refl _⟩
     . exact ⟨hw, .refl _⟩
   . split
     . rename_i k4
       have h := p4 k4
       have e1 := w64_succ ⟨hw.t.1, h⟩ hb.t.2
       simp only []
       rw [giveV_used]
       simp only [setL, e1]
       exact ⟨⟨hw.d, hw.u, ⟨by have := hw.t; simp only []; omega, by have := hb.t; simp only []; omega⟩, hw.c⟩, ⟨Int.le_refl _, Int.le_refl _, by simp only []; omega, Int.le_refl _⟩⟩
     . split
       . rename_i k5
         have h := p5 k5
         have e1 := w64_succ ⟨hw.c.1, h⟩ hb.c.2
         simp only [setL, e1]
         exact ⟨⟨hw.d, hw.u, hw.t, ⟨by have := hw.c; simp only []; omega, by have := hb.c; simp only []; omega⟩⟩, ⟨Int.le_refl _, Int.le_refl _, Int.le_refl _, by simp only []; omega⟩⟩
       . exact ⟨hw, .refl _⟩
theorem embL {p : Prg} {b b' : Bud} {rec rec' : Wld -> List Evt -> List Wld} {w : Wld} {sl sl' : List Evt}
   (hrec : ∀ e dn dn', e ∈ allV b' w -> (∀ x, PdE b w x = true -> (x ∈ dn ↔ x ∈ dn')) -> (rec (applyV p w e) (stillV p w (sl ++ dn) e)).Sublist (rec' (applyV p w e) (stillV p w (sl' ++ dn') e))) :
   ∀ (L dn dn' : List Evt), (∀ e ∈ L, e ∈ allV b' w) -> (∀ x, PdE b w x = true -> (x ∈ dn ↔ x ∈ dn')) -> (nodesL rec p w sl dn (L.filter (PdE b w))).Sublist (nodesL rec' p w sl' dn' L)
 | [], dn, dn', _, _ => .slnil
 | e :: L, dn, dn', hL, hd => by
   have hL' : ∀ x ∈ L, x ∈ allV b' w := fun x hx => hL x (by simp [hx])
   by_cases hp : PdE b w e = true
   . rw [List.filter_cons_of_pos hp]
     unfold nodesL
     refine (hrec e dn dn' (hL e (by simp)) hd).append (embL hrec L _ _ hL' (fun x hx => ?_))
     rw [List.mem_append, List.mem_append, hd x hx]
   . rw [List.filter_cons_of_neg hp]
     conv => rhs; unfold nodesL
     refine (embL hrec L dn (dn' ++ [e]) hL' (fun x hx => ?_)).trans (List.sublist_append_right _ _)
     rw [List.mem_append, List.mem_singleton, hd x hx]
     constructor
     . exact fun q => .inl q
     . rintro (q | q)
       . exact q
       . rw [q] at hx; exact absurd hx hp
theorem emb (p : Prg) {b b' : Bud} (hb : BR b) (hb' : BR b') (hle : BLe b b') : ∀ (f f' : Nat), f <= f' -> ∀ (w : Wld) (sl sl' : List Evt), BR w.used -> (∀ x, PdE b w x = true -> (x ∈ sl ↔ x ∈ sl')) -> (nodes p b f w sl).Sublist (nodes p b' f' w sl')
 | 0, 0, _, w, sl, sl', _, _ => List.Sublist.refl _
 | 0, f' + 1, _, w, sl, sl', _, _ => by
   unfold nodes
   exact List.Sublist.cons_cons _ (List.nil_sublist _)
 | f + 1, 0, h, _, _, _, _, _ => absurd h (by omega)
 | f + 1, f' + 1, h, w, sl, sl', hw, hs => by
   unfold nodes
   refine List.Sublist.cons_cons _ ?_
   have e1 : awkE b w sl = (awkE b' w sl').filter (PdE b w) := by
     unfold awkE allV
     rw [List.filter_filter, List.filter_filter, List.filter_filter]
     refine List.filter_congr (fun e _ => ?_)
     show (!sl.contains e && (PdE b w e && canV w e)) = (PdE b w e && !sl'.contains e && (PdE b' w e && canV w e))
     cases hp : PdE b w e with
     | false => simp
     | true =>
       have hp' : PdE b' w e = true := by
         rw [pd_iff hb hw] at hp
         rw [pd_iff hb' hw]
         obtain ⟨q1, q2, q3, q4⟩ := hp
         exact ⟨fun q => by have := q1 q; have := hle.d; omega, fun q => by have := q2 q; have := hle.u; omega, fun q => by have := q3 q; have := hle.t; omega, fun q => by have := q4 q; have := hle.c; omega⟩
       have hc : sl.contains e = sl'.contains e := by
         have := hs e hp
         rw [Bool.eq_iff_iff, List.contains_iff_mem, List.contains_iff_mem]
         exact this
       rw [hp', hc]
       simp
   rw [e1]
   refine embL (fun e dn dn' he hd => ?_) _ [] [] (fun e he => (List.mem_filter.1 he).1) (fun x _ => Iff.rfl)
   have hpe : PdE b' w e = true := by
     have := (List.mem_filter.1 he).2
     rw [Bool.and_eq_true] at this
     exact this.1
   obtain ⟨hu, hle2⟩ := used_apply (p := p) hb' hw hpe
   refine emb p hb hb' hle f f' (by omega) _ _ _ hu (fun x hx => ?_)
   have hx' : PdE b w x = true := by
     rw [pd_iff hb hu] at hx
     rw [pd_iff hb hw]
     obtain ⟨q1, q2, q3, q4⟩ := hx
     exact ⟨fun q => by have := q1 q; have := hle2.d; omega, fun q => by have := q2 q; have := hle2.u; omega, fun q => by have := q3 q; have := hle2.t; omega, fun q => by have := q4 q; have := hle2.c; omega⟩
   unfold stillV
   rw [List.mem_filter, List.mem_filter, List.mem_append, List.mem_append, hs x hx', hd x hx']
def capN : Nat -> Nat
 | 0 => 1
 | f + 1 => 1 + 400 * capN f
theorem nodesL_len {p : Prg} {rec : Wld -> List Evt -> List Wld} {w : Wld} {sl : List Evt} (M : Nat) : ∀ (l dn : List Evt), (∀ e ∈ l, ∀ s, (rec (applyV p w e) s).length <= M) -> (nodesL rec p w sl dn l).length <= l.length * M
 | [], dn, _ => by simp [nodesL]
 | e :: l, dn, h => by
   unfold nodesL
   rw [List.length_append, List.length_cons, Nat.add_mul]
   have h1 := h e (by simp) (stillV p w (sl ++ dn) e)
   have h2 := nodesL_len M l (dn ++ [e]) (fun x hx => h x (by simp [hx])) (sl := sl) (p := p) (rec := rec) (w := w)
   omega
theorem nodes_len {p : Prg} (hp : PV p) (b : Bud) : ∀ (f : Nat) (w : Wld) (sl : List Evt), WV p w -> (nodes p b f w sl).length <= capN f
 | 0, w, sl, _ => by simp [nodes, capN]
 | f + 1, w, sl, h => by
   unfold nodes
   rw [List.length_cons]
   have h1 := nodesL_len (p := p) (rec := nodes p b f) (w := w) (sl := sl) (capN f) (awkE b w sl) [] (fun e he s => by
     have := (List.mem_filter.1 he).1
     exact nodes_len hp b f _ _ (h.apply hp (allV_in this).1))
   have h2 : (awkE b w sl).length <= 400 := by
     unfold awkE
     refine Nat.le_trans (List.length_filter_le _ _) ?_
     have a1 := allV_le b w
     have a2 := h.ml hp
     have a3 := h.al
     have a4 := hp.al
     omega
   have h3 := Nat.mul_le_mul_right (capN f) h2
   unfold capN
   omega
theorem capN_small {f : Nat} (h : f <= 5) : (capN f : Int) < 4611686018427387904 := by
 have : f = 0 \/ f = 1 \/ f = 2 \/ f = 3 \/ f = 4 \/ f = 5 := by omega
 rcases this with rfl | rfl | rfl | rfl | rfl | rfl <;> decide
theorem vis_explore (c : Cfg) (hp : PV c.p) (h0 : 0 <= c.depth) (h5 : c.depth <= 5) (he : (exploreS c).ended = false) : Vis c sr0 (exploreS c) (nodes c.p c.b c.depth.toNat (startV c.p) []) := by
 have h1 := nodes_len hp c.b c.depth.toNat (startV c.p) [] (WV.start hp)
 have h2 := capN_small (f := c.depth.toNat) (by omega)
 exact vis c c.depth.toNat sr0 (startV c.p) [] (by simp [sr0]; omega) (by simp [sr0]) (by simp only [sr0]; omega) he
theorem startV_used (p : Prg) : (startV p).used = ⟨0, 0, 0, 0⟩ := giveV_used _ _ _ _
theorem deeper {c c' : Cfg} (hp : PV c.p) (h1 : c'.p = c.p) (h2 : c'.l = c.l) (hb : BR c.b) (hb' : BR c'.b) (hle : BLe c.b c'.b) (h0 : 0 <= c.depth) (hd : c.depth <= c'.depth) (h5 : c'.depth <= 5) (he : (exploreS c).ended = false) (he' : (exploreS c').ended = false) :
   (∀ k : Int, ((exploreS c).found.any fun x => decide (x.watch = k)) = true -> ((exploreS c').found.any fun x => decide (x.watch = k)) = true) /\ (exploreS c).worlds <= (exploreS c').worlds := by
 have v1 := vis_explore c hp h0 (by omega) he
 have v2 := vis_explore c' (by rw [h1]; exact hp) (by omega) h5 he'
 rw [h1] at v2
 have hs := emb c.p hb hb' hle c.depth.toNat c'.depth.toNat (by omega) (startV c.p) [] [] (by rw [startV_used]; exact ⟨by decide, by decide, by decide, by decide⟩) (fun _ _ => Iff.rfl)
 refine ⟨fun k hk => ?_, ?_⟩
 . rw [v1.f] at hk
   rw [v2.f, h2]
   rcases hk with hk | ⟨w, hw, hb⟩
   . exact .inl hk
   . exact .inr ⟨w, hs.subset hw, hb⟩
 . rw [v1.w, v2.w]
   have := hs.length_le
   omega
end Go.Gv
