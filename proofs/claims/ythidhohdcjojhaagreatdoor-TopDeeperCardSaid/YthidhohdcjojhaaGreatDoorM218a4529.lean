/- Texts of this proof, one behind the other. What is proved, and on which conditions, stands ahead of each. -/
import Derived.Test.YthidhohdcjojhaaGreatDoorProg
import Derived.Test.YthidhohdcjojhaaGreatDoorM20ca99db
import Derived.Test.YthidhohdcjojhaaGreatDoorM19c0ce97

set_option linter.unusedVariables false
set_option linter.unusedSimpArgs false
namespace Go.Gv
open Go.Proofs
section
variable {hs : List Hnd} {code : List Ins}
inductive Rch (hs : List Hnd) (code : List Ins) : Nat -> Int -> Prop
 | start : Rch hs code 0 0
 | step {a : Nat} {d : Int} {i : Ins} {k : Nat} (h : Rch hs code a d) (hi : code[a]? = some i) (h1 : takesV hs i <= d) (h2 : d - takesV hs i + putsV i.op <= 8) (hk : k ∈ nextV a i) : Rch hs code k (d - takesV hs i + putsV i.op)
def Cl (hs : List Hnd) (out : List Int) (most : Int) (a : Nat) (d : Int) (i : Ins) : Prop :=
 takesV hs i <= d /\ d - takesV hs i + putsV i.op <= 8 /\ (∀ k ∈ nextV a i, out[k]? = some (d - takesV hs i + putsV i.op)) /\ d <= most /\ d - takesV hs i + putsV i.op <= most
structure FInv (hs : List Hnd) (code : List Ins) (out : List Int) (most : Int) : Prop where
 len : out.length = code.length + 1
 zero : out[0]? = some 0
 sound : ∀ (a : Nat) (d : Int), out[a]? = some d -> d ≠ -1 -> Rch hs code a d /\ 0 <= d
 att : most = 0 \/ ∃ (a : Nat) (d : Int) (i : Ins), out[a]? = some d /\ d ≠ -1 /\ code[a]? = some i /\ (most = d \/ most = d - takesV hs i + putsV i.op)
 m0 : 0 <= most
structure Good (hs : List Hnd) (code : List Ins) (out : List Int) (most : Int) extends FInv hs code out most where
 closed : ∀ (a : Nat) (d : Int) (i : Ins), out[a]? = some d -> d ≠ -1 -> code[a]? = some i -> Cl hs out most a d i
def Bad (hs : List Hnd) (code : List Ins) : Prop :=
 (∃ (a : Nat) (d : Int) (i : Ins), Rch hs code a d /\ code[a]? = some i /\ (d < takesV hs i \/ d - takesV hs i + putsV i.op > 8)) \/ ∃ k d e, Rch hs code k d /\ Rch hs code k e /\ d ≠ e
theorem Good.rch {out : List Int} {most : Int} (hg : Good hs code out most) {a : Nat} {d : Int} (h : Rch hs code a d) : out[a]? = some d /\ 0 <= d := by
 induction h with
 | start => exact ⟨hg.zero, Int.le_refl _⟩
 | step h hi h1 h2 hk ih =>
   have := putsV_range ‹Ins›.op
   exact ⟨(hg.closed _ _ _ ih.1 (by omega) hi).2.2.1 _ hk, by omega⟩
structure Ext (n : Int) (out out' : List Int) (Q : Nat -> Prop) : Prop where
 len : out'.length = out.length
 keep : ∀ (a : Nat) (d : Int), out[a]? = some d -> d ≠ -1 -> out'[a]? = some d
 new : ∀ (a : Nat) (d : Int), out'[a]? = some d -> d ≠ -1 -> out[a]? = some d \/ (d = n /\ Q a)
theorem Ext.refl (n : Int) (out : List Int) (Q : Nat -> Prop) : Ext n out out Q := ⟨rfl, fun _ _ h _ => h, fun _ _ h _ => .inl h⟩
theorem Ext.trans {n : Int} {a b c : List Int} {Q R : Nat -> Prop} (h : Ext n a b Q) (k : Ext n b c R) (hq : ∀ x, Q x -> R x) : Ext n a c R :=
 ⟨k.len.trans h.len, fun x d h1 h2 => k.keep x d (h.keep x d h1 h2) h2, fun x d h1 h2 => (k.new x d h1 h2).elim (fun q => (h.new x d q h2).imp id (fun r => ⟨r.1, hq _ r.2⟩)) .inr⟩
theorem Ext.set {n : Int} {out : List Int} {k : Nat} (h : out[k]? = some (-1)) (Q : Nat -> Prop) (hq : Q k) : Ext n out (out.set k n) Q := by
 refine ⟨by simp, fun a d h1 h2 => ?_, fun a d h1 h2 => ?_⟩
 . rw [List.getElem?_set]
   split
   . rename_i e; subst e; rw [h] at h1; cases h1; exact absurd rfl h2
   . exact h1
 . rw [List.getElem?_set] at h1
   split at h1
   . rename_i e; subst e
     split at h1
     . cases h1; exact .inr ⟨rfl, hq⟩
     . cases h1
   . exact .inl h1
theorem visitL_ext {n : Int} : ∀ {ks : List Nat} {s s' : List Int × List Nat}, visitL n ks s = some s' -> (n ≠ -1) ->
   Ext n s.1 s'.1 (· ∈ s'.2) /\ (∀ a ∈ s.2, a ∈ s'.2) /\ (∀ a ∈ s'.2, a ∈ s.2 \/ s'.1[a]? = some n) /\ (∀ k ∈ ks, s'.1[k]? = some n)
 | [], s, s', h, _ => by cases h; exact ⟨.refl _ _ _, fun _ h => h, fun _ h => .inl h, by simp⟩
 | k :: ks, s, s', h, hn => by
   simp only [visitL, Option.bind_eq_some_iff] at h
   obtain ⟨s1, h1, h2⟩ := h
   obtain ⟨b1, b2, b3, b4⟩ := visitL_ext h2 hn
   have key : Ext n s.1 s1.1 (· ∈ s1.2) /\ (∀ a ∈ s.2, a ∈ s1.2) /\ (∀ a ∈ s1.2, a ∈ s.2 \/ s1.1[a]? = some n) /\ s1.1[k]? = some n := by
     unfold visit1 at h1
     split at h1
     . rename_i hk
       cases h1
       have hlt := (List.getElem?_eq_some_iff.1 hk).1
       have hset : (s.1.set k n)[k]? = some n := by rw [List.getElem?_set_self hlt]
       refine ⟨.set hk _ (by simp), fun a ha => by simp [ha], fun a ha => ?_, hset⟩
       simp at ha
       rcases ha with ha | ha
       . exact .inl ha
       . subst ha; exact .inr hset
     . split at h1
       . rename_i hk; cases h1; exact ⟨.refl _ _ _, fun _ h => h, fun _ h => .inl h, hk⟩
       . cases h1
   obtain ⟨a1, a2, a3, a4⟩ := key
   refine ⟨a1.trans b1 b2, fun a ha => b2 a (a2 a ha), fun a ha => ?_, fun x hx => ?_⟩
   . rcases b3 a ha with q | q
     . exact (a3 a q).imp id (fun r => b1.keep a n r hn)
     . exact .inr q
   . rcases List.mem_cons.1 hx with rfl | hx
     . exact b1.keep _ n a4 hn
     . exact b4 x hx
theorem visit_only {n : Int} : ∀ {ks : List Nat} {s s' : List Int × List Nat}, visitL n ks s = some s' -> ∀ (x : Nat) (d : Int), s'.1[x]? = some d -> d ≠ -1 -> s.1[x]? = some d \/ x ∈ ks
 | [], s, s', h, x, d, h1, _ => by cases h; exact .inl h1
 | k :: ks, s, s', h, x, d, h1, h2 => by
   simp only [visitL, Option.bind_eq_some_iff] at h
   obtain ⟨s1, q1, q2⟩ := h
   rcases visit_only q2 x d h1 h2 with r | r
   . unfold visit1 at q1
     split at q1
     . cases q1
       rw [List.getElem?_set] at r
       split at r
       . rename_i e; subst e; exact .inr (by simp)
       . exact .inl r
     . split at q1
       . cases q1; exact .inl r
       . cases q1
   . exact .inr (by simp [r])
theorem visitL_none {n : Int} : ∀ {ks : List Nat} {s : List Int × List Nat}, visitL n ks s = none -> (n ≠ -1) -> (∀ k ∈ ks, k < s.1.length) -> ∃ k ∈ ks, ∃ d, s.1[k]? = some d /\ d ≠ -1 /\ d ≠ n
 | [], s, h, _, _ => by cases h
 | k :: ks, s, h, hn, hl => by
   simp only [visitL, Option.bind_eq_none_iff] at h
   have hkl : k < s.1.length := hl k (by simp)
   have hk : s.1[k]? = some s.1[k] := List.getElem?_eq_getElem hkl
   cases h1 : visit1 n s k with
   | none =>
     unfold visit1 at h1
     split at h1
     . cases h1
     . rename_i q1
       split at h1
       . cases h1
       . rename_i q2
         rw [hk] at q1 q2
         exact ⟨k, by simp, _, hk, fun e => q1 (by rw [e]), fun e => q2 (by rw [e])⟩
   | some s1 =>
     have e1 : Ext n s.1 s1.1 (· ∈ s1.2) := (visitL_ext (ks := [k]) (s := s) (s' := s1) (by simp [visitL, h1]) hn).1
     obtain ⟨x, hx, d, q1, q2, q3⟩ := visitL_none (h s1 h1) hn (fun x hx => by rw [e1.len]; exact hl x (by simp [hx]))
     rcases e1.new x d q1 q2 with r | r
     . exact ⟨x, by simp [hx], d, r, q2, q3⟩
     . exact absurd r.1 q3
structure WInv (hs : List Hnd) (code : List Ins) (out : List Int) (left : List Nat) (most : Int) extends FInv hs code out most where
 q : ∀ a ∈ left, ∃ d, out[a]? = some d /\ d ≠ -1
 cl : ∀ (a : Nat) (d : Int) (i : Ins), out[a]? = some d -> d ≠ -1 -> code[a]? = some i -> a ∈ left \/ Cl hs out most a d i
theorem walk_law (hc : codeOk hs code) : ∀ (f : Nat) (out : List Int) (left : List Nat) (most : Int), WInv hs code out left most -> WfW code.length out left -> unr out + left.length < f ->
   (∃ o m, walkGo hs code f out left most = some (o, m) /\ Good hs code o m) \/ (walkGo hs code f out left most = none /\ Bad hs code)
 | 0, _, _, _, _, _, h => by omega
 | f + 1, out, [], most, hI, _, _ => .inl ⟨out, most, rfl, ⟨hI.toFInv, fun a d i h1 h2 h3 => (hI.cl a d i h1 h2 h3).resolve_left (by simp)⟩⟩
 | f + 1, out, a :: left, most, hI, hw, hf => by
   simp only [List.length_cons] at hf
   have hw' : WfW code.length out left := ⟨hw.len, hw.rng, fun x hx => hw.q x (by simp [hx])⟩
   rw [walkGo]
   by_cases ha : a = code.length
   . rw [if_pos ha]
     refine walk_law hc f out left most ⟨hI.toFInv, fun x hx => hI.q x (by simp [hx]), fun x d i h1 h2 h3 => ?_⟩ hw' (by omega)
     rcases hI.cl x d i h1 h2 h3 with q | q
     . rcases List.mem_cons.1 q with q | q
       . have := (List.getElem?_eq_some_iff.1 h3).1; omega
       . exact .inl q
     . exact .inr q
   . rw [if_neg ha]
     have hal := hw.q a (by simp)
     have hlt : a < code.length := by omega
     have hi : code[a]? = some code[a] := List.getElem?_eq_getElem hlt
     obtain ⟨d, hd, hd1⟩ := hI.q a (by simp)
     obtain ⟨hr, hd0⟩ := hI.sound a d hd hd1
     have hp := putsV_range (code[a]).op
     have htk := takesV_range (hc.2 _ (List.getElem_mem hlt)).1
     simp only [hi, hd]
     by_cases hb : d - takesV hs code[a] < 0 \/ d - takesV hs code[a] + putsV (code[a]).op > 8
     . rw [if_pos hb]
       exact .inr ⟨rfl, .inl ⟨a, d, _, hr, hi, by omega⟩⟩
     . rw [if_neg hb]
       have hks := nextV_le hc hi
       have hrk : ∀ k ∈ nextV a code[a], Rch hs code k (d - takesV hs code[a] + putsV (code[a]).op) := fun k hk => .step hr hi (by omega) (by omega) hk
       generalize hn : d - takesV hs code[a] + putsV (code[a]).op = n at hb hrk ⊢
       have hn0 : 0 <= n /\ n <= 8 := by omega
       cases hv : visitL n (nextV a code[a]) (out, left) with
       | none =>
         obtain ⟨k, hk, e, h1, h2, h3⟩ := visitL_none hv (by omega) (fun k hk => by have := hks k hk; have := hI.len; simp only; omega)
         exact .inr ⟨rfl, .inr ⟨k, e, n, (hI.sound k e h1 h2).1, hrk k hk, h3⟩⟩
       | some s =>
         obtain ⟨b1, b2, b3, b4⟩ := visitL_ext hv (by omega)
         obtain ⟨w1, w2⟩ := visitL_ok hv hks hn0 hw'
         simp only at b1 b2 w2
         have hrd := hw.rng d (List.mem_of_getElem? hd)
         refine walk_law hc f s.1 s.2 _ ⟨⟨by rw [b1.len]; exact hI.len, b1.keep 0 0 hI.zero (by omega), ?_, ?_, by have := hI.m0; omega⟩, ?_, ?_⟩ w1 (by omega)
         . intro x e h1 h2
           rcases b1.new x e h1 h2 with q | ⟨q, q'⟩
           . exact hI.sound x e q h2
           . subst q
             rcases visit_only hv x e h1 h2 with r | r
             . exact hI.sound x e r h2
             . exact ⟨hrk x r, hn0.1⟩
         . rcases Int.lt_or_le most (max d n) with hm | hm
           . refine .inr ⟨a, d, _, b1.keep a d hd hd1, hd1, hi, ?_⟩
             rw [hn]; omega
           . have e : max (max most d) n = most := by omega
             rw [e]
             rcases hI.att with q | ⟨x, e, i, h1, h2, h3, h4⟩
             . exact .inl q
             . exact .inr ⟨x, e, i, b1.keep x e h1 h2, h2, h3, h4⟩
         . intro x hx
           rcases b3 x hx with q | q
           . obtain ⟨e, h1, h2⟩ := hI.q x (by simp only at q; simp [q])
             exact ⟨e, b1.keep x e h1 h2, h2⟩
           . exact ⟨n, q, by omega⟩
         . intro x e i h1 h2 h3
           rcases b1.new x e h1 h2 with q | ⟨q, q'⟩
           . by_cases hxa : x = a
             . subst hxa
               rw [hd] at q; cases q
               rw [hi] at h3; cases h3
               refine .inr ⟨by omega, by omega, fun k hk => ?_, by omega, by omega⟩
               rw [hn]; exact b4 k hk
             . rcases hI.cl x e i q h2 h3 with r | ⟨c1, c2, c3, c4, c5⟩
               . rcases List.mem_cons.1 r with r | r
                 . exact absurd r hxa
                 . exact .inl (b2 x r)
               . have := putsV_range i.op
                 exact .inr ⟨c1, c2, fun k hk => b1.keep k _ (c3 k hk) (by omega), by omega, by omega⟩
           . exact .inl q'
theorem Cl.mono {out : List Int} {m n : Int} {a : Nat} {d : Int} {i : Ins} (h : Cl hs out m a d i) (hmn : m <= n) : Cl hs out n a d i :=
 ⟨h.1, h.2.1, h.2.2.1, Int.le_trans h.2.2.2.1 hmn, Int.le_trans h.2.2.2.2 hmn⟩
theorem start_inv : FInv hs code ((List.replicate (code.length + 1) (-1)).set 0 0) 0 := by
 refine ⟨by simp, by simp [List.replicate_succ], fun a d h1 h2 => ?_, .inl rfl, Int.le_refl _⟩
 rw [List.getElem?_set] at h1
 split at h1
 . rename_i e; subst e
   simp at h1; subst h1
   exact ⟨.start, Int.le_refl _⟩
 . have := List.eq_of_mem_replicate (List.mem_of_getElem? h1)
   exact absurd this h2
theorem start_rng : ∀ x ∈ ((List.replicate (code.length + 1) (-1)).set 0 0 : List Int), -1 <= x /\ x <= 8 := by
 intro x hx
 rcases List.mem_or_eq_of_mem_set hx with hx | hx
 . have := List.eq_of_mem_replicate hx; omega
 . omega
theorem start_unr : unr ((List.replicate (code.length + 1) (-1)).set 0 0) = code.length := by
 simp [unr, List.replicate_succ, List.countP_replicate]
theorem walk_good (hc : codeOk hs code) : (∃ o m, walkV hs code = some (o, m) /\ Good hs code o m) \/ (walkV hs code = none /\ Bad hs code) := by
 refine walk_law hc _ _ _ _ ⟨start_inv, ?_, ?_⟩ ⟨by simp, start_rng, by simp⟩ (by rw [start_unr]; simp)
 . intro a ha
   simp at ha; subst ha
   exact ⟨0, by simp [List.replicate_succ], by omega⟩
 . intro a d i h1 h2 _
   rw [List.getElem?_set] at h1
   split at h1
   . rename_i e; subst e; exact .inl (by simp)
   . have := List.eq_of_mem_replicate (List.mem_of_getElem? h1)
     exact absurd this h2
end
end Go.Gv

namespace Go.Gv
open Go.Proofs
def argsN (F : Fx) (a : Int) : Nat := (argsOf F.p.hs a).toNat
def doV (F : Fx) (i : Ins) (m : Mach) : Mach × Int :=
 if i.op = 1 then ({ m with pc := m.pc + 1, st := m.st ++ [i.a] }, 0)
 else if i.op = 2 then ({ m with pc := m.pc + 1, st := m.st.dropLast }, 0)
 else if i.op = 3 then ({ m with pc := m.pc + 1, st := m.st ++ [top m.st] }, 0)
 else if i.op = 4 then ({ m with pc := m.pc + 1, st := m.st.dropLast.dropLast ++ [top m.st, top m.st.dropLast] }, 0)
 else if i.op = 5 then ({ m with pc := m.pc + 1, st := m.st ++ [loadV m i.a] }, 0)
 else if i.op = 6 then ({ m with pc := m.pc + 1, st := m.st.dropLast, regs := if i.a < m.regs.length then m.regs.set i.a.toNat (top m.st) else m.regs }, 0)
 else if i.op = 7 then ({ m with pc := m.pc + 1, st := m.st ++ [(F.args[i.a.toNat]?).getD 0] }, 0)
 else if i.op = 8 then ({ m with pc := m.pc + 1, st := m.st ++ [F.who] }, 0)
 else if i.op = 20 then ({ m with pc := i.a }, 0)
 else if i.op = 21 then ({ m with pc := if top m.st = 0 then i.a else m.pc + 1, st := m.st.dropLast }, 0)
 else if i.op = 22 then
   (if top m.st < 0 \/ top m.st >= F.p.as.length then ({ m with pc := m.pc + 1, st := m.st.dropLast }, 4)
    else ({ m with pc := m.pc + 1, st := m.st.take (m.st.length - 1 - argsN F i.a), notes := m.notes ++ [⟨top m.st, i.a, m.st.dropLast.drop (m.st.length - 1 - argsN F i.a)⟩] }, 0))
 else if i.op = 23 then ({ m with pc := m.pc + 1, armed := m.armed || !decide ((F.p.as[F.who.toNat]?.map Actr.timer).getD 0 = -1) }, 0)
 else if i.op = 24 then ({ m with pc := m.pc + 1, armed := false }, 0)
 else if i.op = 25 then ({ m with pc := -1 }, 0)
 else if (oneV i.op (top m.st)).2 = true then ({ m with pc := m.pc + 1, st := m.st.dropLast ++ [(oneV i.op (top m.st)).1] }, 0)
 else ({ m with pc := m.pc + 1, st := m.st.dropLast.dropLast ++ [(twoV i.op (top m.st.dropLast) (top m.st)).1] }, (twoV i.op (top m.st.dropLast) (top m.st)).2)
structure DoOk (F : Fx) (i : Ins) (m : Mach) : Prop where
 op : 1 <= i.op /\ i.op <= 25
 takes : takesV F.p.hs i <= m.st.length
 reg : i.op = 5 \/ i.op = 6 -> 0 <= i.a
 arg : i.op = 7 -> 0 <= i.a /\ i.a.toNat < F.args.length
 snd : i.op = 22 -> 0 <= i.a /\ i.a.toNat < F.p.hs.length /\ 0 <= argsOf F.p.hs i.a
 who : 0 <= F.who /\ F.who.toNat < F.p.as.length
 rl : m.regs.length <= 1000
 nl : m.notes.length < 1000
 pc : 0 <= m.pc /\ m.pc < 1000
 sl : m.st.length < 900
theorem do_v (F : Fx) (st : Nat) (m : Mach) (i : Ins) (ok : DoOk F i m) {S : St} {k : AV -> St -> Prop} {u : Dep k} (harg : ArgIs F S) (h : MS F st m S)
   (hk : ∀ S', Fr Lm S S' -> MS F st (doV F i m).1 S' -> k (iv (doV F i m).2) S') : CallG Tryz.prog (.fn 216 []) [.ptr 84026 st 14 0 0, i.av] S k u := by
 obtain ⟨⟨o1, o2⟩, tk, rg, ag, sd, ⟨w1, w2⟩, rl, nl, pc, sl⟩ := ok
 have tk' : popsV i.op <= m.st.length := by
   have : 0 <= (if i.op = 22 then argsOf F.p.hs i.a else 0) := by
     split
     . exact (sd ‹_›).2.2
     . omega
   unfold takesV at tk; omega
 rcases lit25 o1 o2 with e | e | e | e | e | e | e | e | e | e | e | e | e | e | e | e | e | e | e | e | e | e | e | e | e
 ·
   have tp : popsV 1 <= m.st.length := e ▸ tk'
   exact do1_v F st m i e pc sl h (by simpa [doV, e] using hk)
 ·
   have tp : popsV 2 <= m.st.length := e ▸ tk'
   simp only [popsV] at tp
   simp at tp
   exact do2_v F st m i e (by omega) pc sl h (by simpa [doV, e] using hk)
 ·
   have tp : popsV 3 <= m.st.length := e ▸ tk'
   simp only [popsV] at tp
   simp at tp
   exact do3_v F st m i e (by omega) pc sl h (by simpa [doV, e] using hk)
 ·
   have tp : popsV 4 <= m.st.length := e ▸ tk'
   simp only [popsV] at tp
   simp at tp
   exact do4_v F st m i e (by omega) pc sl h (by simpa [doV, e] using hk)
 ·
   have tp : popsV 5 <= m.st.length := e ▸ tk'
   exact do5_v F st m i e (rg (.inl e)) rl pc sl h (by simpa [doV, e] using hk)
 ·
   have tp : popsV 6 <= m.st.length := e ▸ tk'
   simp only [popsV] at tp
   simp at tp
   exact do6_v F st m i e (by omega) (rg (.inr e)) rl pc sl h (by simpa [doV, e] using hk)
 ·
   have tp : popsV 7 <= m.st.length := e ▸ tk'
   exact do7_v F st m i e (ag e).1 (ag e).2 pc sl harg h (by simpa [doV, e, List.getElem?_eq_getElem (ag e).2] using hk)
 ·
   have tp : popsV 8 <= m.st.length := e ▸ tk'
   exact do8_v F st m i e pc sl h (by simpa [doV, e] using hk)
 ·
   have tp : popsV 9 <= m.st.length := e ▸ tk'
   simp only [popsV] at tp
   simp at tp
   have ho : (oneV i.op (top m.st)).2 = false := by simp [oneV, e]
   have hd : doV F i m = ({ m with pc := m.pc + 1, st := m.st.dropLast.dropLast ++ [(twoV i.op (top m.st.dropLast) (top m.st)).1] }, (twoV i.op (top m.st.dropLast) (top m.st)).2) := by
     unfold doV; rw [if_neg (by omega), if_neg (by omega), if_neg (by omega), if_neg (by omega), if_neg (by omega), if_neg (by omega), if_neg (by omega), if_neg (by omega), if_neg (by omega), if_neg (by omega), if_neg (by omega), if_neg (by omega), if_neg (by omega), if_neg (by omega), if_neg (by rw [ho]; simp)]
   rw [hd] at hk
   exact doc2_v F st m i (by omega) (by omega) ho pc sl h hk
 ·
   have tp : popsV 10 <= m.st.length := e ▸ tk'
   simp only [popsV] at tp
   simp at tp
   have ho : (oneV i.op (top m.st)).2 = false := by simp [oneV, e]
   have hd : doV F i m = ({ m with pc := m.pc + 1, st := m.st.dropLast.dropLast ++ [(twoV i.op (top m.st.dropLast) (top m.st)).1] }, (twoV i.op (top m.st.dropLast) (top m.st)).2) := by
     unfold doV; rw [if_neg (by omega), if_neg (by omega), if_neg (by omega), if_neg (by omega), if_neg (by omega), if_neg (by omega), if_neg (by omega), if_neg (by omega), if_neg (by omega), if_neg (by omega), if_neg (by omega), if_neg (by omega), if_neg (by omega), if_neg (by omega), if_neg (by rw [ho]; simp)]
   rw [hd] at hk
   exact doc2_v F st m i (by omega) (by omega) ho pc sl h hk
 ·
   have tp : popsV 11 <= m.st.length := e ▸ tk'
   simp only [popsV] at tp
   simp at tp
   have ho : (oneV i.op (top m.st)).2 = false := by simp [oneV, e]
   have hd : doV F i m = ({ m with pc := m.pc + 1, st := m.st.dropLast.dropLast ++ [(twoV i.op (top m.st.dropLast) (top m.st)).1] }, (twoV i.op (top m.st.dropLast) (top m.st)).2) := by
     unfold doV; rw [if_neg (by omega), if_neg (by omega), if_neg (by omega), if_neg (by omega), if_neg (by omega), if_neg (by omega), if_neg (by omega), if_neg (by omega), if_neg (by omega), if_neg (by omega), if_neg (by omega), if_neg (by omega), if_neg (by omega), if_neg (by omega), if_neg (by rw [ho]; simp)]
   rw [hd] at hk
   exact doc2_v F st m i (by omega) (by omega) ho pc sl h hk
 ·
   have tp : popsV 12 <= m.st.length := e ▸ tk'
   simp only [popsV] at tp
   simp at tp
   have ho : (oneV i.op (top m.st)).2 = false := by simp [oneV, e]
   have hd : doV F i m = ({ m with pc := m.pc + 1, st := m.st.dropLast.dropLast ++ [(twoV i.op (top m.st.dropLast) (top m.st)).1] }, (twoV i.op (top m.st.dropLast) (top m.st)).2) := by
     unfold doV; rw [if_neg (by omega), if_neg (by omega), if_neg (by omega), if_neg (by omega), if_neg (by omega), if_neg (by omega), if_neg (by omega), if_neg (by omega), if_neg (by omega), if_neg (by omega), if_neg (by omega), if_neg (by omega), if_neg (by omega), if_neg (by omega), if_neg (by rw [ho]; simp)]
   rw [hd] at hk
   exact doc2_v F st m i (by omega) (by omega) ho pc sl h hk
 ·
   have tp : popsV 13 <= m.st.length := e ▸ tk'
   simp only [popsV] at tp
   simp at tp
   have ho : (oneV i.op (top m.st)).2 = false := by simp [oneV, e]
   have hd : doV F i m = ({ m with pc := m.pc + 1, st := m.st.dropLast.dropLast ++ [(twoV i.op (top m.st.dropLast) (top m.st)).1] }, (twoV i.op (top m.st.dropLast) (top m.st)).2) := by
     unfold doV; rw [if_neg (by omega), if_neg (by omega), if_neg (by omega), if_neg (by omega), if_neg (by omega), if_neg (by omega), if_neg (by omega), if_neg (by omega), if_neg (by omega), if_neg (by omega), if_neg (by omega), if_neg (by omega), if_neg (by omega), if_neg (by omega), if_neg (by rw [ho]; simp)]
   rw [hd] at hk
   exact doc2_v F st m i (by omega) (by omega) ho pc sl h hk
 ·
   have tp : popsV 14 <= m.st.length := e ▸ tk'
   simp only [popsV] at tp
   simp at tp
   have ho : (oneV i.op (top m.st)).2 = true := by simp [oneV, e]
   have hd : doV F i m = ({ m with pc := m.pc + 1, st := m.st.dropLast ++ [(oneV i.op (top m.st)).1] }, 0) := by
     unfold doV; rw [if_neg (by omega), if_neg (by omega), if_neg (by omega), if_neg (by omega), if_neg (by omega), if_neg (by omega), if_neg (by omega), if_neg (by omega), if_neg (by omega), if_neg (by omega), if_neg (by omega), if_neg (by omega), if_neg (by omega), if_neg (by omega), if_pos ho]
   rw [hd] at hk
   exact doc1_v F st m i (by omega) (by omega) ho pc sl h hk
 ·
   have tp : popsV 15 <= m.st.length := e ▸ tk'
   simp only [popsV] at tp
   simp at tp
   have ho : (oneV i.op (top m.st)).2 = false := by simp [oneV, e]
   have hd : doV F i m = ({ m with pc := m.pc + 1, st := m.st.dropLast.dropLast ++ [(twoV i.op (top m.st.dropLast) (top m.st)).1] }, (twoV i.op (top m.st.dropLast) (top m.st)).2) := by
     unfold doV; rw [if_neg (by omega), if_neg (by omega), if_neg (by omega), if_neg (by omega), if_neg (by omega), if_neg (by omega), if_neg (by omega), if_neg (by omega), if_neg (by omega), if_neg (by omega), if_neg (by omega), if_neg (by omega), if_neg (by omega), if_neg (by omega), if_neg (by rw [ho]; simp)]
   rw [hd] at hk
   exact doc2_v F st m i (by omega) (by omega) ho pc sl h hk
 ·
   have tp : popsV 16 <= m.st.length := e ▸ tk'
   simp only [popsV] at tp
   simp at tp
   have ho : (oneV i.op (top m.st)).2 = false := by simp [oneV, e]
   have hd : doV F i m = ({ m with pc := m.pc + 1, st := m.st.dropLast.dropLast ++ [(twoV i.op (top m.st.dropLast) (top m.st)).1] }, (twoV i.op (top m.st.dropLast) (top m.st)).2) := by
     unfold doV; rw [if_neg (by omega), if_neg (by omega), if_neg (by omega), if_neg (by omega), if_neg (by omega), if_neg (by omega), if_neg (by omega), if_neg (by omega), if_neg (by omega), if_neg (by omega), if_neg (by omega), if_neg (by omega), if_neg (by omega), if_neg (by omega), if_neg (by rw [ho]; simp)]
   rw [hd] at hk
   exact doc2_v F st m i (by omega) (by omega) ho pc sl h hk
 ·
   have tp : popsV 17 <= m.st.length := e ▸ tk'
   simp only [popsV] at tp
   simp at tp
   have ho : (oneV i.op (top m.st)).2 = false := by simp [oneV, e]
   have hd : doV F i m = ({ m with pc := m.pc + 1, st := m.st.dropLast.dropLast ++ [(twoV i.op (top m.st.dropLast) (top m.st)).1] }, (twoV i.op (top m.st.dropLast) (top m.st)).2) := by
     unfold doV; rw [if_neg (by omega), if_neg (by omega), if_neg (by omega), if_neg (by omega), if_neg (by omega), if_neg (by omega), if_neg (by omega), if_neg (by omega), if_neg (by omega), if_neg (by omega), if_neg (by omega), if_neg (by omega), if_neg (by omega), if_neg (by omega), if_neg (by rw [ho]; simp)]
   rw [hd] at hk
   exact doc2_v F st m i (by omega) (by omega) ho pc sl h hk
 ·
   have tp : popsV 18 <= m.st.length := e ▸ tk'
   simp only [popsV] at tp
   simp at tp
   have ho : (oneV i.op (top m.st)).2 = false := by simp [oneV, e]
   have hd : doV F i m = ({ m with pc := m.pc + 1, st := m.st.dropLast.dropLast ++ [(twoV i.op (top m.st.dropLast) (top m.st)).1] }, (twoV i.op (top m.st.dropLast) (top m.st)).2) := by
     unfold doV; rw [if_neg (by omega), if_neg (by omega), if_neg (by omega), if_neg (by omega), if_neg (by omega), if_neg (by omega), if_neg (by omega), if_neg (by omega), if_neg (by omega), if_neg (by omega), if_neg (by omega), if_neg (by omega), if_neg (by omega), if_neg (by omega), if_neg (by rw [ho]; simp)]
   rw [hd] at hk
   exact doc2_v F st m i (by omega) (by omega) ho pc sl h hk
 ·
   have tp : popsV 19 <= m.st.length := e ▸ tk'
   simp only [popsV] at tp
   simp at tp
   have ho : (oneV i.op (top m.st)).2 = true := by simp [oneV, e]
   have hd : doV F i m = ({ m with pc := m.pc + 1, st := m.st.dropLast ++ [(oneV i.op (top m.st)).1] }, 0) := by
     unfold doV; rw [if_neg (by omega), if_neg (by omega), if_neg (by omega), if_neg (by omega), if_neg (by omega), if_neg (by omega), if_neg (by omega), if_neg (by omega), if_neg (by omega), if_neg (by omega), if_neg (by omega), if_neg (by omega), if_neg (by omega), if_neg (by omega), if_pos ho]
   rw [hd] at hk
   exact doc1_v F st m i (by omega) (by omega) ho pc sl h hk
 ·
   have tp : popsV 20 <= m.st.length := e ▸ tk'
   exact do20_v F st m i e pc sl h (by simpa [doV, e] using hk)
 ·
   have tp : popsV 21 <= m.st.length := e ▸ tk'
   simp only [popsV] at tp
   simp at tp
   exact do21_v F st m i e (by omega) pc sl h (by simpa [doV, e] using hk)
 ·
   obtain ⟨a0, a1, a2⟩ := sd e
   have ht : 1 + argsOf F.p.hs i.a <= m.st.length := by
     unfold takesV at tk; rw [if_pos e, e] at tk
     simpa [popsV] using tk
   have hh : F.p.hs[i.a.toNat]? = some F.p.hs[i.a.toNat] := List.getElem?_eq_getElem a1
   have hargs : F.p.hs[i.a.toNat].args = argsOf F.p.hs i.a := by unfold argsOf; rw [hh]; rfl
   have hN : (argsN F i.a : Int) = argsOf F.p.hs i.a := by unfold argsN; omega
   have hb : (m.st.dropLast.drop (m.st.length - 1 - argsN F i.a)).length = argsN F i.a := by simp; omega
   have hx : m.st = m.st.take (m.st.length - 1 - argsN F i.a) ++ m.st.dropLast.drop (m.st.length - 1 - argsN F i.a) ++ [top m.st] := by
     have e1 : m.st.take (m.st.length - 1 - argsN F i.a) = m.st.dropLast.take (m.st.length - 1 - argsN F i.a) := by
       rw [List.dropLast_eq_take, List.take_take, Nat.min_eq_left (by omega)]
     rw [e1, List.take_append_drop]
     exact top_split (by omega)
   have hdl : m.st.take (m.st.length - 1 - argsN F i.a) ++ m.st.dropLast.drop (m.st.length - 1 - argsN F i.a) = m.st.dropLast := by
     have e1 : m.st.take (m.st.length - 1 - argsN F i.a) = m.st.dropLast.take (m.st.length - 1 - argsN F i.a) := by
       rw [List.dropLast_eq_take, List.take_take, Nat.min_eq_left (by omega)]
     rw [e1, List.take_append_drop]
   refine do22_v F st m i e _ _ _ hx a0 _ hh (by rw [hargs, hb, hN]) nl pc sl h ?_ ?_
   . intro hc
     rw [hdl]
     have hd : doV F i m = ({ m with pc := m.pc + 1, st := m.st.dropLast }, 4) := by
       unfold doV; rw [if_neg (by omega), if_neg (by omega), if_neg (by omega), if_neg (by omega), if_neg (by omega), if_neg (by omega), if_neg (by omega), if_neg (by omega), if_neg (by omega), if_neg (by omega), if_pos e, if_pos hc]
     rw [hd] at hk
     exact hk
   . intro hc
     have hd : doV F i m = ({ m with pc := m.pc + 1, st := m.st.take (m.st.length - 1 - argsN F i.a), notes := m.notes ++ [⟨top m.st, i.a, m.st.dropLast.drop (m.st.length - 1 - argsN F i.a)⟩] }, 0) := by
       unfold doV; rw [if_neg (by omega), if_neg (by omega), if_neg (by omega), if_neg (by omega), if_neg (by omega), if_neg (by omega), if_neg (by omega), if_neg (by omega), if_neg (by omega), if_neg (by omega), if_pos e, if_neg hc]
     rw [hd] at hk
     exact hk
 ·
   have tp : popsV 23 <= m.st.length := e ▸ tk'
   have hx : F.p.as[F.who.toNat]? = some F.p.as[F.who.toNat] := List.getElem?_eq_getElem w2
   exact do23_v F st m i e w1 _ hx pc sl h (by simpa [doV, e, hx] using hk)
 ·
   have tp : popsV 24 <= m.st.length := e ▸ tk'
   exact do24_v F st m i e pc sl h (by simpa [doV, e] using hk)
 ·
   have tp : popsV 25 <= m.st.length := e ▸ tk'
   exact do25_v F st m i e pc sl h (by simpa [doV, e] using hk)
end Go.Gv

namespace Go.Gv
open Go.Proofs
def cloneM_r0 : List AI := [oA 2 (.mv (.c .nils))]
def cloneM_r1 : List AI := [oA 3 (.mv (.t 0)), ⟨(some 4), none, (.nq 0 false (.t 3))⟩]
def cloneM_r2 : List AI := [oA 2 (.mv (.c .nils))]
def cloneM_r3 : List AI := [oA 5 (.bslm 1000163000 1 3 0 (.int .i64 0) []), oA 6 (.mv (.t 0)), oA 7 (.appw 1000163000 1 3 8 (.t 5) (.t 6)), oA 2 (.mv (.t 7))]
def cloneM_c : AC := (.seq (.reg cloneM_r0) (.seq (.seq (.reg cloneM_r1) (.cond (.t 4) (.seq (.reg cloneM_r2) .ret) .skip)) (.seq (.reg cloneM_r3) .ret)))
def cloneM_res : List ARes := [(.tmp 2)]
set_option maxRecDepth 100000 in
theorem cloneM_get : getF Tryz.prog 91 163000 [(5, 1000000000), (7, 1000000000)] = some ("slices.Clone[[]int,int]", 8, cloneM_c, cloneM_res) := by kernel_rfl
def mgo_r0 : List AI := [oA 5 (.box 84005 4 (.t 0)), oA 7 (.box 84007 5 (.t 2)), oA 10 (.new 84010 7 (.agg [.nils, (.bool false), (.int .i64 0), (.int .i64 0), (.int .i64 0), .nils, (.int .i64 0)]))]
def mgo_r1 : List AI := [oA 15 (.fld 0 (.t 5)), oA 16 (.load none (.t 15)), oA 17 (.mv (.t 3)), oA 18 (.idx 2 (.t 16) (.t 17)), oA 19 (.fld 1 (.t 18)), oA 20 (.load none (.t 19)), oA 11 (.mv (.t 20))]
def mgo_r2 : List AI := [oA 21 (.load (some 4) (.t 5)), oA 22 (.mv (.t 1)), oA 23 (.mv (.t 4)), oA 24 (.load (some 5) (.t 7)), oA 25 (.build [.nils, .nils, .nils, (.int .i64 0), (.int .i64 0), .nils, .nils, (.bool false), (.int .i64 0), (.int .i64 0), (.int .i64 0), .nils, .nils, (.int .i64 0)] [(0, (4, (.t 21))), (4, (1, (.t 22))), (5, (1, (.t 23))), (6, (5, (.t 24)))]), oA 26 (.box 84026 14 (.t 25)), oA 12 (.mv (.t 26))]
def mgo_r3 : List AI := [oA 27 (.mv (.t 12)), oA 28 (.fld 0 (.t 7)), oA 29 (.load none (.t 28)), oC 30 (.c (.fn 91 [])) [(.t 29)], oA 31 (.nilck (.t 27)), oA 32 (.fld 6 (.t 31)), oA 33 (.fld 0 (.t 32)), oN (.store 1 (.t 33) (.t 30))]
def mgo_r4 : List AI := [oA 13 (.mv (.c (.int .i64 0)))]
def mgo_r5 : List AI := [oA 34 (.mv (.t 12)), oA 35 (.nilck (.t 34)), oA 36 (.fld 13 (.t 35)), oA 37 (.load none (.t 36)), oA 38 (.ibin .geq (.t 37) (.c (.int .i64 0))), oA 39 (.mv (.t 38)), oG 40 39 true (.mv (.t 12)), oG 41 39 true (.nilck (.t 40)), oG 42 39 true (.fld 13 (.t 41)), oG 43 39 true (.load none (.t 42)), oG 44 39 true (.mv (.t 11)), oG 45 39 true (.len (.t 44)), oG 46 39 true (.ibin .lss (.t 43) (.t 45)), oA 47 (.pick (.t 39) (.t 46) (.c (.bool false)))]
def mgo_r6 : List AI := [oA 14 (.mv (.c (.int .i64 2)))]
def mgo_r7 : List AI := [oA 48 (.mv (.t 13)), oA 49 (.fld 3 (.t 5)), oA 50 (.load none (.t 49)), oA 51 (.ibin .lss (.t 48) (.t 50))]
def mgo_r8 : List AI := [oA 52 (.mv (.t 13)), oA 53 (.ibin .add (.t 52) (.c (.int .i64 1))), oA 13 (.mv (.t 53))]
def mgo_r9 : List AI := [oA 54 (.mv (.t 12)), oA 55 (.mv (.t 11)), oA 56 (.mv (.t 12)), oA 57 (.nilck (.t 56)), oA 58 (.fld 13 (.t 57)), oA 59 (.load none (.t 58)), oA 60 (.idx 2 (.t 55) (.t 59)), oA 61 (.load (some 2) (.t 60)), oC 62 (.c (.fn 216 [])) [(.t 54), (.t 61)], oA 14 (.mv (.t 62))]
def mgo_r10 : List AI := [oA 63 (.mv (.t 14)), oA 64 (.ibin .neq (.t 63) (.c (.int .i64 0)))]
def mgo_r11 : List AI := [oA 65 (.fld 0 (.t 7)), oA 66 (.load none (.t 65)), oC 67 (.c (.fn 91 [])) [(.t 66)], oA 68 (.mv (.t 14)), oA 69 (.fld 0 (.t 7)), oN (.store 1 (.t 69) (.t 67)), oA 70 (.fld 2 (.t 7)), oN (.store 1 (.t 70) (.t 68))]
def mgo_r12 : List AI := [oA 71 (.load (some 5) (.t 7)), oA 72 (.mv (.t 13)), oA 73 (.build [.nils, (.bool false), (.int .i64 0), (.int .i64 0), (.int .i64 0), .nils, (.int .i64 0)] [(0, (5, (.t 71))), (6, (1, (.t 72)))]), oN (.store 7 (.t 10) (.t 73))]
def mgo_l0 : AC := (.seq (.seq (.reg mgo_r5) (.cond (.t 47) .skip (.exit 0))) (.block 1 (.seq (.reg mgo_r6) (.seq (.seq (.reg mgo_r7) (.cond (.t 51) (.seq (.reg mgo_r8) (.reg mgo_r9)) .skip)) (.seq (.reg mgo_r10) (.cond (.t 64) (.seq (.reg mgo_r11) (.seq (.reg mgo_r12) .ret)) .skip))))))
def mgo_r13 : List AI := [oA 74 (.mv (.t 12)), oA 75 (.nilck (.t 74)), oA 76 (.fld 6 (.t 75)), oA 77 (.fld 3 (.t 76)), oA 78 (.load none (.t 77)), oA 79 (.mv (.t 12)), oA 80 (.nilck (.t 79)), oA 81 (.fld 12 (.t 80)), oA 82 (.load none (.t 81)), oA 83 (.len (.t 82)), oA 84 (.ibin .add (.t 78) (.t 83)), oA 85 (.nilck (.t 74)), oA 86 (.fld 6 (.t 85)), oA 87 (.fld 3 (.t 86)), oN (.store 1 (.t 87) (.t 84))]
def mgo_p13 : List (List Nat) := [[], [0], [1, 0], [2, 1, 0], [3, 2, 1, 0], [], [5], [6, 5], [7, 6, 5], [8, 7, 6, 5], [4, 9, 3, 2, 1, 0, 8, 7, 6, 5], [0, 1, 2, 3, 4, 5, 6, 7, 8, 9, 10], [11, 0, 1, 2, 3, 4, 5, 6, 7, 8, 9, 10], [12, 0, 1, 2, 3, 4, 5, 6, 7, 8, 9, 10, 11], [13, 10, 0, 1, 2, 3, 4, 5, 6, 7, 8, 9, 12, 11]]
def mgo_r14 : List AI := [oA 88 (.mv (.t 12)), oA 89 (.nilck (.t 88)), oA 90 (.fld 6 (.t 89)), oA 91 (.load (some 5) (.t 90)), oA 92 (.mv (.t 12)), oA 93 (.nilck (.t 92)), oA 94 (.fld 12 (.t 93)), oA 95 (.load none (.t 94)), oA 96 (.mv (.t 13)), oA 97 (.build [.nils, (.bool false), (.int .i64 0), (.int .i64 0), (.int .i64 0), .nils, (.int .i64 0)] [(0, (5, (.t 91))), (5, (1, (.t 95))), (6, (1, (.t 96)))]), oN (.store 7 (.t 10) (.t 97))]
def mgo_p14 : List (List Nat) := [[], [0], [1, 0], [2, 1, 0], [], [4], [5, 4], [6, 5, 4], [], [3, 7, 8, 2, 1, 0, 6, 5, 4], [9, 0, 1, 2, 3, 4, 5, 6, 7, 8]]
def mgo_c : AC := (.seq (.reg mgo_r0) (.seq (.reg mgo_r1) (.seq (.reg mgo_r2) (.seq (.reg mgo_r3) (.seq (.reg mgo_r4) (.seq (.block 0 (.loop mgo_l0)) (.seq (.regd mgo_r13 mgo_p13) (.seq (.regd mgo_r14 mgo_p14) .ret))))))))
def mgo_res : List ARes := [(.cell (some 7) 10)]
set_option maxRecDepth 100000 in
theorem mgo_get : getF Tryz.prog 184 84000 [] = some ("gavotte/vm.Go", 98, mgo_c, mgo_res) := by kernel_rfl
attribute [simp] cloneM_r0 cloneM_r1 cloneM_r2 cloneM_r3 cloneM_res mgo_r0 mgo_r1 mgo_r2 mgo_r3 mgo_r4 mgo_r5 mgo_r6 mgo_r7 mgo_r8 mgo_r9 mgo_r10 mgo_r11 mgo_r12 mgo_r13 mgo_p13 mgo_r14 mgo_p14 mgo_res
theorem clonem_v (l : List Int) (hl : l.length <= 1000) {S : St} {k : AV -> St -> Prop} {u : Dep k}
   (hk : ∀ v S', Fr Lm S S' -> S'.blk 84026 = S.blk 84026 -> RegIs S' v l -> k v S') : CallG Tryz.prog (.fn 91 []) [ints l] S k u := by
 refine callV cloneM_get (by simp) (by simp) ?_
 unfold cloneM_c
 cases l with
 | nil =>
   simp [ints]
   refine opG_none _ _ ?_ ?_
   . simp
     exact hk _ _ (Fr.here (fun n hn => by simp [ne_of_Lm hn, Lm]) (fun n hn => by first | rfl | simp [ne_of_Lm hn, Lm]) (by omega)) rfl (.inl ⟨rfl, rfl⟩)
   . simp
     exact hk _ _ (Fr.here (fun n hn => by simp [ne_of_Lm hn, Lm]) (fun n hn => by first | rfl | simp [ne_of_Lm hn, Lm]) (by omega)) (by simp) (.inr ⟨_, rfl, by simp⟩)
 | cons x l =>
   simp at hl
   simp [ints, show (l.length + 1) * 8 <= 140737488355328 by omega]
   exact hk _ _ (Fr.here (fun n hn => by simp [ne_of_Lm hn, Lm]) (fun n hn => by first | rfl | simp [ne_of_Lm hn, Lm]) (by omega)) (by simp) (.inr ⟨_, rfl, by simp⟩)
theorem RegIs.out {S : St} {v : AV} {xs : List Int} (h : RegIs S v xs) : v.one = true /\ v.cells = [v] := by
 rcases h with ⟨rfl, _⟩ | ⟨st, rfl, _⟩ <;> exact ⟨rfl, rfl⟩
def runG (F : Fx) (code : List Ins) : Nat -> Mach -> Int -> Option Mach × Int × Int
 | 0, m, s => (none, 2, s)
 | f + 1, m, s =>
   if 0 <= m.pc /\ m.pc < code.length then
     (if s < F.p.fuel then
       (match code[m.pc.toNat]? with
        | some i => if (doV F i m).2 ≠ 0 then (none, (doV F i m).2, s + 1) else runG F code f (doV F i m).1 (s + 1)
        | none => (none, 2, s))
      else (none, 2, s))
   else (some m, 0, s)
structure Res where
 l : Lcl
 notes : List Nt
 steps : Int
def Res.av (r : Res) : AV := .agg [ints r.l.regs, .bool r.l.armed, iv r.l.down, iv r.l.sent, iv r.l.over, .lst 3 (r.notes.map Nt.av), iv r.steps]
def fxOf (p : Prg) (who : Int) (l : Lcl) (args : List Int) : Fx := ⟨p, who, args, l.down, l.sent, l.over, ints args⟩
def m0Of (l : Lcl) : Mach := ⟨0, [], l.regs, [], l.armed⟩
def goR (l : Lcl) : Option Mach × Int × Int -> Res
 | (some m, _, s) => ⟨⟨m.regs, m.armed, l.down, w64 (l.sent + m.notes.length), l.over⟩, m.notes, s⟩
 | (none, d, s) => ⟨{ l with down := d }, [], s⟩
def RunOk (F : Fx) (code : List Ins) : Nat -> Mach -> Int -> Prop
 | 0, _, _ => True
 | f + 1, m, s => (0 <= m.pc /\ m.pc < code.length) -> s < F.p.fuel -> ∀ i, code[m.pc.toNat]? = some i -> DoOk F i m /\ ((doV F i m).2 = 0 -> RunOk F code f (doV F i m).1 (s + 1))
theorem ite_notes {c : Prop} [Decidable c] {a b : Mach × Int} {n : Nat} (h1 : a.1.notes.length <= n) (h2 : b.1.notes.length <= n) : (if c then a else b).1.notes.length <= n := by
 by_cases h : c
 . rw [if_pos h]; exact h1
 . rw [if_neg h]; exact h2
theorem doV_notes (F : Fx) (i : Ins) (m : Mach) : (doV F i m).1.notes.length <= m.notes.length + 1 := by
 unfold doV
 repeat' apply ite_notes
 all_goals simp
def GI (F : Fx) (p : Prg) (l : Lcl) (x : Hnd) (R : Option Mach × Int × Int) (f : Nat) (S : St) : Prop :=
 ∃ m s, MS F 15 m S /\ S.t 12 = .ptr 84026 15 14 0 0 /\ S.t 13 = iv s /\ S.t 11 = .lst 2 (x.code.map Ins.av) /\ S.t 5 = .ptr 84005 0 4 0 0 /\ S.t 7 = .ptr 84007 1 5 0 0 /\ S.t 10 = .ptr 84010 2 7 0 0 /\
   S.blk 84005 = some ⟨0, 4, [p.av]⟩ /\ S.blk 84007 = some ⟨1, 5, [l.av]⟩ /\ S.blk 84010 = some ⟨2, 7, [.agg [.nils, .bool false, iv 0, iv 0, iv 0, .nils, iv 0]]⟩ /\ 0 <= s /\ s <= p.fuel /\ (f : Int) = p.fuel - s + 1 /\ runG F x.code f m s = R /\ RunOk F x.code f m s /\ (m.notes.length : Int) <= s
theorem go_pc (p : Prg) (who : Int) (l : Lcl) (h : Int) (args : List Int) (x : Hnd) (h0 : 0 <= h) (hx : p.hs[h.toNat]? = some x) (hf : 0 <= p.fuel /\ p.fuel <= 1000) (hl : l.regs.length <= 1000)
   (hok : RunOk (fxOf p who l args) x.code (p.fuel.toNat + 1) (m0Of l) 0) : PC Tryz.prog 184 [p.av, iv who, l.av, iv h, ints args] (goR l (runG (fxOf p who l args) x.code (p.fuel.toNat + 1) (m0Of l) 0)).av := by
 refine pc_of_get mgo_get (by simp) _ (by simp) _ ?_
 unfold mgo_c
 simp [h0, hx]
 simp [Lcl.av]
 refine clonem_v l.regs hl ?_
 rintro v S1 ⟨ht1, hb1, hk1, hc1⟩ hM hR
 simp at hM
 have hp : S1.blk 84005 = some ⟨0, 4, [p.av]⟩ := by rw [hb1 84005 rfl]; simp [Prg.av]
 have hq : S1.blk 84007 = some ⟨1, 5, [l.av]⟩ := by rw [hb1 84007 rfl]; simp [Lcl.av]
 have hz : S1.blk 84010 = some ⟨2, 7, [.agg [.nils, .bool false, iv 0, iv 0, iv 0, .nils, iv 0]]⟩ := by rw [hb1 84010 rfl]; simp
 obtain ⟨v1, v2⟩ := hR.out
 simp [ht1, hM, v1, v2]
 generalize hF : fxOf p who l args = F at *
 generalize hRR : runG F x.code (p.fuel.toNat + 1) (m0Of l) 0 = R at *
 refine loopM (GI F p l x R) (p.fuel.toNat + 1) ?_ ?_
 . refine ⟨m0Of l, 0, ?_, by simp, by simp, by simp, by simp, by simp, by simp, by simp [hp], by simp [hq], by simp [hz], by omega, by omega, by omega, hRR, hok, by simp [m0Of]⟩
   subst hF
   refine MS.mk' (upd_same _ _ _) ?_ (.inl ⟨rfl, rfl⟩) (.inl ⟨rfl, rfl⟩)
   simpa [RegIs, m0Of] using hR
 . clear hR hM hp hq hz hb1 hk1 hc1 ht1 S1 hRR hok
   rintro f S ⟨m, s, hMS, g12, g13, g11, g5, g7, g10, b5, b7, b10, s0, s1, hfs, hrun, hok, hnl⟩
   obtain ⟨f, rfl⟩ : ∃ f', f = f' + 1 := ⟨f - 1, by omega⟩
   obtain ⟨r, sk, nt, hb, hr, hs, hn⟩ := hMS
   by_cases hpc : 0 <= m.pc /\ m.pc < x.code.length
   . by_cases hsf : s < p.fuel
     . have hat : m.pc.toNat < x.code.length := by omega
       have hget : x.code[m.pc.toNat]? = some x.code[m.pc.toNat] := List.getElem?_eq_getElem hat
       have hpf : F.p.fuel = p.fuel := by rw [<- hF]; rfl
       obtain ⟨hdo, hnx⟩ := hok hpc (by rw [hpf]; exact hsf) _ hget
       have ws : IntKind.i64.wrap (s + 1) = s + 1 := wrap_in _ (by omega) (by omega)
       have hstep : runG F x.code (f + 1) m s = if (doV F x.code[m.pc.toNat] m).2 ≠ 0 then (none, (doV F x.code[m.pc.toNat] m).2, s + 1) else runG F x.code f (doV F x.code[m.pc.toNat] m).1 (s + 1) := by
         rw [runG, if_pos hpc, if_pos (by rw [hpf]; exact hsf), hget]
       rw [hstep] at hrun
       simp [mgo_l0, g12, g13, g11, g5, b5, hb, hpc, hsf, ws, hat]
       refine do_v F 15 m x.code[m.pc.toNat] hdo (.inl (by rw [<- hF]; rfl)) (MS.to ⟨r, sk, nt, hb, hr, hs, hn⟩) ?_
       rintro S1 ⟨ht1, hb1, hk1, hc1⟩ hM1
       have c5 : S1.blk 84005 = some ⟨0, 4, [p.av]⟩ := by rw [hb1 84005 rfl]; simpa using b5
       have c7 : S1.blk 84007 = some ⟨1, 5, [l.av]⟩ := by rw [hb1 84007 rfl]; simpa using b7
       have c10 : S1.blk 84010 = some ⟨2, 7, [.agg [.nils, .bool false, iv 0, iv 0, iv 0, .nils, iv 0]]⟩ := by rw [hb1 84010 rfl]; simpa using b10
       by_cases hd : (doV F x.code[m.pc.toNat] m).2 = 0
       . rw [if_neg (by rw [hd]; simp)] at hrun
         simp [ht1, hd, g12, g11, g5, g7, g10]
         exact ⟨f, by omega, _, s + 1, hM1.to, by simp [g12], by simp, by simp [g11], by simp [g5], by simp [g7], by simp [g10], c5, c7, c10, by omega, by omega, by omega, hrun, hnx hd, by have := doV_notes F x.code[m.pc.toNat] m; omega⟩
       . rw [if_pos hd] at hrun
         simp [ht1, hd, g12, g11, g5, g7, g10, c7]
         refine call (cloneInts_pc l.regs hl) (by simp) ?_
         simp [ht1, g7, g10, c7, c10, Lcl.av]
         rw [<- hrun]
         simp [goR, Res.av]
     . have hrn : runG F x.code (f + 1) m s = (none, 2, s) := by
         have hpf : F.p.fuel = p.fuel := by rw [<- hF]; rfl
         rw [runG, if_pos hpc, if_neg (by rw [hpf]; exact hsf)]
       rw [hrn] at hrun
       simp [mgo_l0, g12, g13, g11, g5, g7, b5, b7, hb, hpc, hsf, Lcl.av]
       refine call (cloneInts_pc l.regs hl) (by simp) ?_
       simp [g7, g10, g13, b7, b10, Lcl.av]
       rw [<- hrun]
       simp [goR, Res.av]
   . have hrn : runG F x.code (f + 1) m s = (some m, 0, s) := by rw [runG, if_neg hpc]
     rw [hrn] at hrun
     have hli : ∀ st blk, blk 1000163000 = some ⟨st, 1, m.regs.map iv⟩ -> listOf blk 1 (.sl 1000163000 st 1 0 m.regs.length) = some (m.regs.map iv) := fun st blk hb => list_ints m.regs blk 1000163000 st hb
     have f1 : F.d = l.down := by rw [<- hF]; rfl
     have f2 : F.s = l.sent := by rw [<- hF]; rfl
     have f3 : F.o = l.over := by rw [<- hF]; rfl
     by_cases h1 : 0 <= m.pc
     . rcases hr with ⟨rfl, e⟩ | ⟨sr, rfl, hr⟩ <;> rcases hn with ⟨rfl, e'⟩ | ⟨sn, rfl, hn⟩
       . simp [mgo_l0, g12, g11, g10, g13, b10, hb, h1, show ¬ m.pc < x.code.length by omega]
         rw [<- hrun]
         simp [goR, Res.av, f1, f2, f3, e, (by simpa using e' : m.notes = [])]
       . simp [mgo_l0, g12, g11, g10, g13, b10, hb, h1, show ¬ m.pc < x.code.length by omega]
         rw [<- hrun]
         simp [goR, Res.av, f1, f2, f3, e]
       . simp [mgo_l0, g12, g11, g10, g13, b10, hb, h1, show ¬ m.pc < x.code.length by omega, hr]
         rw [<- hrun]
         simp [goR, Res.av, f1, f2, f3, hli, hr, (by simpa using e' : m.notes = [])]
       . simp [mgo_l0, g12, g11, g10, g13, b10, hb, h1, show ¬ m.pc < x.code.length by omega, hr]
         rw [<- hrun]
         simp [goR, Res.av, f1, f2, f3, hli, hr]
     . rcases hr with ⟨rfl, e⟩ | ⟨sr, rfl, hr⟩ <;> rcases hn with ⟨rfl, e'⟩ | ⟨sn, rfl, hn⟩
       . simp [mgo_l0, g12, g11, g10, g13, b10, hb, h1]
         rw [<- hrun]
         simp [goR, Res.av, f1, f2, f3, e, (by simpa using e' : m.notes = [])]
       . simp [mgo_l0, g12, g11, g10, g13, b10, hb, h1]
         rw [<- hrun]
         simp [goR, Res.av, f1, f2, f3, e]
       . simp [mgo_l0, g12, g11, g10, g13, b10, hb, h1, hr]
         rw [<- hrun]
         simp [goR, Res.av, f1, f2, f3, hli, hr, (by simpa using e' : m.notes = [])]
       . simp [mgo_l0, g12, g11, g10, g13, b10, hb, h1, hr]
         rw [<- hrun]
         simp [goR, Res.av, f1, f2, f3, hli, hr]
end Go.Gv

namespace Go.Gv
open Go.Proofs
structure MId where
 frm : Int
 n : Int
 cpy : Int
deriving DecidableEq
structure Msg where
 id : MId
 note : Nt
structure Bud where
 drop : Int
 dup : Int
 time : Int
 crash : Int
structure Wld where
 acts : List Lcl
 mail : List Msg
 used : Bud
structure Evt where
 kind : Int
 id : MId
 who : Int
deriving DecidableEq
def MId.av (i : MId) : AV := .agg [iv i.frm, iv i.n, iv i.cpy]
def Msg.av (m : Msg) : AV := .agg [iv m.id.frm, iv m.id.n, iv m.id.cpy, iv m.note.to, iv m.note.hd, ints m.note.args]
def Bud.av (b : Bud) : AV := .agg [iv b.drop, iv b.dup, iv b.time, iv b.crash]
def Wld.av (w : Wld) : AV := .agg [.lst 5 (w.acts.map Lcl.av), .lst 6 (w.mail.map Msg.av), iv w.used.drop, iv w.used.dup, iv w.used.time, iv w.used.crash]
def Evt.av (e : Evt) : AV := .agg [iv e.kind, iv e.id.frm, iv e.id.n, iv e.id.cpy, iv e.who]
def idxV (id : MId) : List Msg -> Option Nat
 | [] => none
 | m :: l => if m.id = id then some 0 else (idxV id l).map (· + 1)
def findV (l : List Msg) (id : MId) : Int := match idxV id l with | some i => i | none => -1
def toV (l : List Msg) (who : Int) : Nat := (l.filter fun m => decide (m.note.to = who)).length
def cmpV (a b : Int) : Int := if a < b then -1 else if b < a then 1 else 0
def orderV (a b : MId) : Int := if cmpV a.frm b.frm ≠ 0 then cmpV a.frm b.frm else if cmpV a.n b.n ≠ 0 then cmpV a.n b.n else cmpV a.cpy b.cpy
def lessV (a b : MId) : Bool := decide (orderV a b < 0)
def insV (m : Msg) : List Msg -> List Msg
 | [] => [m]
 | x :: l => if lessV x.id m.id = true then x :: insV m l else m :: x :: l
def overV (w : Wld) (i : Nat) : Wld := { w with acts := w.acts.set i (match w.acts[i]? with | some l => { l with over := w64 (l.over + 1) } | none => ⟨[], false, 0, 0, 0⟩) }
def capV (p : Prg) (i : Int) : Int := (p.as[i.toNat]?.map Actr.cap).getD 0
def postV (p : Prg) (w : Wld) (m : Msg) : Wld :=
 if (toV w.mail m.note.to : Int) < capV p m.note.to then
   (if idxV m.id w.mail = none then { w with mail := insV m w.mail } else overV w m.note.to.toNat)
 else overV w m.note.to.toNat
def giveL (p : Prg) (frm first : Int) : Nat -> List Nt -> Wld -> Wld
 | _, [], w => w
 | i, n :: l, w => giveL p frm first (i + 1) l (if 0 <= n.to /\ n.to < (min p.as.length w.acts.length : Nat) then postV p w ⟨⟨frm, w64 (first + i), 0⟩, n⟩ else w)
def sentV (w : Wld) (i : Int) : Int := (w.acts[i.toNat]?.map Lcl.sent).getD 0
def giveV (p : Prg) (w : Wld) (frm : Int) (l : List Nt) : Wld := giveL p frm (if 0 <= frm then w64 (sentV w frm - l.length) else 0) 0 l w
def startV (p : Prg) : Wld := giveV p ⟨p.as.map fun a => ⟨a.regs, a.armed, 0, 0, 0⟩, [], ⟨0, 0, 0, 0⟩⟩ (-1) p.boot
def lessB (have_ used : Int) : Int := if w64 (have_ - used) < 0 then 0 else w64 (have_ - used)
def leftV (b : Bud) (w : Wld) : Bud := ⟨lessB b.drop w.used.drop, lessB b.dup w.used.dup, lessB b.time w.used.time, lessB b.crash w.used.crash⟩
def paidV (b : Bud) (k : Int) : Bool := if k = 2 then decide (0 < b.drop) else if k = 3 then decide (0 < b.dup) else if k = 4 then decide (0 < b.time) else if k = 5 then decide (0 < b.crash) else true
def downV (w : Wld) (i : Int) : Int := (w.acts[i.toNat]?.map Lcl.down).getD 0
def armedV (w : Wld) (i : Int) : Bool := (w.acts[i.toNat]?.map Lcl.armed).getD false
def ntAt (w : Wld) (id : MId) : Option Nt := (idxV id w.mail).bind fun i => w.mail[i]?.map Msg.note
def canV (w : Wld) (e : Evt) : Bool :=
 if e.kind = 1 \/ e.kind = 2 \/ e.kind = 3 then
   decide (e.who = 0) && (match ntAt w e.id with
     | some n => !decide (e.kind = 1) || decide (downV w n.to = 0)
     | none => false)
 else if e.kind = 4 \/ e.kind = 5 then
   decide (e.id = ⟨0, 0, 0⟩) && decide (0 <= e.who) && decide (e.who < w.acts.length) && decide (downV w e.who = 0) && (!decide (e.kind = 4) || armedV w e.who)
 else false
def evM (k : Int) (l : List Msg) : List Evt := l.map fun m => ⟨k, m.id, 0⟩
def evA (k : Int) (n : Nat) : List Evt := (List.range n).map fun (i : Nat) => ⟨k, ⟨0, 0, 0⟩, (i : Int)⟩
def allV (b : Bud) (w : Wld) : List Evt := (evM 1 w.mail ++ evM 2 w.mail ++ evM 3 w.mail ++ evA 4 w.acts.length ++ evA 5 w.acts.length).filter fun e => paidV (leftV b w) e.kind && canV w e
def goV (p : Prg) (who : Int) (l : Lcl) (h : Int) (args : List Int) : Res :=
 match p.hs[h.toNat]? with
 | some x => goR l (runG (fxOf p who l args) x.code (p.fuel.toNat + 1) (m0Of l) 0)
 | none => ⟨l, [], 0⟩
def lcl0 : Lcl := ⟨[], false, 0, 0, 0⟩
def lclV (w : Wld) (i : Int) : Lcl := (w.acts[i.toNat]?).getD lcl0
def setL (w : Wld) (i : Int) (l : Lcl) : Wld := { w with acts := w.acts.set i.toNat l }
def timerV (p : Prg) (i : Int) : Int := (p.as[i.toNat]?.map Actr.timer).getD 0
def applyV (p : Prg) (w : Wld) (e : Evt) : Wld :=
 if e.kind = 1 \/ e.kind = 2 then
   (match ntAt w e.id, idxV e.id w.mail with
    | some n, some i =>
      let w1 : Wld := { w with mail := w.mail.take i ++ w.mail.drop (i + 1) }
      if e.kind = 2 then { w1 with used := { w1.used with drop := w64 (w1.used.drop + 1) } }
      else
        let r := goV p n.to (lclV w1 n.to) n.hd n.args
        giveV p (setL w1 n.to r.l) n.to r.notes
    | _, _ => w)
 else if e.kind = 3 then
   (match idxV e.id w.mail with
    | some i => (match w.mail[i]? with
      | some m => let w1 : Wld := { w with used := { w.used with dup := w64 (w.used.dup + 1) } }
                  postV p w1 ⟨{ m.id with cpy := w1.used.dup }, m.note⟩
      | none => w)
    | none => w)
 else if e.kind = 4 then
   let w1 : Wld := setL { w with used := { w.used with time := w64 (w.used.time + 1) } } e.who { lclV w e.who with armed := false }
   let r := goV p e.who (lclV w1 e.who) (timerV p e.who) []
   giveV p (setL w1 e.who r.l) e.who r.notes
 else if e.kind = 5 then setL { w with used := { w.used with crash := w64 (w.used.crash + 1) } } e.who { lclV w e.who with down := 1 }
 else w
def wouldV (p : Prg) (w : Wld) (e : Evt) : List Nt :=
 if canV w e = true then
   (if e.kind = 1 then (match ntAt w e.id with | some n => (goV p n.to (lclV w n.to) n.hd n.args).notes | none => [])
    else if e.kind = 4 then (goV p e.who { lclV w e.who with armed := false } (timerV p e.who) []).notes else [])
 else []
def sortI : List Int -> List Int
 | [] => []
 | x :: l => let r := sortI l; (r.filter fun y => decide (y < x)) ++ x :: (r.filter fun y => !decide (y < x))
def compI : List Int -> List Int
 | [] => []
 | [x] => [x]
 | x :: y :: l => if x = y then compI (y :: l) else x :: compI (y :: l)
def touchV (p : Prg) (w : Wld) (e : Evt) : List Int :=
 if e.kind = 1 \/ e.kind = 2 \/ e.kind = 3 then
   (match ntAt w e.id with
    | some n => compI (sortI (n.to :: (wouldV p w e).map Nt.to))
    | none => [])
 else if e.kind = 4 \/ e.kind = 5 then
   (if e.who < 0 \/ (w.acts.length : Int) <= e.who then [] else compI (sortI (e.who :: (wouldV p w e).map Nt.to)))
 else []
def faultV (e : Evt) : Bool := decide (2 <= e.kind) && decide (e.kind <= 5)
def apartV (a b : Evt) (x y : List Int) : Bool := decide (a ≠ b) && !(decide (a.kind = b.kind) && faultV a) && !x.isEmpty && !y.isEmpty && !(x.any fun n => y.contains n)
def stillV (p : Prg) (w : Wld) (sleep : List Evt) (e : Evt) : List Evt := sleep.filter fun x => apartV x e (touchV p w x) (touchV p w e)
def whoseV (i : Ins) : Int := if i.op = 31 /\ 0 <= i.a then i.a / 16 else i.a
def askV (w : Wld) (i : Ins) : Int :=
 if i.op = 31 then (let l := lclV w (whoseV i); if (l.regs.length : Int) <= i.a.tmod 16 then 0 else (l.regs[(i.a.tmod 16).toNat]?).getD 0)
 else if i.op = 32 then (lclV w (whoseV i)).down
 else if i.op = 33 then (lclV w (whoseV i)).over
 else if i.op = 34 then toV w.mail (whoseV i)
 else if i.op = 35 then tv (lclV w (whoseV i)).armed
 else if i.op = 36 then (lclV w (whoseV i)).sent
 else w.mail.length
def exV (w : Wld) : List Ins -> List Int -> List Int
 | [], s => s
 | i :: l, s => exV w l (
     if 31 <= i.op /\ i.op <= 37 then s ++ [askV w i]
     else if i.op = 1 then s ++ [i.a]
     else if i.op = 2 then s.dropLast
     else if i.op = 3 then s ++ [top s]
     else if i.op = 4 then s.dropLast.dropLast ++ [top s, top s.dropLast]
     else if (oneV i.op (top s)).2 = true then s.dropLast ++ [(oneV i.op (top s)).1]
     else s.dropLast.dropLast ++ [(twoV i.op (top s.dropLast) (top s)).1])
def ofV (w : Wld) (x : List Ins) : Int := (exV w x []).headD 0
def badL (w : Wld) : Nat -> List (List Ins) -> List Int
 | _, [] => []
 | i, x :: l => if ofV w x = 0 then (i : Int) :: badL w (i + 1) l else badL w (i + 1) l
def badV (w : Wld) (l : List (List Ins)) : List Int := badL w 0 l
structure Fnd where
 watch : Int
 path : List Evt
structure Sr where
 runs : Int
 worlds : Int
 found : List Fnd
 path : List Evt
 ended : Bool
 cut : Int
 slept : Int
structure Cfg where
 p : Prg
 b : Bud
 l : List (List Ins)
 depth : Int
 most : Int
def addF (s : Sr) : List Int -> List Fnd -> List Fnd
 | [], f => f
 | i :: l, f => addF s l (if (f.any fun x => decide (x.watch = i)) = true then f else f ++ [⟨i, s.path⟩])
def enterV (c : Cfg) (s : Sr) (w : Wld) : Sr :=
 if s.ended = true \/ c.most <= s.runs then { s with ended := true }
 else { s with worlds := w64 (s.worlds + 1), found := addF s (badV w c.l) s.found }
def loopS (rec : Sr -> Wld -> List Evt -> Sr) (c : Cfg) (w : Wld) (sleep : List Evt) : List Evt -> List Evt -> Sr -> Sr
 | _, [], s => s
 | dn, e :: r, s =>
   let s1 := rec { s with path := s.path ++ [e] } (applyV c.p w e) (stillV c.p w (sleep ++ dn) e)
   let s2 := { s1 with path := s1.path.dropLast }
   if s2.ended = true then s2 else loopS rec c w sleep (dn ++ [e]) r s2
def visitS (c : Cfg) : Nat -> Sr -> Wld -> List Evt -> Sr
 | 0, s, _, _ => s
 | f + 1, s, w, sleep =>
   let s := enterV c s w
   if s.ended = true then s else
   let all := allV c.b w
   let awake := all.filter fun e => !sleep.contains e
   let deep := decide (c.depth <= s.path.length)
   if deep = true \/ awake = [] then
     (let s := { s with runs := w64 (s.runs + 1) }
      if deep = false /\ all ≠ [] then { s with slept := w64 (s.slept + 1), cut := w64 (s.cut + all.length) } else s)
   else loopS (visitS c f) c w sleep [] awake { s with cut := w64 (s.cut + w64 (all.length - awake.length)) }
def sr0 : Sr := ⟨0, 0, [], [], false, 0, 0⟩
def exploreS (c : Cfg) : Sr := visitS c (c.depth.toNat + 1) sr0 (startV c.p) []
end Go.Gv

namespace Go.Gv
open Go.Proofs
def isNaN_r0 : List AI := [oA 2 (.mv (.c (.bool false)))]
def isNaN_r1 : List AI := [oA 3 (.mv (.t 0)), oA 4 (.mv (.t 0)), oA 5 (.ibin .neq (.t 3) (.t 4)), oA 2 (.mv (.t 5))]
def isNaN_c : AC := (.seq (.reg isNaN_r0) (.seq (.reg isNaN_r1) .ret))
def isNaN_res : List ARes := [(.tmp 2)]
set_option maxRecDepth 100000 in
theorem isNaN_get : getF Tryz.prog 190 200000 [] = some ("cmp.isNaN[int]", 6, isNaN_c, isNaN_res) := by kernel_rfl
def compare_r0 : List AI := [oA 4 (.mv (.c (.int .i64 0)))]
def compare_r1 : List AI := [oA 7 (.mv (.t 0)), oC 8 (.c (.fn 190 [])) [(.t 7)], oA 5 (.mv (.t 8))]
def compare_r2 : List AI := [oA 9 (.mv (.t 1)), oC 10 (.c (.fn 190 [])) [(.t 9)], oA 6 (.mv (.t 10))]
def compare_r3 : List AI := [oA 11 (.mv (.t 5))]
def compare_r4 : List AI := [oA 12 (.mv (.t 6))]
def compare_r5 : List AI := [oA 4 (.mv (.c (.int .i64 0)))]
def compare_r6 : List AI := [oA 4 (.mv (.c (.int .i64 (-1))))]
def compare_r7 : List AI := [oA 13 (.mv (.t 6))]
def compare_r8 : List AI := [oA 4 (.mv (.c (.int .i64 1)))]
def compare_r9 : List AI := [oA 14 (.mv (.t 0)), oA 15 (.mv (.t 1)), oA 16 (.ibin .lss (.t 14) (.t 15))]
def compare_r10 : List AI := [oA 4 (.mv (.c (.int .i64 (-1))))]
def compare_r11 : List AI := [oA 17 (.mv (.t 0)), oA 18 (.mv (.t 1)), oA 19 (.ibin .gtr (.t 17) (.t 18))]
def compare_r12 : List AI := [oA 4 (.mv (.c (.int .i64 1)))]
def compare_r13 : List AI := [oA 4 (.mv (.c (.int .i64 0)))]
def compare_c : AC := (.seq (.reg compare_r0) (.seq (.reg compare_r1) (.seq (.reg compare_r2) (.seq (.seq (.reg compare_r3) (.cond (.t 11) (.seq (.seq (.reg compare_r4) (.cond (.t 12) (.seq (.reg compare_r5) .ret) .skip)) (.seq (.reg compare_r6) .ret)) .skip)) (.seq (.seq (.reg compare_r7) (.cond (.t 13) (.seq (.reg compare_r8) .ret) .skip)) (.seq (.seq (.reg compare_r9) (.cond (.t 16) (.seq (.reg compare_r10) .ret) .skip)) (.seq (.seq (.reg compare_r11) (.cond (.t 19) (.seq (.reg compare_r12) .ret) .skip)) (.seq (.reg compare_r13) .ret))))))))
def compare_res : List ARes := [(.tmp 4)]
set_option maxRecDepth 100000 in
theorem compare_get : getF Tryz.prog 251 201000 [] = some ("cmp.Compare[int]", 20, compare_c, compare_res) := by kernel_rfl
def or3_r0 : List AI := [oA 2 (.mv (.c (.int .i64 0)))]
def or3_r1 : List AI := [oA 3 (.mv (.c (.int .i64 0)))]
def or3_r2 : List AI := [oA 6 (.mv (.t 0)), oA 7 (.len (.t 6)), oA 8 (.mv (.c (.int .i64 0)))]
def or3_r3 : List AI := [oA 9 (.ibin .lss (.t 8) (.t 7))]
def or3_r4 : List AI := [oA 10 (.idx 1 (.t 6) (.t 8)), oA 11 (.load none (.t 10)), oA 5 (.mv (.t 11))]
def or3_r5 : List AI := [oA 12 (.mv (.t 5)), oA 13 (.mv (.t 3)), oA 14 (.ibin .neq (.t 12) (.t 13))]
def or3_r6 : List AI := [oA 15 (.mv (.t 5)), oA 2 (.mv (.t 15))]
def or3_r7 : List AI := [oA 16 (.ibin .add (.t 8) (.c (.int .i64 1))), oA 8 (.mv (.t 16))]
def or3_l0 : AC := (.seq (.reg or3_r3) (.seq (.cond (.t 9) .skip (.exit 0)) (.seq (.block 1 (.seq (.reg or3_r4) (.seq (.reg or3_r5) (.cond (.t 14) (.seq (.reg or3_r6) .ret) .skip)))) (.reg or3_r7))))
def or3_r8 : List AI := [oA 17 (.mv (.t 3)), oA 2 (.mv (.t 17))]
def or3_c : AC := (.seq (.reg or3_r0) (.seq (.reg or3_r1) (.seq (.seq (.reg or3_r2) (.block 0 (.loop or3_l0))) (.seq (.reg or3_r8) .ret))))
def or3_res : List ARes := [(.tmp 2)]
set_option maxRecDepth 100000 in
theorem or3_get : getF Tryz.prog 250 202000 [] = some ("cmp.Or[int]", 18, or3_c, or3_res) := by kernel_rfl
def order_r0 : List AI := [oA 2 (.box 203002 3 (.t 0)), oA 3 (.box 203003 3 (.t 1)), oA 4 (.mv (.c (.int .i64 0)))]
def order_r1 : List AI := [oA 5 (.fld 0 (.t 2)), oA 6 (.load none (.t 5)), oA 7 (.fld 0 (.t 3)), oA 8 (.load none (.t 7)), oC 9 (.c (.fn 251 [])) [(.t 6), (.t 8)], oA 10 (.fld 1 (.t 2)), oA 11 (.load none (.t 10)), oA 12 (.fld 1 (.t 3)), oA 13 (.load none (.t 12)), oC 14 (.c (.fn 251 [])) [(.t 11), (.t 13)], oA 15 (.fld 2 (.t 2)), oA 16 (.load none (.t 15)), oA 17 (.fld 2 (.t 3)), oA 18 (.load none (.t 17)), oC 19 (.c (.fn 251 [])) [(.t 16), (.t 18)], oA 20 (.bsl 203020 1 3 3 (.int .i64 0) [(0, (.t 9)), (1, (.t 14)), (2, (.t 19))]), oC 21 (.c (.fn 250 [])) [(.t 20)], oA 4 (.mv (.t 21))]
def order_p1 : List (List Nat) := [[], [0], [], [2], [1, 3, 0, 2], [], [5], [], [7], [6, 8, 4, 5, 7, 1, 3, 0, 2], [], [10], [], [12], [11, 13, 9, 10, 12, 6, 8, 4, 5, 7, 1, 3, 0, 2], [4, 9, 14, 1, 3, 0, 2, 6, 8, 5, 7, 11, 13, 10, 12], [15, 14, 4, 9, 1, 3, 0, 2, 6, 8, 5, 7, 11, 13, 10, 12], [16, 0, 1, 2, 3, 4, 5, 6, 7, 8, 9, 10, 11, 12, 13, 14, 15]]
def order_c : AC := (.seq (.reg order_r0) (.seq (.regd order_r1 order_p1) .ret))
def order_res : List ARes := [(.tmp 4)]
set_option maxRecDepth 100000 in
theorem order_get : getF Tryz.prog 233 203000 [] = some ("gavotte/ident.order", 22, order_c, order_res) := by kernel_rfl
def iless_r0 : List AI := [oA 2 (.box 204002 3 (.t 0)), oA 3 (.box 204003 3 (.t 1)), oA 4 (.mv (.c (.bool false)))]
def iless_r1 : List AI := [oA 5 (.load (some 3) (.t 2)), oA 6 (.load (some 3) (.t 3)), oC 7 (.c (.fn 233 [])) [(.t 5), (.t 6)], oA 8 (.ibin .lss (.t 7) (.c (.int .i64 0))), oA 4 (.mv (.t 8))]
def iless_c : AC := (.seq (.reg iless_r0) (.seq (.reg iless_r1) .ret))
def iless_res : List ARes := [(.tmp 4)]
set_option maxRecDepth 100000 in
theorem iless_get : getF Tryz.prog 211 204000 [] = some ("gavotte/ident.Less", 9, iless_c, iless_res) := by kernel_rfl
def mailTo_r0 : List AI := [oA 4 (.mv (.c (.int .i64 0)))]
def mailTo_r1 : List AI := [oA 7 (.mv (.t 0)), oA 8 (.len (.t 7)), oA 9 (.mv (.c (.int .i64 0)))]
def mailTo_r2 : List AI := [oA 10 (.ibin .lss (.t 9) (.t 8))]
def mailTo_r3 : List AI := [oA 11 (.idx 6 (.t 7) (.t 9)), oA 12 (.load (some 6) (.t 11)), oA 6 (.new 205006 6 (.agg [(.int .i64 0), (.int .i64 0), (.int .i64 0), (.int .i64 0), (.int .i64 0), .nils])), oN (.store 6 (.t 6) (.t 12))]
def mailTo_r4 : List AI := [oA 13 (.fld 3 (.t 6)), oA 14 (.fld 0 (.t 13)), oA 15 (.load none (.t 14)), oA 16 (.mv (.t 1)), oA 17 (.ibin .eql (.t 15) (.t 16))]
def mailTo_r5 : List AI := [oA 18 (.mv (.t 4)), oA 19 (.ibin .add (.t 18) (.c (.int .i64 1))), oA 4 (.mv (.t 19))]
def mailTo_r6 : List AI := [oA 20 (.ibin .add (.t 9) (.c (.int .i64 1))), oA 9 (.mv (.t 20))]
def mailTo_l0 : AC := (.seq (.reg mailTo_r2) (.seq (.cond (.t 10) .skip (.exit 0)) (.seq (.block 1 (.seq (.reg mailTo_r3) (.seq (.reg mailTo_r4) (.cond (.t 17) (.reg mailTo_r5) .skip)))) (.reg mailTo_r6))))
def mailTo_r7 : List AI := [oA 21 (.mv (.t 4)), oA 4 (.mv (.t 21))]
def mailTo_c : AC := (.seq (.reg mailTo_r0) (.seq (.seq (.reg mailTo_r1) (.block 0 (.loop mailTo_l0))) (.seq (.reg mailTo_r7) .ret)))
def mailTo_res : List ARes := [(.tmp 4)]
set_option maxRecDepth 100000 in
theorem mailTo_get : getF Tryz.prog 175 205000 [] = some ("gavotte/mail.To", 22, mailTo_c, mailTo_res) := by kernel_rfl
def mown_r0 : List AI := [oA 1 (.box 206001 6 (.t 0)), oA 2 (.new 206002 6 (.agg [(.int .i64 0), (.int .i64 0), (.int .i64 0), (.int .i64 0), (.int .i64 0), .nils]))]
def mown_r1 : List AI := [oA 3 (.fld 3 (.t 1)), oA 4 (.load (some 3) (.t 3)), oC 5 (.c (.fn 236 [])) [(.t 4)], oA 6 (.fld 3 (.t 1)), oN (.store 3 (.t 6) (.t 5))]
def mown_r2 : List AI := [oA 7 (.load (some 6) (.t 1)), oN (.store 6 (.t 2) (.t 7))]
def mown_c : AC := (.seq (.reg mown_r0) (.seq (.reg mown_r1) (.seq (.reg mown_r2) .ret)))
def mown_res : List ARes := [(.cell (some 6) 2)]
set_option maxRecDepth 100000 in
theorem mown_get : getF Tryz.prog 213 206000 [] = some ("gavotte/mail.own", 8, mown_c, mown_res) := by kernel_rfl
attribute [simp] isNaN_r0 isNaN_r1 isNaN_res compare_r0 compare_r1 compare_r2 compare_r3 compare_r4 compare_r5 compare_r6 compare_r7 compare_r8 compare_r9 compare_r10 compare_r11 compare_r12 compare_r13 compare_res or3_r0 or3_r1 or3_r2 or3_r3 or3_r4 or3_r5 or3_r6 or3_r7 or3_r8 or3_res order_r0 order_r1 order_p1 order_res iless_r0 iless_r1 iless_res mailTo_r0 mailTo_r1 mailTo_r2 mailTo_r3 mailTo_r4 mailTo_r5 mailTo_r6 mailTo_r7 mailTo_res mown_r0 mown_r1 mown_r2 mown_res
theorem wrap1 : IntKind.i64.wrap 1 = 1 := by decide
theorem wrap2 : IntKind.i64.wrap 2 = 2 := by decide
theorem wrap3 : IntKind.i64.wrap 3 = 3 := by decide
@[simp] theorem Msg.cells_av (m : Msg) : m.av.cells = [iv m.id.frm, iv m.id.n, iv m.id.cpy, iv m.note.to, iv m.note.hd, ints m.note.args] := rfl
@[simp] theorem Msg.norm_av (m : Msg) : normE m.av = m.av := rfl
@[simp] theorem MId.cells_av (m : MId) : m.av.cells = [iv m.frm, iv m.n, iv m.cpy] := rfl
theorem isNaN_pc (a : Int) : PC Tryz.prog 190 [iv a] (.bool false) := by
 refine pc_of_get isNaN_get (by simp) _ (by simp) _ ?_
 unfold isNaN_c
 simp
theorem compare_pc (a b : Int) : PC Tryz.prog 251 [iv a, iv b] (iv (cmpV a b)) := by
 refine pc_of_get compare_get (by simp) _ (by simp) _ ?_
 unfold compare_c cmpV
 simp
 refine call (isNaN_pc a) (by simp) ?_
 simp
 refine call (isNaN_pc b) (by simp) ?_
 simp
 refine split (fun hc => ?_) (fun hc => ?_) <;> simp [hc]
 refine split (fun hd => ?_) (fun hd => ?_) <;> simp [hd] <;> omega
theorem or3_pc (a b c : Int) : PC Tryz.prog 250 [ints [a, b, c]] (iv (if a ≠ 0 then a else if b ≠ 0 then b else c)) := by
 refine pc_of_get or3_get (by simp) _ (by simp) _ ?_
 unfold or3_c
 simp [ints]
 refine loopN (fun i S => S.t 6 = .lst 1 [iv a, iv b, iv c] /\ S.t 7 = iv 3 /\ S.t 8 = iv i /\ S.t 3 = iv 0 /\ (0 < i -> a = 0) /\ (1 < i -> b = 0) /\ (2 < i -> c = 0)) 3 ?_ ?_
 . simp
 . rintro i S hi ⟨g1, g2, g3, g4, h1, h2, h3⟩
   match i, hi, h1, h2, h3 with
   | 0, _, _, _, _ =>
     simp [or3_l0, g1, g2, g3, g4]
     refine split (fun hc => ?_) (fun hc => ?_) <;> simp [hc, g1, g2, g3, g4, wrap1]
   | 1, _, h1, _, _ =>
     have e1 := h1 (by omega)
     simp [or3_l0, g1, g2, g3, g4]
     refine split (fun hc => ?_) (fun hc => ?_) <;> simp [hc, e1, g1, g2, g3, g4, wrap2]
   | 2, _, h1, h2, _ =>
     have e1 := h1 (by omega)
     have e2 := h2 (by omega)
     simp [or3_l0, g1, g2, g3, g4]
     refine split (fun hc => ?_) (fun hc => ?_) <;> simp [hc, e1, e2, g1, g2, g3, g4, wrap3]
   | 3, _, h1, h2, h3 =>
     have e1 := h1 (by omega)
     have e2 := h2 (by omega)
     have e3 := h3 (by omega)
     simp [or3_l0, g1, g2, g3, g4, e1, e2, e3]
   | i + 4, h, _, _, _ => omega
theorem order_pc (a b : MId) : PC Tryz.prog 233 [a.av, b.av] (iv (orderV a b)) := by
 refine pc_of_get order_get (by simp) _ (by simp) _ ?_
 unfold order_c orderV
 simp [MId.av]
 refine calld (compare_pc a.frm b.frm) (by simp) ?_
 simp
 refine calld (compare_pc a.n b.n) (by simp) ?_
 simp
 refine calld (compare_pc a.cpy b.cpy) (by simp) ?_
 simp
 refine calld (or3_pc (cmpV a.frm b.frm) (cmpV a.n b.n) (cmpV a.cpy b.cpy)) (by simp [ints]) ?_
 simp
theorem iless_pc (a b : MId) : PC Tryz.prog 211 [a.av, b.av] (.bool (lessV a b)) := by
 refine pc_of_get iless_get (by simp) _ (by simp) _ ?_
 unfold iless_c lessV
 simp [MId.av]
 refine call (order_pc a b) (by simp [MId.av]) ?_
 simp
theorem toV_take (l : List Msg) (who : Int) (i : Nat) (h : i < l.length) : toV (l.take (i + 1)) who = toV (l.take i) who + if l[i].note.to = who then 1 else 0 := by
 unfold toV
 rw [List.take_succ_eq_append_getElem h, List.filter_append, List.length_append]
 by_cases e : l[i].note.to = who <;> simp [e]
theorem toV_le (l : List Msg) (who : Int) : toV l who <= l.length := List.length_filter_le _ _
theorem mailTo_pc (l : List Msg) (who : Int) (hl : l.length <= 1000) : PC Tryz.prog 175 [.lst 6 (l.map Msg.av), iv who] (iv (toV l who)) := by
 refine pc_of_get mailTo_get (by simp) _ (by simp) _ ?_
 unfold mailTo_c
 simp
 refine loopN (fun i S => S.t 7 = .lst 6 (l.map Msg.av) /\ S.t 8 = iv l.length /\ S.t 9 = iv i /\ S.t 1 = iv who /\ S.t 4 = iv (toV (l.take i) who)) l.length ?_ ?_
 . simp [toV]
 . rintro i S hi ⟨g1, g2, g3, g4, g5⟩
   by_cases hlt : i < l.length
   . have ws := wrap_succ i _ hlt (by omega)
     have hle := toV_le (l.take i) who
     rw [List.length_take] at hle
     have w2 : IntKind.i64.wrap ((toV (l.take i) who : Int) + 1) = (toV (l.take i) who : Int) + 1 := wrap_in _ (by omega) (by omega)
     have ht := toV_take l who i hlt
     simp [mailTo_l0, g1, g2, g3, g4, g5, hlt]
     by_cases e : l[i].note.to = who
     . rw [if_pos e] at ht
       simp [e, g1, g2, g3, g4, g5, ws, w2, ht]
     . rw [if_neg e] at ht
       simp [e, g1, g2, g3, g4, g5, ws, ht]
   . have e1 : i = l.length := by omega
     subst e1
     rw [List.take_length] at g5
     simp [mailTo_l0, g1, g2, g3, g4, g5]
theorem mown_pc (m : Msg) (h : m.note.args.length <= 1000) : PC Tryz.prog 213 [m.av] m.av := by
 refine pc_of_get mown_get (by simp) _ (by simp) _ ?_
 unfold mown_c
 simp [Msg.av]
 refine call (copyNote_pc m.note h) (by simp [Nt.av]) ?_
 simp [Nt.av]
end Go.Gv

namespace Go.Gv
open Go.Proofs
def idxM_r0 : List AI := [oA 4 (.mv (.c (.int .i64 0)))]
def idxM_r1 : List AI := [oA 6 (.mv (.t 0)), oA 7 (.len (.t 6)), oA 8 (.mv (.c (.int .i64 0)))]
def idxM_r2 : List AI := [oA 9 (.ibin .lss (.t 8) (.t 7))]
def idxM_r3 : List AI := [oA 10 (.mv (.t 8)), oA 5 (.mv (.t 10))]
def idxM_r4 : List AI := [oA 11 (.mv (.t 1)), oA 12 (.mv (.t 0)), oA 13 (.mv (.t 5)), oA 14 (.idx 6 (.t 12) (.t 13)), oA 15 (.load (some 6) (.t 14)), oC 16 (.t 11) [(.t 15)]]
def idxM_r5 : List AI := [oA 17 (.mv (.t 5)), oA 4 (.mv (.t 17))]
def idxM_r6 : List AI := [oA 18 (.ibin .add (.t 8) (.c (.int .i64 1))), oA 8 (.mv (.t 18))]
def idxM_l0 : AC := (.seq (.reg idxM_r2) (.seq (.cond (.t 9) .skip (.exit 0)) (.seq (.block 1 (.seq (.reg idxM_r3) (.seq (.reg idxM_r4) (.cond (.t 16) (.seq (.reg idxM_r5) .ret) .skip)))) (.reg idxM_r6))))
def idxM_r7 : List AI := [oA 4 (.mv (.c (.int .i64 (-1))))]
def idxM_c : AC := (.seq (.reg idxM_r0) (.seq (.seq (.reg idxM_r1) (.block 0 (.loop idxM_l0))) (.seq (.reg idxM_r7) .ret)))
def idxM_res : List ARes := [(.tmp 4)]
set_option maxRecDepth 100000 in
theorem idxM_get : getF Tryz.prog 180 208000 [] = some ("slices.IndexFunc[[]gavotte/api.Message,gavotte/api.Message]", 19, idxM_c, idxM_res) := by kernel_rfl
def mfind_r0 : List AI := [oA 3 (.box 209003 3 (.t 1)), oA 4 (.mv (.c (.int .i64 0)))]
def mfind_r1 : List AI := [oA 5 (.mv (.t 0)), oA 6 (.mkf 181 [(.t 3)]), oC 7 (.c (.fn 180 [])) [(.t 5), (.t 6)], oA 4 (.mv (.t 7))]
def mfind_c : AC := (.seq (.reg mfind_r0) (.seq (.reg mfind_r1) .ret))
def mfind_res : List ARes := [(.tmp 4)]
set_option maxRecDepth 100000 in
theorem mfind_get : getF Tryz.prog 131 209000 [] = some ("gavotte/mail.Find", 8, mfind_c, mfind_res) := by kernel_rfl
def mfind1_r0 : List AI := [oA 2 (.box 210002 6 (.t 0)), oA 3 (.mv (.c (.bool false)))]
def mfind1_r1 : List AI := [oA 4 (.fld 0 (.t 2)), oA 5 (.load (some 3) (.t 4)), oA 6 (.load (some 3) (.t 1)), oA 7 (.eqs [false, false, false] false (.t 5) (.t 6)), oA 3 (.mv (.t 7))]
def mfind1_c : AC := (.seq (.reg mfind1_r0) (.seq (.reg mfind1_r1) .ret))
def mfind1_res : List ARes := [(.tmp 3)]
set_option maxRecDepth 100000 in
theorem mfind1_get : getF Tryz.prog 181 210000 [] = some ("gavotte/mail.Find$1", 8, mfind1_c, mfind1_res) := by kernel_rfl
def mput1_r0 : List AI := [oA 2 (.box 211002 6 (.t 0)), oA 3 (.mv (.c (.bool false)))]
def mput1_r1 : List AI := [oA 4 (.fld 0 (.t 2)), oA 5 (.load (some 3) (.t 4)), oA 6 (.fld 0 (.t 1)), oA 7 (.load (some 3) (.t 6)), oC 8 (.c (.fn 211 [])) [(.t 5), (.t 7)], oA 9 (.not (.t 8)), oA 3 (.mv (.t 9))]
def mput1_c : AC := (.seq (.reg mput1_r0) (.seq (.reg mput1_r1) .ret))
def mput1_res : List ARes := [(.tmp 3)]
set_option maxRecDepth 100000 in
theorem mput1_get : getF Tryz.prog 210 211000 [] = some ("gavotte/mail.Put$1", 10, mput1_c, mput1_res) := by kernel_rfl
attribute [simp] idxM_r0 idxM_r1 idxM_r2 idxM_r3 idxM_r4 idxM_r5 idxM_r6 idxM_r7 idxM_res mfind_r0 mfind_r1 mfind_res mfind1_r0 mfind1_r1 mfind1_res mput1_r0 mput1_r1 mput1_res
def idxB {α : Type} (p : α -> Bool) (l : List α) : Int := match l.findIdx? p with | some i => (i : Int) | none => -1
theorem findIdx_at {α : Type} (p : α -> Bool) {l : List α} {i : Nat} (hlt : i < l.length) (h : ∀ x ∈ l.take i, p x = false) (hp : p l[i] = true) : l.findIdx? p = some i := by
 rw [List.findIdx?_eq_some_iff_getElem]
 refine ⟨hlt, hp, fun j hj => ?_⟩
 have hjl : j < l.length := by omega
 have := h l[j] (by rw [List.mem_take_iff_getElem]; exact ⟨j, by omega, rfl⟩)
 simpa using this
theorem findIdx_none {α : Type} (p : α -> Bool) {l : List α} (h : ∀ x ∈ l, p x = false) : l.findIdx? p = none := by
 rw [List.findIdx?_eq_none_iff]; exact h
theorem indexM_v (L : Nat -> Bool) (l : List Msg) (hl : l.length < 1000000) (fv : AV) (p : Msg -> Bool) {S : St} {k : AV -> St -> Prop} {u : Dep k}
   (hf : ∀ x ∈ l, ∀ (S' : St) (κ : AV -> St -> Prop), Fh L S S' -> (∀ S'', Fr L S' S'' -> κ (.bool (p x)) S'') -> CallG Tryz.prog fv [x.av] S' κ .mk)
   (hk : ∀ S', Fr L S S' -> k (iv (idxB p l)) S') :
   CallG Tryz.prog (.fn 180 []) [.lst 6 (l.map Msg.av), fv] S k u := by
 refine callV idxM_get (by simp) (by simp) ?_
 unfold idxM_c
 simp
 refine loopN (fun i S' => S'.t 0 = .lst 6 (l.map Msg.av) /\ S'.t 1 = fv /\ S'.t 7 = iv l.length /\ S'.t 8 = iv i /\ Fh L S S' /\ (∀ x ∈ l.take i, p x = false)) l.length ?_ ?_
 . exact ⟨by simp, by simp, by simp, by simp, ⟨fun _ _ => rfl, fun _ _ => rfl, by simp; omega⟩, by simp⟩
 . rintro i S' hi ⟨g0, g1, g7, g8, gf, gp⟩
   by_cases hlt : i < l.length
   . have hw := wrap_succ i _ hlt (by omega)
     simp [idxM_l0, g0, g1, g7, g8, hlt]
     refine hf l[i] (List.getElem_mem hlt) _ _ (gf.trans ⟨fun _ _ => rfl, fun _ _ => rfl, by simp; omega⟩) ?_
     rintro S'' hF
     have q1 := hF.t
     cases hp : p l[i] with
     | true =>
       simp [q1, g0, g1, g7, g8]
       have e : idxB p l = (i : Int) := by unfold idxB; rw [findIdx_at p hlt gp hp]
       rw [<- e]
       exact hk _ ⟨rfl, fun n hn => (hF.b n hn).trans (gf.b n hn), fun n hn => (hF.k n hn).trans (gf.k n hn), by have := hF.c; have := gf.c; simp at *; omega⟩
     | false =>
       simp [q1, g0, g1, g7, g8, hw, hlt]
       refine ⟨⟨fun n hn => (hF.b n hn).trans (gf.b n hn), fun n hn => (hF.k n hn).trans (gf.k n hn), by have := hF.c; have := gf.c; simp at *; omega⟩, fun x hx => ?_⟩
       rw [List.take_succ_eq_append_getElem hlt] at hx
       rcases List.mem_append.1 hx with q | q
       . exact gp x q
       . rw [List.mem_singleton.1 q]; exact hp
   . have e1 : i = l.length := by omega
     subst e1
     rw [List.take_length] at gp
     simp [idxM_l0, g0, g1, g7, g8]
     have e : idxB p l = -1 := by unfold idxB; rw [findIdx_none p gp]
     rw [<- e]
     exact hk _ ⟨rfl, gf.b, gf.k, by have := gf.c; simp at *; omega⟩
def Lone (a : Nat) : Nat -> Bool := fun n => decide (n = a)
theorem find1_v (nm st : Nat) (hn : nm ≠ 210002) (id : MId) (m : Msg) {S : St} {k : AV -> St -> Prop} {u : Dep k} (hb : S.blk nm = some ⟨st, 3, [id.av]⟩)
   (hk : ∀ S', Fr (Lone 210002) S S' -> k (.bool (decide (m.id = id))) S') : CallG Tryz.prog (.fn 181 [.ptr nm st 3 0 0]) [m.av] S k u := by
 refine callV mfind1_get (by simp) (by simp) ?_
 unfold mfind1_c
 simp [hn, hb, MId.av]
 have e : decide (m.id = id) = (decide (m.id.frm = id.frm) && (decide (m.id.n = id.n) && decide (m.id.cpy = id.cpy))) := by
   obtain ⟨a, b, c⟩ := m.id
   obtain ⟨a', b', c'⟩ := id
   simp
 rw [e] at hk
 exact hk _ ⟨rfl, fun n hn => by simp [show n ≠ 210002 by simpa [Lone] using hn], fun _ _ => rfl, by simp; omega⟩
theorem idxV_find (id : MId) : ∀ l : List Msg, l.findIdx? (fun m => decide (m.id = id)) = idxV id l
 | [] => rfl
 | m :: l => by
   rw [List.findIdx?_cons, idxV, idxV_find id l]
   by_cases h : m.id = id <;> simp [h]
theorem idxV_eq (id : MId) (l : List Msg) : idxB (fun m => decide (m.id = id)) l = findV l id := by
 unfold idxB findV
 rw [idxV_find]
 all_goals (cases idxV id l <;> rfl)
theorem mfind_pc (l : List Msg) (id : MId) (hl : l.length <= 1000) : PC Tryz.prog 131 [.lst 6 (l.map Msg.av), id.av] (iv (findV l id)) := by
 refine pc_of_get mfind_get (by simp) _ (by simp) _ ?_
 unfold mfind_c
 simp [MId.av]
 refine indexM_v (Lone 210002) l (by omega) _ (fun m => decide (m.id = id)) (fun x hx S' κ hF hκ => find1_v 209003 0 (by simp) id x ((hF.b _ (by simp [Lone])).trans (by simp [MId.av])) hκ) (fun S' hF => ?_)
 rw [idxV_eq]
 simp [hF.t]
theorem mput1_v (nm st : Nat) (hn : nm ≠ 211002) (m x : Msg) {S : St} {k : AV -> St -> Prop} {u : Dep k} (hb : S.blk nm = some ⟨st, 6, [m.av]⟩)
   (hk : ∀ S', Fr (Lone 211002) S S' -> k (.bool (!lessV x.id m.id)) S') : CallG Tryz.prog (.fn 210 [.ptr nm st 6 0 0]) [x.av] S k u := by
 refine callV mput1_get (by simp) (by simp) ?_
 unfold mput1_c
 simp [hn, hb]
 refine call (iless_pc x.id m.id) (by simp [MId.av]) ?_
 simp
 exact hk _ ⟨rfl, fun n hn => by simp [show n ≠ 211002 by simpa [Lone] using hn], fun _ _ => rfl, by simp; omega⟩
end Go.Gv
