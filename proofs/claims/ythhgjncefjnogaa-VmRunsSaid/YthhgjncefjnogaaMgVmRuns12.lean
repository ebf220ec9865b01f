/- Texts of this proof, one behind the other. What is proved, and on which conditions, stands ahead of each. -/
import Derived.Test.YthhgjncefjnogaaProg
import Derived.Test.YthhgjncefjnogaaMgVmRuns11
import Derived.Test.YthhgjncefjnogaaMgVmRuns10
import Derived.Test.YthhgjncefjnogaaMgVmRuns7
import Derived.Test.YthhgjncefjnogaaMgVmRuns5

/- The program's walk and the reference's passes come to the same depths, and the same greatest one. The code's instructions may be looked at (codeOk). -/
set_option linter.unusedVariables false
set_option linter.unusedSimpArgs false
namespace Go.Gv
open Go.Proofs

section
variable {hs : List Hnd} {code : List Ins}
/-- A place that is reached with so many numbers. -/
inductive Rch (hs : List Hnd) (code : List Ins) : Nat → Int → Prop
  | start : Rch hs code 0 0
  | step {a : Nat} {d : Int} {i : Ins} {k : Nat} (h : Rch hs code a d) (hi : code[a]? = some i) (h1 : takesV hs i ≤ d) (h2 : d - takesV hs i + putsV i.op ≤ 8) (hk : k ∈ nextV a i) : Rch hs code k (d - takesV hs i + putsV i.op)
/-- What is told of a reached place's instruction. -/
def Cl (hs : List Hnd) (out : List Int) (most : Int) (a : Nat) (d : Int) (i : Ins) : Prop :=
  takesV hs i ≤ d ∧ d - takesV hs i + putsV i.op ≤ 8 ∧ (∀ k ∈ nextV a i, out[k]? = some (d - takesV hs i + putsV i.op)) ∧ d ≤ most ∧ d - takesV hs i + putsV i.op ≤ most
structure FInv (hs : List Hnd) (code : List Ins) (out : List Int) (most : Int) : Prop where
  len : out.length = code.length + 1
  zero : out[0]? = some 0
  sound : ∀ (a : Nat) (d : Int), out[a]? = some d → d ≠ -1 → Rch hs code a d ∧ 0 ≤ d
  att : most = 0 ∨ ∃ (a : Nat) (d : Int) (i : Ins), out[a]? = some d ∧ d ≠ -1 ∧ code[a]? = some i ∧ (most = d ∨ most = d - takesV hs i + putsV i.op)
  m0 : 0 ≤ most
structure Good (hs : List Hnd) (code : List Ins) (out : List Int) (most : Int) extends FInv hs code out most where
  closed : ∀ (a : Nat) (d : Int) (i : Ins), out[a]? = some d → d ≠ -1 → code[a]? = some i → Cl hs out most a d i
def Bad (hs : List Hnd) (code : List Ins) : Prop :=
  (∃ (a : Nat) (d : Int) (i : Ins), Rch hs code a d ∧ code[a]? = some i ∧ (d < takesV hs i ∨ d - takesV hs i + putsV i.op > 8)) ∨ ∃ k d e, Rch hs code k d ∧ Rch hs code k e ∧ d ≠ e
theorem Good.rch {out : List Int} {most : Int} (hg : Good hs code out most) {a : Nat} {d : Int} (h : Rch hs code a d) : out[a]? = some d ∧ 0 ≤ d := by
  induction h with
  | start => exact ⟨hg.zero, Int.le_refl _⟩
  | step h hi h1 h2 hk ih =>
    have := putsV_range ‹Ins›.op
    exact ⟨(hg.closed _ _ _ ih.1 (by omega) hi).2.2.1 _ hk, by omega⟩
theorem Good.not_bad {out : List Int} {most : Int} (hg : Good hs code out most) : ¬ Bad hs code := by
  rintro (⟨a, d, i, h, hi, hb⟩ | ⟨k, d, e, h1, h2, hne⟩)
  · obtain ⟨h1, h2⟩ := hg.rch h
    have := hg.closed a d i h1 (by omega) hi
    have := this.1; have := this
    have q := hg.closed a d i h1 (by omega) hi
    have q2 := q.2.1
    omega
  · have a1 := (hg.rch h1).1
    have a2 := (hg.rch h2).1
    rw [a1] at a2
    exact hne (Option.some.inj a2)
theorem Good.most_le {o p : List Int} {m n : Int} (h : Good hs code o m) (k : Good hs code p n) : m ≤ n := by
  rcases h.att with e | ⟨a, d, i, h1, h2, h3, h4⟩
  · rw [e]; exact k.m0
  · obtain ⟨q1, q2⟩ := h.sound a d h1 h2
    have r := (k.rch q1).1
    obtain ⟨_, _, _, c4, c5⟩ := k.closed a d i r h2 h3
    rcases h4 with e | e <;> omega
theorem Good.uniq {o p : List Int} {m n : Int} (h : Good hs code o m) (k : Good hs code p n) : o = p ∧ m = n := by
  refine ⟨?_, by have := h.most_le k; have := k.most_le h; omega⟩
  refine List.ext_getElem? (fun a => ?_)
  by_cases hl : a < code.length + 1
  · have l1 : a < o.length := by rw [h.len]; exact hl
    have l2 : a < p.length := by rw [k.len]; exact hl
    have e1 : o[a]? = some o[a] := List.getElem?_eq_getElem l1
    have e2 : p[a]? = some p[a] := List.getElem?_eq_getElem l2
    by_cases h1 : o[a] = -1
    · by_cases h2 : p[a] = -1
      · rw [e1, e2, h1, h2]
      · have := (h.rch (k.sound a _ e2 h2).1).1
        rw [this, e2]
    · have := (k.rch (h.sound a _ e1 h1).1).1
      rw [this, e1]
  · rw [List.getElem?_eq_none (by rw [h.len]; omega), List.getElem?_eq_none (by rw [k.len]; omega)]

/-! ### The program's walk -/

/-- What a visit leaves: what was known stays, what is new is in the queue. -/
structure Ext (n : Int) (out out' : List Int) (Q : Nat → Prop) : Prop where
  len : out'.length = out.length
  keep : ∀ (a : Nat) (d : Int), out[a]? = some d → d ≠ -1 → out'[a]? = some d
  new : ∀ (a : Nat) (d : Int), out'[a]? = some d → d ≠ -1 → out[a]? = some d ∨ (d = n ∧ Q a)
theorem Ext.refl (n : Int) (out : List Int) (Q : Nat → Prop) : Ext n out out Q := ⟨rfl, fun _ _ h _ => h, fun _ _ h _ => .inl h⟩
theorem Ext.trans {n : Int} {a b c : List Int} {Q R : Nat → Prop} (h : Ext n a b Q) (k : Ext n b c R) (hq : ∀ x, Q x → R x) : Ext n a c R :=
  ⟨k.len.trans h.len, fun x d h1 h2 => k.keep x d (h.keep x d h1 h2) h2, fun x d h1 h2 => (k.new x d h1 h2).elim (fun q => (h.new x d q h2).imp id (fun r => ⟨r.1, hq _ r.2⟩)) .inr⟩
theorem Ext.set {n : Int} {out : List Int} {k : Nat} (h : out[k]? = some (-1)) (Q : Nat → Prop) (hq : Q k) : Ext n out (out.set k n) Q := by
  refine ⟨by simp, fun a d h1 h2 => ?_, fun a d h1 h2 => ?_⟩
  · rw [List.getElem?_set]
    split
    · rename_i e; subst e; rw [h] at h1; cases h1; exact absurd rfl h2
    · exact h1
  · rw [List.getElem?_set] at h1
    split at h1
    · rename_i e; subst e
      split at h1
      · cases h1; exact .inr ⟨rfl, hq⟩
      · cases h1
    · exact .inl h1
theorem visitL_ext {n : Int} : ∀ {ks : List Nat} {s s' : List Int × List Nat}, visitL n ks s = some s' → (n ≠ -1) →
    Ext n s.1 s'.1 (· ∈ s'.2) ∧ (∀ a ∈ s.2, a ∈ s'.2) ∧ (∀ a ∈ s'.2, a ∈ s.2 ∨ s'.1[a]? = some n) ∧ (∀ k ∈ ks, s'.1[k]? = some n)
  | [], s, s', h, _ => by cases h; exact ⟨.refl _ _ _, fun _ h => h, fun _ h => .inl h, by simp⟩
  | k :: ks, s, s', h, hn => by
    simp only [visitL, Option.bind_eq_some_iff] at h
    obtain ⟨s1, h1, h2⟩ := h
    obtain ⟨b1, b2, b3, b4⟩ := visitL_ext h2 hn
    have key : Ext n s.1 s1.1 (· ∈ s1.2) ∧ (∀ a ∈ s.2, a ∈ s1.2) ∧ (∀ a ∈ s1.2, a ∈ s.2 ∨ s1.1[a]? = some n) ∧ s1.1[k]? = some n := by
      unfold visit1 at h1
      split at h1
      · rename_i hk
        cases h1
        have hlt := (List.getElem?_eq_some_iff.1 hk).1
        have hset : (s.1.set k n)[k]? = some n := by rw [List.getElem?_set_self hlt]
        refine ⟨.set hk _ (by simp), fun a ha => by simp [ha], fun a ha => ?_, hset⟩
        simp at ha
        rcases ha with ha | ha
        · exact .inl ha
        · subst ha; exact .inr hset
      · split at h1
        · rename_i hk; cases h1; exact ⟨.refl _ _ _, fun _ h => h, fun _ h => .inl h, hk⟩
        · cases h1
    obtain ⟨a1, a2, a3, a4⟩ := key
    refine ⟨a1.trans b1 b2, fun a ha => b2 a (a2 a ha), fun a ha => ?_, fun x hx => ?_⟩
    · rcases b3 a ha with q | q
      · exact (a3 a q).imp id (fun r => b1.keep a n r hn)
      · exact .inr q
    · rcases List.mem_cons.1 hx with rfl | hx
      · exact b1.keep _ n a4 hn
      · exact b4 x hx
/-- A visit sets only what it is told to. -/
theorem visit_only {n : Int} : ∀ {ks : List Nat} {s s' : List Int × List Nat}, visitL n ks s = some s' → ∀ (x : Nat) (d : Int), s'.1[x]? = some d → d ≠ -1 → s.1[x]? = some d ∨ x ∈ ks
  | [], s, s', h, x, d, h1, _ => by cases h; exact .inl h1
  | k :: ks, s, s', h, x, d, h1, h2 => by
    simp only [visitL, Option.bind_eq_some_iff] at h
    obtain ⟨s1, q1, q2⟩ := h
    rcases visit_only q2 x d h1 h2 with r | r
    · unfold visit1 at q1
      split at q1
      · cases q1
        rw [List.getElem?_set] at r
        split at r
        · rename_i e; subst e; exact .inr (by simp)
        · exact .inl r
      · split at q1
        · cases q1; exact .inl r
        · cases q1
    · exact .inr (by simp [r])
theorem visitL_none {n : Int} : ∀ {ks : List Nat} {s : List Int × List Nat}, visitL n ks s = none → (n ≠ -1) → (∀ k ∈ ks, k < s.1.length) → ∃ k ∈ ks, ∃ d, s.1[k]? = some d ∧ d ≠ -1 ∧ d ≠ n
  | [], s, h, _, _ => by cases h
  | k :: ks, s, h, hn, hl => by
    simp only [visitL, Option.bind_eq_none_iff] at h
    have hkl : k < s.1.length := hl k (by simp)
    have hk : s.1[k]? = some s.1[k] := List.getElem?_eq_getElem hkl
    cases h1 : visit1 n s k with
    | none =>
      unfold visit1 at h1
      split at h1
      · cases h1
      · rename_i q1
        split at h1
        · cases h1
        · rename_i q2
          rw [hk] at q1 q2
          exact ⟨k, by simp, _, hk, fun e => q1 (by rw [e]), fun e => q2 (by rw [e])⟩
    | some s1 =>
      have e1 : Ext n s.1 s1.1 (· ∈ s1.2) := (visitL_ext (ks := [k]) (s := s) (s' := s1) (by simp [visitL, h1]) hn).1
      obtain ⟨x, hx, d, q1, q2, q3⟩ := visitL_none (h s1 h1) hn (fun x hx => by rw [e1.len]; exact hl x (by simp [hx]))
      rcases e1.new x d q1 q2 with r | r
      · exact ⟨x, by simp [hx], d, r, q2, q3⟩
      · exact absurd r.1 q3

/-- The walk's queue holds what is not yet gone into. -/
structure WInv (hs : List Hnd) (code : List Ins) (out : List Int) (left : List Nat) (most : Int) extends FInv hs code out most where
  q : ∀ a ∈ left, ∃ d, out[a]? = some d ∧ d ≠ -1
  cl : ∀ (a : Nat) (d : Int) (i : Ins), out[a]? = some d → d ≠ -1 → code[a]? = some i → a ∈ left ∨ Cl hs out most a d i
theorem walk_law (hc : codeOk hs code) : ∀ (f : Nat) (out : List Int) (left : List Nat) (most : Int), WInv hs code out left most → WfW code.length out left → unr out + left.length < f →
    (∃ o m, walkGo hs code f out left most = some (o, m) ∧ Good hs code o m) ∨ (walkGo hs code f out left most = none ∧ Bad hs code)
  | 0, _, _, _, _, _, h => by omega
  | f + 1, out, [], most, hI, _, _ => .inl ⟨out, most, rfl, ⟨hI.toFInv, fun a d i h1 h2 h3 => (hI.cl a d i h1 h2 h3).resolve_left (by simp)⟩⟩
  | f + 1, out, a :: left, most, hI, hw, hf => by
    simp only [List.length_cons] at hf
    have hw' : WfW code.length out left := ⟨hw.len, hw.rng, fun x hx => hw.q x (by simp [hx])⟩
    rw [walkGo]
    by_cases ha : a = code.length
    · rw [if_pos ha]
      refine walk_law hc f out left most ⟨hI.toFInv, fun x hx => hI.q x (by simp [hx]), fun x d i h1 h2 h3 => ?_⟩ hw' (by omega)
      rcases hI.cl x d i h1 h2 h3 with q | q
      · rcases List.mem_cons.1 q with q | q
        · have := (List.getElem?_eq_some_iff.1 h3).1; omega
        · exact .inl q
      · exact .inr q
    · rw [if_neg ha]
      have hal := hw.q a (by simp)
      have hlt : a < code.length := by omega
      have hi : code[a]? = some code[a] := List.getElem?_eq_getElem hlt
      obtain ⟨d, hd, hd1⟩ := hI.q a (by simp)
      obtain ⟨hr, hd0⟩ := hI.sound a d hd hd1
      have hp := putsV_range (code[a]).op
      have htk := takesV_range (hc.2 _ (List.getElem_mem hlt)).1
      simp only [hi, hd]
      by_cases hb : d - takesV hs code[a] < 0 ∨ d - takesV hs code[a] + putsV (code[a]).op > 8
      · rw [if_pos hb]
        exact .inr ⟨rfl, .inl ⟨a, d, _, hr, hi, by omega⟩⟩
      · rw [if_neg hb]
        have hks := nextV_le hc hi
        have hrk : ∀ k ∈ nextV a code[a], Rch hs code k (d - takesV hs code[a] + putsV (code[a]).op) := fun k hk => .step hr hi (by omega) (by omega) hk
        generalize hn : d - takesV hs code[a] + putsV (code[a]).op = n at hb hrk ⊢
        have hn0 : 0 ≤ n ∧ n ≤ 8 := by omega
        cases hv : visitL n (nextV a code[a]) (out, left) with
        | none =>
          obtain ⟨k, hk, e, h1, h2, h3⟩ := visitL_none hv (by omega) (fun k hk => by have := hks k hk; have := hI.len; simp only; omega)
          exact .inr ⟨rfl, .inr ⟨k, e, n, (hI.sound k e h1 h2).1, hrk k hk, h3⟩⟩
        | some s =>
          obtain ⟨b1, b2, b3, b4⟩ := visitL_ext hv (by omega)
          obtain ⟨w1, w2⟩ := visitL_ok hv hks hn0 hw'
          simp only at b1 b2 w2
          have hrd := hw.rng d (List.mem_of_getElem? hd)
          refine walk_law hc f s.1 s.2 _ ⟨⟨by rw [b1.len]; exact hI.len, b1.keep 0 0 hI.zero (by omega), ?_, ?_, by have := hI.m0; omega⟩, ?_, ?_⟩ w1 (by omega)
          · intro x e h1 h2
            rcases b1.new x e h1 h2 with q | ⟨q, q'⟩
            · exact hI.sound x e q h2
            · subst q
              rcases visit_only hv x e h1 h2 with r | r
              · exact hI.sound x e r h2
              · exact ⟨hrk x r, hn0.1⟩
          · rcases Int.lt_or_le most (max d n) with hm | hm
            · refine .inr ⟨a, d, _, b1.keep a d hd hd1, hd1, hi, ?_⟩
              rw [hn]; omega
            · have e : max (max most d) n = most := by omega
              rw [e]
              rcases hI.att with q | ⟨x, e, i, h1, h2, h3, h4⟩
              · exact .inl q
              · exact .inr ⟨x, e, i, b1.keep x e h1 h2, h2, h3, h4⟩
          · intro x hx
            rcases b3 x hx with q | q
            · obtain ⟨e, h1, h2⟩ := hI.q x (by simp only at q; simp [q])
              exact ⟨e, b1.keep x e h1 h2, h2⟩
            · exact ⟨n, q, by omega⟩
          · intro x e i h1 h2 h3
            rcases b1.new x e h1 h2 with q | ⟨q, q'⟩
            · by_cases hxa : x = a
              · subst hxa
                rw [hd] at q; cases q
                rw [hi] at h3; cases h3
                refine .inr ⟨by omega, by omega, fun k hk => ?_, by omega, by omega⟩
                rw [hn]; exact b4 k hk
              · rcases hI.cl x e i q h2 h3 with r | ⟨c1, c2, c3, c4, c5⟩
                · rcases List.mem_cons.1 r with r | r
                  · exact absurd r hxa
                  · exact .inl (b2 x r)
                · have := putsV_range i.op
                  exact .inr ⟨c1, c2, fun k hk => b1.keep k _ (c3 k hk) (by omega), by omega, by omega⟩
            · exact .inl q'

/-! ### The reference's passes -/

theorem rvisitL_ext {d : Int} : ∀ {ks : List Nat} {s s' : List Int × Bool}, rvisitL d ks s = some s' → (0 ≤ d) → (∀ x ∈ s.1, -1 ≤ x) →
    Ext d s.1 s'.1 (· ∈ ks) ∧ (∀ x ∈ s'.1, -1 ≤ x) ∧ (s'.2 = false → s.2 = false ∧ s'.1 = s.1 ∧ ∀ k ∈ ks, s.1[k]? = some d)
  | [], s, s', h, _, hx => by cases h; exact ⟨.refl _ _ _, hx, fun h => ⟨h, rfl, by simp⟩⟩
  | k :: ks, s, s', h, hd, hx => by
    simp only [rvisitL, Option.bind_eq_some_iff] at h
    obtain ⟨s1, h1, h2⟩ := h
    unfold rvisit1 at h1
    split at h1
    · rename_i x hk
      split at h1
      · cases h1
      · rename_i hne
        split at h1
        · rename_i hneg
          cases h1
          have hxm := hx x (List.mem_of_getElem? hk)
          have hx1 : x = -1 := by omega
          subst hx1
          obtain ⟨b1, b2, b3⟩ := rvisitL_ext h2 hd (fun y hy => by
              rcases List.mem_or_eq_of_mem_set hy with hy | hy
              · exact hx y hy
              · omega)
          refine ⟨(Ext.set hk (· ∈ k :: ks) (by simp)).trans (R := (· ∈ k :: ks)) ⟨b1.len, b1.keep, fun a e q1 q2 => (b1.new a e q1 q2).imp id (fun r => ⟨r.1, by simp [r.2]⟩)⟩ (fun _ h => h), b2, fun q => ?_⟩
          have := (b3 q).1
          simp at this
        · rename_i hpos
          cases h1
          have hx1 : x = d := by omega
          subst hx1
          obtain ⟨b1, b2, b3⟩ := rvisitL_ext h2 hd hx
          refine ⟨⟨b1.len, b1.keep, fun a e q1 q2 => (b1.new a e q1 q2).imp id (fun r => ⟨r.1, by simp [r.2]⟩)⟩, b2, fun q => ?_⟩
          obtain ⟨c1, c2, c3⟩ := b3 q
          refine ⟨c1, c2, fun y hy => ?_⟩
          rcases List.mem_cons.1 hy with rfl | hy
          · exact hk
          · exact c3 y hy
    · cases h1
theorem rvisitL_none {d : Int} : ∀ {ks : List Nat} {s : List Int × Bool}, rvisitL d ks s = none → (0 ≤ d) → (∀ x ∈ s.1, -1 ≤ x) → (∀ k ∈ ks, k < s.1.length) → ∃ k ∈ ks, ∃ e, s.1[k]? = some e ∧ e ≠ -1 ∧ e ≠ d
  | [], s, h, _, _, _ => by cases h
  | k :: ks, s, h, hd, hx, hl => by
    simp only [rvisitL, Option.bind_eq_none_iff] at h
    have hkl : k < s.1.length := hl k (by simp)
    have hk : s.1[k]? = some s.1[k] := List.getElem?_eq_getElem hkl
    cases h1 : rvisit1 d s k with
    | none =>
      unfold rvisit1 at h1
      rw [hk] at h1
      simp only at h1
      split at h1
      · rename_i q; exact ⟨k, by simp, _, hk, by omega, q.2⟩
      · split at h1 <;> cases h1
    | some s1 =>
      obtain ⟨e1, e2, _⟩ := rvisitL_ext (ks := [k]) (s := s) (s' := s1) (by simp [rvisitL, h1]) hd hx
      obtain ⟨x, hx', e, q1, q2, q3⟩ := rvisitL_none (h s1 h1) hd e2 (fun x hx => by rw [e1.len]; exact hl x (by simp [hx]))
      rcases e1.new x e q1 q2 with r | r
      · exact ⟨x, by simp [hx'], e, r, q2, q3⟩
      · exact absurd r.1 q3
theorem Inv_ge {out : List Int} {most : Int} (h : FInv hs code out most) (hr : ∀ x ∈ out, -1 ≤ x ∧ x ≤ 8) : ∀ x ∈ out, -1 ≤ x := fun x hx => (hr x hx).1
/-- One step of a pass. -/
theorem rstep_law (hc : codeOk hs code) {s : RS} {i : Nat} (hi : i < code.length) (hI : FInv hs code s.l s.most) (hw : WfR code.length s.l) :
    (∃ s', rstep hs code s i = some s' ∧ FInv hs code s'.l s'.most ∧ s.most ≤ s'.most ∧ (s'.again = false → s.again = false ∧ s'.l = s.l ∧ ∀ (d : Int) (c : Ins), s.l[i]? = some d → d ≠ -1 → code[i]? = some c → Cl hs s.l s'.most i d c)) ∨ (rstep hs code s i = none ∧ Bad hs code) := by
  have hil : i < s.l.length := by rw [hI.len]; omega
  have hx : s.l[i]? = some s.l[i] := List.getElem?_eq_getElem hil
  have hcc : code[i]? = some code[i] := List.getElem?_eq_getElem hi
  have hge := fun x hx => (hw.rng x hx).1
  have hxg := hge _ (List.getElem_mem hil)
  unfold rstep
  simp only [hx, hcc]
  by_cases h0 : s.l[i] < 0
  · rw [if_pos h0]
    refine .inl ⟨s, rfl, hI, Int.le_refl _, fun h => ⟨h, rfl, fun d c h1 h2 => ?_⟩⟩
    cases h1; exact absurd (by omega) h2
  · rw [if_neg h0]
    obtain ⟨hr, hd0⟩ := hI.sound i _ hx (by omega)
    have hp := putsV_range (code[i]).op
    by_cases hb : s.l[i] < takesV hs code[i] ∨ s.l[i] - takesV hs code[i] + putsV (code[i]).op > 8
    · rw [if_pos hb]
      exact .inr ⟨rfl, .inl ⟨i, _, _, hr, hcc, hb⟩⟩
    · rw [if_neg hb]
      have hks := nextV_le hc hcc
      have hrk : ∀ k ∈ nextV i code[i], Rch hs code k (s.l[i] - takesV hs code[i] + putsV (code[i]).op) := fun k hk => .step hr hcc (by omega) (by omega) hk
      generalize hn : s.l[i] - takesV hs code[i] + putsV (code[i]).op = n at hb hrk ⊢
      have hn0 : 0 ≤ n := by omega
      cases hv : rvisitL n (nextV i code[i]) (s.l, s.again) with
      | none =>
        obtain ⟨k, hk, e, h1, h2, h3⟩ := rvisitL_none hv hn0 hge (fun k hk => by have := hks k hk; have := hI.len; simp only; omega)
        exact .inr ⟨rfl, .inr ⟨k, e, n, (hI.sound k e h1 h2).1, hrk k hk, h3⟩⟩
      | some r =>
        obtain ⟨b1, b2, b3⟩ := rvisitL_ext hv hn0 hge
        simp only at b1 b3
        refine .inl ⟨_, rfl, ⟨by rw [b1.len]; exact hI.len, b1.keep 0 0 hI.zero (by omega), ?_, ?_, by have := hI.m0; simp only; omega⟩, by simp only; omega, ?_⟩
        · intro x e h1 h2
          rcases b1.new x e h1 h2 with q | ⟨q, q'⟩
          · exact hI.sound x e q h2
          · subst q; exact ⟨hrk x q', hn0⟩
        · rcases Int.lt_or_le s.most (max s.l[i] n) with hm | hm
          · refine .inr ⟨i, s.l[i], _, b1.keep i _ hx (by omega), by omega, hcc, ?_⟩
            rw [hn]; simp only; omega
          · have e : max (max s.most s.l[i]) n = s.most := by omega
            simp only
            rw [e]
            rcases hI.att with q | ⟨x, e, c, h1, h2, h3, h4⟩
            · exact .inl q
            · exact .inr ⟨x, e, c, b1.keep x e h1 h2, h2, h3, h4⟩
        · intro hag
          obtain ⟨c1, c2, c3⟩ := b3 hag
          refine ⟨c1, c2, fun d c h1 h2 h3 => ?_⟩
          cases h1
          cases h3
          refine ⟨by omega, by omega, fun k hk => ?_, by simp only; omega, by simp only; omega⟩
          rw [hn]; exact c3 k hk
theorem Cl.mono {out : List Int} {m n : Int} {a : Nat} {d : Int} {i : Ins} (h : Cl hs out m a d i) (hmn : m ≤ n) : Cl hs out n a d i :=
  ⟨h.1, h.2.1, h.2.2.1, Int.le_trans h.2.2.2.1 hmn, Int.le_trans h.2.2.2.2 hmn⟩
theorem rpass_law (hc : codeOk hs code) : ∀ (is : List Nat) (s : RS), (∀ i ∈ is, i < code.length) → FInv hs code s.l s.most → WfR code.length s.l →
    (∃ s', rpass hs code is s = some s' ∧ FInv hs code s'.l s'.most ∧ s.most ≤ s'.most ∧ (s'.again = false → s.again = false ∧ s'.l = s.l ∧ ∀ i ∈ is, ∀ (d : Int) (c : Ins), s.l[i]? = some d → d ≠ -1 → code[i]? = some c → Cl hs s.l s'.most i d c)) ∨ (rpass hs code is s = none ∧ Bad hs code)
  | [], s, _, hI, _ => .inl ⟨s, rfl, hI, Int.le_refl _, fun h => ⟨h, rfl, by simp⟩⟩
  | i :: is, s, hi, hI, hw => by
    rcases rstep_law hc (hi i (by simp)) hI hw with ⟨s1, a1, a2, a3, a4⟩ | ⟨a1, a2⟩
    · have hw1 := (rstep_ok a1 hc hw).1
      rcases rpass_law hc is s1 (fun j hj => hi j (by simp [hj])) a2 hw1 with ⟨s2, b1, b2, b3, b4⟩ | ⟨b1, b2⟩
      · refine .inl ⟨s2, by simp [rpass, a1, b1], b2, Int.le_trans a3 b3, fun h => ?_⟩
        obtain ⟨c1, c2, c3⟩ := b4 h
        obtain ⟨d1, d2, d3⟩ := a4 c1
        refine ⟨d1, c2.trans d2, fun j hj d c h1 h2 h3 => ?_⟩
        rcases List.mem_cons.1 hj with rfl | hj
        · exact (d3 d c h1 h2 h3).mono b3
        · have := c3 j hj d c (by rw [d2]; exact h1) h2 h3
          rwa [d2] at this
      · exact .inr ⟨by simp [rpass, a1, b1], b2⟩
    · exact .inr ⟨by simp [rpass, a1], a2⟩
theorem rgo_law (hc : codeOk hs code) : ∀ (f : Nat) (l : List Int) (most : Int), FInv hs code l most → WfR code.length l → unr l < f →
    (∃ o m, rgo hs code f l most = some (o, m) ∧ Good hs code o m) ∨ (rgo hs code f l most = none ∧ Bad hs code)
  | 0, _, _, _, _, h => by omega
  | f + 1, l, most, hI, hw, hf => by
    rcases rpass_law hc (List.range code.length) ⟨l, most, false⟩ (by simp) hI hw with ⟨s, a1, a2, a3, a4⟩ | ⟨a1, a2⟩
    · rw [rgo, a1]
      simp only
      obtain ⟨hws, hun⟩ := rpass_ok hc a1 hw
      by_cases hag : s.again = true
      · rw [if_pos hag]
        rcases hun with ⟨q, _⟩ | ⟨_, q⟩
        · rw [hag] at q; cases q
        · exact rgo_law hc f s.l s.most a2 hws (by simp only at q; omega)
      · rw [if_neg hag]
        obtain ⟨_, c2, c3⟩ := a4 (by simpa using hag)
        refine .inl ⟨s.l, s.most, rfl, a2, fun a d i h1 h2 h3 => ?_⟩
        simp only at c2 c3
        rw [c2] at h1 ⊢
        exact c3 a (by simpa using (List.getElem?_eq_some_iff.1 h3).1) d i h1 h2 h3
    · exact .inr ⟨by rw [rgo, a1], a2⟩
theorem start_inv : FInv hs code ((List.replicate (code.length + 1) (-1)).set 0 0) 0 := by
  refine ⟨by simp, by simp [List.replicate_succ], fun a d h1 h2 => ?_, .inl rfl, Int.le_refl _⟩
  rw [List.getElem?_set] at h1
  split at h1
  · rename_i e; subst e
    simp at h1; subst h1
    exact ⟨.start, Int.le_refl _⟩
  · have := List.eq_of_mem_replicate (List.mem_of_getElem? h1)
    exact absurd this h2
theorem start_rng : ∀ x ∈ ((List.replicate (code.length + 1) (-1)).set 0 0 : List Int), -1 ≤ x ∧ x ≤ 8 := by
  intro x hx
  rcases List.mem_or_eq_of_mem_set hx with hx | hx
  · have := List.eq_of_mem_replicate hx; omega
  · omega
theorem start_unr : unr ((List.replicate (code.length + 1) (-1)).set 0 0) = code.length := by
  simp [unr, List.replicate_succ, List.countP_replicate]
theorem walk_good (hc : codeOk hs code) : (∃ o m, walkV hs code = some (o, m) ∧ Good hs code o m) ∨ (walkV hs code = none ∧ Bad hs code) := by
  refine walk_law hc _ _ _ _ ⟨start_inv, ?_, ?_⟩ ⟨by simp, start_rng, by simp⟩ (by rw [start_unr]; simp)
  · intro a ha
    simp at ha; subst ha
    exact ⟨0, by simp [List.replicate_succ], by omega⟩
  · intro a d i h1 h2 _
    rw [List.getElem?_set] at h1
    split at h1
    · rename_i e; subst e; exact .inl (by simp)
    · have := List.eq_of_mem_replicate (List.mem_of_getElem? h1)
      exact absurd this h2
theorem rwalk_good (hc : codeOk hs code) : (∃ o m, rwalkV hs code = some (o, m) ∧ Good hs code o m) ∨ (rwalkV hs code = none ∧ Bad hs code) :=
  rgo_law hc _ _ _ start_inv ⟨by simp, start_rng⟩ (by rw [start_unr]; omega)
/-- Both come to the same. -/
theorem walk_eq (hc : codeOk hs code) : rwalkV hs code = walkV hs code := by
  rcases walk_good hc with ⟨o, m, h1, h2⟩ | ⟨h1, h2⟩ <;> rcases rwalk_good hc with ⟨p, n, k1, k2⟩ | ⟨k1, k2⟩
  · obtain ⟨e1, e2⟩ := h2.uniq k2
    rw [h1, k1, e1, e2]
  · exact absurd k2 h2.not_bad
  · exact absurd h2 k2.not_bad
  · rw [h1, k1]
end

end Go.Gv

/- One step of vm's machine: what an instruction makes of it, in one law. -/
set_option linter.unusedVariables false
set_option linter.unusedSimpArgs false
namespace Go.Gv
open Go.Proofs

def argsN (F : Fx) (a : Int) : Nat := (argsOf F.p.hs a).toNat
def doV (F : Fx) (i : Ins) (m : Mach) : Mach × Int :=
  if i.op = 1 then ({ m with pc := m.pc + 1, st := m.st ++ [i.a] }, 0)
  else if i.op = 2 then ({ m with pc := m.pc + 1, st := m.st.dropLast }, 0)
  else if i.op = 3 then ({ m with pc := m.pc + 1, st := m.st ++ [top m.st] }, 0)
  else if i.op = 4 then ({ m with pc := m.pc + 1, st := m.st.dropLast.dropLast ++ [top m.st, top m.st.dropLast] }, 0)
  else if i.op = 5 then ({ m with pc := m.pc + 1, st := m.st ++ [loadV m i.a] }, 0)
  else if i.op = 6 then ({ m with pc := m.pc + 1, st := m.st.dropLast, regs := if i.a < m.regs.length then m.regs.set i.a.toNat (top m.st) else m.regs }, 0)
  else if i.op = 7 then ({ m with pc := m.pc + 1, st := m.st ++ [(F.args[i.a.toNat]?).getD 0] }, 0)
  else if i.op = 8 then ({ m with pc := m.pc + 1, st := m.st ++ [F.who] }, 0)
  else if i.op = 20 then ({ m with pc := i.a }, 0)
  else if i.op = 21 then ({ m with pc := if top m.st = 0 then i.a else m.pc + 1, st := m.st.dropLast }, 0)
  else if i.op = 22 then
    (if top m.st < 0 ∨ top m.st ≥ F.p.as.length then ({ m with pc := m.pc + 1, st := m.st.dropLast }, 4)
     else ({ m with pc := m.pc + 1, st := m.st.take (m.st.length - 1 - argsN F i.a), notes := m.notes ++ [⟨top m.st, i.a, m.st.dropLast.drop (m.st.length - 1 - argsN F i.a)⟩] }, 0))
  else if i.op = 23 then ({ m with pc := m.pc + 1, armed := m.armed || !decide ((F.p.as[F.who.toNat]?.map Actr.timer).getD 0 = -1) }, 0)
  else if i.op = 24 then ({ m with pc := m.pc + 1, armed := false }, 0)
  else if i.op = 25 then ({ m with pc := -1 }, 0)
  else if (oneV i.op (top m.st)).2 = true then ({ m with pc := m.pc + 1, st := m.st.dropLast ++ [(oneV i.op (top m.st)).1] }, 0)
  else ({ m with pc := m.pc + 1, st := m.st.dropLast.dropLast ++ [(twoV i.op (top m.st.dropLast) (top m.st)).1] }, (twoV i.op (top m.st.dropLast) (top m.st)).2)
structure DoOk (F : Fx) (i : Ins) (m : Mach) : Prop where
  op : 1 ≤ i.op ∧ i.op ≤ 25
  takes : takesV F.p.hs i ≤ m.st.length
  reg : i.op = 5 ∨ i.op = 6 → 0 ≤ i.a
  arg : i.op = 7 → 0 ≤ i.a ∧ i.a.toNat < F.args.length
  snd : i.op = 22 → 0 ≤ i.a ∧ i.a.toNat < F.p.hs.length ∧ 0 ≤ argsOf F.p.hs i.a
  who : 0 ≤ F.who ∧ F.who.toNat < F.p.as.length
  rl : m.regs.length ≤ 1000
  nl : m.notes.length < 1000
  pc : 0 ≤ m.pc ∧ m.pc < 1000
  sl : m.st.length < 900
theorem do_v (F : Fx) (st : Nat) (m : Mach) (i : Ins) (ok : DoOk F i m) {S : St} {k : AV → St → Prop} {u : Dep k} (h : MS F st m S)
    (hk : ∀ S', Fr Lm S S' → MS F st (doV F i m).1 S' → k (iv (doV F i m).2) S') : CallG Try.prog (.fn 98 []) [.ptr 84026 st 14 0 0, i.av] S k u := by
  obtain ⟨⟨o1, o2⟩, tk, rg, ag, sd, ⟨w1, w2⟩, rl, nl, pc, sl⟩ := ok
  have tk' : popsV i.op ≤ m.st.length := by
    have : 0 ≤ (if i.op = 22 then argsOf F.p.hs i.a else 0) := by
      split
      · exact (sd ‹_›).2.2
      · omega
    unfold takesV at tk; omega
  rcases lit25 o1 o2 with e | e | e | e | e | e | e | e | e | e | e | e | e | e | e | e | e | e | e | e | e | e | e | e | e
  · -- 1
    have tp : popsV 1 ≤ m.st.length := e ▸ tk'
    exact do1_v F st m i e pc sl h (by simpa [doV, e] using hk)
  · -- 2
    have tp : popsV 2 ≤ m.st.length := e ▸ tk'
    simp only [popsV] at tp
    simp at tp
    exact do2_v F st m i e (by omega) pc sl h (by simpa [doV, e] using hk)
  · -- 3
    have tp : popsV 3 ≤ m.st.length := e ▸ tk'
    simp only [popsV] at tp
    simp at tp
    exact do3_v F st m i e (by omega) pc sl h (by simpa [doV, e] using hk)
  · -- 4
    have tp : popsV 4 ≤ m.st.length := e ▸ tk'
    simp only [popsV] at tp
    simp at tp
    exact do4_v F st m i e (by omega) pc sl h (by simpa [doV, e] using hk)
  · -- 5
    have tp : popsV 5 ≤ m.st.length := e ▸ tk'
    exact do5_v F st m i e (rg (.inl e)) rl pc sl h (by simpa [doV, e] using hk)
  · -- 6
    have tp : popsV 6 ≤ m.st.length := e ▸ tk'
    simp only [popsV] at tp
    simp at tp
    exact do6_v F st m i e (by omega) (rg (.inr e)) rl pc sl h (by simpa [doV, e] using hk)
  · -- 7
    have tp : popsV 7 ≤ m.st.length := e ▸ tk'
    exact do7_v F st m i e (ag e).1 (ag e).2 pc sl h (by simpa [doV, e, List.getElem?_eq_getElem (ag e).2] using hk)
  · -- 8
    have tp : popsV 8 ≤ m.st.length := e ▸ tk'
    exact do8_v F st m i e pc sl h (by simpa [doV, e] using hk)
  · -- 9
    have tp : popsV 9 ≤ m.st.length := e ▸ tk'
    simp only [popsV] at tp
    simp at tp
    have ho : (oneV i.op (top m.st)).2 = false := by simp [oneV, e]
    have hd : doV F i m = ({ m with pc := m.pc + 1, st := m.st.dropLast.dropLast ++ [(twoV i.op (top m.st.dropLast) (top m.st)).1] }, (twoV i.op (top m.st.dropLast) (top m.st)).2) := by
      unfold doV; rw [if_neg (by omega), if_neg (by omega), if_neg (by omega), if_neg (by omega), if_neg (by omega), if_neg (by omega), if_neg (by omega), if_neg (by omega), if_neg (by omega), if_neg (by omega), if_neg (by omega), if_neg (by omega), if_neg (by omega), if_neg (by omega), if_neg (by rw [ho]; simp)]
    rw [hd] at hk
    exact doc2_v F st m i (by omega) (by omega) ho pc sl h hk
  · -- 10
    have tp : popsV 10 ≤ m.st.length := e ▸ tk'
    simp only [popsV] at tp
    simp at tp
    have ho : (oneV i.op (top m.st)).2 = false := by simp [oneV, e]
    have hd : doV F i m = ({ m with pc := m.pc + 1, st := m.st.dropLast.dropLast ++ [(twoV i.op (top m.st.dropLast) (top m.st)).1] }, (twoV i.op (top m.st.dropLast) (top m.st)).2) := by
      unfold doV; rw [if_neg (by omega), if_neg (by omega), if_neg (by omega), if_neg (by omega), if_neg (by omega), if_neg (by omega), if_neg (by omega), if_neg (by omega), if_neg (by omega), if_neg (by omega), if_neg (by omega), if_neg (by omega), if_neg (by omega), if_neg (by omega), if_neg (by rw [ho]; simp)]
    rw [hd] at hk
    exact doc2_v F st m i (by omega) (by omega) ho pc sl h hk
  · -- 11
    have tp : popsV 11 ≤ m.st.length := e ▸ tk'
    simp only [popsV] at tp
    simp at tp
    have ho : (oneV i.op (top m.st)).2 = false := by simp [oneV, e]
    have hd : doV F i m = ({ m with pc := m.pc + 1, st := m.st.dropLast.dropLast ++ [(twoV i.op (top m.st.dropLast) (top m.st)).1] }, (twoV i.op (top m.st.dropLast) (top m.st)).2) := by
      unfold doV; rw [if_neg (by omega), if_neg (by omega), if_neg (by omega), if_neg (by omega), if_neg (by omega), if_neg (by omega), if_neg (by omega), if_neg (by omega), if_neg (by omega), if_neg (by omega), if_neg (by omega), if_neg (by omega), if_neg (by omega), if_neg (by omega), if_neg (by rw [ho]; simp)]
    rw [hd] at hk
    exact doc2_v F st m i (by omega) (by omega) ho pc sl h hk
  · -- 12
    have tp : popsV 12 ≤ m.st.length := e ▸ tk'
    simp only [popsV] at tp
    simp at tp
    have ho : (oneV i.op (top m.st)).2 = false := by simp [oneV, e]
    have hd : doV F i m = ({ m with pc := m.pc + 1, st := m.st.dropLast.dropLast ++ [(twoV i.op (top m.st.dropLast) (top m.st)).1] }, (twoV i.op (top m.st.dropLast) (top m.st)).2) := by
      unfold doV; rw [if_neg (by omega), if_neg (by omega), if_neg (by omega), if_neg (by omega), if_neg (by omega), if_neg (by omega), if_neg (by omega), if_neg (by omega), if_neg (by omega), if_neg (by omega), if_neg (by omega), if_neg (by omega), if_neg (by omega), if_neg (by omega), if_neg (by rw [ho]; simp)]
    rw [hd] at hk
    exact doc2_v F st m i (by omega) (by omega) ho pc sl h hk
  · -- 13
    have tp : popsV 13 ≤ m.st.length := e ▸ tk'
    simp only [popsV] at tp
    simp at tp
    have ho : (oneV i.op (top m.st)).2 = false := by simp [oneV, e]
    have hd : doV F i m = ({ m with pc := m.pc + 1, st := m.st.dropLast.dropLast ++ [(twoV i.op (top m.st.dropLast) (top m.st)).1] }, (twoV i.op (top m.st.dropLast) (top m.st)).2) := by
      unfold doV; rw [if_neg (by omega), if_neg (by omega), if_neg (by omega), if_neg (by omega), if_neg (by omega), if_neg (by omega), if_neg (by omega), if_neg (by omega), if_neg (by omega), if_neg (by omega), if_neg (by omega), if_neg (by omega), if_neg (by omega), if_neg (by omega), if_neg (by rw [ho]; simp)]
    rw [hd] at hk
    exact doc2_v F st m i (by omega) (by omega) ho pc sl h hk
  · -- 14
    have tp : popsV 14 ≤ m.st.length := e ▸ tk'
    simp only [popsV] at tp
    simp at tp
    have ho : (oneV i.op (top m.st)).2 = true := by simp [oneV, e]
    have hd : doV F i m = ({ m with pc := m.pc + 1, st := m.st.dropLast ++ [(oneV i.op (top m.st)).1] }, 0) := by
      unfold doV; rw [if_neg (by omega), if_neg (by omega), if_neg (by omega), if_neg (by omega), if_neg (by omega), if_neg (by omega), if_neg (by omega), if_neg (by omega), if_neg (by omega), if_neg (by omega), if_neg (by omega), if_neg (by omega), if_neg (by omega), if_neg (by omega), if_pos ho]
    rw [hd] at hk
    exact doc1_v F st m i (by omega) (by omega) ho pc sl h hk
  · -- 15
    have tp : popsV 15 ≤ m.st.length := e ▸ tk'
    simp only [popsV] at tp
    simp at tp
    have ho : (oneV i.op (top m.st)).2 = false := by simp [oneV, e]
    have hd : doV F i m = ({ m with pc := m.pc + 1, st := m.st.dropLast.dropLast ++ [(twoV i.op (top m.st.dropLast) (top m.st)).1] }, (twoV i.op (top m.st.dropLast) (top m.st)).2) := by
      unfold doV; rw [if_neg (by omega), if_neg (by omega), if_neg (by omega), if_neg (by omega), if_neg (by omega), if_neg (by omega), if_neg (by omega), if_neg (by omega), if_neg (by omega), if_neg (by omega), if_neg (by omega), if_neg (by omega), if_neg (by omega), if_neg (by omega), if_neg (by rw [ho]; simp)]
    rw [hd] at hk
    exact doc2_v F st m i (by omega) (by omega) ho pc sl h hk
  · -- 16
    have tp : popsV 16 ≤ m.st.length := e ▸ tk'
    simp only [popsV] at tp
    simp at tp
    have ho : (oneV i.op (top m.st)).2 = false := by simp [oneV, e]
    have hd : doV F i m = ({ m with pc := m.pc + 1, st := m.st.dropLast.dropLast ++ [(twoV i.op (top m.st.dropLast) (top m.st)).1] }, (twoV i.op (top m.st.dropLast) (top m.st)).2) := by
      unfold doV; rw [if_neg (by omega), if_neg (by omega), if_neg (by omega), if_neg (by omega), if_neg (by omega), if_neg (by omega), if_neg (by omega), if_neg (by omega), if_neg (by omega), if_neg (by omega), if_neg (by omega), if_neg (by omega), if_neg (by omega), if_neg (by omega), if_neg (by rw [ho]; simp)]
    rw [hd] at hk
    exact doc2_v F st m i (by omega) (by omega) ho pc sl h hk
  · -- 17
    have tp : popsV 17 ≤ m.st.length := e ▸ tk'
    simp only [popsV] at tp
    simp at tp
    have ho : (oneV i.op (top m.st)).2 = false := by simp [oneV, e]
    have hd : doV F i m = ({ m with pc := m.pc + 1, st := m.st.dropLast.dropLast ++ [(twoV i.op (top m.st.dropLast) (top m.st)).1] }, (twoV i.op (top m.st.dropLast) (top m.st)).2) := by
      unfold doV; rw [if_neg (by omega), if_neg (by omega), if_neg (by omega), if_neg (by omega), if_neg (by omega), if_neg (by omega), if_neg (by omega), if_neg (by omega), if_neg (by omega), if_neg (by omega), if_neg (by omega), if_neg (by omega), if_neg (by omega), if_neg (by omega), if_neg (by rw [ho]; simp)]
    rw [hd] at hk
    exact doc2_v F st m i (by omega) (by omega) ho pc sl h hk
  · -- 18
    have tp : popsV 18 ≤ m.st.length := e ▸ tk'
    simp only [popsV] at tp
    simp at tp
    have ho : (oneV i.op (top m.st)).2 = false := by simp [oneV, e]
    have hd : doV F i m = ({ m with pc := m.pc + 1, st := m.st.dropLast.dropLast ++ [(twoV i.op (top m.st.dropLast) (top m.st)).1] }, (twoV i.op (top m.st.dropLast) (top m.st)).2) := by
      unfold doV; rw [if_neg (by omega), if_neg (by omega), if_neg (by omega), if_neg (by omega), if_neg (by omega), if_neg (by omega), if_neg (by omega), if_neg (by omega), if_neg (by omega), if_neg (by omega), if_neg (by omega), if_neg (by omega), if_neg (by omega), if_neg (by omega), if_neg (by rw [ho]; simp)]
    rw [hd] at hk
    exact doc2_v F st m i (by omega) (by omega) ho pc sl h hk
  · -- 19
    have tp : popsV 19 ≤ m.st.length := e ▸ tk'
    simp only [popsV] at tp
    simp at tp
    have ho : (oneV i.op (top m.st)).2 = true := by simp [oneV, e]
    have hd : doV F i m = ({ m with pc := m.pc + 1, st := m.st.dropLast ++ [(oneV i.op (top m.st)).1] }, 0) := by
      unfold doV; rw [if_neg (by omega), if_neg (by omega), if_neg (by omega), if_neg (by omega), if_neg (by omega), if_neg (by omega), if_neg (by omega), if_neg (by omega), if_neg (by omega), if_neg (by omega), if_neg (by omega), if_neg (by omega), if_neg (by omega), if_neg (by omega), if_pos ho]
    rw [hd] at hk
    exact doc1_v F st m i (by omega) (by omega) ho pc sl h hk
  · -- 20
    have tp : popsV 20 ≤ m.st.length := e ▸ tk'
    exact do20_v F st m i e pc sl h (by simpa [doV, e] using hk)
  · -- 21
    have tp : popsV 21 ≤ m.st.length := e ▸ tk'
    simp only [popsV] at tp
    simp at tp
    exact do21_v F st m i e (by omega) pc sl h (by simpa [doV, e] using hk)
  · -- 22
    obtain ⟨a0, a1, a2⟩ := sd e
    have ht : 1 + argsOf F.p.hs i.a ≤ m.st.length := by
      unfold takesV at tk; rw [if_pos e, e] at tk
      simpa [popsV] using tk
    have hh : F.p.hs[i.a.toNat]? = some F.p.hs[i.a.toNat] := List.getElem?_eq_getElem a1
    have hargs : F.p.hs[i.a.toNat].args = argsOf F.p.hs i.a := by unfold argsOf; rw [hh]; rfl
    have hN : (argsN F i.a : Int) = argsOf F.p.hs i.a := by unfold argsN; omega
    have hb : (m.st.dropLast.drop (m.st.length - 1 - argsN F i.a)).length = argsN F i.a := by simp; omega
    have hx : m.st = m.st.take (m.st.length - 1 - argsN F i.a) ++ m.st.dropLast.drop (m.st.length - 1 - argsN F i.a) ++ [top m.st] := by
      have e1 : m.st.take (m.st.length - 1 - argsN F i.a) = m.st.dropLast.take (m.st.length - 1 - argsN F i.a) := by
        rw [List.dropLast_eq_take, List.take_take, Nat.min_eq_left (by omega)]
      rw [e1, List.take_append_drop]
      exact top_split (by omega)
    have hdl : m.st.take (m.st.length - 1 - argsN F i.a) ++ m.st.dropLast.drop (m.st.length - 1 - argsN F i.a) = m.st.dropLast := by
      have e1 : m.st.take (m.st.length - 1 - argsN F i.a) = m.st.dropLast.take (m.st.length - 1 - argsN F i.a) := by
        rw [List.dropLast_eq_take, List.take_take, Nat.min_eq_left (by omega)]
      rw [e1, List.take_append_drop]
    refine do22_v F st m i e _ _ _ hx a0 _ hh (by rw [hargs, hb, hN]) nl pc sl h ?_ ?_
    · intro hc
      rw [hdl]
      have hd : doV F i m = ({ m with pc := m.pc + 1, st := m.st.dropLast }, 4) := by
        unfold doV; rw [if_neg (by omega), if_neg (by omega), if_neg (by omega), if_neg (by omega), if_neg (by omega), if_neg (by omega), if_neg (by omega), if_neg (by omega), if_neg (by omega), if_neg (by omega), if_pos e, if_pos hc]
      rw [hd] at hk
      exact hk
    · intro hc
      have hd : doV F i m = ({ m with pc := m.pc + 1, st := m.st.take (m.st.length - 1 - argsN F i.a), notes := m.notes ++ [⟨top m.st, i.a, m.st.dropLast.drop (m.st.length - 1 - argsN F i.a)⟩] }, 0) := by
        unfold doV; rw [if_neg (by omega), if_neg (by omega), if_neg (by omega), if_neg (by omega), if_neg (by omega), if_neg (by omega), if_neg (by omega), if_neg (by omega), if_neg (by omega), if_neg (by omega), if_pos e, if_neg hc]
      rw [hd] at hk
      exact hk
  · -- 23
    have tp : popsV 23 ≤ m.st.length := e ▸ tk'
    have hx : F.p.as[F.who.toNat]? = some F.p.as[F.who.toNat] := List.getElem?_eq_getElem w2
    exact do23_v F st m i e w1 _ hx pc sl h (by simpa [doV, e, hx] using hk)
  · -- 24
    have tp : popsV 24 ≤ m.st.length := e ▸ tk'
    exact do24_v F st m i e pc sl h (by simpa [doV, e] using hk)
  · -- 25
    have tp : popsV 25 ≤ m.st.length := e ▸ tk'
    exact do25_v F st m i e pc sl h (by simpa [doV, e] using hk)

end Go.Gv

/- What the rows' readings of a program and of a note say. No condition. -/
set_option linter.unusedVariables false
set_option linter.unusedSimpArgs false
namespace Go.Gv
open Go.Proofs

theorem len2 {α : Type} {l : List α} (h : l.length = 2) : ∃ a b, l = [a, b] := by
  match l, h with
  | [a, b], _ => exact ⟨a, b, rfl⟩
theorem len3 {α : Type} {l : List α} (h : l.length = 3) : ∃ a b c, l = [a, b, c] := by
  match l, h with
  | [a, b, c], _ => exact ⟨a, b, c, rfl⟩
theorem len4 {α : Type} {l : List α} (h : l.length = 4) : ∃ a b c d, l = [a, b, c, d] := by
  match l, h with
  | [a, b, c, d], _ => exact ⟨a, b, c, d, rfl⟩
theorem len5 {α : Type} {l : List α} (h : l.length = 5) : ∃ a b c d e, l = [a, b, c, d, e] := by
  match l, h with
  | [a, b, c, d, e], _ => exact ⟨a, b, c, d, e, rfl⟩
section
variable {H : Type} {enc : TypeId × Value → H} {P : Program} {w : World}
theorem open1 {ty : TypeId} {A : Type} {f : A → AV} {Pr : A → Prop} (ho : Opens enc P w ty A f Pr) (h1 : ∀ a, (f a).cells = [f a]) {n i : Nat} {c : Value} {xs : List (DataW H × List MemPlace)}
    (h : DataW.trod enc P w 0 (fun _ => true) true n ty [c] = xs[i]?) (hi : i < xs.length) : ∃ a, Pr a ∧ Rel (envK (Kw w)) (f a) c := by
  rw [List.getElem?_eq_getElem hi] at h
  obtain ⟨a, p1, p2, p3, p4⟩ := ho _ _ _ h
  exact ⟨a, p1, p4 0 (f a) c (by rw [h1]; rfl) rfl⟩
inductive RelL (E : Env) : List AV → List Value → Prop where
  | nil : RelL E [] []
  | cons {x : AV} {v : Value} {xs : List AV} {vs : List Value} : Rel E x v → RelL E xs vs → RelL E (x :: xs) (v :: vs)
theorem cells_rel {E : Env} {xs : List AV} {cs : List Value} (h : RelL E xs cs) : cs.length = xs.length ∧ ∀ (j : Nat) (y : AV) (u : Value), xs[j]? = some y → cs[j]? = some u → Rel E y u := by
  induction h with
  | nil => exact ⟨rfl, by simp⟩
  | cons a b ih =>
    refine ⟨by simp [ih.1], ?_⟩
    intro j y u hy hu
    cases j with
    | zero => simp at hy hu; subst hy; subst hu; exact a
    | succ j => exact ih.2 j y u (by simpa using hy) (by simpa using hu)
end
def Ins.R (i : Ins) : Prop := InR i.op ∧ InR i.a
def Hnd.R (h : Hnd) : Prop := InR h.args ∧ h.code.length ≤ maxLen ∧ ∀ i ∈ h.code, i.R
def Actr.R (a : Actr) : Prop := (a.regs.length ≤ maxLen ∧ ∀ x ∈ a.regs, InR x) ∧ InR a.cap ∧ InR a.timer
def Nt.R (n : Nt) : Prop := InR n.to ∧ InR n.hd ∧ n.args.length ≤ maxLen ∧ ∀ x ∈ n.args, InR x
def Prg.R (p : Prg) : Prop := (p.hs.length ≤ maxLen ∧ ∀ h ∈ p.hs, h.R) ∧ (p.as.length ≤ maxLen ∧ ∀ h ∈ p.as, h.R) ∧ (p.boot.length ≤ maxLen ∧ ∀ h ∈ p.boot, h.R) ∧ InR p.fuel
section
variable {H : Type} {enc : TypeId × Value → H} {w : World}
theorem c_int : Try.prog.cellsOf 3 = 1 := by kernel_rfl
theorem c_bool : Try.prog.cellsOf 4 = 1 := by kernel_rfl
theorem c_instr : Try.prog.cellsOf 35 = 2 := by kernel_rfl
theorem c_instrs : Try.prog.cellsOf 31 = 1 := by kernel_rfl
theorem c_ints : Try.prog.cellsOf 36 = 1 := by kernel_rfl
theorem c_handler : Try.prog.cellsOf 33 = 2 := by kernel_rfl
theorem c_actor : Try.prog.cellsOf 38 = 4 := by kernel_rfl
theorem c_note : Try.prog.cellsOf 40 = 3 := by kernel_rfl
theorem c_handlers : Try.prog.cellsOf 22 = 1 := by kernel_rfl
theorem c_actors : Try.prog.cellsOf 23 = 1 := by kernel_rfl
theorem c_notes : Try.prog.cellsOf 24 = 1 := by kernel_rfl
theorem c_program : Try.prog.cellsOf 26 = 4 := by kernel_rfl
theorem o_int : Opens enc Try.prog w 3 Int iv InR := opens_int Try.underlying3
theorem o_bool : Opens enc Try.prog w 4 Bool AV.bool (fun _ => True) := opens_bool Try.underlying4
theorem o_ints : Opens enc Try.prog w 36 (List Int) ints (fun l => l.length ≤ maxLen ∧ ∀ x ∈ l, InR x) := opens_slice Try.underlying36 1 c_int (by decide) o_int (fun _ => rfl)
theorem o_bools : Opens enc Try.prog w 57 (List Bool) (fun l => .lst 1 (l.map AV.bool)) (fun l => l.length ≤ maxLen ∧ ∀ x ∈ l, True) := opens_slice Try.underlying57 1 c_bool (by decide) o_bool (fun _ => rfl)
theorem o_instr : Opens enc Try.prog w 35 Ins Ins.av Ins.R := by
  intro fuel cs x h
  obtain ⟨xs, n, rfl, rfl, hl, hx, hf⟩ := DataW.trod_struct Try.underlying35 h
  rw [c_instr] at hl
  obtain ⟨v0, v1, rfl⟩ := len2 hl
  have h0 := hf 0 _ rfl
  have h1 := hf 1 _ rfl
  simp [c_int] at h0 h1
  simp at hx
  obtain ⟨a0, p0, r0⟩ := open1 o_int (fun _ => rfl) h0 (by omega)
  obtain ⟨a1, p1, r1⟩ := open1 o_int (fun _ => rfl) h1 (by omega)
  obtain ⟨q1, q2⟩ := cells_rel (.cons r0 (.cons r1 .nil))
  exact ⟨⟨a0, a1⟩, ⟨p0, p1⟩, q1, by simp, q2⟩
theorem o_instrs : Opens enc Try.prog w 31 (List Ins) (fun l => .lst 2 (l.map Ins.av)) (fun l => l.length ≤ maxLen ∧ ∀ x ∈ l, x.R) := opens_slice Try.underlying31 2 c_instr (by decide) o_instr (fun _ => rfl)
theorem o_handler : Opens enc Try.prog w 33 Hnd Hnd.av Hnd.R := by
  intro fuel cs x h
  obtain ⟨xs, n, rfl, rfl, hl, hx, hf⟩ := DataW.trod_struct Try.underlying33 h
  rw [c_handler] at hl
  obtain ⟨v0, v1, rfl⟩ := len2 hl
  have h0 := hf 0 _ rfl
  have h1 := hf 1 _ rfl
  simp [c_int, c_instrs] at h0 h1
  simp at hx
  obtain ⟨a0, p0, r0⟩ := open1 o_int (fun _ => rfl) h0 (by omega)
  obtain ⟨a1, p1, r1⟩ := open1 o_instrs (fun _ => rfl) h1 (by omega)
  obtain ⟨q1, q2⟩ := cells_rel (.cons r0 (.cons r1 .nil))
  exact ⟨⟨a0, a1⟩, ⟨p0, p1⟩, q1, by simp, q2⟩
theorem o_actor : Opens enc Try.prog w 38 Actr Actr.av Actr.R := by
  intro fuel cs x h
  obtain ⟨xs, n, rfl, rfl, hl, hx, hf⟩ := DataW.trod_struct Try.underlying38 h
  rw [c_actor] at hl
  obtain ⟨v0, v1, v2, v3, rfl⟩ := len4 hl
  have h0 := hf 0 _ rfl
  have h1 := hf 1 _ rfl
  have h2 := hf 2 _ rfl
  have h3 := hf 3 _ rfl
  simp [c_int, c_bool, c_ints] at h0 h1 h2 h3
  simp at hx
  obtain ⟨a0, p0, r0⟩ := open1 o_ints (fun _ => rfl) h0 (by omega)
  obtain ⟨a1, p1, r1⟩ := open1 o_int (fun _ => rfl) h1 (by omega)
  obtain ⟨a2, p2, r2⟩ := open1 o_int (fun _ => rfl) h2 (by omega)
  obtain ⟨a3, p3, r3⟩ := open1 o_bool (fun _ => rfl) h3 (by omega)
  obtain ⟨q1, q2⟩ := cells_rel (.cons r0 (.cons r1 (.cons r2 (.cons r3 .nil))))
  exact ⟨⟨a0, a1, a2, a3⟩, ⟨p0, p1, p2⟩, q1, by simp, q2⟩
theorem o_note : Opens enc Try.prog w 40 Nt Nt.av Nt.R := by
  intro fuel cs x h
  obtain ⟨xs, n, rfl, rfl, hl, hx, hf⟩ := DataW.trod_struct Try.underlying40 h
  rw [c_note] at hl
  obtain ⟨v0, v1, v2, rfl⟩ := len3 hl
  have h0 := hf 0 _ rfl
  have h1 := hf 1 _ rfl
  have h2 := hf 2 _ rfl
  simp [c_int, c_bool, c_ints] at h0 h1 h2
  simp at hx
  obtain ⟨a0, p0, r0⟩ := open1 o_int (fun _ => rfl) h0 (by omega)
  obtain ⟨a1, p1, r1⟩ := open1 o_int (fun _ => rfl) h1 (by omega)
  obtain ⟨a2, p2, r2⟩ := open1 o_ints (fun _ => rfl) h2 (by omega)
  obtain ⟨q1, q2⟩ := cells_rel (.cons r0 (.cons r1 (.cons r2 .nil)))
  exact ⟨⟨a0, a1, a2⟩, ⟨p0, p1, p2⟩, q1, by simp, q2⟩
theorem o_handlers : Opens enc Try.prog w 22 (List Hnd) (fun l => .lst 2 (l.map Hnd.av)) (fun l => l.length ≤ maxLen ∧ ∀ x ∈ l, x.R) := opens_slice Try.underlying22 2 c_handler (by decide) o_handler (fun _ => rfl)
theorem o_actors : Opens enc Try.prog w 23 (List Actr) (fun l => .lst 4 (l.map Actr.av)) (fun l => l.length ≤ maxLen ∧ ∀ x ∈ l, x.R) := opens_slice Try.underlying23 4 c_actor (by decide) o_actor (fun _ => rfl)
theorem o_notes : Opens enc Try.prog w 24 (List Nt) (fun l => .lst 3 (l.map Nt.av)) (fun l => l.length ≤ maxLen ∧ ∀ x ∈ l, x.R) := opens_slice Try.underlying24 3 c_note (by decide) o_note (fun _ => rfl)
theorem o_program : Opens enc Try.prog w 26 Prg Prg.av Prg.R := by
  intro fuel cs x h
  obtain ⟨xs, n, rfl, rfl, hl, hx, hf⟩ := DataW.trod_struct Try.underlying26 h
  rw [c_program] at hl
  obtain ⟨v0, v1, v2, v3, rfl⟩ := len4 hl
  have h0 := hf 0 _ rfl
  have h1 := hf 1 _ rfl
  have h2 := hf 2 _ rfl
  have h3 := hf 3 _ rfl
  simp [c_int, c_bool, c_handlers, c_actors, c_notes] at h0 h1 h2 h3
  simp at hx
  obtain ⟨a0, p0, r0⟩ := open1 o_handlers (fun _ => rfl) h0 (by omega)
  obtain ⟨a1, p1, r1⟩ := open1 o_actors (fun _ => rfl) h1 (by omega)
  obtain ⟨a2, p2, r2⟩ := open1 o_notes (fun _ => rfl) h2 (by omega)
  obtain ⟨a3, p3, r3⟩ := open1 o_int (fun _ => rfl) h3 (by omega)
  obtain ⟨q1, q2⟩ := cells_rel (.cons r0 (.cons r1 (.cons r2 (.cons r3 .nil))))
  exact ⟨⟨a0, a1, a2, a3⟩, ⟨p0, p1, p2, p3⟩, q1, by simp, q2⟩
end

/-- A struct's value. -/
theorem agg_of_cells {K : Nat → Nat → Option Value} {cs : List AV} {v : Value} (h2 : 2 ≤ cs.length) (hl : v.cells.toList.length = cs.length) (h1 : ∀ y ∈ cs, y.one = true)
    (hr : ∀ (j : Nat) (y : AV) (u : Value), cs[j]? = some y → v.cells.toList[j]? = some u → Rel (envK K) y u) : Rel (envK K) (.agg cs) v := by
  have : ∃ vs, v = .agg vs := by
    cases v <;> first | exact ⟨_, rfl⟩ | (simp [Value.cells] at hl; omega)
  obtain ⟨vs, rfl⟩ := this
  refine .agg cs vs (by simpa [Value.cells] using hl.symm) (fun j y hy => h1 y (List.mem_of_getElem? hy)) (fun j y u hy hu => hr j y u hy (by simpa [Value.cells] using hu))
theorem open_prg {H : Type} {enc : TypeId × Value → H} {w : World} {v : Value} {d : DataW H} {ps : List MemPlace} (h : DataW.Trod enc Try.prog w 0 (fun _ => true) true 26 v d ps) : ∃ p : Prg, p.R ∧ Rel (envK (Kw w)) p.av v := by
  obtain ⟨fuel, h⟩ := h
  obtain ⟨p, p1, p2, p3, p4⟩ := o_program _ _ _ h
  exact ⟨p, p1, agg_of_cells (by simp) p2 p3 p4⟩
theorem open_note {H : Type} {enc : TypeId × Value → H} {w : World} {v : Value} {d : DataW H} {ps : List MemPlace} (h : DataW.Trod enc Try.prog w 0 (fun _ => true) true 40 v d ps) : ∃ p : Nt, p.R ∧ Rel (envK (Kw w)) p.av v := by
  obtain ⟨fuel, h⟩ := h
  obtain ⟨p, p1, p2, p3, p4⟩ := o_note _ _ _ h
  exact ⟨p, p1, agg_of_cells (by simp) p2 p3 p4⟩

theorem one_cell {E : Env} {v : Value} {a : AV} {x y z} (hv : v = .slice x y z) (hc : a.cells = [a]) (h : ∀ (j : Nat) (y : AV) (u : Value), a.cells[j]? = some y → v.cells.toList[j]? = some u → Rel E y u) : Rel E a v := by
  subst hv
  exact h 0 a _ (by rw [hc]; rfl) rfl
theorem open_ints {H : Type} {enc : TypeId × Value → H} {w : World} {v : Value} {d : DataW H} {ps : List MemPlace} (hv : ∃ x y z, v = .slice x y z) (h : DataW.Trod enc Try.prog w 0 (fun _ => true) true 36 v d ps) : ∃ l : List Int, (l.length ≤ maxLen ∧ ∀ x ∈ l, InR x) ∧ Rel (envK (Kw w)) (ints l) v := by
  obtain ⟨fuel, h⟩ := h
  obtain ⟨x, y, z, hv⟩ := hv
  obtain ⟨p, p1, p2, p3, p4⟩ := o_ints _ _ _ h
  exact ⟨p, p1, one_cell hv rfl p4⟩
theorem open_bools {H : Type} {enc : TypeId × Value → H} {w : World} {v : Value} {d : DataW H} {ps : List MemPlace} (hv : ∃ x y z, v = .slice x y z) (h : DataW.Trod enc Try.prog w 0 (fun _ => true) true 57 v d ps) : ∃ l : List Bool, (l.length ≤ maxLen ∧ ∀ x ∈ l, True) ∧ Rel (envK (Kw w)) (.lst 1 (l.map AV.bool)) v := by
  obtain ⟨fuel, h⟩ := h
  obtain ⟨x, y, z, hv⟩ := hv
  obtain ⟨p, p1, p2, p3, p4⟩ := o_bools _ _ _ h
  exact ⟨p, p1, one_cell hv rfl p4⟩
/-- An actor's own part between two deliveries. -/
structure Lcl where
  regs : List Int
  armed : Bool
  down : Int
  sent : Int
  over : Int
def Lcl.av (l : Lcl) : AV := .agg [ints l.regs, .bool l.armed, iv l.down, iv l.sent, iv l.over]
@[simp] theorem Lcl.cells_av (l : Lcl) : l.av.cells = [ints l.regs, .bool l.armed, iv l.down, iv l.sent, iv l.over] := rfl
def Lcl.R (l : Lcl) : Prop := (l.regs.length ≤ maxLen ∧ ∀ x ∈ l.regs, InR x) ∧ InR l.down ∧ InR l.sent ∧ InR l.over
theorem c_local : Try.prog.cellsOf 64 = 5 := by kernel_rfl
theorem o_local {H : Type} {enc : TypeId × Value → H} {w : World} : Opens enc Try.prog w 64 Lcl Lcl.av Lcl.R := by
  intro fuel cs x h
  obtain ⟨xs, n, rfl, rfl, hl, hx, hf⟩ := DataW.trod_struct Try.underlying64 h
  rw [c_local] at hl
  obtain ⟨v0, v1, v2, v3, v4, rfl⟩ := len5 hl
  have h0 := hf 0 _ rfl
  have h1 := hf 1 _ rfl
  have h2 := hf 2 _ rfl
  have h3 := hf 3 _ rfl
  have h4 := hf 4 _ rfl
  simp [c_int, c_bool, c_ints] at h0 h1 h2 h3 h4
  simp at hx
  obtain ⟨a0, p0, r0⟩ := open1 o_ints (fun _ => rfl) h0 (by omega)
  obtain ⟨a1, p1, r1⟩ := open1 o_bool (fun _ => rfl) h1 (by omega)
  obtain ⟨a2, p2, r2⟩ := open1 o_int (fun _ => rfl) h2 (by omega)
  obtain ⟨a3, p3, r3⟩ := open1 o_int (fun _ => rfl) h3 (by omega)
  obtain ⟨a4, p4, r4⟩ := open1 o_int (fun _ => rfl) h4 (by omega)
  obtain ⟨q1, q2⟩ := cells_rel (.cons r0 (.cons r1 (.cons r2 (.cons r3 (.cons r4 .nil)))))
  exact ⟨⟨a0, a1, a2, a3, a4⟩, ⟨p0, p2, p3, p4⟩, q1, by simp, q2⟩
theorem open_local {H : Type} {enc : TypeId × Value → H} {w : World} {v : Value} {d : DataW H} {ps : List MemPlace} (h : DataW.Trod enc Try.prog w 0 (fun _ => true) true 64 v d ps) : ∃ p : Lcl, p.R ∧ Rel (envK (Kw w)) p.av v := by
  obtain ⟨fuel, h⟩ := h
  obtain ⟨p, p1, p2, p3, p4⟩ := o_local _ _ _ h
  exact ⟨p, p1, agg_of_cells (by simp) p2 p3 p4⟩

end Go.Gv

/- What vm.Go answers. Conditions: GoOk. -/
set_option linter.unusedVariables false
set_option linter.unusedSimpArgs false
namespace Go.Gv
open Go.Proofs

def cloneM_r0 : List AI := [⟨(some 2), none, (.op (.mv (.c .nils)))⟩]
def cloneM_r1 : List AI := [⟨(some 3), none, (.op (.mv (.t 0)))⟩, ⟨(some 4), none, (.nq 0 false (.t 3))⟩]
def cloneM_r2 : List AI := [⟨(some 2), none, (.op (.mv (.c .nils)))⟩]
def cloneM_r3 : List AI := [⟨(some 5), none, (.op (.bslm 1000163000 1 3 0 (.int .i64 0) []))⟩, ⟨(some 6), none, (.op (.mv (.t 0)))⟩, ⟨(some 7), none, (.op (.appw 1000163000 1 3 8 (.t 5) (.t 6)))⟩, ⟨(some 2), none, (.op (.mv (.t 7)))⟩]
def cloneM_c : AC := (.seq (.reg cloneM_r0) (.seq (.seq (.reg cloneM_r1) (.cond (.t 4) (.seq (.reg cloneM_r2) .ret) .skip)) (.seq (.reg cloneM_r3) .ret)))
def cloneM_res : List ARes := [(.tmp 2)]
set_option maxRecDepth 100000 in
theorem cloneM_get : getF Try.prog 63 163000 [(5, 1000000000), (7, 1000000000)] = some ("slices.Clone[[]int,int]", 8, cloneM_c, cloneM_res) := by kernel_rfl
def mgo_r0 : List AI := [⟨(some 5), none, (.op (.box 84005 4 (.t 0)))⟩, ⟨(some 7), none, (.op (.box 84007 5 (.t 2)))⟩, ⟨(some 10), none, (.op (.new 84010 7 (.agg [.nils, (.bool false), (.int .i64 0), (.int .i64 0), (.int .i64 0), .nils, (.int .i64 0)])))⟩]
def mgo_r1 : List AI := [⟨(some 15), none, (.op (.fld 0 (.t 5)))⟩, ⟨(some 16), none, (.op (.load none (.t 15)))⟩, ⟨(some 17), none, (.op (.mv (.t 3)))⟩, ⟨(some 18), none, (.op (.idx 2 (.t 16) (.t 17)))⟩, ⟨(some 19), none, (.op (.fld 1 (.t 18)))⟩, ⟨(some 20), none, (.op (.load none (.t 19)))⟩, ⟨(some 11), none, (.op (.mv (.t 20)))⟩]
def mgo_r2 : List AI := [⟨(some 21), none, (.op (.load (some 4) (.t 5)))⟩, ⟨(some 22), none, (.op (.mv (.t 1)))⟩, ⟨(some 23), none, (.op (.mv (.t 4)))⟩, ⟨(some 24), none, (.op (.load (some 5) (.t 7)))⟩, ⟨(some 25), none, (.op (.build [.nils, .nils, .nils, (.int .i64 0), (.int .i64 0), .nils, .nils, (.bool false), (.int .i64 0), (.int .i64 0), (.int .i64 0), .nils, .nils, (.int .i64 0)] [(0, (4, (.t 21))), (4, (1, (.t 22))), (5, (1, (.t 23))), (6, (5, (.t 24)))]))⟩, ⟨(some 26), none, (.op (.box 84026 14 (.t 25)))⟩, ⟨(some 12), none, (.op (.mv (.t 26)))⟩]
def mgo_r3 : List AI := [⟨(some 27), none, (.op (.mv (.t 12)))⟩, ⟨(some 28), none, (.op (.fld 0 (.t 7)))⟩, ⟨(some 29), none, (.op (.load none (.t 28)))⟩, ⟨(some 30), none, (.call (.c (.fn 63 [])) [(.t 29)])⟩, ⟨(some 31), none, (.op (.nilck (.t 27)))⟩, ⟨(some 32), none, (.op (.fld 6 (.t 31)))⟩, ⟨(some 33), none, (.op (.fld 0 (.t 32)))⟩, ⟨none, none, (.op (.store 1 (.t 33) (.t 30)))⟩]
def mgo_r4 : List AI := [⟨(some 13), none, (.op (.mv (.c (.int .i64 0))))⟩]
def mgo_r5 : List AI := [⟨(some 34), none, (.op (.mv (.t 12)))⟩, ⟨(some 35), none, (.op (.nilck (.t 34)))⟩, ⟨(some 36), none, (.op (.fld 13 (.t 35)))⟩, ⟨(some 37), none, (.op (.load none (.t 36)))⟩, ⟨(some 38), none, (.op (.ibin .geq (.t 37) (.c (.int .i64 0))))⟩, ⟨(some 39), none, (.op (.mv (.t 38)))⟩, ⟨(some 40), (some (39, true)), (.op (.mv (.t 12)))⟩, ⟨(some 41), (some (39, true)), (.op (.nilck (.t 40)))⟩, ⟨(some 42), (some (39, true)), (.op (.fld 13 (.t 41)))⟩, ⟨(some 43), (some (39, true)), (.op (.load none (.t 42)))⟩, ⟨(some 44), (some (39, true)), (.op (.mv (.t 11)))⟩, ⟨(some 45), (some (39, true)), (.op (.len (.t 44)))⟩, ⟨(some 46), (some (39, true)), (.op (.ibin .lss (.t 43) (.t 45)))⟩, ⟨(some 47), none, (.op (.pick (.t 39) (.t 46) (.c (.bool false))))⟩]
def mgo_r6 : List AI := [⟨(some 14), none, (.op (.mv (.c (.int .i64 2))))⟩]
def mgo_r7 : List AI := [⟨(some 48), none, (.op (.mv (.t 13)))⟩, ⟨(some 49), none, (.op (.fld 3 (.t 5)))⟩, ⟨(some 50), none, (.op (.load none (.t 49)))⟩, ⟨(some 51), none, (.op (.ibin .lss (.t 48) (.t 50)))⟩]
def mgo_r8 : List AI := [⟨(some 52), none, (.op (.mv (.t 13)))⟩, ⟨(some 53), none, (.op (.ibin .add (.t 52) (.c (.int .i64 1))))⟩, ⟨(some 13), none, (.op (.mv (.t 53)))⟩]
def mgo_r9 : List AI := [⟨(some 54), none, (.op (.mv (.t 12)))⟩, ⟨(some 55), none, (.op (.mv (.t 11)))⟩, ⟨(some 56), none, (.op (.mv (.t 12)))⟩, ⟨(some 57), none, (.op (.nilck (.t 56)))⟩, ⟨(some 58), none, (.op (.fld 13 (.t 57)))⟩, ⟨(some 59), none, (.op (.load none (.t 58)))⟩, ⟨(some 60), none, (.op (.idx 2 (.t 55) (.t 59)))⟩, ⟨(some 61), none, (.op (.load (some 2) (.t 60)))⟩, ⟨(some 62), none, (.call (.c (.fn 98 [])) [(.t 54), (.t 61)])⟩, ⟨(some 14), none, (.op (.mv (.t 62)))⟩]
def mgo_r10 : List AI := [⟨(some 63), none, (.op (.mv (.t 14)))⟩, ⟨(some 64), none, (.op (.ibin .neq (.t 63) (.c (.int .i64 0))))⟩]
def mgo_r11 : List AI := [⟨(some 65), none, (.op (.fld 0 (.t 7)))⟩, ⟨(some 66), none, (.op (.load none (.t 65)))⟩, ⟨(some 67), none, (.call (.c (.fn 63 [])) [(.t 66)])⟩, ⟨(some 68), none, (.op (.mv (.t 14)))⟩, ⟨(some 69), none, (.op (.fld 0 (.t 7)))⟩, ⟨none, none, (.op (.store 1 (.t 69) (.t 67)))⟩, ⟨(some 70), none, (.op (.fld 2 (.t 7)))⟩, ⟨none, none, (.op (.store 1 (.t 70) (.t 68)))⟩]
def mgo_r12 : List AI := [⟨(some 71), none, (.op (.load (some 5) (.t 7)))⟩, ⟨(some 72), none, (.op (.mv (.t 13)))⟩, ⟨(some 73), none, (.op (.build [.nils, (.bool false), (.int .i64 0), (.int .i64 0), (.int .i64 0), .nils, (.int .i64 0)] [(0, (5, (.t 71))), (6, (1, (.t 72)))]))⟩, ⟨none, none, (.op (.store 7 (.t 10) (.t 73)))⟩]
def mgo_l0 : AC := (.seq (.seq (.reg mgo_r5) (.cond (.t 47) .skip (.exit 0))) (.block 1 (.seq (.reg mgo_r6) (.seq (.seq (.reg mgo_r7) (.cond (.t 51) (.seq (.reg mgo_r8) (.reg mgo_r9)) .skip)) (.seq (.reg mgo_r10) (.cond (.t 64) (.seq (.reg mgo_r11) (.seq (.reg mgo_r12) .ret)) .skip))))))
def mgo_r13 : List AI := [⟨(some 74), none, (.op (.mv (.t 12)))⟩, ⟨(some 75), none, (.op (.nilck (.t 74)))⟩, ⟨(some 76), none, (.op (.fld 6 (.t 75)))⟩, ⟨(some 77), none, (.op (.fld 3 (.t 76)))⟩, ⟨(some 78), none, (.op (.load none (.t 77)))⟩, ⟨(some 79), none, (.op (.mv (.t 12)))⟩, ⟨(some 80), none, (.op (.nilck (.t 79)))⟩, ⟨(some 81), none, (.op (.fld 12 (.t 80)))⟩, ⟨(some 82), none, (.op (.load none (.t 81)))⟩, ⟨(some 83), none, (.op (.len (.t 82)))⟩, ⟨(some 84), none, (.op (.ibin .add (.t 78) (.t 83)))⟩, ⟨(some 85), none, (.op (.nilck (.t 74)))⟩, ⟨(some 86), none, (.op (.fld 6 (.t 85)))⟩, ⟨(some 87), none, (.op (.fld 3 (.t 86)))⟩, ⟨none, none, (.op (.store 1 (.t 87) (.t 84)))⟩]
def mgo_p13 : List (List Nat) := [[], [0], [1, 0], [2, 1, 0], [3, 2, 1, 0], [], [5], [6, 5], [7, 6, 5], [8, 7, 6, 5], [4, 9, 3, 2, 1, 0, 8, 7, 6, 5], [0, 1, 2, 3, 4, 5, 6, 7, 8, 9, 10], [11, 0, 1, 2, 3, 4, 5, 6, 7, 8, 9, 10], [12, 0, 1, 2, 3, 4, 5, 6, 7, 8, 9, 10, 11], [13, 10, 0, 1, 2, 3, 4, 5, 6, 7, 8, 9, 12, 11]]
def mgo_r14 : List AI := [⟨(some 88), none, (.op (.mv (.t 12)))⟩, ⟨(some 89), none, (.op (.nilck (.t 88)))⟩, ⟨(some 90), none, (.op (.fld 6 (.t 89)))⟩, ⟨(some 91), none, (.op (.load (some 5) (.t 90)))⟩, ⟨(some 92), none, (.op (.mv (.t 12)))⟩, ⟨(some 93), none, (.op (.nilck (.t 92)))⟩, ⟨(some 94), none, (.op (.fld 12 (.t 93)))⟩, ⟨(some 95), none, (.op (.load none (.t 94)))⟩, ⟨(some 96), none, (.op (.mv (.t 13)))⟩, ⟨(some 97), none, (.op (.build [.nils, (.bool false), (.int .i64 0), (.int .i64 0), (.int .i64 0), .nils, (.int .i64 0)] [(0, (5, (.t 91))), (5, (1, (.t 95))), (6, (1, (.t 96)))]))⟩, ⟨none, none, (.op (.store 7 (.t 10) (.t 97)))⟩]
def mgo_p14 : List (List Nat) := [[], [0], [1, 0], [2, 1, 0], [], [4], [5, 4], [6, 5, 4], [], [3, 7, 8, 2, 1, 0, 6, 5, 4], [9, 0, 1, 2, 3, 4, 5, 6, 7, 8]]
def mgo_c : AC := (.seq (.reg mgo_r0) (.seq (.reg mgo_r1) (.seq (.reg mgo_r2) (.seq (.reg mgo_r3) (.seq (.reg mgo_r4) (.seq (.block 0 (.loop mgo_l0)) (.seq (.regd mgo_r13 mgo_p13) (.seq (.regd mgo_r14 mgo_p14) .ret))))))))
def mgo_res : List ARes := [(.cell (some 7) 10)]
set_option maxRecDepth 100000 in
theorem mgo_get : getF Try.prog 84 84000 [] = some ("gavotte/vm.Go", 98, mgo_c, mgo_res) := by kernel_rfl
attribute [simp] cloneM_r0 cloneM_r1 cloneM_r2 cloneM_r3 cloneM_res mgo_r0 mgo_r1 mgo_r2 mgo_r3 mgo_r4 mgo_r5 mgo_r6 mgo_r7 mgo_r8 mgo_r9 mgo_r10 mgo_r11 mgo_r12 mgo_r13 mgo_p13 mgo_r14 mgo_p14 mgo_res

theorem clonem_v (l : List Int) (hl : l.length ≤ 1000) {S : St} {k : AV → St → Prop} {u : Dep k}
    (hk : ∀ v S', Fr Lm S S' → S'.blk 84026 = S.blk 84026 → RegIs S' v l → k v S') : CallG Try.prog (.fn 63 []) [ints l] S k u := by
  refine callV cloneM_get (by simp) (by simp) ?_
  unfold cloneM_c
  cases l with
  | nil =>
    simp [ints]
    refine opG_none _ _ ?_ ?_
    · simp
      exact hk _ _ (Fr.here (fun n hn => by simp [ne_of_Lm hn, Lm]) (fun n hn => by first | rfl | simp [ne_of_Lm hn, Lm]) (by omega)) rfl (.inl ⟨rfl, rfl⟩)
    · simp
      exact hk _ _ (Fr.here (fun n hn => by simp [ne_of_Lm hn, Lm]) (fun n hn => by first | rfl | simp [ne_of_Lm hn, Lm]) (by omega)) (by simp) (.inr ⟨_, rfl, by simp⟩)
  | cons x l =>
    simp at hl
    simp [ints, show (l.length + 1) * 8 ≤ 140737488355328 by omega]
    exact hk _ _ (Fr.here (fun n hn => by simp [ne_of_Lm hn, Lm]) (fun n hn => by first | rfl | simp [ne_of_Lm hn, Lm]) (by omega)) (by simp) (.inr ⟨_, rfl, by simp⟩)
theorem RegIs.out {S : St} {v : AV} {xs : List Int} (h : RegIs S v xs) : v.one = true ∧ v.cells = [v] := by
  rcases h with ⟨rfl, _⟩ | ⟨st, rfl, _⟩ <;> exact ⟨rfl, rfl⟩
/-- The run of a handler: the machine at its end, or nothing and why it fell; the steps. -/
def runG (F : Fx) (code : List Ins) : Nat → Mach → Int → Option Mach × Int × Int
  | 0, m, s => (none, 2, s)
  | f + 1, m, s =>
    if 0 ≤ m.pc ∧ m.pc < code.length then
      (if s < F.p.fuel then
        (match code[m.pc.toNat]? with
         | some i => if (doV F i m).2 ≠ 0 then (none, (doV F i m).2, s + 1) else runG F code f (doV F i m).1 (s + 1)
         | none => (none, 2, s))
       else (none, 2, s))
    else (some m, 0, s)
structure Res where
  l : Lcl
  notes : List Nt
  steps : Int
def Res.av (r : Res) : AV := .agg [ints r.l.regs, .bool r.l.armed, iv r.l.down, iv r.l.sent, iv r.l.over, .lst 3 (r.notes.map Nt.av), iv r.steps]
def fxOf (p : Prg) (who : Int) (l : Lcl) (args : List Int) : Fx := ⟨p, who, args, l.down, l.sent, l.over⟩
def m0Of (l : Lcl) : Mach := ⟨0, [], l.regs, [], l.armed⟩
def goR (l : Lcl) : Option Mach × Int × Int → Res
  | (some m, _, s) => ⟨⟨m.regs, m.armed, l.down, w64 (l.sent + m.notes.length), l.over⟩, m.notes, s⟩
  | (none, d, s) => ⟨{ l with down := d }, [], s⟩
/-- All that the machine comes to on its way is in order. -/
def RunOk (F : Fx) (code : List Ins) : Nat → Mach → Int → Prop
  | 0, _, _ => True
  | f + 1, m, s => (0 ≤ m.pc ∧ m.pc < code.length) → s < F.p.fuel → ∀ i, code[m.pc.toNat]? = some i → DoOk F i m ∧ ((doV F i m).2 = 0 → RunOk F code f (doV F i m).1 (s + 1))
theorem ite_notes {c : Prop} [Decidable c] {a b : Mach × Int} {n : Nat} (h1 : a.1.notes.length ≤ n) (h2 : b.1.notes.length ≤ n) : (if c then a else b).1.notes.length ≤ n := by
  by_cases h : c
  · rw [if_pos h]; exact h1
  · rw [if_neg h]; exact h2
theorem doV_notes (F : Fx) (i : Ins) (m : Mach) : (doV F i m).1.notes.length ≤ m.notes.length + 1 := by
  unfold doV
  repeat' apply ite_notes
  all_goals simp
/-- The state of vm.Go ahead of a round. -/
def GI (F : Fx) (p : Prg) (l : Lcl) (x : Hnd) (R : Option Mach × Int × Int) (f : Nat) (S : St) : Prop :=
  ∃ m s, MS F 15 m S ∧ S.t 12 = .ptr 84026 15 14 0 0 ∧ S.t 13 = iv s ∧ S.t 11 = .lst 2 (x.code.map Ins.av) ∧ S.t 5 = .ptr 84005 0 4 0 0 ∧ S.t 7 = .ptr 84007 1 5 0 0 ∧ S.t 10 = .ptr 84010 2 7 0 0 ∧
    S.blk 84005 = some ⟨0, 4, [p.av]⟩ ∧ S.blk 84007 = some ⟨1, 5, [l.av]⟩ ∧ S.blk 84010 = some ⟨2, 7, [.agg [.nils, .bool false, iv 0, iv 0, iv 0, .nils, iv 0]]⟩ ∧ 0 ≤ s ∧ s ≤ p.fuel ∧ (f : Int) = p.fuel - s + 1 ∧ runG F x.code f m s = R ∧ RunOk F x.code f m s ∧ (m.notes.length : Int) ≤ s
theorem go_pc (p : Prg) (who : Int) (l : Lcl) (h : Int) (args : List Int) (x : Hnd) (h0 : 0 ≤ h) (hx : p.hs[h.toNat]? = some x) (hf : 0 ≤ p.fuel ∧ p.fuel ≤ 1000) (hl : l.regs.length ≤ 1000)
    (hok : RunOk (fxOf p who l args) x.code (p.fuel.toNat + 1) (m0Of l) 0) : PC Try.prog 84 [p.av, iv who, l.av, iv h, ints args] (goR l (runG (fxOf p who l args) x.code (p.fuel.toNat + 1) (m0Of l) 0)).av := by
  refine pc_of_get mgo_get (by simp) _ (by simp) _ ?_
  unfold mgo_c
  simp [h0, hx]
  simp [Lcl.av]
  refine clonem_v l.regs hl ?_
  rintro v S1 ⟨ht1, hb1, hk1, hc1⟩ hM hR
  simp at hM
  have hp : S1.blk 84005 = some ⟨0, 4, [p.av]⟩ := by rw [hb1 84005 rfl]; simp [Prg.av]
  have hq : S1.blk 84007 = some ⟨1, 5, [l.av]⟩ := by rw [hb1 84007 rfl]; simp [Lcl.av]
  have hz : S1.blk 84010 = some ⟨2, 7, [.agg [.nils, .bool false, iv 0, iv 0, iv 0, .nils, iv 0]]⟩ := by rw [hb1 84010 rfl]; simp
  obtain ⟨v1, v2⟩ := hR.out
  simp [ht1, hM, v1, v2]
  generalize hF : fxOf p who l args = F at *
  generalize hRR : runG F x.code (p.fuel.toNat + 1) (m0Of l) 0 = R at *
  refine loopM (GI F p l x R) (p.fuel.toNat + 1) ?_ ?_
  · refine ⟨m0Of l, 0, ?_, by simp, by simp, by simp, by simp, by simp, by simp, by simp [hp], by simp [hq], by simp [hz], by omega, by omega, by omega, hRR, hok, by simp [m0Of]⟩
    subst hF
    refine MS.mk' (upd_same _ _ _) ?_ (.inl ⟨rfl, rfl⟩) (.inl ⟨rfl, rfl⟩)
    simpa [RegIs, m0Of] using hR
  · clear hR hM hp hq hz hb1 hk1 hc1 ht1 S1 hRR hok
    rintro f S ⟨m, s, hMS, g12, g13, g11, g5, g7, g10, b5, b7, b10, s0, s1, hfs, hrun, hok, hnl⟩
    obtain ⟨f, rfl⟩ : ∃ f', f = f' + 1 := ⟨f - 1, by omega⟩
    obtain ⟨r, sk, nt, hb, hr, hs, hn⟩ := hMS
    by_cases hpc : 0 ≤ m.pc ∧ m.pc < x.code.length
    · by_cases hsf : s < p.fuel
      · have hat : m.pc.toNat < x.code.length := by omega
        have hget : x.code[m.pc.toNat]? = some x.code[m.pc.toNat] := List.getElem?_eq_getElem hat
        have hpf : F.p.fuel = p.fuel := by rw [← hF]; rfl
        obtain ⟨hdo, hnx⟩ := hok hpc (by rw [hpf]; exact hsf) _ hget
        have ws : IntKind.i64.wrap (s + 1) = s + 1 := wrap_in _ (by omega) (by omega)
        have hstep : runG F x.code (f + 1) m s = if (doV F x.code[m.pc.toNat] m).2 ≠ 0 then (none, (doV F x.code[m.pc.toNat] m).2, s + 1) else runG F x.code f (doV F x.code[m.pc.toNat] m).1 (s + 1) := by
          rw [runG, if_pos hpc, if_pos (by rw [hpf]; exact hsf), hget]
        rw [hstep] at hrun
        simp [mgo_l0, g12, g13, g11, g5, b5, hb, hpc, hsf, ws, hat]
        refine do_v F 15 m x.code[m.pc.toNat] hdo (MS.to ⟨r, sk, nt, hb, hr, hs, hn⟩) ?_
        rintro S1 ⟨ht1, hb1, hk1, hc1⟩ hM1
        have c5 : S1.blk 84005 = some ⟨0, 4, [p.av]⟩ := by rw [hb1 84005 rfl]; simpa using b5
        have c7 : S1.blk 84007 = some ⟨1, 5, [l.av]⟩ := by rw [hb1 84007 rfl]; simpa using b7
        have c10 : S1.blk 84010 = some ⟨2, 7, [.agg [.nils, .bool false, iv 0, iv 0, iv 0, .nils, iv 0]]⟩ := by rw [hb1 84010 rfl]; simpa using b10
        by_cases hd : (doV F x.code[m.pc.toNat] m).2 = 0
        · rw [if_neg (by rw [hd]; simp)] at hrun
          simp [ht1, hd, g12, g11, g5, g7, g10]
          exact ⟨f, by omega, _, s + 1, hM1.to, by simp [g12], by simp, by simp [g11], by simp [g5], by simp [g7], by simp [g10], c5, c7, c10, by omega, by omega, by omega, hrun, hnx hd, by have := doV_notes F x.code[m.pc.toNat] m; omega⟩
        · rw [if_pos hd] at hrun
          simp [ht1, hd, g12, g11, g5, g7, g10, c7]
          refine call (cloneInts_pc l.regs hl) (by simp) ?_
          simp [ht1, g7, g10, c7, c10, Lcl.av]
          rw [← hrun]
          simp [goR, Res.av]
      · have hrn : runG F x.code (f + 1) m s = (none, 2, s) := by
          have hpf : F.p.fuel = p.fuel := by rw [← hF]; rfl
          rw [runG, if_pos hpc, if_neg (by rw [hpf]; exact hsf)]
        rw [hrn] at hrun
        simp [mgo_l0, g12, g13, g11, g5, g7, b5, b7, hb, hpc, hsf, Lcl.av]
        refine call (cloneInts_pc l.regs hl) (by simp) ?_
        simp [g7, g10, g13, b7, b10, Lcl.av]
        rw [← hrun]
        simp [goR, Res.av]
    · have hrn : runG F x.code (f + 1) m s = (some m, 0, s) := by rw [runG, if_neg hpc]
      rw [hrn] at hrun
      have hli : ∀ st blk, blk 1000163000 = some ⟨st, 1, m.regs.map iv⟩ → listOf blk 1 (.sl 1000163000 st 1 0 m.regs.length) = some (m.regs.map iv) := fun st blk hb => list_ints m.regs blk 1000163000 st hb
      have f1 : F.d = l.down := by rw [← hF]; rfl
      have f2 : F.s = l.sent := by rw [← hF]; rfl
      have f3 : F.o = l.over := by rw [← hF]; rfl
      by_cases h1 : 0 ≤ m.pc
      · rcases hr with ⟨rfl, e⟩ | ⟨sr, rfl, hr⟩ <;> rcases hn with ⟨rfl, e'⟩ | ⟨sn, rfl, hn⟩
        · simp [mgo_l0, g12, g11, g10, g13, b10, hb, h1, show ¬ m.pc < x.code.length by omega]
          rw [← hrun]
          simp [goR, Res.av, f1, f2, f3, e, (by simpa using e' : m.notes = [])]
        · simp [mgo_l0, g12, g11, g10, g13, b10, hb, h1, show ¬ m.pc < x.code.length by omega]
          rw [← hrun]
          simp [goR, Res.av, f1, f2, f3, e]
        · simp [mgo_l0, g12, g11, g10, g13, b10, hb, h1, show ¬ m.pc < x.code.length by omega, hr]
          rw [← hrun]
          simp [goR, Res.av, f1, f2, f3, hli, hr, (by simpa using e' : m.notes = [])]
        · simp [mgo_l0, g12, g11, g10, g13, b10, hb, h1, show ¬ m.pc < x.code.length by omega, hr]
          rw [← hrun]
          simp [goR, Res.av, f1, f2, f3, hli, hr]
      · rcases hr with ⟨rfl, e⟩ | ⟨sr, rfl, hr⟩ <;> rcases hn with ⟨rfl, e'⟩ | ⟨sn, rfl, hn⟩
        · simp [mgo_l0, g12, g11, g10, g13, b10, hb, h1]
          rw [← hrun]
          simp [goR, Res.av, f1, f2, f3, e, (by simpa using e' : m.notes = [])]
        · simp [mgo_l0, g12, g11, g10, g13, b10, hb, h1]
          rw [← hrun]
          simp [goR, Res.av, f1, f2, f3, e]
        · simp [mgo_l0, g12, g11, g10, g13, b10, hb, h1, hr]
          rw [← hrun]
          simp [goR, Res.av, f1, f2, f3, hli, hr, (by simpa using e' : m.notes = [])]
        · simp [mgo_l0, g12, g11, g10, g13, b10, hb, h1, hr]
          rw [← hrun]
          simp [goR, Res.av, f1, f2, f3, hli, hr]

end Go.Gv
