/- The program's walk and the reference's passes come to the same depths, and the same greatest one. The code's instructions may be looked at (codeOk). -/
import Derived.Test.YthhgjncefjnogaaProg
import Derived.Test.YthhgjncefjnogaaWe
set_option linter.unusedVariables false
set_option linter.unusedSimpArgs false
namespace Go.Gv
open Go.Proofs

section
variable {hs : List Hnd} {code : List Ins}
/-- A place that is reached with so many numbers. -/
inductive Rch (hs : List Hnd) (code : List Ins) : Nat → Int → Prop
  | start : Rch hs code 0 0
  | step {a : Nat} {d : Int} {i : Ins} {k : Nat} (h : Rch hs code a d) (hi : code[a]? = some i) (h1 : takesV hs i ≤ d) (h2 : d - takesV hs i + putsV i.op ≤ 8) (hk : k ∈ nextV a i) : Rch hs code k (d - takesV hs i + putsV i.op)
/-- What is told of a reached place's instruction. -/
def Cl (hs : List Hnd) (out : List Int) (most : Int) (a : Nat) (d : Int) (i : Ins) : Prop :=
  takesV hs i ≤ d ∧ d - takesV hs i + putsV i.op ≤ 8 ∧ (∀ k ∈ nextV a i, out[k]? = some (d - takesV hs i + putsV i.op)) ∧ d ≤ most ∧ d - takesV hs i + putsV i.op ≤ most
structure FInv (hs : List Hnd) (code : List Ins) (out : List Int) (most : Int) : Prop where
  len : out.length = code.length + 1
  zero : out[0]? = some 0
  sound : ∀ (a : Nat) (d : Int), out[a]? = some d → d ≠ -1 → Rch hs code a d ∧ 0 ≤ d
  att : most = 0 ∨ ∃ (a : Nat) (d : Int) (i : Ins), out[a]? = some d ∧ d ≠ -1 ∧ code[a]? = some i ∧ (most = d ∨ most = d - takesV hs i + putsV i.op)
  m0 : 0 ≤ most
structure Good (hs : List Hnd) (code : List Ins) (out : List Int) (most : Int) extends FInv hs code out most where
  closed : ∀ (a : Nat) (d : Int) (i : Ins), out[a]? = some d → d ≠ -1 → code[a]? = some i → Cl hs out most a d i
def Bad (hs : List Hnd) (code : List Ins) : Prop :=
  (∃ (a : Nat) (d : Int) (i : Ins), Rch hs code a d ∧ code[a]? = some i ∧ (d < takesV hs i ∨ d - takesV hs i + putsV i.op > 8)) ∨ ∃ k d e, Rch hs code k d ∧ Rch hs code k e ∧ d ≠ e
theorem Good.rch {out : List Int} {most : Int} (hg : Good hs code out most) {a : Nat} {d : Int} (h : Rch hs code a d) : out[a]? = some d ∧ 0 ≤ d := by
  induction h with
  | start => exact ⟨hg.zero, Int.le_refl _⟩
  | step h hi h1 h2 hk ih =>
    have := putsV_range ‹Ins›.op
    exact ⟨(hg.closed _ _ _ ih.1 (by omega) hi).2.2.1 _ hk, by omega⟩
theorem Good.not_bad {out : List Int} {most : Int} (hg : Good hs code out most) : ¬ Bad hs code := by
  rintro (⟨a, d, i, h, hi, hb⟩ | ⟨k, d, e, h1, h2, hne⟩)
  · obtain ⟨h1, h2⟩ := hg.rch h
    have := hg.closed a d i h1 (by omega) hi
    have := this.1; have := this
    have q := hg.closed a d i h1 (by omega) hi
    have q2 := q.2.1
    omega
  · have a1 := (hg.rch h1).1
    have a2 := (hg.rch h2).1
    rw [a1] at a2
    exact hne (Option.some.inj a2)
theorem Good.most_le {o p : List Int} {m n : Int} (h : Good hs code o m) (k : Good hs code p n) : m ≤ n := by
  rcases h.att with e | ⟨a, d, i, h1, h2, h3, h4⟩
  · rw [e]; exact k.m0
  · obtain ⟨q1, q2⟩ := h.sound a d h1 h2
    have r := (k.rch q1).1
    obtain ⟨_, _, _, c4, c5⟩ := k.closed a d i r h2 h3
    rcases h4 with e | e <;> omega
theorem Good.uniq {o p : List Int} {m n : Int} (h : Good hs code o m) (k : Good hs code p n) : o = p ∧ m = n := by
  refine ⟨?_, by have := h.most_le k; have := k.most_le h; omega⟩
  refine List.ext_getElem? (fun a => ?_)
  by_cases hl : a < code.length + 1
  · have l1 : a < o.length := by rw [h.len]; exact hl
    have l2 : a < p.length := by rw [k.len]; exact hl
    have e1 : o[a]? = some o[a] := List.getElem?_eq_getElem l1
    have e2 : p[a]? = some p[a] := List.getElem?_eq_getElem l2
    by_cases h1 : o[a] = -1
    · by_cases h2 : p[a] = -1
      · rw [e1, e2, h1, h2]
      · have := (h.rch (k.sound a _ e2 h2).1).1
        rw [this, e2]
    · have := (k.rch (h.sound a _ e1 h1).1).1
      rw [this, e1]
  · rw [List.getElem?_eq_none (by rw [h.len]; omega), List.getElem?_eq_none (by rw [k.len]; omega)]

/-! ### The program's walk -/

/-- What a visit leaves: what was known stays, what is new is in the queue. -/
structure Ext (n : Int) (out out' : List Int) (Q : Nat → Prop) : Prop where
  len : out'.length = out.length
  keep : ∀ (a : Nat) (d : Int), out[a]? = some d → d ≠ -1 → out'[a]? = some d
  new : ∀ (a : Nat) (d : Int), out'[a]? = some d → d ≠ -1 → out[a]? = some d ∨ (d = n ∧ Q a)
theorem Ext.refl (n : Int) (out : List Int) (Q : Nat → Prop) : Ext n out out Q := ⟨rfl, fun _ _ h _ => h, fun _ _ h _ => .inl h⟩
theorem Ext.trans {n : Int} {a b c : List Int} {Q R : Nat → Prop} (h : Ext n a b Q) (k : Ext n b c R) (hq : ∀ x, Q x → R x) : Ext n a c R :=
  ⟨k.len.trans h.len, fun x d h1 h2 => k.keep x d (h.keep x d h1 h2) h2, fun x d h1 h2 => (k.new x d h1 h2).elim (fun q => (h.new x d q h2).imp id (fun r => ⟨r.1, hq _ r.2⟩)) .inr⟩
theorem Ext.set {n : Int} {out : List Int} {k : Nat} (h : out[k]? = some (-1)) (Q : Nat → Prop) (hq : Q k) : Ext n out (out.set k n) Q := by
  refine ⟨by simp, fun a d h1 h2 => ?_, fun a d h1 h2 => ?_⟩
  · rw [List.getElem?_set]
    split
    · rename_i e; subst e; rw [h] at h1; cases h1; exact absurd rfl h2
    · exact h1
  · rw [List.getElem?_set] at h1
    split at h1
    · rename_i e; subst e
      split at h1
      · cases h1; exact .inr ⟨rfl, hq⟩
      · cases h1
    · exact .inl h1
theorem visitL_ext {n : Int} : ∀ {ks : List Nat} {s s' : List Int × List Nat}, visitL n ks s = some s' → (n ≠ -1) →
    Ext n s.1 s'.1 (· ∈ s'.2) ∧ (∀ a ∈ s.2, a ∈ s'.2) ∧ (∀ a ∈ s'.2, a ∈ s.2 ∨ s'.1[a]? = some n) ∧ (∀ k ∈ ks, s'.1[k]? = some n)
  | [], s, s', h, _ => by cases h; exact ⟨.refl _ _ _, fun _ h => h, fun _ h => .inl h, by simp⟩
  | k :: ks, s, s', h, hn => by
    simp only [visitL, Option.bind_eq_some_iff] at h
    obtain ⟨s1, h1, h2⟩ := h
    obtain ⟨b1, b2, b3, b4⟩ := visitL_ext h2 hn
    have key : Ext n s.1 s1.1 (· ∈ s1.2) ∧ (∀ a ∈ s.2, a ∈ s1.2) ∧ (∀ a ∈ s1.2, a ∈ s.2 ∨ s1.1[a]? = some n) ∧ s1.1[k]? = some n := by
      unfold visit1 at h1
      split at h1
      · rename_i hk
        cases h1
        have hlt := (List.getElem?_eq_some_iff.1 hk).1
        have hset : (s.1.set k n)[k]? = some n := by rw [List.getElem?_set_self hlt]
        refine ⟨.set hk _ (by simp), fun a ha => by simp [ha], fun a ha => ?_, hset⟩
        simp at ha
        rcases ha with ha | ha
        · exact .inl ha
        · subst ha; exact .inr hset
      · split at h1
        · rename_i hk; cases h1; exact ⟨.refl _ _ _, fun _ h => h, fun _ h => .inl h, hk⟩
        · cases h1
    obtain ⟨a1, a2, a3, a4⟩ := key
    refine ⟨a1.trans b1 b2, fun a ha => b2 a (a2 a ha), fun a ha => ?_, fun x hx => ?_⟩
    · rcases b3 a ha with q | q
      · exact (a3 a q).imp id (fun r => b1.keep a n r hn)
      · exact .inr q
    · rcases List.mem_cons.1 hx with rfl | hx
      · exact b1.keep _ n a4 hn
      · exact b4 x hx
/-- A visit sets only what it is told to. -/
theorem visit_only {n : Int} : ∀ {ks : List Nat} {s s' : List Int × List Nat}, visitL n ks s = some s' → ∀ (x : Nat) (d : Int), s'.1[x]? = some d → d ≠ -1 → s.1[x]? = some d ∨ x ∈ ks
  | [], s, s', h, x, d, h1, _ => by cases h; exact .inl h1
  | k :: ks, s, s', h, x, d, h1, h2 => by
    simp only [visitL, Option.bind_eq_some_iff] at h
    obtain ⟨s1, q1, q2⟩ := h
    rcases visit_only q2 x d h1 h2 with r | r
    · unfold visit1 at q1
      split at q1
      · cases q1
        rw [List.getElem?_set] at r
        split at r
        · rename_i e; subst e; exact .inr (by simp)
        · exact .inl r
      · split at q1
        · cases q1; exact .inl r
        · cases q1
    · exact .inr (by simp [r])
theorem visitL_none {n : Int} : ∀ {ks : List Nat} {s : List Int × List Nat}, visitL n ks s = none → (n ≠ -1) → (∀ k ∈ ks, k < s.1.length) → ∃ k ∈ ks, ∃ d, s.1[k]? = some d ∧ d ≠ -1 ∧ d ≠ n
  | [], s, h, _, _ => by cases h
  | k :: ks, s, h, hn, hl => by
    simp only [visitL, Option.bind_eq_none_iff] at h
    have hkl : k < s.1.length := hl k (by simp)
    have hk : s.1[k]? = some s.1[k] := List.getElem?_eq_getElem hkl
    cases h1 : visit1 n s k with
    | none =>
      unfold visit1 at h1
      split at h1
      · cases h1
      · rename_i q1
        split at h1
        · cases h1
        · rename_i q2
          rw [hk] at q1 q2
          exact ⟨k, by simp, _, hk, fun e => q1 (by rw [e]), fun e => q2 (by rw [e])⟩
    | some s1 =>
      have e1 : Ext n s.1 s1.1 (· ∈ s1.2) := (visitL_ext (ks := [k]) (s := s) (s' := s1) (by simp [visitL, h1]) hn).1
      obtain ⟨x, hx, d, q1, q2, q3⟩ := visitL_none (h s1 h1) hn (fun x hx => by rw [e1.len]; exact hl x (by simp [hx]))
      rcases e1.new x d q1 q2 with r | r
      · exact ⟨x, by simp [hx], d, r, q2, q3⟩
      · exact absurd r.1 q3

/-- The walk's queue holds what is not yet gone into. -/
structure WInv (hs : List Hnd) (code : List Ins) (out : List Int) (left : List Nat) (most : Int) extends FInv hs code out most where
  q : ∀ a ∈ left, ∃ d, out[a]? = some d ∧ d ≠ -1
  cl : ∀ (a : Nat) (d : Int) (i : Ins), out[a]? = some d → d ≠ -1 → code[a]? = some i → a ∈ left ∨ Cl hs out most a d i
theorem walk_law (hc : codeOk hs code) : ∀ (f : Nat) (out : List Int) (left : List Nat) (most : Int), WInv hs code out left most → WfW code.length out left → unr out + left.length < f →
    (∃ o m, walkGo hs code f out left most = some (o, m) ∧ Good hs code o m) ∨ (walkGo hs code f out left most = none ∧ Bad hs code)
  | 0, _, _, _, _, _, h => by omega
  | f + 1, out, [], most, hI, _, _ => .inl ⟨out, most, rfl, ⟨hI.toFInv, fun a d i h1 h2 h3 => (hI.cl a d i h1 h2 h3).resolve_left (by simp)⟩⟩
  | f + 1, out, a :: left, most, hI, hw, hf => by
    simp only [List.length_cons] at hf
    have hw' : WfW code.length out left := ⟨hw.len, hw.rng, fun x hx => hw.q x (by simp [hx])⟩
    rw [walkGo]
    by_cases ha : a = code.length
    · rw [if_pos ha]
      refine walk_law hc f out left most ⟨hI.toFInv, fun x hx => hI.q x (by simp [hx]), fun x d i h1 h2 h3 => ?_⟩ hw' (by omega)
      rcases hI.cl x d i h1 h2 h3 with q | q
      · rcases List.mem_cons.1 q with q | q
        · have := (List.getElem?_eq_some_iff.1 h3).1; omega
        · exact .inl q
      · exact .inr q
    · rw [if_neg ha]
      have hal := hw.q a (by simp)
      have hlt : a < code.length := by omega
      have hi : code[a]? = some code[a] := List.getElem?_eq_getElem hlt
      obtain ⟨d, hd, hd1⟩ := hI.q a (by simp)
      obtain ⟨hr, hd0⟩ := hI.sound a d hd hd1
      have hp := putsV_range (code[a]).op
      have htk := takesV_range (hc.2 _ (List.getElem_mem hlt)).1
      simp only [hi, hd]
      by_cases hb : d - takesV hs code[a] < 0 ∨ d - takesV hs code[a] + putsV (code[a]).op > 8
      · rw [if_pos hb]
        exact .inr ⟨rfl, .inl ⟨a, d, _, hr, hi, by omega⟩⟩
      · rw [if_neg hb]
        have hks := nextV_le hc hi
        have hrk : ∀ k ∈ nextV a code[a], Rch hs code k (d - takesV hs code[a] + putsV (code[a]).op) := fun k hk => .step hr hi (by omega) (by omega) hk
        generalize hn : d - takesV hs code[a] + putsV (code[a]).op = n at hb hrk ⊢
        have hn0 : 0 ≤ n ∧ n ≤ 8 := by omega
        cases hv : visitL n (nextV a code[a]) (out, left) with
        | none =>
          obtain ⟨k, hk, e, h1, h2, h3⟩ := visitL_none hv (by omega) (fun k hk => by have := hks k hk; have := hI.len; simp only; omega)
          exact .inr ⟨rfl, .inr ⟨k, e, n, (hI.sound k e h1 h2).1, hrk k hk, h3⟩⟩
        | some s =>
          obtain ⟨b1, b2, b3, b4⟩ := visitL_ext hv (by omega)
          obtain ⟨w1, w2⟩ := visitL_ok hv hks hn0 hw'
          simp only at b1 b2 w2
          have hrd := hw.rng d (List.mem_of_getElem? hd)
          refine walk_law hc f s.1 s.2 _ ⟨⟨by rw [b1.len]; exact hI.len, b1.keep 0 0 hI.zero (by omega), ?_, ?_, by have := hI.m0; omega⟩, ?_, ?_⟩ w1 (by omega)
          · intro x e h1 h2
            rcases b1.new x e h1 h2 with q | ⟨q, q'⟩
            · exact hI.sound x e q h2
            · subst q
              rcases visit_only hv x e h1 h2 with r | r
              · exact hI.sound x e r h2
              · exact ⟨hrk x r, hn0.1⟩
          · rcases Int.lt_or_le most (max d n) with hm | hm
            · refine .inr ⟨a, d, _, b1.keep a d hd hd1, hd1, hi, ?_⟩
              rw [hn]; omega
            · have e : max (max most d) n = most := by omega
              rw [e]
              rcases hI.att with q | ⟨x, e, i, h1, h2, h3, h4⟩
              · exact .inl q
              · exact .inr ⟨x, e, i, b1.keep x e h1 h2, h2, h3, h4⟩
          · intro x hx
            rcases b3 x hx with q | q
            · obtain ⟨e, h1, h2⟩ := hI.q x (by simp only at q; simp [q])
              exact ⟨e, b1.keep x e h1 h2, h2⟩
            · exact ⟨n, q, by omega⟩
          · intro x e i h1 h2 h3
            rcases b1.new x e h1 h2 with q | ⟨q, q'⟩
            · by_cases hxa : x = a
              · subst hxa
                rw [hd] at q; cases q
                rw [hi] at h3; cases h3
                refine .inr ⟨by omega, by omega, fun k hk => ?_, by omega, by omega⟩
                rw [hn]; exact b4 k hk
              · rcases hI.cl x e i q h2 h3 with r | ⟨c1, c2, c3, c4, c5⟩
                · rcases List.mem_cons.1 r with r | r
                  · exact absurd r hxa
                  · exact .inl (b2 x r)
                · have := putsV_range i.op
                  exact .inr ⟨c1, c2, fun k hk => b1.keep k _ (c3 k hk) (by omega), by omega, by omega⟩
            · exact .inl q'

/-! ### The reference's passes -/

theorem rvisitL_ext {d : Int} : ∀ {ks : List Nat} {s s' : List Int × Bool}, rvisitL d ks s = some s' → (0 ≤ d) → (∀ x ∈ s.1, -1 ≤ x) →
    Ext d s.1 s'.1 (· ∈ ks) ∧ (∀ x ∈ s'.1, -1 ≤ x) ∧ (s'.2 = false → s.2 = false ∧ s'.1 = s.1 ∧ ∀ k ∈ ks, s.1[k]? = some d)
  | [], s, s', h, _, hx => by cases h; exact ⟨.refl _ _ _, hx, fun h => ⟨h, rfl, by simp⟩⟩
  | k :: ks, s, s', h, hd, hx => by
    simp only [rvisitL, Option.bind_eq_some_iff] at h
    obtain ⟨s1, h1, h2⟩ := h
    unfold rvisit1 at h1
    split at h1
    · rename_i x hk
      split at h1
      · cases h1
      · rename_i hne
        split at h1
        · rename_i hneg
          cases h1
          have hxm := hx x (List.mem_of_getElem? hk)
          have hx1 : x = -1 := by omega
          subst hx1
          obtain ⟨b1, b2, b3⟩ := rvisitL_ext h2 hd (fun y hy => by
              rcases List.mem_or_eq_of_mem_set hy with hy | hy
              · exact hx y hy
              · omega)
          refine ⟨(Ext.set hk (· ∈ k :: ks) (by simp)).trans (R := (· ∈ k :: ks)) ⟨b1.len, b1.keep, fun a e q1 q2 => (b1.new a e q1 q2).imp id (fun r => ⟨r.1, by simp [r.2]⟩)⟩ (fun _ h => h), b2, fun q => ?_⟩
          have := (b3 q).1
          simp at this
        · rename_i hpos
          cases h1
          have hx1 : x = d := by omega
          subst hx1
          obtain ⟨b1, b2, b3⟩ := rvisitL_ext h2 hd hx
          refine ⟨⟨b1.len, b1.keep, fun a e q1 q2 => (b1.new a e q1 q2).imp id (fun r => ⟨r.1, by simp [r.2]⟩)⟩, b2, fun q => ?_⟩
          obtain ⟨c1, c2, c3⟩ := b3 q
          refine ⟨c1, c2, fun y hy => ?_⟩
          rcases List.mem_cons.1 hy with rfl | hy
          · exact hk
          · exact c3 y hy
    · cases h1
theorem rvisitL_none {d : Int} : ∀ {ks : List Nat} {s : List Int × Bool}, rvisitL d ks s = none → (0 ≤ d) → (∀ x ∈ s.1, -1 ≤ x) → (∀ k ∈ ks, k < s.1.length) → ∃ k ∈ ks, ∃ e, s.1[k]? = some e ∧ e ≠ -1 ∧ e ≠ d
  | [], s, h, _, _, _ => by cases h
  | k :: ks, s, h, hd, hx, hl => by
    simp only [rvisitL, Option.bind_eq_none_iff] at h
    have hkl : k < s.1.length := hl k (by simp)
    have hk : s.1[k]? = some s.1[k] := List.getElem?_eq_getElem hkl
    cases h1 : rvisit1 d s k with
    | none =>
      unfold rvisit1 at h1
      rw [hk] at h1
      simp only at h1
      split at h1
      · rename_i q; exact ⟨k, by simp, _, hk, by omega, q.2⟩
      · split at h1 <;> cases h1
    | some s1 =>
      obtain ⟨e1, e2, _⟩ := rvisitL_ext (ks := [k]) (s := s) (s' := s1) (by simp [rvisitL, h1]) hd hx
      obtain ⟨x, hx', e, q1, q2, q3⟩ := rvisitL_none (h s1 h1) hd e2 (fun x hx => by rw [e1.len]; exact hl x (by simp [hx]))
      rcases e1.new x e q1 q2 with r | r
      · exact ⟨x, by simp [hx'], e, r, q2, q3⟩
      · exact absurd r.1 q3
theorem Inv_ge {out : List Int} {most : Int} (h : FInv hs code out most) (hr : ∀ x ∈ out, -1 ≤ x ∧ x ≤ 8) : ∀ x ∈ out, -1 ≤ x := fun x hx => (hr x hx).1
/-- One step of a pass. -/
theorem rstep_law (hc : codeOk hs code) {s : RS} {i : Nat} (hi : i < code.length) (hI : FInv hs code s.l s.most) (hw : WfR code.length s.l) :
    (∃ s', rstep hs code s i = some s' ∧ FInv hs code s'.l s'.most ∧ s.most ≤ s'.most ∧ (s'.again = false → s.again = false ∧ s'.l = s.l ∧ ∀ (d : Int) (c : Ins), s.l[i]? = some d → d ≠ -1 → code[i]? = some c → Cl hs s.l s'.most i d c)) ∨ (rstep hs code s i = none ∧ Bad hs code) := by
  have hil : i < s.l.length := by rw [hI.len]; omega
  have hx : s.l[i]? = some s.l[i] := List.getElem?_eq_getElem hil
  have hcc : code[i]? = some code[i] := List.getElem?_eq_getElem hi
  have hge := fun x hx => (hw.rng x hx).1
  have hxg := hge _ (List.getElem_mem hil)
  unfold rstep
  simp only [hx, hcc]
  by_cases h0 : s.l[i] < 0
  · rw [if_pos h0]
    refine .inl ⟨s, rfl, hI, Int.le_refl _, fun h => ⟨h, rfl, fun d c h1 h2 => ?_⟩⟩
    cases h1; exact absurd (by omega) h2
  · rw [if_neg h0]
    obtain ⟨hr, hd0⟩ := hI.sound i _ hx (by omega)
    have hp := putsV_range (code[i]).op
    by_cases hb : s.l[i] < takesV hs code[i] ∨ s.l[i] - takesV hs code[i] + putsV (code[i]).op > 8
    · rw [if_pos hb]
      exact .inr ⟨rfl, .inl ⟨i, _, _, hr, hcc, hb⟩⟩
    · rw [if_neg hb]
      have hks := nextV_le hc hcc
      have hrk : ∀ k ∈ nextV i code[i], Rch hs code k (s.l[i] - takesV hs code[i] + putsV (code[i]).op) := fun k hk => .step hr hcc (by omega) (by omega) hk
      generalize hn : s.l[i] - takesV hs code[i] + putsV (code[i]).op = n at hb hrk ⊢
      have hn0 : 0 ≤ n := by omega
      cases hv : rvisitL n (nextV i code[i]) (s.l, s.again) with
      | none =>
        obtain ⟨k, hk, e, h1, h2, h3⟩ := rvisitL_none hv hn0 hge (fun k hk => by have := hks k hk; have := hI.len; simp only; omega)
        exact .inr ⟨rfl, .inr ⟨k, e, n, (hI.sound k e h1 h2).1, hrk k hk, h3⟩⟩
      | some r =>
        obtain ⟨b1, b2, b3⟩ := rvisitL_ext hv hn0 hge
        simp only at b1 b3
        refine .inl ⟨_, rfl, ⟨by rw [b1.len]; exact hI.len, b1.keep 0 0 hI.zero (by omega), ?_, ?_, by have := hI.m0; simp only; omega⟩, by simp only; omega, ?_⟩
        · intro x e h1 h2
          rcases b1.new x e h1 h2 with q | ⟨q, q'⟩
          · exact hI.sound x e q h2
          · subst q; exact ⟨hrk x q', hn0⟩
        · rcases Int.lt_or_le s.most (max s.l[i] n) with hm | hm
          · refine .inr ⟨i, s.l[i], _, b1.keep i _ hx (by omega), by omega, hcc, ?_⟩
            rw [hn]; simp only; omega
          · have e : max (max s.most s.l[i]) n = s.most := by omega
            simp only
            rw [e]
            rcases hI.att with q | ⟨x, e, c, h1, h2, h3, h4⟩
            · exact .inl q
            · exact .inr ⟨x, e, c, b1.keep x e h1 h2, h2, h3, h4⟩
        · intro hag
          obtain ⟨c1, c2, c3⟩ := b3 hag
          refine ⟨c1, c2, fun d c h1 h2 h3 => ?_⟩
          cases h1
          cases h3
          refine ⟨by omega, by omega, fun k hk => ?_, by simp only; omega, by simp only; omega⟩
          rw [hn]; exact c3 k hk
theorem Cl.mono {out : List Int} {m n : Int} {a : Nat} {d : Int} {i : Ins} (h : Cl hs out m a d i) (hmn : m ≤ n) : Cl hs out n a d i :=
  ⟨h.1, h.2.1, h.2.2.1, Int.le_trans h.2.2.2.1 hmn, Int.le_trans h.2.2.2.2 hmn⟩
theorem rpass_law (hc : codeOk hs code) : ∀ (is : List Nat) (s : RS), (∀ i ∈ is, i < code.length) → FInv hs code s.l s.most → WfR code.length s.l →
    (∃ s', rpass hs code is s = some s' ∧ FInv hs code s'.l s'.most ∧ s.most ≤ s'.most ∧ (s'.again = false → s.again = false ∧ s'.l = s.l ∧ ∀ i ∈ is, ∀ (d : Int) (c : Ins), s.l[i]? = some d → d ≠ -1 → code[i]? = some c → Cl hs s.l s'.most i d c)) ∨ (rpass hs code is s = none ∧ Bad hs code)
  | [], s, _, hI, _ => .inl ⟨s, rfl, hI, Int.le_refl _, fun h => ⟨h, rfl, by simp⟩⟩
  | i :: is, s, hi, hI, hw => by
    rcases rstep_law hc (hi i (by simp)) hI hw with ⟨s1, a1, a2, a3, a4⟩ | ⟨a1, a2⟩
    · have hw1 := (rstep_ok a1 hc hw).1
      rcases rpass_law hc is s1 (fun j hj => hi j (by simp [hj])) a2 hw1 with ⟨s2, b1, b2, b3, b4⟩ | ⟨b1, b2⟩
      · refine .inl ⟨s2, by simp [rpass, a1, b1], b2, Int.le_trans a3 b3, fun h => ?_⟩
        obtain ⟨c1, c2, c3⟩ := b4 h
        obtain ⟨d1, d2, d3⟩ := a4 c1
        refine ⟨d1, c2.trans d2, fun j hj d c h1 h2 h3 => ?_⟩
        rcases List.mem_cons.1 hj with rfl | hj
        · exact (d3 d c h1 h2 h3).mono b3
        · have := c3 j hj d c (by rw [d2]; exact h1) h2 h3
          rwa [d2] at this
      · exact .inr ⟨by simp [rpass, a1, b1], b2⟩
    · exact .inr ⟨by simp [rpass, a1], a2⟩
theorem rgo_law (hc : codeOk hs code) : ∀ (f : Nat) (l : List Int) (most : Int), FInv hs code l most → WfR code.length l → unr l < f →
    (∃ o m, rgo hs code f l most = some (o, m) ∧ Good hs code o m) ∨ (rgo hs code f l most = none ∧ Bad hs code)
  | 0, _, _, _, _, h => by omega
  | f + 1, l, most, hI, hw, hf => by
    rcases rpass_law hc (List.range code.length) ⟨l, most, false⟩ (by simp) hI hw with ⟨s, a1, a2, a3, a4⟩ | ⟨a1, a2⟩
    · rw [rgo, a1]
      simp only
      obtain ⟨hws, hun⟩ := rpass_ok hc a1 hw
      by_cases hag : s.again = true
      · rw [if_pos hag]
        rcases hun with ⟨q, _⟩ | ⟨_, q⟩
        · rw [hag] at q; cases q
        · exact rgo_law hc f s.l s.most a2 hws (by simp only at q; omega)
      · rw [if_neg hag]
        obtain ⟨_, c2, c3⟩ := a4 (by simpa using hag)
        refine .inl ⟨s.l, s.most, rfl, a2, fun a d i h1 h2 h3 => ?_⟩
        simp only at c2 c3
        rw [c2] at h1 ⊢
        exact c3 a (by simpa using (List.getElem?_eq_some_iff.1 h3).1) d i h1 h2 h3
    · exact .inr ⟨by rw [rgo, a1], a2⟩
theorem start_inv : FInv hs code ((List.replicate (code.length + 1) (-1)).set 0 0) 0 := by
  refine ⟨by simp, by simp [List.replicate_succ], fun a d h1 h2 => ?_, .inl rfl, Int.le_refl _⟩
  rw [List.getElem?_set] at h1
  split at h1
  · rename_i e; subst e
    simp at h1; subst h1
    exact ⟨.start, Int.le_refl _⟩
  · have := List.eq_of_mem_replicate (List.mem_of_getElem? h1)
    exact absurd this h2
theorem start_rng : ∀ x ∈ ((List.replicate (code.length + 1) (-1)).set 0 0 : List Int), -1 ≤ x ∧ x ≤ 8 := by
  intro x hx
  rcases List.mem_or_eq_of_mem_set hx with hx | hx
  · have := List.eq_of_mem_replicate hx; omega
  · omega
theorem start_unr : unr ((List.replicate (code.length + 1) (-1)).set 0 0) = code.length := by
  simp [unr, List.replicate_succ, List.countP_replicate]
theorem walk_good (hc : codeOk hs code) : (∃ o m, walkV hs code = some (o, m) ∧ Good hs code o m) ∨ (walkV hs code = none ∧ Bad hs code) := by
  refine walk_law hc _ _ _ _ ⟨start_inv, ?_, ?_⟩ ⟨by simp, start_rng, by simp⟩ (by rw [start_unr]; simp)
  · intro a ha
    simp at ha; subst ha
    exact ⟨0, by simp [List.replicate_succ], by omega⟩
  · intro a d i h1 h2 _
    rw [List.getElem?_set] at h1
    split at h1
    · rename_i e; subst e; exact .inl (by simp)
    · have := List.eq_of_mem_replicate (List.mem_of_getElem? h1)
      exact absurd this h2
theorem rwalk_good (hc : codeOk hs code) : (∃ o m, rwalkV hs code = some (o, m) ∧ Good hs code o m) ∨ (rwalkV hs code = none ∧ Bad hs code) :=
  rgo_law hc _ _ _ start_inv ⟨by simp, start_rng⟩ (by rw [start_unr]; omega)
/-- Both come to the same. -/
theorem walk_eq (hc : codeOk hs code) : rwalkV hs code = walkV hs code := by
  rcases walk_good hc with ⟨o, m, h1, h2⟩ | ⟨h1, h2⟩ <;> rcases rwalk_good hc with ⟨p, n, k1, k2⟩ | ⟨k1, k2⟩
  · obtain ⟨e1, e2⟩ := h2.uniq k2
    rw [h1, k1, e1, e2]
  · exact absurd k2 h2.not_bad
  · exact absurd h2 k2.not_bad
  · rw [h1, k1]
end

end Go.Gv
