/- Texts of this proof, one behind the other. What is proved, and on which conditions, stands ahead of each. -/
import Derived.Test.YtpaeffcpdpblcaaGreatProg
import Derived.Test.YtpaeffcpdpblcaaGreatM17c76ef9
import Derived.Test.YtpaeffcpdpblcaaGreatM14be5a71

/- The program's walk and the reference's passes come to the same depths, and the same greatest one. The code's instructions may be looked at (codeOk). -/
set_option linter.unusedVariables false
set_option linter.unusedSimpArgs false
namespace Go.Gv
open Go.Proofs


section
variable {hs : List Hnd} {code : List Ins}
/-- A place that is reached with so many numbers. -/
inductive Rch (hs : List Hnd) (code : List Ins) : Nat → Int → Prop
  | start : Rch hs code 0 0
  | step {a : Nat} {d : Int} {i : Ins} {k : Nat} (h : Rch hs code a d) (hi : code[a]? = some i) (h1 : takesV hs i ≤ d) (h2 : d - takesV hs i + putsV i.op ≤ 8) (hk : k ∈ nextV a i) : Rch hs code k (d - takesV hs i + putsV i.op)
/-- What is told of a reached place's instruction. -/
def Cl (hs : List Hnd) (out : List Int) (most : Int) (a : Nat) (d : Int) (i : Ins) : Prop :=
  takesV hs i ≤ d ∧ d - takesV hs i + putsV i.op ≤ 8 ∧ (∀ k ∈ nextV a i, out[k]? = some (d - takesV hs i + putsV i.op)) ∧ d ≤ most ∧ d - takesV hs i + putsV i.op ≤ most
structure FInv (hs : List Hnd) (code : List Ins) (out : List Int) (most : Int) : Prop where
  len : out.length = code.length + 1
  zero : out[0]? = some 0
  sound : ∀ (a : Nat) (d : Int), out[a]? = some d → d ≠ -1 → Rch hs code a d ∧ 0 ≤ d
  att : most = 0 ∨ ∃ (a : Nat) (d : Int) (i : Ins), out[a]? = some d ∧ d ≠ -1 ∧ code[a]? = some i ∧ (most = d ∨ most = d - takesV hs i + putsV i.op)
  m0 : 0 ≤ most
structure Good (hs : List Hnd) (code : List Ins) (out : List Int) (most : Int) extends FInv hs code out most where
  closed : ∀ (a : Nat) (d : Int) (i : Ins), out[a]? = some d → d ≠ -1 → code[a]? = some i → Cl hs out most a d i
def Bad (hs : List Hnd) (code : List Ins) : Prop :=
  (∃ (a : Nat) (d : Int) (i : Ins), Rch hs code a d ∧ code[a]? = some i ∧ (d < takesV hs i ∨ d - takesV hs i + putsV i.op > 8)) ∨ ∃ k d e, Rch hs code k d ∧ Rch hs code k e ∧ d ≠ e
theorem Good.rch {out : List Int} {most : Int} (hg : Good hs code out most) {a : Nat} {d : Int} (h : Rch hs code a d) : out[a]? = some d ∧ 0 ≤ d := by
  induction h with
  | start => exact ⟨hg.zero, Int.le_refl _⟩
  | step h hi h1 h2 hk ih =>
    have := putsV_range ‹Ins›.op
    exact ⟨(hg.closed _ _ _ ih.1 (by omega) hi).2.2.1 _ hk, by omega⟩
theorem Good.not_bad {out : List Int} {most : Int} (hg : Good hs code out most) : ¬ Bad hs code := by
  rintro (⟨a, d, i, h, hi, hb⟩ | ⟨k, d, e, h1, h2, hne⟩)
  · obtain ⟨h1, h2⟩ := hg.rch h
    have := hg.closed a d i h1 (by omega) hi
    have := this.1; have := this
    have q := hg.closed a d i h1 (by omega) hi
    have q2 := q.2.1
    omega
  · have a1 := (hg.rch h1).1
    have a2 := (hg.rch h2).1
    rw [a1] at a2
    exact hne (Option.some.inj a2)
theorem Good.most_le {o p : List Int} {m n : Int} (h : Good hs code o m) (k : Good hs code p n) : m ≤ n := by
  rcases h.att with e | ⟨a, d, i, h1, h2, h3, h4⟩
  · rw [e]; exact k.m0
  · obtain ⟨q1, q2⟩ := h.sound a d h1 h2
    have r := (k.rch q1).1
    obtain ⟨_, _, _, c4, c5⟩ := k.closed a d i r h2 h3
    rcases h4 with e | e <;> omega
theorem Good.uniq {o p : List Int} {m n : Int} (h : Good hs code o m) (k : Good hs code p n) : o = p ∧ m = n := by
  refine ⟨?_, by have := h.most_le k; have := k.most_le h; omega⟩
  refine List.ext_getElem? (fun a => ?_)
  by_cases hl : a < code.length + 1
  · have l1 : a < o.length := by rw [h.len]; exact hl
    have l2 : a < p.length := by rw [k.len]; exact hl
    have e1 : o[a]? = some o[a] := List.getElem?_eq_getElem l1
    have e2 : p[a]? = some p[a] := List.getElem?_eq_getElem l2
    by_cases h1 : o[a] = -1
    · by_cases h2 : p[a] = -1
      · rw [e1, e2, h1, h2]
      · have := (h.rch (k.sound a _ e2 h2).1).1
        rw [this, e2]
    · have := (k.rch (h.sound a _ e1 h1).1).1
      rw [this, e1]
  · rw [List.getElem?_eq_none (by rw [h.len]; omega), List.getElem?_eq_none (by rw [k.len]; omega)]

/-! ### The program's walk -/

/-- What a visit leaves: what was known stays, what is new is in the queue. -/
structure Ext (n : Int) (out out' : List Int) (Q : Nat → Prop) : Prop where
  len : out'.length = out.length
  keep : ∀ (a : Nat) (d : Int), out[a]? = some d → d ≠ -1 → out'[a]? = some d
  new : ∀ (a : Nat) (d : Int), out'[a]? = some d → d ≠ -1 → out[a]? = some d ∨ (d = n ∧ Q a)
theorem Ext.refl (n : Int) (out : List Int) (Q : Nat → Prop) : Ext n out out Q := ⟨rfl, fun _ _ h _ => h, fun _ _ h _ => .inl h⟩
theorem Ext.trans {n : Int} {a b c : List Int} {Q R : Nat → Prop} (h : Ext n a b Q) (k : Ext n b c R) (hq : ∀ x, Q x → R x) : Ext n a c R :=
  ⟨k.len.trans h.len, fun x d h1 h2 => k.keep x d (h.keep x d h1 h2) h2, fun x d h1 h2 => (k.new x d h1 h2).elim (fun q => (h.new x d q h2).imp id (fun r => ⟨r.1, hq _ r.2⟩)) .inr⟩
theorem Ext.set {n : Int} {out : List Int} {k : Nat} (h : out[k]? = some (-1)) (Q : Nat → Prop) (hq : Q k) : Ext n out (out.set k n) Q := by
  refine ⟨by simp, fun a d h1 h2 => ?_, fun a d h1 h2 => ?_⟩
  · rw [List.getElem?_set]
    split
    · rename_i e; subst e; rw [h] at h1; cases h1; exact absurd rfl h2
    · exact h1
  · rw [List.getElem?_set] at h1
    split at h1
    · rename_i e; subst e
      split at h1
      · cases h1; exact .inr ⟨rfl, hq⟩
      · cases h1
    · exact .inl h1
theorem visitL_ext {n : Int} : ∀ {ks : List Nat} {s s' : List Int × List Nat}, visitL n ks s = some s' → (n ≠ -1) →
    Ext n s.1 s'.1 (· ∈ s'.2) ∧ (∀ a ∈ s.2, a ∈ s'.2) ∧ (∀ a ∈ s'.2, a ∈ s.2 ∨ s'.1[a]? = some n) ∧ (∀ k ∈ ks, s'.1[k]? = some n)
  | [], s, s', h, _ => by cases h; exact ⟨.refl _ _ _, fun _ h => h, fun _ h => .inl h, by simp⟩
  | k :: ks, s, s', h, hn => by
    simp only [visitL, Option.bind_eq_some_iff] at h
    obtain ⟨s1, h1, h2⟩ := h
    obtain ⟨b1, b2, b3, b4⟩ := visitL_ext h2 hn
    have key : Ext n s.1 s1.1 (· ∈ s1.2) ∧ (∀ a ∈ s.2, a ∈ s1.2) ∧ (∀ a ∈ s1.2, a ∈ s.2 ∨ s1.1[a]? = some n) ∧ s1.1[k]? = some n := by
      unfold visit1 at h1
      split at h1
      · rename_i hk
        cases h1
        have hlt := (List.getElem?_eq_some_iff.1 hk).1
        have hset : (s.1.set k n)[k]? = some n := by rw [List.getElem?_set_self hlt]
        refine ⟨.set hk _ (by simp), fun a ha => by simp [ha], fun a ha => ?_, hset⟩
        simp at ha
        rcases ha with ha | ha
        · exact .inl ha
        · subst ha; exact .inr hset
      · split at h1
        · rename_i hk; cases h1; exact ⟨.refl _ _ _, fun _ h => h, fun _ h => .inl h, hk⟩
        · cases h1
    obtain ⟨a1, a2, a3, a4⟩ := key
    refine ⟨a1.trans b1 b2, fun a ha => b2 a (a2 a ha), fun a ha => ?_, fun x hx => ?_⟩
    · rcases b3 a ha with q | q
      · exact (a3 a q).imp id (fun r => b1.keep a n r hn)
      · exact .inr q
    · rcases List.mem_cons.1 hx with rfl | hx
      · exact b1.keep _ n a4 hn
      · exact b4 x hx
/-- A visit sets only what it is told to. -/
theorem visit_only {n : Int} : ∀ {ks : List Nat} {s s' : List Int × List Nat}, visitL n ks s = some s' → ∀ (x : Nat) (d : Int), s'.1[x]? = some d → d ≠ -1 → s.1[x]? = some d ∨ x ∈ ks
  | [], s, s', h, x, d, h1, _ => by cases h; exact .inl h1
  | k :: ks, s, s', h, x, d, h1, h2 => by
    simp only [visitL, Option.bind_eq_some_iff] at h
    obtain ⟨s1, q1, q2⟩ := h
    rcases visit_only q2 x d h1 h2 with r | r
    · unfold visit1 at q1
      split at q1
      · cases q1
        rw [List.getElem?_set] at r
        split at r
        · rename_i e; subst e; exact .inr (by simp)
        · exact .inl r
      · split at q1
        · cases q1; exact .inl r
        · cases q1
    · exact .inr (by simp [r])
theorem visitL_none {n : Int} : ∀ {ks : List Nat} {s : List Int × List Nat}, visitL n ks s = none → (n ≠ -1) → (∀ k ∈ ks, k < s.1.length) → ∃ k ∈ ks, ∃ d, s.1[k]? = some d ∧ d ≠ -1 ∧ d ≠ n
  | [], s, h, _, _ => by cases h
  | k :: ks, s, h, hn, hl => by
    simp only [visitL, Option.bind_eq_none_iff] at h
    have hkl : k < s.1.length := hl k (by simp)
    have hk : s.1[k]? = some s.1[k] := List.getElem?_eq_getElem hkl
    cases h1 : visit1 n s k with
    | none =>
      unfold visit1 at h1
      split at h1
      · cases h1
      · rename_i q1
        split at h1
        · cases h1
        · rename_i q2
          rw [hk] at q1 q2
          exact ⟨k, by simp, _, hk, fun e => q1 (by rw [e]), fun e => q2 (by rw [e])⟩
    | some s1 =>
      have e1 : Ext n s.1 s1.1 (· ∈ s1.2) := (visitL_ext (ks := [k]) (s := s) (s' := s1) (by simp [visitL, h1]) hn).1
      obtain ⟨x, hx, d, q1, q2, q3⟩ := visitL_none (h s1 h1) hn (fun x hx => by rw [e1.len]; exact hl x (by simp [hx]))
      rcases e1.new x d q1 q2 with r | r
      · exact ⟨x, by simp [hx], d, r, q2, q3⟩
      · exact absurd r.1 q3

/-- The walk's queue holds what is not yet gone into. -/
structure WInv (hs : List Hnd) (code : List Ins) (out : List Int) (left : List Nat) (most : Int) extends FInv hs code out most where
  q : ∀ a ∈ left, ∃ d, out[a]? = some d ∧ d ≠ -1
  cl : ∀ (a : Nat) (d : Int) (i : Ins), out[a]? = some d → d ≠ -1 → code[a]? = some i → a ∈ left ∨ Cl hs out most a d i
theorem walk_law (hc : codeOk hs code) : ∀ (f : Nat) (out : List Int) (left : List Nat) (most : Int), WInv hs code out left most → WfW code.length out left → unr out + left.length < f →
    (∃ o m, walkGo hs code f out left most = some (o, m) ∧ Good hs code o m) ∨ (walkGo hs code f out left most = none ∧ Bad hs code)
  | 0, _, _, _, _, _, h => by omega
  | f + 1, out, [], most, hI, _, _ => .inl ⟨out, most, rfl, ⟨hI.toFInv, fun a d i h1 h2 h3 => (hI.cl a d i h1 h2 h3).resolve_left (by simp)⟩⟩
  | f + 1, out, a :: left, most, hI, hw, hf => by
    simp only [List.length_cons] at hf
    have hw' : WfW code.length out left := ⟨hw.len, hw.rng, fun x hx => hw.q x (by simp [hx])⟩
    rw [walkGo]
    by_cases ha : a = code.length
    · rw [if_pos ha]
      refine walk_law hc f out left most ⟨hI.toFInv, fun x hx => hI.q x (by simp [hx]), fun x d i h1 h2 h3 => ?_⟩ hw' (by omega)
      rcases hI.cl x d i h1 h2 h3 with q | q
      · rcases List.mem_cons.1 q with q | q
        · have := (List.getElem?_eq_some_iff.1 h3).1; omega
        · exact .inl q
      · exact .inr q
    · rw [if_neg ha]
      have hal := hw.q a (by simp)
      have hlt : a < code.length := by omega
      have hi : code[a]? = some code[a] := List.getElem?_eq_getElem hlt
      obtain ⟨d, hd, hd1⟩ := hI.q a (by simp)
      obtain ⟨hr, hd0⟩ := hI.sound a d hd hd1
      have hp := putsV_range (code[a]).op
      have htk := takesV_range (hc.2 _ (List.getElem_mem hlt)).1
      simp only [hi, hd]
      by_cases hb : d - takesV hs code[a] < 0 ∨ d - takesV hs code[a] + putsV (code[a]).op > 8
      · rw [if_pos hb]
        exact .inr ⟨rfl, .inl ⟨a, d, _, hr, hi, by omega⟩⟩
      · rw [if_neg hb]
        have hks := nextV_le hc hi
        have hrk : ∀ k ∈ nextV a code[a], Rch hs code k (d - takesV hs code[a] + putsV (code[a]).op) := fun k hk => .step hr hi (by omega) (by omega) hk
        generalize hn : d - takesV hs code[a] + putsV (code[a]).op = n at hb hrk ⊢
        have hn0 : 0 ≤ n ∧ n ≤ 8 := by omega
        cases hv : visitL n (nextV a code[a]) (out, left) with
        | none =>
          obtain ⟨k, hk, e, h1, h2, h3⟩ := visitL_none hv (by omega) (fun k hk => by have := hks k hk; have := hI.len; simp only; omega)
          exact .inr ⟨rfl, .inr ⟨k, e, n, (hI.sound k e h1 h2).1, hrk k hk, h3⟩⟩
        | some s =>
          obtain ⟨b1, b2, b3, b4⟩ := visitL_ext hv (by omega)
          obtain ⟨w1, w2⟩ := visitL_ok hv hks hn0 hw'
          simp only at b1 b2 w2
          have hrd := hw.rng d (List.mem_of_getElem? hd)
          refine walk_law hc f s.1 s.2 _ ⟨⟨by rw [b1.len]; exact hI.len, b1.keep 0 0 hI.zero (by omega), ?_, ?_, by have := hI.m0; omega⟩, ?_, ?_⟩ w1 (by omega)
          · intro x e h1 h2
            rcases b1.new x e h1 h2 with q | ⟨q, q'⟩
            · exact hI.sound x e q h2
            · subst q
              rcases visit_only hv x e h1 h2 with r | r
              · exact hI.sound x e r h2
              · exact ⟨hrk x r, hn0.1⟩
          · rcases Int.lt_or_le most (max d n) with hm | hm
            · refine .inr ⟨a, d, _, b1.keep a d hd hd1, hd1, hi, ?_⟩
              rw [hn]; omega
            · have e : max (max most d) n = most := by omega
              rw [e]
              rcases hI.att with q | ⟨x, e, i, h1, h2, h3, h4⟩
              · exact .inl q
              · exact .inr ⟨x, e, i, b1.keep x e h1 h2, h2, h3, h4⟩
          · intro x hx
            rcases b3 x hx with q | q
            · obtain ⟨e, h1, h2⟩ := hI.q x (by simp only at q; simp [q])
              exact ⟨e, b1.keep x e h1 h2, h2⟩
            · exact ⟨n, q, by omega⟩
          · intro x e i h1 h2 h3
            rcases b1.new x e h1 h2 with q | ⟨q, q'⟩
            · by_cases hxa : x = a
              · subst hxa
                rw [hd] at q; cases q
                rw [hi] at h3; cases h3
                refine .inr ⟨by omega, by omega, fun k hk => ?_, by omega, by omega⟩
                rw [hn]; exact b4 k hk
              · rcases hI.cl x e i q h2 h3 with r | ⟨c1, c2, c3, c4, c5⟩
                · rcases List.mem_cons.1 r with r | r
                  · exact absurd r hxa
                  · exact .inl (b2 x r)
                · have := putsV_range i.op
                  exact .inr ⟨c1, c2, fun k hk => b1.keep k _ (c3 k hk) (by omega), by omega, by omega⟩
            · exact .inl q'

/-! ### The reference's passes -/

theorem rvisitL_ext {d : Int} : ∀ {ks : List Nat} {s s' : List Int × Bool}, rvisitL d ks s = some s' → (0 ≤ d) → (∀ x ∈ s.1, -1 ≤ x) →
    Ext d s.1 s'.1 (· ∈ ks) ∧ (∀ x ∈ s'.1, -1 ≤ x) ∧ (s'.2 = false → s.2 = false ∧ s'.1 = s.1 ∧ ∀ k ∈ ks, s.1[k]? = some d)
  | [], s, s', h, _, hx => by cases h; exact ⟨.refl _ _ _, hx, fun h => ⟨h, rfl, by simp⟩⟩
  | k :: ks, s, s', h, hd, hx => by
    simp only [rvisitL, Option.bind_eq_some_iff] at h
    obtain ⟨s1, h1, h2⟩ := h
    unfold rvisit1 at h1
    split at h1
    · rename_i x hk
      split at h1
      · cases h1
      · rename_i hne
        split at h1
        · rename_i hneg
          cases h1
          have hxm := hx x (List.mem_of_getElem? hk)
          have hx1 : x = -1 := by omega
          subst hx1
          obtain ⟨b1, b2, b3⟩ := rvisitL_ext h2 hd (fun y hy => by
              rcases List.mem_or_eq_of_mem_set hy with hy | hy
              · exact hx y hy
              · omega)
          refine ⟨(Ext.set hk (· ∈ k :: ks) (by simp)).trans (R := (· ∈ k :: ks)) ⟨b1.len, b1.keep, fun a e q1 q2 => (b1.new a e q1 q2).imp id (fun r => ⟨r.1, by simp [r.2]⟩)⟩ (fun _ h => h), b2, fun q => ?_⟩
          have := (b3 q).1
          simp at this
        · rename_i hpos
          cases h1
          have hx1 : x = d := by omega
          subst hx1
          obtain ⟨b1, b2, b3⟩ := rvisitL_ext h2 hd hx
          refine ⟨⟨b1.len, b1.keep, fun a e q1 q2 => (b1.new a e q1 q2).imp id (fun r => ⟨r.1, by simp [r.2]⟩)⟩, b2, fun q => ?_⟩
          obtain ⟨c1, c2, c3⟩ := b3 q
          refine ⟨c1, c2, fun y hy => ?_⟩
          rcases List.mem_cons.1 hy with rfl | hy
          · exact hk
          · exact c3 y hy
    · cases h1
theorem rvisitL_none {d : Int} : ∀ {ks : List Nat} {s : List Int × Bool}, rvisitL d ks s = none → (0 ≤ d) → (∀ x ∈ s.1, -1 ≤ x) → (∀ k ∈ ks, k < s.1.length) → ∃ k ∈ ks, ∃ e, s.1[k]? = some e ∧ e ≠ -1 ∧ e ≠ d
  | [], s, h, _, _, _ => by cases h
  | k :: ks, s, h, hd, hx, hl => by
    simp only [rvisitL, Option.bind_eq_none_iff] at h
    have hkl : k < s.1.length := hl k (by simp)
    have hk : s.1[k]? = some s.1[k] := List.getElem?_eq_getElem hkl
    cases h1 : rvisit1 d s k with
    | none =>
      unfold rvisit1 at h1
      rw [hk] at h1
      simp only at h1
      split at h1
      · rename_i q; exact ⟨k, by simp, _, hk, by omega, q.2⟩
      · split at h1 <;> cases h1
    | some s1 =>
      obtain ⟨e1, e2, _⟩ := rvisitL_ext (ks := [k]) (s := s) (s' := s1) (by simp [rvisitL, h1]) hd hx
      obtain ⟨x, hx', e, q1, q2, q3⟩ := rvisitL_none (h s1 h1) hd e2 (fun x hx => by rw [e1.len]; exact hl x (by simp [hx]))
      rcases e1.new x e q1 q2 with r | r
      · exact ⟨x, by simp [hx'], e, r, q2, q3⟩
      · exact absurd r.1 q3
theorem Inv_ge {out : List Int} {most : Int} (h : FInv hs code out most) (hr : ∀ x ∈ out, -1 ≤ x ∧ x ≤ 8) : ∀ x ∈ out, -1 ≤ x := fun x hx => (hr x hx).1
/-- One step of a pass. -/
theorem rstep_law (hc : codeOk hs code) {s : RS} {i : Nat} (hi : i < code.length) (hI : FInv hs code s.l s.most) (hw : WfR code.length s.l) :
    (∃ s', rstep hs code s i = some s' ∧ FInv hs code s'.l s'.most ∧ s.most ≤ s'.most ∧ (s'.again = false → s.again = false ∧ s'.l = s.l ∧ ∀ (d : Int) (c : Ins), s.l[i]? = some d → d ≠ -1 → code[i]? = some c → Cl hs s.l s'.most i d c)) ∨ (rstep hs code s i = none ∧ Bad hs code) := by
  have hil : i < s.l.length := by rw [hI.len]; omega
  have hx : s.l[i]? = some s.l[i] := List.getElem?_eq_getElem hil
  have hcc : code[i]? = some code[i] := List.getElem?_eq_getElem hi
  have hge := fun x hx => (hw.rng x hx).1
  have hxg := hge _ (List.getElem_mem hil)
  unfold rstep
  simp only [hx, hcc]
  by_cases h0 : s.l[i] < 0
  · rw [if_pos h0]
    refine .inl ⟨s, rfl, hI, Int.le_refl _, fun h => ⟨h, rfl, fun d c h1 h2 => ?_⟩⟩
    cases h1; exact absurd (by omega) h2
  · rw [if_neg h0]
    obtain ⟨hr, hd0⟩ := hI.sound i _ hx (by omega)
    have hp := putsV_range (code[i]).op
    by_cases hb : s.l[i] < takesV hs code[i] ∨ s.l[i] - takesV hs code[i] + putsV (code[i]).op > 8
    · rw [if_pos hb]
      exact .inr ⟨rfl, .inl ⟨i, _, _, hr, hcc, hb⟩⟩
    · rw [if_neg hb]
      have hks := nextV_le hc hcc
      have hrk : ∀ k ∈ nextV i code[i], Rch hs code k (s.l[i] - takesV hs code[i] + putsV (code[i]).op) := fun k hk => .step hr hcc (by omega) (by omega) hk
      generalize hn : s.l[i] - takesV hs code[i] + putsV (code[i]).op = n at hb hrk ⊢
      have hn0 : 0 ≤ n := by omega
      cases hv : rvisitL n (nextV i code[i]) (s.l, s.again) with
      | none =>
        obtain ⟨k, hk, e, h1, h2, h3⟩ := rvisitL_none hv hn0 hge (fun k hk => by have := hks k hk; have := hI.len; simp only; omega)
        exact .inr ⟨rfl, .inr ⟨k, e, n, (hI.sound k e h1 h2).1, hrk k hk, h3⟩⟩
      | some r =>
        obtain ⟨b1, b2, b3⟩ := rvisitL_ext hv hn0 hge
        simp only at b1 b3
        refine .inl ⟨_, rfl, ⟨by rw [b1.len]; exact hI.len, b1.keep 0 0 hI.zero (by omega), ?_, ?_, by have := hI.m0; simp only; omega⟩, by simp only; omega, ?_⟩
        · intro x e h1 h2
          rcases b1.new x e h1 h2 with q | ⟨q, q'⟩
          · exact hI.sound x e q h2
          · subst q; exact ⟨hrk x q', hn0⟩
        · rcases Int.lt_or_le s.most (max s.l[i] n) with hm | hm
          · refine .inr ⟨i, s.l[i], _, b1.keep i _ hx (by omega), by omega, hcc, ?_⟩
            rw [hn]; simp only; omega
          · have e : max (max s.most s.l[i]) n = s.most := by omega
            simp only
            rw [e]
            rcases hI.att with q | ⟨x, e, c, h1, h2, h3, h4⟩
            · exact .inl q
            · exact .inr ⟨x, e, c, b1.keep x e h1 h2, h2, h3, h4⟩
        · intro hag
          obtain ⟨c1, c2, c3⟩ := b3 hag
          refine ⟨c1, c2, fun d c h1 h2 h3 => ?_⟩
          cases h1
          cases h3
          refine ⟨by omega, by omega, fun k hk => ?_, by simp only; omega, by simp only; omega⟩
          rw [hn]; exact c3 k hk
theorem Cl.mono {out : List Int} {m n : Int} {a : Nat} {d : Int} {i : Ins} (h : Cl hs out m a d i) (hmn : m ≤ n) : Cl hs out n a d i :=
  ⟨h.1, h.2.1, h.2.2.1, Int.le_trans h.2.2.2.1 hmn, Int.le_trans h.2.2.2.2 hmn⟩
theorem rpass_law (hc : codeOk hs code) : ∀ (is : List Nat) (s : RS), (∀ i ∈ is, i < code.length) → FInv hs code s.l s.most → WfR code.length s.l →
    (∃ s', rpass hs code is s = some s' ∧ FInv hs code s'.l s'.most ∧ s.most ≤ s'.most ∧ (s'.again = false → s.again = false ∧ s'.l = s.l ∧ ∀ i ∈ is, ∀ (d : Int) (c : Ins), s.l[i]? = some d → d ≠ -1 → code[i]? = some c → Cl hs s.l s'.most i d c)) ∨ (rpass hs code is s = none ∧ Bad hs code)
  | [], s, _, hI, _ => .inl ⟨s, rfl, hI, Int.le_refl _, fun h => ⟨h, rfl, by simp⟩⟩
  | i :: is, s, hi, hI, hw => by
    rcases rstep_law hc (hi i (by simp)) hI hw with ⟨s1, a1, a2, a3, a4⟩ | ⟨a1, a2⟩
    · have hw1 := (rstep_ok a1 hc hw).1
      rcases rpass_law hc is s1 (fun j hj => hi j (by simp [hj])) a2 hw1 with ⟨s2, b1, b2, b3, b4⟩ | ⟨b1, b2⟩
      · refine .inl ⟨s2, by simp [rpass, a1, b1], b2, Int.le_trans a3 b3, fun h => ?_⟩
        obtain ⟨c1, c2, c3⟩ := b4 h
        obtain ⟨d1, d2, d3⟩ := a4 c1
        refine ⟨d1, c2.trans d2, fun j hj d c h1 h2 h3 => ?_⟩
        rcases List.mem_cons.1 hj with rfl | hj
        · exact (d3 d c h1 h2 h3).mono b3
        · have := c3 j hj d c (by rw [d2]; exact h1) h2 h3
          rwa [d2] at this
      · exact .inr ⟨by simp [rpass, a1, b1], b2⟩
    · exact .inr ⟨by simp [rpass, a1], a2⟩
theorem rgo_law (hc : codeOk hs code) : ∀ (f : Nat) (l : List Int) (most : Int), FInv hs code l most → WfR code.length l → unr l < f →
    (∃ o m, rgo hs code f l most = some (o, m) ∧ Good hs code o m) ∨ (rgo hs code f l most = none ∧ Bad hs code)
  | 0, _, _, _, _, h => by omega
  | f + 1, l, most, hI, hw, hf => by
    rcases rpass_law hc (List.range code.length) ⟨l, most, false⟩ (by simp) hI hw with ⟨s, a1, a2, a3, a4⟩ | ⟨a1, a2⟩
    · rw [rgo, a1]
      simp only
      obtain ⟨hws, hun⟩ := rpass_ok hc a1 hw
      by_cases hag : s.again = true
      · rw [if_pos hag]
        rcases hun with ⟨q, _⟩ | ⟨_, q⟩
        · rw [hag] at q; cases q
        · exact rgo_law hc f s.l s.most a2 hws (by simp only at q; omega)
      · rw [if_neg hag]
        obtain ⟨_, c2, c3⟩ := a4 (by simpa using hag)
        refine .inl ⟨s.l, s.most, rfl, a2, fun a d i h1 h2 h3 => ?_⟩
        simp only at c2 c3
        rw [c2] at h1 ⊢
        exact c3 a (by simpa using (List.getElem?_eq_some_iff.1 h3).1) d i h1 h2 h3
    · exact .inr ⟨by rw [rgo, a1], a2⟩
theorem start_inv : FInv hs code ((List.replicate (code.length + 1) (-1)).set 0 0) 0 := by
  refine ⟨by simp, by simp [List.replicate_succ], fun a d h1 h2 => ?_, .inl rfl, Int.le_refl _⟩
  rw [List.getElem?_set] at h1
  split at h1
  · rename_i e; subst e
    simp at h1; subst h1
    exact ⟨.start, Int.le_refl _⟩
  · have := List.eq_of_mem_replicate (List.mem_of_getElem? h1)
    exact absurd this h2
theorem start_rng : ∀ x ∈ ((List.replicate (code.length + 1) (-1)).set 0 0 : List Int), -1 ≤ x ∧ x ≤ 8 := by
  intro x hx
  rcases List.mem_or_eq_of_mem_set hx with hx | hx
  · have := List.eq_of_mem_replicate hx; omega
  · omega
theorem start_unr : unr ((List.replicate (code.length + 1) (-1)).set 0 0) = code.length := by
  simp [unr, List.replicate_succ, List.countP_replicate]
theorem walk_good (hc : codeOk hs code) : (∃ o m, walkV hs code = some (o, m) ∧ Good hs code o m) ∨ (walkV hs code = none ∧ Bad hs code) := by
  refine walk_law hc _ _ _ _ ⟨start_inv, ?_, ?_⟩ ⟨by simp, start_rng, by simp⟩ (by rw [start_unr]; simp)
  · intro a ha
    simp at ha; subst ha
    exact ⟨0, by simp [List.replicate_succ], by omega⟩
  · intro a d i h1 h2 _
    rw [List.getElem?_set] at h1
    split at h1
    · rename_i e; subst e; exact .inl (by simp)
    · have := List.eq_of_mem_replicate (List.mem_of_getElem? h1)
      exact absurd this h2
theorem rwalk_good (hc : codeOk hs code) : (∃ o m, rwalkV hs code = some (o, m) ∧ Good hs code o m) ∨ (rwalkV hs code = none ∧ Bad hs code) :=
  rgo_law hc _ _ _ start_inv ⟨by simp, start_rng⟩ (by rw [start_unr]; omega)
/-- Both come to the same. -/
theorem walk_eq (hc : codeOk hs code) : rwalkV hs code = walkV hs code := by
  rcases walk_good hc with ⟨o, m, h1, h2⟩ | ⟨h1, h2⟩ <;> rcases rwalk_good hc with ⟨p, n, k1, k2⟩ | ⟨k1, k2⟩
  · obtain ⟨e1, e2⟩ := h2.uniq k2
    rw [h1, k1, e1, e2]
  · exact absurd k2 h2.not_bad
  · exact absurd h2 k2.not_bad
  · rw [h1, k1]
end

end Go.Gv

/- What a plan's make does: all that is told is made. Conditions: those that each law names. -/
set_option linter.unusedVariables false
set_option linter.unusedSimpArgs false
namespace Go.Gv
open Go.Proofs

def make_r0 : List AI := [⟨(some 10), none, (.op (.mv (.t 0)))⟩, ⟨(some 11), none, (.op (.nilck (.t 10)))⟩, ⟨(some 12), none, (.op (.fld 7 (.t 11)))⟩, ⟨(some 13), none, (.call (.c (.fn 59 [])) [(.t 12), (.c (.int .i64 1))])⟩]
def make_r1 : List AI := [⟨(some 14), none, (.op (.mv (.t 0)))⟩, ⟨(some 15), none, (.op (.nilck (.t 14)))⟩, ⟨(some 16), none, (.op (.fld 0 (.t 15)))⟩, ⟨(some 17), none, (.op (.fld 0 (.t 16)))⟩, ⟨(some 18), none, (.op (.load none (.t 17)))⟩, ⟨(some 19), none, (.op (.len (.t 18)))⟩, ⟨(some 20), none, (.op (.mv (.c (.int .i64 0))))⟩]
def make_r2 : List AI := [⟨(some 21), none, (.op (.ibin .lss (.t 20) (.t 19)))⟩]
def make_r3 : List AI := [⟨(some 22), none, (.op (.mv (.t 20)))⟩, ⟨(some 2), none, (.op (.mv (.t 22)))⟩]
def make_r4 : List AI := [⟨(some 24), none, (.op (.mv (.t 0)))⟩, ⟨(some 25), none, (.op (.nilck (.t 24)))⟩, ⟨(some 26), none, (.op (.fld 0 (.t 25)))⟩, ⟨(some 27), none, (.op (.load (some 4) (.t 26)))⟩, ⟨(some 28), none, (.op (.mv (.t 2)))⟩, ⟨(some 29), none, (.call (.c (.fn 60 [])) [(.t 27), (.t 28)])⟩, ⟨(some 23), none, (.op (.mv (.t 29)))⟩, ⟨(some 30), none, (.op (.ext (.t 23) 0))⟩, ⟨(some 31), none, (.op (.ext (.t 23) 1))⟩, ⟨(some 3), none, (.op (.mv (.t 30)))⟩, ⟨(some 4), none, (.op (.mv (.t 31)))⟩]
def make_r5 : List AI := [⟨(some 32), none, (.op (.bslm 1000137032 1 3 0 (.int .i64 0) []))⟩, ⟨(some 5), none, (.op (.mv (.t 32)))⟩, ⟨(some 6), none, (.op (.mv (.c (.bool false))))⟩]
def make_r6 : List AI := [⟨(some 33), none, (.op (.mv (.t 0)))⟩, ⟨(some 34), none, (.op (.nilck (.t 33)))⟩, ⟨(some 35), none, (.op (.fld 0 (.t 34)))⟩, ⟨(some 36), none, (.op (.fld 0 (.t 35)))⟩, ⟨(some 37), none, (.op (.load none (.t 36)))⟩, ⟨(some 38), none, (.op (.mv (.t 2)))⟩, ⟨(some 39), none, (.op (.idx 2 (.t 37) (.t 38)))⟩, ⟨(some 40), none, (.op (.fld 1 (.t 39)))⟩, ⟨(some 41), none, (.op (.load none (.t 40)))⟩, ⟨(some 42), none, (.op (.len (.t 41)))⟩, ⟨(some 43), none, (.op (.mv (.c (.int .i64 0))))⟩]
def make_r7 : List AI := [⟨(some 44), none, (.op (.ibin .lss (.t 43) (.t 42)))⟩]
def make_r8 : List AI := [⟨(some 45), none, (.op (.mv (.t 43)))⟩, ⟨(some 46), none, (.op (.idx 2 (.t 41) (.t 43)))⟩, ⟨(some 47), none, (.op (.load (some 2) (.t 46)))⟩, ⟨(some 8), none, (.op (.new 137008 2 (.agg [(.int .i64 0), (.int .i64 0)])))⟩, ⟨(some 7), none, (.op (.mv (.t 45)))⟩, ⟨none, none, (.op (.store 2 (.t 8) (.t 47)))⟩]
def make_r9 : List AI := [⟨(some 48), none, (.op (.mv (.t 3)))⟩, ⟨(some 49), none, (.op (.mv (.t 7)))⟩, ⟨(some 50), none, (.op (.idx 1 (.t 48) (.t 49)))⟩, ⟨(some 51), none, (.op (.load none (.t 50)))⟩, ⟨(some 52), none, (.op (.ibin .lss (.t 51) (.c (.int .i64 0))))⟩]
def make_r10 : List AI := [⟨(some 53), none, (.op (.fld 0 (.t 8)))⟩, ⟨(some 54), none, (.op (.load none (.t 53)))⟩, ⟨(some 55), none, (.op (.ibin .eql (.t 54) (.c (.int .i64 22))))⟩]
def make_r11 : List AI := [⟨(some 56), none, (.op (.mv (.t 5)))⟩, ⟨(some 57), none, (.op (.fld 1 (.t 8)))⟩, ⟨(some 58), none, (.op (.load none (.t 57)))⟩, ⟨(some 59), none, (.op (.bsl 137059 1 3 1 (.int .i64 0) [(0, (.t 58))]))⟩, ⟨(some 60), none, (.op (.appw 1000137032 1 3 8 (.t 56) (.t 59)))⟩, ⟨(some 5), none, (.op (.mv (.t 60)))⟩]
def make_r12 : List AI := [⟨(some 61), none, (.op (.mv (.t 6)))⟩, ⟨(some 62), none, (.op (.mv (.t 61)))⟩, ⟨(some 63), (some (62, false)), (.op (.fld 0 (.t 8)))⟩, ⟨(some 64), (some (62, false)), (.op (.load none (.t 63)))⟩, ⟨(some 65), (some (62, false)), (.op (.ibin .eql (.t 64) (.c (.int .i64 23))))⟩, ⟨(some 66), none, (.op (.pick (.t 62) (.c (.bool true)) (.t 65)))⟩, ⟨(some 6), none, (.op (.mv (.t 66)))⟩]
def make_r13 : List AI := [⟨(some 67), none, (.op (.ibin .add (.t 43) (.c (.int .i64 1))))⟩, ⟨(some 43), none, (.op (.mv (.t 67)))⟩]
def make_l0 : AC := (.seq (.reg make_r7) (.seq (.cond (.t 44) .skip (.exit 2)) (.seq (.block 3 (.seq (.reg make_r8) (.seq (.seq (.reg make_r9) (.cond (.t 52) (.exit 3) .skip)) (.seq (.seq (.reg make_r10) (.cond (.t 55) (.reg make_r11) .skip)) (.reg make_r12))))) (.reg make_r13))))
def make_r14 : List AI := [⟨(some 68), none, (.op (.mv (.t 5)))⟩, ⟨(some 69), none, (.call (.c (.fn 61 [])) [(.t 68)])⟩]
def make_r15 : List AI := [⟨(some 70), none, (.op (.mv (.t 0)))⟩, ⟨(some 71), none, (.op (.mv (.t 0)))⟩, ⟨(some 72), none, (.op (.mv (.t 0)))⟩, ⟨(some 73), none, (.op (.nilck (.t 72)))⟩, ⟨(some 74), none, (.op (.fld 8 (.t 73)))⟩, ⟨(some 75), none, (.op (.load none (.t 74)))⟩, ⟨(some 76), none, (.op (.mv (.t 5)))⟩, ⟨(some 77), none, (.call (.c (.fn 62 [])) [(.t 76)])⟩, ⟨(some 78), none, (.op (.bsl 137078 1 35 1 .nils [(0, (.t 77))]))⟩, ⟨(some 79), none, (.op (.app 137079 1 35 24 (.t 75) (.t 78)))⟩, ⟨(some 80), none, (.op (.mv (.t 0)))⟩, ⟨(some 81), none, (.op (.nilck (.t 80)))⟩, ⟨(some 82), none, (.op (.fld 10 (.t 81)))⟩, ⟨(some 83), none, (.op (.load none (.t 82)))⟩, ⟨(some 84), none, (.op (.mv (.t 6)))⟩, ⟨(some 85), none, (.op (.bsl 137085 1 4 1 (.bool false) [(0, (.t 84))]))⟩, ⟨(some 86), none, (.op (.app 137086 1 4 1 (.t 83) (.t 85)))⟩, ⟨(some 87), none, (.op (.nilck (.t 70)))⟩, ⟨(some 88), none, (.op (.fld 8 (.t 87)))⟩, ⟨none, none, (.op (.store 1 (.t 88) (.t 79)))⟩, ⟨(some 89), none, (.op (.nilck (.t 71)))⟩, ⟨(some 90), none, (.op (.fld 10 (.t 89)))⟩, ⟨none, none, (.op (.store 1 (.t 90) (.t 86)))⟩]
def make_p15 : List (List Nat) := [[], [], [], [2], [3, 2], [4, 3, 2], [], [6], [7, 6], [5, 8, 7, 4, 3, 2, 6], [], [10], [11, 10], [12, 11, 10], [], [14], [13, 15, 9, 12, 11, 10, 14, 5, 8, 7, 4, 3, 2, 6], [0, 2, 3, 4, 5, 6, 7, 8, 9, 13, 16, 12, 11, 10, 15, 14], [17, 0, 2, 3, 4, 5, 6, 7, 8, 9, 13, 16, 12, 11, 10, 15, 14], [18, 9, 16, 0, 2, 3, 4, 5, 6, 7, 8, 13, 17, 12, 11, 10, 15, 14], [1, 0, 2, 3, 4, 5, 6, 7, 8, 9, 10, 11, 12, 13, 14, 15, 16, 17, 18, 19], [20, 0, 1, 2, 3, 4, 5, 6, 7, 8, 9, 10, 11, 12, 13, 14, 15, 16, 17, 18, 19], [21, 16, 19, 0, 1, 2, 3, 4, 5, 6, 7, 8, 9, 10, 11, 12, 13, 14, 15, 17, 18, 20]]
def make_r16 : List AI := [⟨(some 91), none, (.op (.ibin .add (.t 20) (.c (.int .i64 1))))⟩, ⟨(some 20), none, (.op (.mv (.t 91)))⟩]
def make_l1 : AC := (.seq (.reg make_r2) (.seq (.cond (.t 21) .skip (.exit 0)) (.seq (.block 1 (.seq (.reg make_r3) (.seq (.reg make_r4) (.seq (.reg make_r5) (.seq (.seq (.reg make_r6) (.block 2 (.loop make_l0))) (.seq (.reg make_r14) (.regd make_r15 make_p15))))))) (.reg make_r16))))
def make_r17 : List AI := [⟨(some 92), none, (.op (.mv (.t 0)))⟩, ⟨(some 93), none, (.op (.nilck (.t 92)))⟩, ⟨(some 94), none, (.op (.fld 0 (.t 93)))⟩, ⟨(some 95), none, (.op (.fld 0 (.t 94)))⟩, ⟨(some 96), none, (.op (.load none (.t 95)))⟩, ⟨(some 97), none, (.op (.len (.t 96)))⟩, ⟨(some 98), none, (.op (.mv (.c (.int .i64 0))))⟩]
def make_r18 : List AI := [⟨(some 99), none, (.op (.ibin .lss (.t 98) (.t 97)))⟩]
def make_r19 : List AI := [⟨(some 100), none, (.op (.mv (.t 98)))⟩, ⟨(some 9), none, (.op (.mv (.t 100)))⟩]
def make_r20 : List AI := [⟨(some 101), none, (.op (.mv (.t 0)))⟩, ⟨(some 102), none, (.op (.mv (.t 0)))⟩, ⟨(some 103), none, (.op (.nilck (.t 102)))⟩, ⟨(some 104), none, (.op (.fld 9 (.t 103)))⟩, ⟨(some 105), none, (.op (.load none (.t 104)))⟩, ⟨(some 106), none, (.op (.mv (.t 0)))⟩, ⟨(some 107), none, (.op (.mv (.t 0)))⟩, ⟨(some 108), none, (.op (.nilck (.t 107)))⟩, ⟨(some 109), none, (.op (.fld 8 (.t 108)))⟩, ⟨(some 110), none, (.op (.load none (.t 109)))⟩, ⟨(some 111), none, (.op (.mv (.t 9)))⟩, ⟨(some 112), none, (.op (.idx 1 (.t 110) (.t 111)))⟩, ⟨(some 113), none, (.op (.load none (.t 112)))⟩, ⟨(some 114), none, (.call (.c (.fn 63 [])) [(.t 106), (.t 113)])⟩, ⟨(some 115), none, (.op (.bsl 137115 1 35 1 .nils [(0, (.t 114))]))⟩, ⟨(some 116), none, (.op (.app 137116 1 35 24 (.t 105) (.t 115)))⟩, ⟨(some 117), none, (.op (.nilck (.t 101)))⟩, ⟨(some 118), none, (.op (.fld 9 (.t 117)))⟩, ⟨none, none, (.op (.store 1 (.t 118) (.t 116)))⟩]
def make_p20 : List (List Nat) := [[], [], [1], [2, 1], [3, 2, 1], [], [], [6], [7, 6], [8, 7, 6], [], [9, 10, 8, 7, 6], [11, 9, 10, 8, 7, 6], [5, 12, 11, 9, 10, 8, 7, 6], [13, 5, 12, 11, 9, 10, 8, 7, 6], [4, 14, 13, 3, 2, 1, 5, 12, 11, 9, 10, 8, 7, 6], [0, 1, 2, 3, 4, 5, 6, 7, 8, 9, 10, 11, 12, 13, 14, 15], [16, 0, 1, 2, 3, 4, 5, 6, 7, 8, 9, 10, 11, 12, 13, 14, 15], [17, 15, 0, 1, 2, 3, 4, 5, 6, 7, 8, 9, 10, 11, 12, 13, 14, 16]]
def make_r21 : List AI := [⟨(some 119), none, (.op (.ibin .add (.t 98) (.c (.int .i64 1))))⟩, ⟨(some 98), none, (.op (.mv (.t 119)))⟩]
def make_l2 : AC := (.seq (.reg make_r18) (.seq (.cond (.t 99) .skip (.exit 4)) (.seq (.block 5 (.seq (.reg make_r19) (.regd make_r20 make_p20))) (.reg make_r21))))
def make_r22 : List AI := [⟨(some 120), none, (.op (.mv (.t 0)))⟩, ⟨(some 121), none, (.op (.mv (.t 0)))⟩, ⟨(some 122), none, (.call (.c (.fn 64 [])) [(.t 121)])⟩, ⟨(some 123), none, (.op (.nilck (.t 120)))⟩, ⟨(some 124), none, (.op (.fld 11 (.t 123)))⟩, ⟨none, none, (.op (.store 1 (.t 124) (.t 122)))⟩]
def make_c : AC := (.seq (.reg make_r0) (.seq (.seq (.reg make_r1) (.block 0 (.loop make_l1))) (.seq (.seq (.reg make_r17) (.block 4 (.loop make_l2))) (.reg make_r22))))
def make_res : List ARes := []
set_option maxRecDepth 100000 in
theorem make_get : getF Tryz.prog 42 137000 [(32, 1000000032), (60, 1000000032)] = some ("(*gavotte/reach.Plan).make", 125, make_c, make_res) := by kernel_rfl
attribute [simp] make_r0 make_r1 make_r2 make_r3 make_r4 make_r5 make_r6 make_r7 make_r8 make_r9 make_r10 make_r11 make_r12 make_r13 make_r14 make_r15 make_p15 make_r16 make_r17 make_r18 make_r19 make_r20 make_p20 make_r21 make_r22 make_res


open Go.Lib
-- What one handler may send, and whether it may arm: over its instructions and how deep the stack is ahead of each.
def rawS (code : List Ins) (d : List Int) (i : Nat) : List Int := ((code.zip d).take i).filterMap fun c => if 0 ≤ c.2 ∧ c.1.op = 22 then some c.1.a else none
def rawA (code : List Ins) (d : List Int) (i : Nat) : Bool := ((code.zip d).take i).any fun c => decide (0 ≤ c.2) && decide (c.1.op = 23)
theorem rawS_succ {code : List Ins} {d : List Int} {i : Nat} (h : i < code.length) (hd : i < d.length) : rawS code d (i + 1) = rawS code d i ++ if 0 ≤ d[i] ∧ code[i].op = 22 then [code[i].a] else [] := by
  have hz : i < (code.zip d).length := by simp; omega
  rw [rawS, List.take_succ_eq_append_getElem hz, List.filterMap_append, rawS]
  simp only [List.getElem_zip, List.filterMap_cons, List.filterMap_nil]
  split <;> rename_i hq
  · split at hq
    · cases hq
    · rename_i h1; rw [if_neg h1]
  · split at hq
    · rename_i h1; cases hq; rw [if_pos h1]
    · cases hq
theorem rawA_succ {code : List Ins} {d : List Int} {i : Nat} (h : i < code.length) (hd : i < d.length) : rawA code d (i + 1) = (rawA code d i || (decide (0 ≤ d[i]) && decide (code[i].op = 23))) := by
  have hz : i < (code.zip d).length := by simp; omega
  rw [rawA, List.take_succ_eq_append_getElem hz, List.any_append, rawA]
  simp
theorem rawS_zero (code : List Ins) (d : List Int) : rawS code d 0 = [] := rfl
theorem rawA_zero (code : List Ins) (d : List Int) : rawA code d 0 = false := rfl
theorem rawS_len (code : List Ins) (d : List Int) (i : Nat) : (rawS code d i).length ≤ i := by
  refine Nat.le_trans (List.length_filterMap_le _ _) (by simp; omega)
theorem rawS_mem {code : List Ins} {d : List Int} {i : Nat} {x : Int} (h : x ∈ rawS code d i) : ∃ c ∈ code, c.op = 22 ∧ c.a = x := by
  obtain ⟨⟨c, e⟩, h1, h2⟩ := List.mem_filterMap.1 h
  have h3 := (List.of_mem_zip (List.mem_of_mem_take h1)).1
  split at h2
  · rename_i h4; cases h2; exact ⟨c, h3, h4.2, rfl⟩
  · cases h2
theorem compact_len (zs : List Int) : (Lib.compact zs).length ≤ zs.length := by
  unfold Lib.compact Lib.compactUpTo
  rw [List.length_map]
  refine Nat.le_trans (List.length_filter_le _ _) (by simp)
theorem compact_mem {zs : List Int} {x : Int} (h : x ∈ Lib.compact zs) : x ∈ zs := by
  unfold Lib.compact Lib.compactUpTo at h
  obtain ⟨j, h1, rfl⟩ := List.mem_map.1 h
  have hj := List.mem_range.1 (List.mem_filter.1 h1).1
  simp [hj]
def sortI (l : List Int) : List Int := l.mergeSort fun x y => decide (x ≤ y)
theorem sortI_len (l : List Int) : (sortI l).length = l.length := List.length_mergeSort _
theorem sortI_mem {l : List Int} {x : Int} : x ∈ sortI l ↔ x ∈ l := List.mem_mergeSort
def send1 (p : Prg) (h : Nat) : List Int := Lib.compact (sortI (rawS ((p.hs[h]?.map Hnd.code).getD []) (depthsV p h).1 ((p.hs[h]?.map Hnd.code).getD []).length))
def arm1 (p : Prg) (h : Nat) : Bool := rawA ((p.hs[h]?.map Hnd.code).getD []) (depthsV p h).1 ((p.hs[h]?.map Hnd.code).getD []).length
def sndV (p : Prg) : List (List Int) := (List.range p.hs.length).map (send1 p)
def armsV (p : Prg) : List Bool := (List.range p.hs.length).map (arm1 p)
def reaV (p : Prg) : List (List Int) := (sndV p).map (closedV (sndV p))
theorem sndV_len (p : Prg) : (sndV p).length = p.hs.length := by simp [sndV]
theorem armsV_len (p : Prg) : (armsV p).length = p.hs.length := by simp [armsV]
theorem flowV_check {p : Prg} (h : flowV p = 0) : checkV p = 0 := by
  unfold flowV at h
  split at h
  · contradiction
  · rename_i q; simpa using q
theorem walkE_zero {p : Prg} (h : flowV p = 0) {x : Hnd} (hx : x ∈ p.hs) : walkE p.hs x = 0 := by
  have hc := flowV_check h
  unfold flowV at h
  rw [if_neg (by simpa using hc)] at h
  exact firstNZ_zero h _ (List.mem_map.2 ⟨x, hx, rfl⟩)
theorem depthsV_ok {p : Prg} (h : flowV p = 0) {i : Nat} (hi : i < p.hs.length) : ∃ o m, walkV p.hs p.hs[i].code = some (o, m) ∧ depthsV p i = (o, 0) ∧ o.length = p.hs[i].code.length + 1 ∧ Good p.hs p.hs[i].code o m := by
  have hc := flowV_check h
  have hx := List.getElem_mem hi
  rcases walk_good (codeOk_of hc hx) with ⟨o, m, h1, h2⟩ | ⟨h1, _⟩
  · refine ⟨o, m, h1, ?_, h2.len, h2⟩
    unfold depthsV
    rw [if_neg (by simp [hc]), if_neg (by omega)]
    simp [hi, h1]
  · have := walkE_zero h hx
    unfold walkE at this
    rw [h1] at this; simp at this
theorem send1_in {p : Prg} (h : flowV p = 0) {i : Nat} (hi : i < p.hs.length) : InN p.hs.length (send1 p i) := by
  have hc := flowV_check h
  intro x hx
  have := sortI_mem.1 (compact_mem hx)
  simp only [List.getElem?_eq_getElem hi, Option.map_some, Option.getD_some] at this
  obtain ⟨c, h1, h2, rfl⟩ := rawS_mem this
  obtain ⟨q1, q2⟩ := codeOk_of hc (List.getElem_mem hi)
  have := (q2 c h1).1 h2
  omega
theorem sndV_in {p : Prg} (h : flowV p = 0) : ∀ s ∈ sndV p, InN (sndV p).length s := by
  intro s hs
  rw [sndV_len]
  obtain ⟨i, h1, rfl⟩ := List.mem_map.1 hs
  exact send1_in h (List.mem_range.1 h1)
theorem send1_len {p : Prg} (h : flowV p = 0) {i : Nat} (hi : i < p.hs.length) : (send1 p i).length ≤ 64 := by
  have hc := flowV_check h
  obtain ⟨c1, c2, c3, c4, c5, c6, c7, c8, c9⟩ := checkV_zero hc
  obtain ⟨_, _, d3, _⟩ := handlerV_zero (c7 _ (List.getElem_mem hi))
  refine Nat.le_trans (compact_len _) ?_
  rw [sortI_len]
  refine Nat.le_trans (rawS_len _ _ _) ?_
  simp only [List.getElem?_eq_getElem hi, Option.map_some, Option.getD_some]
  omega
theorem flat_len (l : List (List Int)) (b : Nat) (h : ∀ s ∈ l, s.length ≤ b) : l.flatten.length ≤ b * l.length := by
  induction l with
  | nil => simp
  | cons s l ih =>
    have h1 := h s (by simp)
    have h2 := ih (fun q hq => h q (by simp [hq]))
    simp only [List.flatten_cons, List.length_append, List.length_cons, Nat.mul_add] at *
    omega
theorem sndV_flat {p : Prg} (h : flowV p = 0) : (sndV p).flatten.length ≤ 1024 := by
  have hc := flowV_check h
  obtain ⟨c1, _⟩ := checkV_zero hc
  have := flat_len (sndV p) 64 (fun s hs => by
    obtain ⟨i, h1, rfl⟩ := List.mem_map.1 hs
    exact send1_len h (List.mem_range.1 h1))
  rw [sndV_len] at this
  omega
theorem range_map_take {α : Type} (f : Nat → α) (n : Nat) : (List.range (n + 1)).map f = (List.range n).map f ++ [f n] := by rw [List.range_succ, List.map_append]; rfl
def sndT (p : Prg) (i : Nat) : List (List Int) := (List.range i).map (send1 p)
def armT (p : Prg) (i : Nat) : List Bool := (List.range i).map (arm1 p)
theorem sndT_succ (p : Prg) (i : Nat) : sndT p (i + 1) = sndT p i ++ [send1 p i] := range_map_take _ _
theorem armT_succ (p : Prg) (i : Nat) : armT p (i + 1) = armT p i ++ [arm1 p i] := range_map_take _ _
theorem sndT_len (p : Prg) (i : Nat) : (sndT p i).length = i := by simp [sndT]
theorem armT_len (p : Prg) (i : Nat) : (armT p i).length = i := by simp [armT]
/-- Those names, and the plan's. -/
def LN (nm n : Nat) : Bool := LR n || decide (n = nm)
theorem LN_self (nm : Nat) : LN nm nm = true := by simp [LN]
theorem LN_LR {nm n : Nat} (h : LN nm n = false) : LR n = false ∧ n ≠ nm := by simpa [LN] using h
theorem Fh.ln {S S' : St} (h : Fh LR S S') (nm : Nat) : Fh (LN nm) S S' := ⟨fun n hn => h.b n (LN_LR hn).1, fun n hn => h.k n (LN_LR hn).1, h.c⟩
structure MkS (nm st : Nat) (p : Prg) (sm : Int) (T : St) (i : Nat) (v8 v10 : AV) (S : St) : Prop where
  t0 : S.t 0 = .ptr nm st 12 0 0
  t19 : S.t 19 = iv p.hs.length
  t20 : S.t 20 = iv i
  pl : S.blk nm = some ⟨st, 12, [.agg (planC p 0 1 sm 1 v8 .nils v10 .nils)]⟩
  a8 : AccIs S v8 137079 1 35 ((sndT p i).map ints)
  a10 : AccIs S v10 137086 1 4 ((armT p i).map AV.bool)
  fr : Fh (LN nm) T S
-- One handler's instructions.
structure MkI (nm st : Nat) (p : Prg) (sm : Int) (T : St) (h : Nat) (code : List Ins) (d : List Int) (v8 v10 : AV) (i : Nat) (S : St) : Prop where
  m : MkS nm st p sm T h v8 v10 S
  t3 : S.t 3 = ints d
  t5 : ∃ s, S.t 5 = .sl 1000137032 s 1 0 (rawS code d i).length ∧ S.blk 1000137032 = some ⟨s, 1, (rawS code d i).map iv⟩
  t6 : S.t 6 = .bool (rawA code d i)
  t41 : S.t 41 = .lst 2 (code.map Ins.av)
  t42 : S.t 42 = iv code.length
  t43 : S.t 43 = iv i
theorem make_in (nm st : Nat) (hnm : LR nm = false) (p : Prg) (sm : Int) (T : St) (h : Nat) (code : List Ins) (d : List Int) (hd : code.length ≤ d.length) (hc : code.length ≤ 1000) (v8 v10 : AV) {κ : Ex → St → Prop} (hκ : ∀ S, MkI nm st p sm T h code d v8 v10 code.length S → κ (.exit 2) S)
    (i : Nat) (S : St) (hi : i ≤ code.length) (hI : MkI nm st p sm T h code d v8 v10 i S) :
    V Tryz.prog make_l0 (Lp κ fun S'' => i < code.length ∧ MkI nm st p sm T h code d v8 v10 (i + 1) S'') S := by
  have n8 : nm ≠ 137008 := fun e => by rw [e] at hnm; cases hnm
  have n32 : nm ≠ 1000137032 := fun e => by rw [e] at hnm; cases hnm
  obtain ⟨⟨t0, t19, t20, pl, a8, a10, fr⟩, t3, ⟨s5, t5, b5⟩, t6, t41, t42, t43⟩ := hI
  by_cases hlt : i < code.length
  · have hw := wrap_succ i _ hlt (by omega)
    have hid : i < d.length := by omega
    have hlen := rawS_len code d i
    have es := rawS_succ hlt hid
    have ea := rawA_succ hlt hid
    generalize hx : rawS code d i = xs at *
    generalize hy : rawS code d (i + 1) = ys at *
    have hb8 : (xs.length + 1) * 8 ≤ 140737488355328 := by omega
    by_cases h0 : d[i] < 0
    · have h0' : ¬ 0 ≤ d[i] := by omega
      simp [h0'] at es ea
      simp [make_l0, t41, t42, t43, t3, ints, hlt, hid, h0, hw]
      refine ⟨⟨t0, t19, t20, by simp [n8, pl], by simpa [AccIs] using a8, by simpa [AccIs] using a10, fr.step (fun n hn => by repeat rw [upd_out hn rfl]) (fun n hn => rfl) (by omega)⟩, by simp [t3, ints], ⟨s5, by simp [t5, hy, es], by simp [b5, hy, es]⟩, by simp [t6, ea], by simp [t41], by simp [t42], by simp⟩
    · have h0' : 0 ≤ d[i] := by omega
      have htk : List.take xs.length (xs.map iv) = xs.map iv := List.take_of_length_le (by simp)
      simp only [h0', true_and, decide_true, Bool.true_and] at es ea
      generalize hb : rawA code d i = b at *
      by_cases h22 : code[i].op = 22
      · have h23 : ¬ code[i].op = 23 := by omega
        simp [h22] at es ea
        cases b with
        | true =>
          simp [make_l0, t0, t5, b5, t6, t41, t42, t43, t3, ints, hlt, hid, h0, hw, h22, hb8, htk]
          refine ⟨⟨by simp [t0], by simp [t19], by simp [t20], by simp [n8, n32, pl], by simpa [AccIs] using a8, by simpa [AccIs] using a10, fr.step (fun n hn => by repeat rw [upd_out hn rfl]) (fun n hn => by repeat rw [upd_out hn rfl]) (by omega)⟩, by simp [t3, ints], ⟨S.clk + 1 + 6 + 5 + 3 + 1 + 1 + 1 + 1, by simp [hy, es], by simp [hy, es]⟩, by simp [ea], by simp [t41], by simp [t42], by simp⟩
        | false =>
          simp [make_l0, t0, t5, b5, t6, t41, t42, t43, t3, ints, hlt, hid, h0, hw, h22, hb8, htk]
          refine ⟨⟨by simp [t0], by simp [t19], by simp [t20], by simp [n8, n32, pl], by simpa [AccIs] using a8, by simpa [AccIs] using a10, fr.step (fun n hn => by repeat rw [upd_out hn rfl]) (fun n hn => by repeat rw [upd_out hn rfl]) (by omega)⟩, by simp [t3, ints], ⟨S.clk + 1 + 6 + 5 + 3 + 1 + 1 + 1 + 1, by simp [hy, es], by simp [hy, es]⟩, by simp [ea], by simp [t41], by simp [t42], by simp⟩
      · simp [h22] at es
        cases b with
        | true =>
          simp [make_l0, t0, t5, b5, t6, t41, t42, t43, t3, ints, hlt, hid, h0, hw, h22, hb8]
          refine ⟨⟨by simp [t0], by simp [t19], by simp [t20], by simp [n8, n32, pl], by simpa [AccIs] using a8, by simpa [AccIs] using a10, fr.step (fun n hn => by repeat rw [upd_out hn rfl]) (fun n hn => rfl) (by omega)⟩, by simp [t3, ints], ⟨s5, by simp [t5, hy, es], by simp [b5, hy, es]⟩, by simp [ea], by simp [t41], by simp [t42], by simp⟩
        | false =>
          simp [make_l0, t0, t5, b5, t6, t41, t42, t43, t3, ints, hlt, hid, h0, hw, h22, hb8]
          refine ⟨⟨by simp [t0], by simp [t19], by simp [t20], by simp [n8, n32, pl], by simpa [AccIs] using a8, by simpa [AccIs] using a10, fr.step (fun n hn => by repeat rw [upd_out hn rfl]) (fun n hn => rfl) (by omega)⟩, by simp [t3, ints], ⟨s5, by simp [t5, hy, es], by simp [b5, hy, es]⟩, by simp [ea], by simp [t41], by simp [t42], by simp⟩
  · have e1 : i = code.length := by omega
    subst e1
    simp [make_l0, t41, t42, t43]
    refine hκ _ ⟨⟨by simp [t0], by simp [t19], by simp [t20], pl, by simpa [AccIs] using a8, by simpa [AccIs] using a10, fr.step (fun n hn => rfl) (fun n hn => rfl) (by omega)⟩, by simp [t3], ⟨s5, by simp [t5], by simp [b5]⟩, by simp [t6], by simp [t41], by simp [t42], by simp [t43]⟩
theorem sort_any (nm st : Nat) (zs : List Int) (hzs : zs.length < 1000000) {S : St} {k : AV → St → Prop} {u : Dep k} (hb : S.blk nm = some ⟨st, 1, zs.map iv⟩)
    (hk : k (.tup []) ⟨S.t, upd S.blk nm (some ⟨st, 1, (sortI zs).map iv⟩), S.tok, S.clk⟩) : CallG Tryz.prog (.fn 61 []) [.sl nm st 1 0 zs.length] S k u := by
  by_cases hz : zs = []
  · subst hz
    refine sort0_v nm st ?_
    have e1 : (⟨S.t, upd S.blk nm (some ⟨st, 1, (sortI []).map iv⟩), S.tok, S.clk⟩ : St) = S := by
      refine St.ext' (fun _ => rfl) (fun x => ?_) (fun _ => rfl) rfl
      simp only [upd]
      split
      · rename_i q; rw [q, hb]; simp [sortI]
      · rfl
    rw [e1] at hk
    exact hk
  · have h1 : 1 ≤ zs.length := by
      cases zs with
      | nil => contradiction
      | cons _ _ => simp
    refine sort_v nm st (zs.map iv) zs h1 hzs (fun j h => by simp [h]) hb ?_
    have e : List.drop zs.length (zs.map iv) = [] := List.drop_of_length_le (by simp)
    rw [e, List.append_nil]
    exact hk
theorem arm1_eq {p : Prg} {i : Nat} (hi : i < p.hs.length) {o : List Int} (h : (depthsV p i).1 = o) : arm1 p i = rawA p.hs[i].code o p.hs[i].code.length := by
  simp [arm1, hi, h]
theorem send1_eq {p : Prg} {i : Nat} (hi : i < p.hs.length) {o : List Int} (h : (depthsV p i).1 = o) : send1 p i = Lib.compact (sortI (rawS p.hs[i].code o p.hs[i].code.length)) := by
  simp [send1, hi, h]
theorem make_out1 (nm st : Nat) (hnm : LR nm = false) (p : Prg) (hp : flowV p = 0) (sm : Int) (T : St) {κ : Ex → St → Prop} (hκ : ∀ S v8 v10, MkS nm st p sm T p.hs.length v8 v10 S → κ (.exit 0) S)
    (i : Nat) (S : St) (hi : i ≤ p.hs.length) (hI : ∃ v8 v10, MkS nm st p sm T i v8 v10 S) :
    V Tryz.prog make_l1 (Lp κ fun S'' => i < p.hs.length ∧ ∃ v8 v10, MkS nm st p sm T (i + 1) v8 v10 S'') S := by
  have n8 : nm ≠ 137008 := fun e => by rw [e] at hnm; cases hnm
  have n32 : nm ≠ 1000137032 := fun e => by rw [e] at hnm; cases hnm
  obtain ⟨v8, v10, ⟨t0, t19, t20, pl, a8, a10, fr⟩⟩ := hI
  have hc := flowV_check hp
  obtain ⟨c1, c2, c3, c4, c5, c6, c7, c8, c9⟩ := checkV_zero hc
  by_cases hlt : i < p.hs.length
  · have hw := wrap_succ i _ hlt (by omega)
    obtain ⟨o, m, hwk, hdv, hol, hg⟩ := depthsV_ok hp hlt
    have hd1 : (depthsV p i).1 = o := by rw [hdv]
    obtain ⟨_, _, d3, _⟩ := handlerV_zero (c7 _ (List.getElem_mem hlt))
    simp [make_l1, t0, t19, t20, pl, planC, hlt]
    refine call (depths_pc p i) (by simp [Prg.av]) ?_
    rw [hdv]
    simp [t0, pl, planC, hlt, n32]
    refine loopN (MkI nm st p sm T i p.hs[i].code o v8 v10) p.hs[i].code.length ?_ (make_in nm st hnm p sm T i p.hs[i].code o (by omega) (by omega) v8 v10 ?_)
    · refine ⟨⟨by simp [t0], by simp [t19], by simp [t20], by simp [n32, pl, planC], by simpa [AccIs] using a8, by simpa [AccIs] using a10, fr.step (fun n hn => by repeat rw [upd_out hn rfl]) (fun n hn => rfl) (by omega)⟩, by simp [ints], ⟨_, by simp [rawS_zero]; rfl, by simp [rawS_zero]⟩, by simp [rawA_zero], by simp, by simp, by simp⟩
    · clear t0 t19 t20 pl a8 a10 fr hi S
      rintro S ⟨⟨t0, t19, t20, pl, a8, a10, fr⟩, t3, ⟨s5, t5, b5⟩, t6, t41, t42, t43⟩
      have hse := send1_eq hlt hd1
      have hae := arm1_eq hlt hd1
      have hrl := rawS_len p.hs[i].code o p.hs[i].code.length
      rw [← hae] at t6
      generalize rawS p.hs[i].code o p.hs[i].code.length = zs at *
      simp [t5]
      refine sort_any 1000137032 s5 zs (by omega) b5 ?_
      have n32' : ¬ 1000137032 = nm := fun e => n32 e.symm
      simp [t0, t5, t6, pl, planC, n32]
      have hcl := compact_l 1000137032 s5 (sortI zs) (by rw [sortI_len]; omega) (blk := upd S.blk 1000137032 (some ⟨s5, 1, (sortI zs).map iv⟩)) (by simp) (compact_len _)
      rw [sortI_len, ← hse] at hcl
      refine callL hcl ?_
      have hsl : (sndT p i).length ≤ 1000 := by rw [sndT_len]; omega
      have hal : (armT p i).length ≤ 1000 := by rw [armT_len]; omega
      have h24 : ((sndT p i).length + 1) * 24 ≤ 140737488355328 := by omega
      have h1b : (armT p i).length ≤ 140737488355327 := by omega
      have esn := sndT_succ p i
      have ear := armT_succ p i
      generalize sndT p i = xs at *
      generalize armT p i = bs at *
      rcases a8 with ⟨rfl, q8⟩ | ⟨s8, rfl, q8⟩
      · have hx0 : xs = [] := by simpa using q8
        subst hx0
        rcases a10 with ⟨rfl, q10⟩ | ⟨s10, rfl, q10⟩
        · have hb0 : bs = [] := by simpa using q10
          subst hb0
          simp [n32, n32', pl, planC, t0, t6, t20, hlt, hw]
          refine ⟨.acc 137079 (S.clk + 2 + 1 + 1 + 1 + 1 + 1 + 1 + 1 + 1 + 1) 1 ((sndT p (i + 1)).map ints), .acc 137086 (S.clk + 2 + 1 + 1 + 1 + 1 + 1 + 1 + 1 + 1 + 1 + 1 + 1 + 1 + 1 + 1 + 1 + 1) 1 ((armT p (i + 1)).map AV.bool), ⟨by simp [t0], by simp [t19], by simp, ?pl, ?a8, ?a10, ?fr⟩⟩
          case pl => simp [n32, planC, esn, ear, ints]
          case a8 => simp [AccIs, esn]
          case a10 => simp [AccIs, ear]
          case fr => exact fr.step (fun n hn => by rw [upd_out hn (LN_self nm), upd_out hn (LN_self nm)]; repeat rw [upd_out hn rfl]) (fun n hn => by repeat rw [upd_out hn rfl]) (by omega)
        · simp [n32, n32', pl, planC, q10, t0, t6, t20, hlt, hw, h1b]
          refine ⟨.acc 137079 (S.clk + 2 + 1 + 1 + 1 + 1 + 1 + 1 + 1 + 1 + 1) 1 ((sndT p (i + 1)).map ints), .acc 137086 (S.clk + 2 + 1 + 1 + 1 + 1 + 1 + 1 + 1 + 1 + 1 + 1 + 1 + 1 + 1 + 1 + 1 + 1) 1 ((armT p (i + 1)).map AV.bool), ⟨by simp [t0], by simp [t19], by simp, ?pl, ?a8, ?a10, ?fr⟩⟩
          case pl => simp [n32, planC, esn, ear, ints]
          case a8 => simp [AccIs, esn]
          case a10 => simp [AccIs, ear]
          case fr => exact fr.step (fun n hn => by rw [upd_out hn (LN_self nm), upd_out hn (LN_self nm)]; repeat rw [upd_out hn rfl]) (fun n hn => by repeat rw [upd_out hn rfl]) (by omega)
      · rcases a10 with ⟨rfl, q10⟩ | ⟨s10, rfl, q10⟩
        · have hb0 : bs = [] := by simpa using q10
          subst hb0
          simp [n32, n32', pl, planC, q8, t0, t6, t20, hlt, hw, h24]
          refine ⟨.acc 137079 (S.clk + 2 + 1 + 1 + 1 + 1 + 1 + 1 + 1 + 1 + 1) 1 ((sndT p (i + 1)).map ints), .acc 137086 (S.clk + 2 + 1 + 1 + 1 + 1 + 1 + 1 + 1 + 1 + 1 + 1 + 1 + 1 + 1 + 1 + 1 + 1) 1 ((armT p (i + 1)).map AV.bool), ⟨by simp [t0], by simp [t19], by simp, ?pl, ?a8, ?a10, ?fr⟩⟩
          case pl => simp [n32, planC, esn, ear, ints]
          case a8 => simp [AccIs, esn]
          case a10 => simp [AccIs, ear]
          case fr => exact fr.step (fun n hn => by rw [upd_out hn (LN_self nm), upd_out hn (LN_self nm)]; repeat rw [upd_out hn rfl]) (fun n hn => by repeat rw [upd_out hn rfl]) (by omega)
        · simp [n32, n32', pl, planC, q8, q10, t0, t6, t20, hlt, hw, h24, h1b]
          refine ⟨.acc 137079 (S.clk + 2 + 1 + 1 + 1 + 1 + 1 + 1 + 1 + 1 + 1) 1 ((sndT p (i + 1)).map ints), .acc 137086 (S.clk + 2 + 1 + 1 + 1 + 1 + 1 + 1 + 1 + 1 + 1 + 1 + 1 + 1 + 1 + 1 + 1 + 1) 1 ((armT p (i + 1)).map AV.bool), ⟨by simp [t0], by simp [t19], by simp, ?pl, ?a8, ?a10, ?fr⟩⟩
          case pl => simp [n32, planC, esn, ear, ints]
          case a8 => simp [AccIs, esn]
          case a10 => simp [AccIs, ear]
          case fr => exact fr.step (fun n hn => by rw [upd_out hn (LN_self nm), upd_out hn (LN_self nm)]; repeat rw [upd_out hn rfl]) (fun n hn => by repeat rw [upd_out hn rfl]) (by omega)
  · have e1 : i = p.hs.length := by omega
    subst e1
    simp [make_l1, t19, t20]
    exact hκ _ v8 v10 ⟨by simp [t0], by simp [t19], by simp [t20], pl, by simpa [AccIs] using a8, by simpa [AccIs] using a10, fr.step (fun n hn => rfl) (fun n hn => rfl) (by omega)⟩
theorem mem_flat_len {l : List (List Int)} {s : List Int} (h : s ∈ l) : s.length ≤ l.flatten.length := by
  induction l with
  | nil => simp at h
  | cons x l ih =>
    simp only [List.flatten_cons, List.length_append]
    rcases List.mem_cons.1 h with rfl | q
    · omega
    · have := ih q; omega
theorem sndT_end (p : Prg) : sndT p p.hs.length = sndV p := rfl
theorem armT_end (p : Prg) : armT p p.hs.length = armsV p := rfl
def reaT (p : Prg) (i : Nat) : List (List Int) := ((sndV p).take i).map (closedV (sndV p))
theorem reaT_succ (p : Prg) (i : Nat) (h : i < (sndV p).length) : reaT p (i + 1) = reaT p i ++ [closedV (sndV p) (sndV p)[i]] := by
  rw [reaT, List.take_succ_eq_append_getElem h, List.map_append]; rfl
theorem reaT_len (p : Prg) (i : Nat) : (reaT p i).length ≤ i := by simp [reaT]; omega
theorem reaT_end (p : Prg) : reaT p (sndV p).length = reaV p := by rw [reaT, List.take_length]; rfl
theorem AccIs.lstV {S : St} {v : AV} {nm : Nat} {ty : TypeId} {xs : List AV} (h : AccIs S v nm 1 ty xs) : LstV v xs := by
  rcases h with ⟨q1, q2⟩ | ⟨st, q1, _⟩
  · exact .inr (.inr ⟨q1, q2⟩)
  · exact .inr (.inl ⟨nm, st, q1⟩)
structure Mk2 (nm st : Nat) (p : Prg) (sm : Int) (T : St) (i : Nat) (v8 v9 v10 : AV) (S : St) : Prop where
  t0 : S.t 0 = .ptr nm st 12 0 0
  t97 : S.t 97 = iv p.hs.length
  t98 : S.t 98 = iv i
  pl : S.blk nm = some ⟨st, 12, [.agg (planC p 0 1 sm 1 v8 v9 v10 .nils)]⟩
  a8 : LstV v8 ((sndV p).map ints)
  a9 : AccIs S v9 137116 1 35 ((reaT p i).map ints)
  a10 : LstV v10 ((armsV p).map AV.bool)
  fr : Fh (LN nm) T S
theorem make_out2 (nm st : Nat) (hnm : LR nm = false) (p : Prg) (hp : flowV p = 0) (sm : Int) (T : St) (v8 v10 : AV) {κ : Ex → St → Prop} (hκ : ∀ S v9, Mk2 nm st p sm T p.hs.length v8 v9 v10 S → κ (.exit 4) S)
    (i : Nat) (S : St) (hi : i ≤ p.hs.length) (hI : ∃ v9, Mk2 nm st p sm T i v8 v9 v10 S) :
    V Tryz.prog make_l2 (Lp κ fun S'' => i < p.hs.length ∧ ∃ v9, Mk2 nm st p sm T (i + 1) v8 v9 v10 S'') S := by
  have n9 : nm ≠ 132009 := fun e => by rw [e] at hnm; cases hnm
  have n9' : ¬ 132009 = nm := fun e => n9 e.symm
  obtain ⟨v9, ⟨t0, t97, t98, pl, a8, a9, a10, fr⟩⟩ := hI
  have hc := flowV_check hp
  obtain ⟨c1, c2, c3, c4, c5, c6, c7, c8, c9⟩ := checkV_zero hc
  by_cases hlt : i < p.hs.length
  · have hw := wrap_succ i _ hlt (by omega)
    have hsl := sndV_len p
    have hls : i < (sndV p).length := by omega
    have hix := a8.idx
    have esn := reaT_succ p i hls
    have hrl := reaT_len p i
    have hin := sndV_in hp
    have hfl := sndV_flat hp
    have hcl : ∀ blk : Nat → Option Blk, blk nm = some ⟨st, 12, [.agg (planC p 0 1 sm 1 v8 v9 v10 .nils)]⟩ → LCallP Tryz.prog (.fn 63 []) [.ptr nm st 12 0 0, ints (sndV p)[i]] blk (effL [132009] [132032, 132048, 132049] (ints (closedV (sndV p) (sndV p)[i]))) := fun blk hb =>
      closed_l nm st (planC p 0 1 sm 1 v8 v9 v10 .nils) (p.hs.map Hnd.av) v8 (sndV p) n9 (by simp [planC]) (by simp [planC]) a8 (by simp [hsl]) (by simp; omega) hin (sndV p)[i] (hin _ (List.getElem_mem hls)) (by
        rw [mea_nil]
        have := mem_flat_len (List.getElem_mem hls)
        omega) hb
    have h24 : ((reaT p i).length + 1) * 24 ≤ 140737488355328 := by omega
    generalize reaT p i = xs at *
    generalize hsx : (sndV p)[i] = sx at *
    generalize hcx : closedV (sndV p) sx = cx at *
    simp [make_l2, t0, t97, t98, hlt]
    rcases a9 with ⟨rfl, q9⟩ | ⟨s9, rfl, q9⟩
    · have hx0 : xs = [] := by simpa using q9
      subst hx0
      simp [t0, pl, planC, hix _ _ hls, hsx]
      refine callL (hcl _ (by simpa using pl)) ?_
      simp [n9, n9', t0, pl, planC, hw, t98, hlt]
      refine ⟨.acc 137116 (S.clk + 1 + 2 + 1 + 1 + 1 + 1 + 1 + 1 + 1 + 1 + 1 + 1 + 1 + 1 + 1 + 1 + 1) 1 ((reaT p (i + 1)).map ints), ⟨by simp [t0], by simp [t97], by simp, by simp [n9, planC, esn, ints], a8, by simp [AccIs, esn], a10, fr.step (fun n hn => by rw [upd_out hn (LN_self nm)]; repeat rw [upd_out hn rfl]) (fun n hn => by repeat rw [upd_out hn rfl]) (by omega)⟩⟩
    · simp [t0, pl, planC, hix _ _ hls, hsx]
      refine callL (hcl _ (by simpa using pl)) ?_
      simp [n9, n9', t0, pl, planC, hw, t98, hlt, q9, h24]
      refine ⟨.acc 137116 (S.clk + 1 + 2 + 1 + 1 + 1 + 1 + 1 + 1 + 1 + 1 + 1 + 1 + 1 + 1 + 1 + 1 + 1) 1 ((reaT p (i + 1)).map ints), ⟨by simp [t0], by simp [t97], by simp, by simp [n9, planC, esn, ints], a8, by simp [AccIs, esn], a10, fr.step (fun n hn => by rw [upd_out hn (LN_self nm)]; repeat rw [upd_out hn rfl]) (fun n hn => by repeat rw [upd_out hn rfl]) (by omega)⟩⟩
  · have e1 : i = p.hs.length := by omega
    subst e1
    simp [make_l2, t97, t98]
    exact hκ _ v9 ⟨by simp [t0], by simp [t97], by simp [t98], pl, a8, by simpa [AccIs] using a9, a10, fr.step (fun n hn => rfl) (fun n hn => rfl) (by omega)⟩
theorem make_v0 (nm st : Nat) (hnm : LR nm = false) (p : Prg) (hp : flowV p = 0) (sm : Int) {T : St} {k : AV → St → Prop} {u : Dep k} (hb : T.blk nm = some ⟨st, 12, [.agg (planC p 0 1 sm 0 .nils .nils .nils .nils)]⟩)
    (hk : ∀ v8 v9 v10 v11 S, S.blk nm = some ⟨st, 12, [.agg (planC p 0 1 sm 1 v8 v9 v10 v11)]⟩ → LstV v8 ((sndV p).map ints) → LstV v9 ((reaV p).map ints) → LstV v10 ((armsV p).map AV.bool) → LstV v11 ((liveV p (sndV p) (armsV p)).map iv) → Fh (LN nm) T S → S.t = T.t → k (.tup []) S) :
    CallG Tryz.prog (.fn 42 []) [.ptr nm st 12 0 0] T k u := by
  have hc := flowV_check hp
  obtain ⟨c1, c2, c3, c4, c5, c6, c7, c8, c9⟩ := checkV_zero hc
  refine callV make_get (by simp) (by simp) ?_
  unfold make_c
  simp
  refine add64_v nm st 12 7 (.agg (planC p 0 1 sm 0 .nils .nils .nils .nils)) 0 1 hb (by simp) (by simp [planC]) (by decide) ?_
  simp [planC, setCells]
  refine loopN (fun i S => ∃ v8 v10, MkS nm st p sm T i v8 v10 S) p.hs.length ?_ (make_out1 nm st hnm p hp sm T ?_)
  · refine ⟨.nils, .nils, ⟨by simp, by simp, by simp, by simp [planC], by simp [AccIs, sndT], by simp [AccIs, armT], Fh.here (fun n hn => by rw [upd_out hn (LN_self nm)]) (fun n hn => rfl) (by omega)⟩⟩
  · rintro S v8 v10 ⟨t0, t19, t20, pl, a8, a10, fr⟩
    rw [sndT_end] at a8
    rw [armT_end] at a10
    simp [t0, pl, planC]
    refine loopN (fun i S => ∃ v9, Mk2 nm st p sm T i v8 v9 v10 S) p.hs.length ?_ (make_out2 nm st hnm p hp sm T v8 v10 ?_)
    · refine ⟨.nils, ⟨by simp [t0], by simp, by simp, by simp [pl, planC], a8.lstV, by simp [AccIs, reaT], a10.lstV, fr.step (fun n hn => rfl) (fun n hn => rfl) (by omega)⟩⟩
    · clear t0 t19 t20 pl fr a8 a10 S
      rintro S v9 ⟨t0, t97, t98, pl, b8, a9, b10, fr⟩
      rw [← sndV_len p, reaT_end] at a9
      simp [t0]
      refine alive_v nm st hnm p hc 0 1 sm 1 v8 v9 v10 .nils (sndV p) (armsV p) b8 b10 (by rw [sndV_len]) (by rw [sndV_len, armsV_len]) (sndV_in hp) (by have := sndV_flat hp; omega) (by exact pl) ?_
      rintro r S1 hr pl1 f1 ht
      obtain ⟨o1, o2, _⟩ := hr.out
      simp [ht, t0, pl1, planC, o1, o2]
      refine hk v8 v9 v10 r _ ?_ b8 a9.lstV b10 hr.lstV ?_ ?_
      · simp [planC]
      rotate_left
      · rfl
      exact ((fr.step (t := S.t) (fun n hn => rfl) (fun n hn => rfl) (c := S.clk + 6) (by omega)).trans ⟨fun n hn => f1.b n (LN_LR hn).1, fun n hn => f1.k n (LN_LR hn).1, f1.c⟩).step (fun n hn => by rw [upd_out hn (LN_self nm)]) (fun n hn => rfl) (by omega)
/-- The plan where all is made. -/
def madeC (p : Prg) (dn lk sm : Int) : List AV := planC p dn lk sm 1 (.lst 1 ((sndV p).map ints)) (.lst 1 ((reaV p).map ints)) (.lst 1 ((armsV p).map AV.bool)) (ints (liveV p (sndV p) (armsV p)))
theorem LstV.rel {v : AV} {xs : List AV} (h : LstV v xs) {E : Env} {w : Value} (hr : Rel E v w) : Rel E (.lst 1 xs) w := by
  rcases h with rfl | ⟨nm, st, rfl⟩ | ⟨rfl, rfl⟩
  · exact hr
  · exact hr.lst_of_acc
  · exact hr.lst_of_nils
theorem make_v (nm st : Nat) (hnm : LR nm = false) (p : Prg) (hp : flowV p = 0) (sm : Int) {T : St} {k : AV → St → Prop} {u : Dep k} (hb : T.blk nm = some ⟨st, 12, [.agg (planC p 0 1 sm 0 .nils .nils .nils .nils)]⟩)
    (hk : ∀ S, S.blk nm = some ⟨st, 12, [.agg (madeC p 0 1 sm)]⟩ → Fh (LN nm) T S → S.t = T.t → k (.tup []) S) :
    CallG Tryz.prog (.fn 42 []) [.ptr nm st 12 0 0] T k u := by
  refine CallP.told (k' := fun r S => r = .tup [] ∧ ∃ v8 v9 v10 v11, S.blk nm = some ⟨st, 12, [.agg (planC p 0 1 sm 1 v8 v9 v10 v11)]⟩ ∧ LstV v8 ((sndV p).map ints) ∧ LstV v9 ((reaV p).map ints) ∧ LstV v10 ((armsV p).map AV.bool) ∧ LstV v11 ((liveV p (sndV p) (armsV p)).map iv) ∧ Fh (LN nm) T S ∧ S.t = T.t)
    (make_v0 (u := .mk) nm st hnm p hp sm hb fun v8 v9 v10 v11 S a b c d e f g => ⟨rfl, v8, v9, v10, v11, a, b, c, d, e, f, g⟩) ?_
  rintro r S ⟨rfl, v8, v9, v10, v11, hbS, q8, q9, q10, q11, hF, ht⟩
  refine ⟨⟨S.t, upd S.blk nm (some ⟨st, 12, [.agg (madeC p 0 1 sm)]⟩), S.tok, S.clk⟩, id, ?_, rfl, hk _ (by simp) (hF.step (fun n hn => by rw [upd_out hn (LN_self nm)]) (fun n hn => rfl) (Nat.le_refl _)) ht⟩
  refine Wkh.coarse (by simp) hbS rfl (fun j x y hx hy => ?_)
  match j with
  | 8 => simp [planC, madeC] at hx hy; subst hx hy; exact ⟨rfl, fun E v hr => q8.rel hr⟩
  | 9 => simp [planC, madeC] at hx hy; subst hx hy; exact ⟨rfl, fun E v hr => q9.rel hr⟩
  | 10 => simp [planC, madeC] at hx hy; subst hx hy; exact ⟨rfl, fun E v hr => q10.rel hr⟩
  | 11 => simp [planC, madeC] at hx hy; subst hx hy; exact ⟨rfl, fun E v hr => q11.rel hr⟩
  | 0 => simp [planC, madeC] at hx hy; subst hx hy; exact ⟨rfl, fun E v hr => hr⟩
  | 1 => simp [planC, madeC] at hx hy; subst hx hy; exact ⟨rfl, fun E v hr => hr⟩
  | 2 => simp [planC, madeC] at hx hy; subst hx hy; exact ⟨rfl, fun E v hr => hr⟩
  | 3 => simp [planC, madeC] at hx hy; subst hx hy; exact ⟨rfl, fun E v hr => hr⟩
  | 4 => simp [planC, madeC] at hx hy; subst hx hy; exact ⟨rfl, fun E v hr => hr⟩
  | 5 => simp [planC, madeC] at hx hy; subst hx hy; exact ⟨rfl, fun E v hr => hr⟩
  | 6 => simp [planC, madeC] at hx hy; subst hx hy; exact ⟨rfl, fun E v hr => hr⟩
  | 7 => simp [planC, madeC] at hx hy; subst hx hy; exact ⟨rfl, fun E v hr => hr⟩
  | j + 12 => simp [planC] at hx

end Go.Gv

/- The document's lists: put in by size, met; and a number within bounds. Conditions: a list's length. -/
set_option linter.unusedVariables false
set_option linter.unusedSimpArgs false
namespace Go.Gv
open Go.Proofs

def put1g_r0 : List AI := [⟨(some 4), none, (.op (.mv (.c .nils)))⟩]
def put1g_r1 : List AI := [⟨(some 5), none, (.op (.mv (.c (.int .i64 0))))⟩]
def put1g_r2 : List AI := [⟨(some 6), none, (.op (.mv (.t 5)))⟩, ⟨(some 7), none, (.op (.mv (.t 0)))⟩, ⟨(some 8), none, (.op (.len (.t 7)))⟩, ⟨(some 9), none, (.op (.ibin .lss (.t 6) (.t 8)))⟩, ⟨(some 10), none, (.op (.mv (.t 9)))⟩, ⟨(some 11), (some (10, true)), (.op (.mv (.t 0)))⟩, ⟨(some 12), (some (10, true)), (.op (.mv (.t 5)))⟩, ⟨(some 13), (some (10, true)), (.op (.idx 1 (.t 11) (.t 12)))⟩, ⟨(some 14), (some (10, true)), (.op (.load none (.t 13)))⟩, ⟨(some 15), (some (10, true)), (.op (.mv (.t 1)))⟩, ⟨(some 16), (some (10, true)), (.op (.ibin .lss (.t 14) (.t 15)))⟩, ⟨(some 17), none, (.op (.pick (.t 10) (.t 16) (.c (.bool false))))⟩]
def put1g_r3 : List AI := [⟨(some 18), none, (.op (.mv (.t 5)))⟩, ⟨(some 19), none, (.op (.ibin .add (.t 18) (.c (.int .i64 1))))⟩, ⟨(some 5), none, (.op (.mv (.t 19)))⟩]
def put1g_l0 : AC := (.seq (.seq (.reg put1g_r2) (.cond (.t 17) .skip (.exit 0))) (.block 1 (.reg put1g_r3)))
def put1g_r4 : List AI := [⟨(some 20), none, (.op (.mv (.t 5)))⟩, ⟨(some 21), none, (.op (.mv (.t 0)))⟩, ⟨(some 22), none, (.op (.len (.t 21)))⟩, ⟨(some 23), none, (.op (.ibin .lss (.t 20) (.t 22)))⟩, ⟨(some 24), none, (.op (.mv (.t 23)))⟩, ⟨(some 25), (some (24, true)), (.op (.mv (.t 0)))⟩, ⟨(some 26), (some (24, true)), (.op (.mv (.t 5)))⟩, ⟨(some 27), (some (24, true)), (.op (.idx 1 (.t 25) (.t 26)))⟩, ⟨(some 28), (some (24, true)), (.op (.load none (.t 27)))⟩, ⟨(some 29), (some (24, true)), (.op (.mv (.t 1)))⟩, ⟨(some 30), (some (24, true)), (.op (.ibin .eql (.t 28) (.t 29)))⟩, ⟨(some 31), none, (.op (.pick (.t 24) (.t 30) (.c (.bool false))))⟩]
def put1g_r5 : List AI := [⟨(some 32), none, (.op (.mv (.t 0)))⟩, ⟨(some 4), none, (.op (.mv (.t 32)))⟩]
def put1g_r6 : List AI := [⟨(some 33), none, (.op (.bsl 150033 1 3 0 (.int .i64 0) []))⟩, ⟨(some 34), none, (.op (.mv (.t 0)))⟩, ⟨(some 35), none, (.op (.mv (.t 5)))⟩, ⟨(some 36), none, (.op (.slice (some 1) (.t 34) none (some (.t 35))))⟩, ⟨(some 37), none, (.op (.app 150037 1 3 8 (.t 33) (.t 36)))⟩, ⟨(some 38), none, (.op (.mv (.t 1)))⟩, ⟨(some 39), none, (.op (.bsl 150039 1 3 1 (.int .i64 0) [(0, (.t 38))]))⟩, ⟨(some 40), none, (.op (.app 150040 1 3 8 (.t 37) (.t 39)))⟩, ⟨(some 41), none, (.op (.mv (.t 0)))⟩, ⟨(some 42), none, (.op (.mv (.t 5)))⟩, ⟨(some 43), none, (.op (.slice (some 1) (.t 41) (some (.t 42)) none))⟩, ⟨(some 44), none, (.op (.app 150044 1 3 8 (.t 40) (.t 43)))⟩, ⟨(some 4), none, (.op (.mv (.t 44)))⟩]
def put1g_p6 : List (List Nat) := [[], [], [], [1, 2], [0, 3, 1, 2], [], [5], [4, 6, 0, 3, 1, 2, 5], [], [], [8, 9], [7, 10, 4, 6, 0, 3, 1, 2, 5, 8, 9], [11, 0, 1, 2, 3, 4, 5, 6, 7, 8, 9, 10]]
def put1g_c : AC := (.seq (.reg put1g_r0) (.seq (.reg put1g_r1) (.seq (.block 0 (.loop put1g_l0)) (.seq (.seq (.reg put1g_r4) (.cond (.t 31) (.seq (.reg put1g_r5) .ret) .skip)) (.seq (.regd put1g_r6 put1g_p6) .ret)))))
def put1g_res : List ARes := [(.tmp 4)]
set_option maxRecDepth 100000 in
theorem put1g_get : getF Tryz.prog 30 150000 [] = some ("gavotte/gavotteref7.Put1", 45, put1g_c, put1g_res) := by kernel_rfl
def meets_r0 : List AI := [⟨(some 4), none, (.op (.mv (.c (.bool false))))⟩]
def meets_r1 : List AI := [⟨(some 5), none, (.op (.mv (.c (.int .i64 0))))⟩]
def meets_r2 : List AI := [⟨(some 7), none, (.op (.mv (.t 5)))⟩, ⟨(some 8), none, (.op (.mv (.t 0)))⟩, ⟨(some 9), none, (.op (.len (.t 8)))⟩, ⟨(some 10), none, (.op (.ibin .lss (.t 7) (.t 9)))⟩]
def meets_r3 : List AI := [⟨(some 6), none, (.op (.mv (.c (.int .i64 0))))⟩]
def meets_r4 : List AI := [⟨(some 13), none, (.op (.mv (.t 6)))⟩, ⟨(some 14), none, (.op (.mv (.t 1)))⟩, ⟨(some 15), none, (.op (.len (.t 14)))⟩, ⟨(some 16), none, (.op (.ibin .lss (.t 13) (.t 15)))⟩]
def meets_r5 : List AI := [⟨(some 19), none, (.op (.mv (.t 0)))⟩, ⟨(some 20), none, (.op (.mv (.t 5)))⟩, ⟨(some 21), none, (.op (.idx 1 (.t 19) (.t 20)))⟩, ⟨(some 22), none, (.op (.load none (.t 21)))⟩, ⟨(some 23), none, (.op (.mv (.t 1)))⟩, ⟨(some 24), none, (.op (.mv (.t 6)))⟩, ⟨(some 25), none, (.op (.idx 1 (.t 23) (.t 24)))⟩, ⟨(some 26), none, (.op (.load none (.t 25)))⟩, ⟨(some 27), none, (.op (.ibin .eql (.t 22) (.t 26)))⟩]
def meets_p5 : List (List Nat) := [[], [], [0, 1], [2, 0, 1], [], [], [4, 5], [6, 4, 5], [3, 7, 2, 0, 1, 6, 4, 5]]
def meets_r6 : List AI := [⟨(some 4), none, (.op (.mv (.c (.bool true))))⟩]
def meets_r7 : List AI := [⟨(some 17), none, (.op (.mv (.t 6)))⟩, ⟨(some 18), none, (.op (.ibin .add (.t 17) (.c (.int .i64 1))))⟩, ⟨(some 6), none, (.op (.mv (.t 18)))⟩]
def meets_l0 : AC := (.seq (.seq (.reg meets_r4) (.cond (.t 16) .skip (.exit 2))) (.seq (.block 3 (.seq (.regd meets_r5 meets_p5) (.cond (.t 27) (.seq (.reg meets_r6) .ret) .skip))) (.reg meets_r7)))
def meets_r8 : List AI := [⟨(some 11), none, (.op (.mv (.t 5)))⟩, ⟨(some 12), none, (.op (.ibin .add (.t 11) (.c (.int .i64 1))))⟩, ⟨(some 5), none, (.op (.mv (.t 12)))⟩]
def meets_l1 : AC := (.seq (.seq (.reg meets_r2) (.cond (.t 10) .skip (.exit 0))) (.seq (.block 1 (.seq (.reg meets_r3) (.block 2 (.loop meets_l0)))) (.reg meets_r8)))
def meets_r9 : List AI := [⟨(some 4), none, (.op (.mv (.c (.bool false))))⟩]
def meets_c : AC := (.seq (.reg meets_r0) (.seq (.seq (.reg meets_r1) (.block 0 (.loop meets_l1))) (.seq (.reg meets_r9) .ret)))
def meets_res : List ARes := [(.tmp 4)]
set_option maxRecDepth 100000 in
theorem meets_get : getF Tryz.prog 20 151000 [] = some ("gavotte/gavotteref7.Meets", 28, meets_c, meets_res) := by kernel_rfl
attribute [simp] put1g_r0 put1g_r1 put1g_r2 put1g_r3 put1g_r4 put1g_r5 put1g_r6 put1g_p6 put1g_res meets_r0 meets_r1 meets_r2 meets_r3 meets_r4 meets_r5 meets_p5 meets_r6 meets_r7 meets_r8 meets_r9 meets_res


def put1 : List Int → Int → List Int
  | [], x => [x]
  | y :: l, x => if y < x then y :: put1 l x else if y = x then y :: l else x :: y :: l
theorem put1_at {x : Int} : ∀ {l : List Int} {i : Nat}, i ≤ l.length → (∀ y ∈ l.take i, y < x) → (∀ y, l[i]? = some y → ¬ y < x) → put1 l x = if l[i]? = some x then l else l.take i ++ x :: l.drop i
  | [], i, hi, _, _ => by
    have : i = 0 := by simpa using hi
    subst this; simp [put1]
  | y :: l, 0, _, _, h2 => by
    have := h2 y rfl
    simp only [put1, if_neg this]
    by_cases e : y = x
    · simp [e]
    · simp [e]
  | y :: l, i + 1, hi, h1, h2 => by
    have hy : y < x := h1 y (by simp)
    have ih := put1_at (x := x) (l := l) (i := i) (by simpa using hi) (fun z hz => h1 z (by simp [hz])) (fun z hz => h2 z (by simpa using hz))
    simp only [put1, if_pos hy, ih]
    simp only [List.getElem?_cons_succ, List.take_succ_cons, List.drop_succ_cons]
    split <;> simp
theorem put1_reg (l : List Int) (x : Int) (i : Nat) (hi : i ≤ l.length) (hl : l.length ≤ 100000) (S : St) (g0 : S.t 0 = .lst 1 (l.map iv)) (g1 : S.t 1 = iv x) (g5 : S.t 5 = iv i) (κ : Ex → St → Prop)
    (hκ : ∀ S' st, S'.t 4 = .acc 150044 st 1 ((l.take i ++ x :: l.drop i).map iv) → κ .normal S') : V Tryz.prog (.regd put1g_r6 put1g_p6) κ S := by
  have htk : List.take l.length (l.map iv) = l.map iv := List.take_of_length_le (by simp)
  have b1 : i * 8 ≤ 140737488355328 := by omega
  have b2 : (i + 1) * 8 ≤ 140737488355328 := by omega
  have b3 : (i + (l.length - i + 1)) * 8 ≤ 140737488355328 := by omega
  have b4 : (i + 1 + (l.length - i)) * 8 ≤ 140737488355328 := by omega
  simp [g0, g1, g5, hi, b1, b2, b3, b4, htk]
  exact hκ _ _ (by simp; rfl)
theorem put1_loop (l : List Int) (x : Int) (hl : l.length ≤ 100000) (κ : Ex → St → Prop) (hκ : ∀ (S : St) (i : Nat), i ≤ l.length → S.t 0 = .lst 1 (l.map iv) → S.t 1 = iv x → S.t 5 = iv i → (∀ y ∈ l.take i, y < x) → (∀ y, l[i]? = some y → ¬ y < x) → κ (.exit 0) S)
    (S : St) (g0 : S.t 0 = .lst 1 (l.map iv)) (g1 : S.t 1 = iv x) (g5 : S.t 5 = iv 0) : LoopG Tryz.prog put1g_l0 κ S .mk := by
  refine loopM (fun m S => ∃ i, m = l.length - i ∧ i ≤ l.length ∧ S.t 0 = .lst 1 (l.map iv) ∧ S.t 1 = iv x ∧ S.t 5 = iv i ∧ (∀ y ∈ l.take i, y < x)) l.length ?_ ?_
  · exact ⟨0, rfl, Nat.zero_le _, g0, g1, g5, by simp⟩
  · clear g0 g1 g5 S
    rintro m S ⟨i, rfl, hi, g0, g1, g5, hx⟩
    by_cases hlt : i < l.length
    · have hw := wrap_succ i _ hlt (by omega)
      by_cases hlx : l[i] < x
      · simp [put1g_l0, g0, g1, g5, hlt, hlx, hw]
        refine ⟨l.length - (i + 1), by omega, i + 1, rfl, by omega, by simp, fun y hy => ?_⟩
        rw [List.take_succ_eq_append_getElem hlt] at hy
        rcases List.mem_append.1 hy with q | q
        · exact hx y q
        · rw [List.mem_singleton.1 q]; exact hlx
      · simp [put1g_l0, g0, g1, g5, hlt, hlx]
        exact hκ _ i hi (by simp [g0]) (by simp [g1]) (by simp [g5]) hx (fun y hy => by rw [List.getElem?_eq_getElem hlt] at hy; cases hy; exact hlx)
    · have e1 : i = l.length := by omega
      subst e1
      simp [put1g_l0, g0, g1, g5]
      exact hκ _ l.length hi (by simp [g0]) (by simp [g1]) (by simp [g5]) hx (fun y hy => by simp at hy)
theorem put1_pc (l : List Int) (x : Int) (hl : l.length ≤ 100000) : PC Tryz.prog 30 [ints l, iv x] (ints (put1 l x)) := by
  refine pc_of_get put1g_get (by simp) _ (by simp) _ ?_
  unfold put1g_c
  simp [ints, -V_regdG, -put1g_r6, -put1g_p6]
  refine put1_loop l x hl _ ?_ _ (by simp) (by simp) (by simp)
  intro S i hi g0 g1 g5 hx hx2
  rw [put1_at hi hx hx2]
  by_cases hlt : i < l.length
  · rw [List.getElem?_eq_getElem hlt]
    by_cases hex : l[i] = x
    · simp [g0, g1, g5, hlt, hex, ints]
    · rw [if_neg (by simpa using hex)]
      simp [g0, g1, g5, hlt, hex, -V_regdG, -put1g_r6, -put1g_p6]
      refine put1_reg l x i hi hl _ (by simp [g0]) (by simp [g1]) (by simp [g5]) _ ?_
      intro S' st h44
      simp [h44, ints]
  · have e1 : i = l.length := by omega
    subst e1
    rw [if_neg (by simp)]
    simp [g0, g1, g5, -V_regdG, -put1g_r6, -put1g_p6]
    refine put1_reg l x l.length hi hl _ (by simp [g0]) (by simp [g1]) (by simp [g5]) _ ?_
    intro S' st h44
    simp [h44, ints]
def meetsV (a b : List Int) : Bool := a.any fun x => b.contains x
theorem meets_pc (a b : List Int) (ha : a.length ≤ 100000) (hb : b.length ≤ 100000) : PC Tryz.prog 20 [ints a, ints b] (.bool (meetsV a b)) := by
  refine pc_of_get meets_get (by simp) _ (by simp) _ ?_
  unfold meets_c
  simp [ints]
  refine loopN (fun i S => S.t 0 = .lst 1 (a.map iv) ∧ S.t 1 = .lst 1 (b.map iv) ∧ S.t 5 = iv i ∧ (∀ x ∈ a.take i, b.contains x = false)) a.length ?_ ?_
  · exact ⟨by simp, by simp, by simp, by simp⟩
  · rintro i S hi ⟨g0, g1, g5, hx⟩
    by_cases hlt : i < a.length
    · have hw := wrap_succ i _ hlt (by omega)
      simp [meets_l1, g0, g1, g5, hlt]
      refine loopN (fun j S => S.t 0 = .lst 1 (a.map iv) ∧ S.t 1 = .lst 1 (b.map iv) ∧ S.t 5 = iv i ∧ S.t 6 = iv j ∧ (∀ y ∈ b.take j, y ≠ a[i])) b.length ?_ ?_
      · exact ⟨by simp [g0], by simp [g1], by simp [g5], by simp, by simp⟩
      · clear g0 g1 g5 S
        rintro j S hj ⟨g0, g1, g5, g6, hy⟩
        by_cases hjt : j < b.length
        · have hw2 := wrap_succ j _ hjt (by omega)
          by_cases he : a[i] = b[j]
          · have hm : meetsV a b = true := by
              refine List.any_eq_true.2 ⟨a[i], List.getElem_mem hlt, ?_⟩
              rw [he]; simp
            simp [meets_l0, g0, g1, g5, g6, hlt, hjt, he, hm]
          · simp [meets_l0, g0, g1, g5, g6, hlt, hjt, he, hw2]
            intro y hy'
            rw [List.take_succ_eq_append_getElem hjt] at hy'
            rcases List.mem_append.1 hy' with q | q
            · exact hy y q
            · rw [List.mem_singleton.1 q]; exact fun q => he q.symm
        · have e1 : j = b.length := by omega
          subst e1
          rw [List.take_length] at hy
          simp [meets_l0, g0, g1, g5, g6, hw, hlt]
          intro x hx'
          rw [List.take_succ_eq_append_getElem hlt] at hx'
          rcases List.mem_append.1 hx' with q | q
          · simpa using hx x q
          · rw [List.mem_singleton.1 q]; exact fun q => hy _ q rfl
    · have e1 : i = a.length := by omega
      subst e1
      rw [List.take_length] at hx
      have hm : meetsV a b = false := by
        cases hq : meetsV a b with
        | false => rfl
        | true =>
          obtain ⟨x, h1, h2⟩ := List.any_eq_true.1 hq
          rw [hx x h1] at h2; cases h2
      simp [meets_l1, g0, g1, g5, hm]
theorem rndg_cases (k n : Int) (hn : 0 < n) : ∃ j : Nat, (j : Int) < n ∧ (k.tmod n + n).tmod n = (j : Int) := by
  have a1 := Int.tmod_lt_of_pos k hn
  have a2 := Int.lt_tmod_of_pos k hn
  rw [Int.tmod_eq_emod_of_nonneg (by omega)]
  have b1 := Int.emod_nonneg (k.tmod n + n) (show n ≠ 0 by omega)
  have b2 := Int.emod_lt_of_pos (k.tmod n + n) hn
  exact ⟨((k.tmod n + n) % n).toNat, by omega, by omega⟩

end Go.Gv

/- Plain laws: a list by size, with each number once, is known by what stands in it; what a plan tells, reckoned by putting in. No condition beyond those that each law names. -/
set_option linter.unusedVariables false
set_option linter.unusedSimpArgs false
namespace Go.Gv
open Go.Proofs


open Go.Lib
def Up (l : List Int) : Prop := l.Pairwise (· < ·)
theorem Up.ext : ∀ {l m : List Int}, Up l → Up m → (∀ x, x ∈ l ↔ x ∈ m) → l = m
  | [], [], _, _, _ => rfl
  | [], y :: m, _, _, h => by have := (h y).2 (by simp); simp at this
  | x :: l, [], _, _, h => by have := (h x).1 (by simp); simp at this
  | x :: l, y :: m, hl, hm, h => by
    obtain ⟨l1, l2⟩ := List.pairwise_cons.1 hl
    obtain ⟨m1, m2⟩ := List.pairwise_cons.1 hm
    have e : x = y := by
      rcases List.mem_cons.1 ((h x).1 (by simp)) with q | q
      · exact q
      · rcases List.mem_cons.1 ((h y).2 (by simp)) with r | r
        · exact r.symm
        · have a := m1 x q; have b := l1 y r; omega
    subst e
    congr 1
    refine Up.ext l2 m2 (fun z => ⟨fun q => ?_, fun q => ?_⟩)
    · rcases List.mem_cons.1 ((h z).1 (by simp [q])) with r | r
      · subst r; have := l1 z q; omega
      · exact r
    · rcases List.mem_cons.1 ((h z).2 (by simp [q])) with r | r
      · subst r; have := m1 z q; omega
      · exact r
theorem put1_mem {x : Int} : ∀ {l : List Int} {y : Int}, y ∈ put1 l x ↔ y = x ∨ y ∈ l
  | [], y => by simp [put1]
  | z :: l, y => by
    simp only [put1]
    split
    · simp only [List.mem_cons, put1_mem (l := l)]
      constructor <;> (rintro (q | q | q) <;> simp [q])
    · split
      · rename_i e; subst e; simp
      · simp
theorem put1_up {x : Int} : ∀ {l : List Int}, Up l → Up (put1 l x)
  | [], _ => by simp [put1, Up]
  | z :: l, h => by
    obtain ⟨l1, l2⟩ := List.pairwise_cons.1 h
    simp only [put1]
    split
    · rename_i hz
      refine List.pairwise_cons.2 ⟨fun y hy => ?_, put1_up l2⟩
      rcases put1_mem.1 hy with q | q
      · omega
      · exact l1 y q
    · split
      · exact h
      · refine List.pairwise_cons.2 ⟨fun y hy => ?_, h⟩
        rcases List.mem_cons.1 hy with q | q
        · omega
        · have := l1 y q; omega
def putL (l m : List Int) : List Int := m.foldl put1 l
theorem putL_mem {y : Int} : ∀ {m l : List Int}, y ∈ putL l m ↔ y ∈ l ∨ y ∈ m
  | [], l => by simp [putL]
  | x :: m, l => by
    have ih := putL_mem (y := y) (m := m) (l := put1 l x)
    simp only [putL, List.foldl_cons] at ih ⊢
    rw [ih, put1_mem]
    simp only [List.mem_cons]
    constructor
    · rintro ((q | q) | q) <;> simp [q]
    · rintro (q | q | q) <;> simp [q]
theorem putL_up : ∀ {m l : List Int}, Up l → Up (putL l m)
  | [], l, h => h
  | x :: m, l, h => by
    simp only [putL, List.foldl_cons]
    exact putL_up (m := m) (put1_up h)
theorem putL_append (l m n : List Int) : putL l (m ++ n) = putL (putL l m) n := by simp [putL]
-- what the library's Sort and Compact come to
theorem sortI_le (zs : List Int) : (sortI zs).Pairwise (· ≤ ·) := by
  have := List.pairwise_mergeSort (le := fun x y : Int => decide (x ≤ y)) (by intro a b c; simp; omega) (by intro a b; simp; omega) zs
  exact this.imp (by intro a b h; simpa using h)
theorem upTo_inv (zs : List Int) (h : zs.Pairwise (· ≤ ·)) : ∀ m, m ≤ zs.length → Up (Lib.compactUpTo zs.toArray m) ∧ (∀ x, x ∈ Lib.compactUpTo zs.toArray m ↔ x ∈ zs.take m) := by
  intro m
  induction m with
  | zero => intro _; simp [Lib.compactUpTo, Up]
  | succ m ih =>
    intro hm
    have hlt : m < zs.length := by omega
    obtain ⟨i1, i2⟩ := ih (by omega)
    rw [Lib.compactUpTo_succ]
    have hd : zs.toArray[m]! = zs[m] := by simp [hlt]
    have htk : zs.take (m + 1) = zs.take m ++ [zs[m]] := List.take_succ_eq_append_getElem hlt
    have hle : ∀ x ∈ zs.take m, x ≤ zs[m] := by
      intro x hx
      obtain ⟨j, hj, rfl⟩ := List.mem_iff_getElem.1 hx
      rw [List.getElem_take]
      rw [List.length_take] at hj
      exact List.pairwise_iff_getElem.1 h j m (by omega) hlt (by omega)
    by_cases hk : Lib.keeps zs.toArray m = true
    · rw [if_pos hk, hd]
      refine ⟨?_, fun x => ?_⟩
      · refine List.pairwise_append.2 ⟨i1, by simp, fun x hx y hy => ?_⟩
        rw [List.mem_singleton.1 hy]
        have h1 := hle x ((i2 x).1 hx)
        have hne : x ≠ zs[m] := by
          intro e
          simp only [Lib.keeps, decide_eq_true_eq] at hk
          rcases hk with q | q
          · subst q; simp [Lib.compactUpTo] at hx
          · have hm0 : 0 < m := by
              rcases Nat.eq_zero_or_pos m with r | r
              · subst r; simp [Lib.compactUpTo] at hx
              · exact r
            have hd2 : zs.toArray[m - 1]! = zs[m - 1]'(by omega) := by simp [show m - 1 < zs.length by omega]
            rw [hd, hd2] at q
            have h3 : zs[m - 1]'(by omega) ≤ zs[m] := List.pairwise_iff_getElem.1 h (m - 1) m (by omega) hlt (by omega)
            have h4 : x ≤ zs[m - 1]'(by omega) := by
              obtain ⟨j, hj, e2⟩ := List.mem_iff_getElem.1 ((i2 x).1 hx)
              rw [List.getElem_take] at e2
              rw [List.length_take] at hj
              rcases Nat.lt_or_ge j (m - 1) with r | r
              · rw [← e2]; exact List.pairwise_iff_getElem.1 h j (m - 1) (by omega) (by omega) r
              · have : j = m - 1 := by omega
                subst this; rw [← e2]; exact Int.le_refl _
            omega
        omega
      · rw [htk, List.mem_append, List.mem_append, i2 x]
    · rw [if_neg hk, List.append_nil]
      refine ⟨i1, fun x => ?_⟩
      rw [i2 x, htk]
      simp only [List.mem_append, List.mem_singleton]
      constructor
      · exact .inl
      · rintro (q | q)
        · exact q
        · simp only [Lib.keeps, decide_eq_true_eq, not_or, Decidable.not_not] at hk
          obtain ⟨k1, k2⟩ := hk
          have hd2 : zs.toArray[m - 1]! = zs[m - 1]'(by omega) := by simp [show m - 1 < zs.length by omega]
          rw [hd, hd2] at k2
          rw [q, k2]
          exact List.mem_iff_getElem.2 ⟨m - 1, by rw [List.length_take]; omega, by rw [List.getElem_take]⟩
theorem compact_up (zs : List Int) : Up (Lib.compact (sortI zs)) := (upTo_inv (sortI zs) (sortI_le zs) _ (Nat.le_refl _)).1
theorem compact_all (zs : List Int) (x : Int) : x ∈ Lib.compact (sortI zs) ↔ x ∈ zs := by
  have := (upTo_inv (sortI zs) (sortI_le zs) _ (Nat.le_refl _)).2 x
  rw [List.take_length] at this
  exact this.trans sortI_mem
/-- So it is what is put in one by one. -/
theorem compact_put (zs : List Int) : Lib.compact (sortI zs) = putL [] zs :=
  Up.ext (compact_up zs) (putL_up (by simp [Up])) (fun x => by rw [compact_all, putL_mem]; simp)
def rawH (p : Prg) (h : Nat) : List Int := rawS ((p.hs[h]?.map Hnd.code).getD []) (depthsV p h).1 ((p.hs[h]?.map Hnd.code).getD []).length
theorem send1_put (p : Prg) (h : Nat) : send1 p h = putL [] (rawH p h) := compact_put _
theorem sndV_put (p : Prg) : sndV p = (List.range p.hs.length).map fun h => putL [] (rawH p h) := by
  unfold sndV
  exact List.map_congr_left fun h _ => send1_put p h

end Go.Gv
