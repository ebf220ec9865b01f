/- The plain law under FlowRows: what the walk tells of pushes and pops in a row. -/
import Derived.Test.YthhgjncefjnogaaProg
import Derived.Test.YthhgjncefjnogaaWh
set_option linter.unusedVariables false
set_option linter.unusedSimpArgs false
namespace Go.Gv
open Go.Proofs

def insU (u : Bool) : Ins := if u = true then ⟨1, 0⟩ else ⟨2, 0⟩
def codeU (l : List Bool) : List Ins := l.map insU
def dlt (u : Bool) : Int := if u = true then 1 else -1
/-- How many numbers stand ahead of the a-th. -/
def depU (l : List Bool) (a : Nat) : Int := ((l.take a).map dlt).sum
theorem depU_zero (l : List Bool) : depU l 0 = 0 := by simp [depU]
theorem depU_succ (l : List Bool) (a : Nat) (h : a < l.length) : depU l (a + 1) = depU l a + dlt l[a] := by
  unfold depU
  rw [← List.take_append_getElem h, List.map_append, List.sum_append, List.map_cons, List.map_nil, List.sum_cons, List.sum_nil, Int.add_zero]
theorem depU_take (l : List Bool) (k a : Nat) (h : a ≤ k) : depU (l.take k) a = depU l a := by
  unfold depU; rw [List.take_take, Nat.min_eq_left h]
def mostU (l : List Bool) : Nat → Int
  | 0 => 0
  | a + 1 => max (mostU l a) (depU l (a + 1))
theorem mostU_take (l : List Bool) (k : Nat) : ∀ a, a ≤ k → mostU (l.take k) a = mostU l a
  | 0, _ => rfl
  | a + 1, h => by rw [mostU, mostU, mostU_take l k a (by omega), depU_take l k (a + 1) h]
theorem mostU_nonneg (l : List Bool) : ∀ a, 0 ≤ mostU l a
  | 0 => Int.le_refl _
  | a + 1 => by have := mostU_nonneg l a; rw [mostU]; omega
theorem mostU_ge (l : List Bool) : ∀ a b, b ≤ a → depU l b ≤ mostU l a
  | 0, b, h => by obtain rfl : b = 0 := by omega
                  rw [depU_zero]; exact Int.le_refl _
  | a + 1, b, h => by
    rw [mostU]
    by_cases e : b = a + 1
    · subst e; omega
    · have := mostU_ge l a b (by omega); omega
theorem mostU_att (l : List Bool) : ∀ a, mostU l a = 0 ∨ ∃ b, b < a ∧ mostU l a = depU l (b + 1)
  | 0 => .inl rfl
  | a + 1 => by
    rw [mostU]
    by_cases h : mostU l a ≤ depU l (a + 1)
    · exact .inr ⟨a, by omega, by omega⟩
    · rcases mostU_att l a with e | ⟨b, h1, h2⟩
      · exact .inl (by omega)
      · exact .inr ⟨b, by omega, by omega⟩
def wantU (l : List Bool) (k : Nat) : List Int := (List.range (k + 1)).map (depU l)
theorem wantU_len (l : List Bool) (k : Nat) : (wantU l k).length = k + 1 := by simp [wantU]
theorem wantU_succ (l : List Bool) (k : Nat) : wantU l (k + 1) = wantU l k ++ [depU l (k + 1)] := by
  unfold wantU; rw [List.range_succ (n := k + 1), List.map_append]; rfl
theorem wantU_get (l : List Bool) (k a : Nat) : (wantU l k)[a]? = if a ≤ k then some (depU l a) else none := by
  unfold wantU
  rw [List.getElem?_map]
  by_cases h : a ≤ k
  · rw [if_pos h, List.getElem?_range (by omega)]; rfl
  · rw [if_neg h, List.getElem?_eq_none (by simp; omega)]; rfl
theorem takesU (hs : List Hnd) (u : Bool) : takesV hs (insU u) = if u = true then 0 else 1 := by cases u <;> rfl
theorem putsU (u : Bool) : putsV (insU u).op = if u = true then 1 else 0 := by cases u <;> rfl
theorem netU (hs : List Hnd) (u : Bool) (d : Int) : d - takesV hs (insU u) + putsV (insU u).op = d + dlt u := by
  rw [takesU, putsU]; cases u <;> simp [dlt] <;> omega
theorem nextU (a : Nat) (u : Bool) : nextV a (insU u) = [a + 1] := by cases u <;> rfl
theorem codeU_get (l : List Bool) (a : Nat) (i : Ins) (h : (codeU l)[a]? = some i) : ∃ hl : a < l.length, i = insU l[a] := by
  unfold codeU at h
  rw [List.getElem?_map] at h
  by_cases hl : a < l.length
  · rw [List.getElem?_eq_getElem hl] at h
    exact ⟨hl, (Option.some.inj h).symm⟩
  · rw [List.getElem?_eq_none (by omega)] at h; cases h
theorem rchU (hs : List Hnd) (l : List Bool) : ∀ a, a ≤ l.length → (∀ b, b ≤ a → 0 ≤ depU l b ∧ depU l b ≤ 8) → Rch hs (codeU l) a (depU l a)
  | 0, _, _ => by rw [depU_zero]; exact .start
  | a + 1, hl, hg => by
    have ih := rchU hs l a (by omega) (fun b hb => hg b (by omega))
    have hi : (codeU l)[a]? = some (insU l[a]) := by unfold codeU; rw [List.getElem?_map, List.getElem?_eq_getElem (by omega)]; rfl
    have hn := netU hs l[a] (depU l a)
    have hs' := depU_succ l a (by omega)
    have h1 := hg (a + 1) (Nat.le_refl _)
    have h0 := hg a (by omega)
    have hp := putsU l[a]
    have ht := takesU hs l[a]
    have := Rch.step ih hi (by rw [ht]; rw [hs'] at h1; unfold dlt at h1; split <;> split at h1 <;> simp_all <;> omega) (by rw [hn, ← hs']; exact h1.2) (k := a + 1) (by rw [nextU]; simp)
    rw [hn, ← hs'] at this
    exact this
theorem goodU (hs : List Hnd) (l : List Bool) (hg : ∀ b, b ≤ l.length → 0 ≤ depU l b ∧ depU l b ≤ 8) : Good hs (codeU l) (wantU l l.length) (mostU l l.length) where
  len := by rw [wantU_len]; simp [codeU]
  zero := by rw [wantU_get, if_pos (by omega), depU_zero]
  sound a d h _ := by
    rw [wantU_get] at h
    split at h
    · rename_i hl
      cases h
      exact ⟨rchU hs l a hl (fun b hb => hg b (by omega)), (hg a hl).1⟩
    · cases h
  att := by
    rcases mostU_att l l.length with e | ⟨b, h1, h2⟩
    · exact .inl e
    · refine .inr ⟨b, depU l b, insU l[b], ?_, ?_, ?_, .inr ?_⟩
      · rw [wantU_get, if_pos (by omega)]
      · have := hg b (by omega); omega
      · unfold codeU; rw [List.getElem?_map, List.getElem?_eq_getElem h1]; rfl
      · rw [netU, h2, depU_succ l b h1]
  m0 := mostU_nonneg _ _
  closed a d i h hd hi := by
    obtain ⟨hl, rfl⟩ := codeU_get l a i hi
    rw [wantU_get, if_pos (by omega)] at h
    cases h
    have h0 := hg a (by omega)
    have h1 := hg (a + 1) (by omega)
    have hs' := depU_succ l a hl
    have m0 := mostU_ge l l.length a (by omega)
    have m1 := mostU_ge l l.length (a + 1) (by omega)
    refine ⟨?_, ?_, ?_, m0, ?_⟩
    · rw [takesU]; rw [hs'] at h1; unfold dlt at h1; split <;> split at h1 <;> simp_all <;> omega
    · rw [netU, ← hs']; exact h1.2
    · intro k hk
      rw [nextU] at hk
      obtain rfl : k = a + 1 := by simpa using hk
      rw [netU, ← hs', wantU_get, if_pos (by omega)]
    · rw [netU, ← hs']; exact m1
theorem badU (hs : List Hnd) (l : List Bool) (hg : ∀ b, b < l.length → 0 ≤ depU l b ∧ depU l b ≤ 8) (hb : ¬ (0 ≤ depU l l.length ∧ depU l l.length ≤ 8)) : Bad hs (codeU l) := by
  have hl : 0 < l.length := by
    refine Nat.pos_of_ne_zero (fun e => hb ?_)
    rw [e, depU_zero]; omega
  have hlt : l.length - 1 < l.length := by omega
  have hr := rchU hs l (l.length - 1) (by omega) (fun b h => hg b (by omega))
  refine .inl ⟨l.length - 1, _, insU l[l.length - 1], hr, by unfold codeU; rw [List.getElem?_map, List.getElem?_eq_getElem hlt]; rfl, ?_⟩
  have h0 := hg (l.length - 1) hlt
  have hs' := depU_succ l (l.length - 1) hlt
  rw [show l.length - 1 + 1 = l.length by omega] at hs'
  rw [netU, ← hs', takesU]
  rw [hs'] at hb ⊢
  unfold dlt at *
  split <;> simp_all <;> omega
theorem firstNZ_zeros {l : List Int} (h : ∀ x ∈ l, x = 0) : firstNZ l = 0 := by
  induction l with
  | nil => rfl
  | cons a l ih => rw [firstNZ, h a (by simp)]; simp; exact ih (fun x hx => h x (by simp [hx]))
theorem checkU (l : List Bool) (hl : l.length ≤ 60) : checkV (hdlP (codeU l)) = 0 := by
  have e : firstNZ ((codeU l).map (instrV 1 0 (codeU l).length)) = 0 := by
    refine firstNZ_zeros ?_
    intro x hx
    obtain ⟨i, hi, rfl⟩ := List.mem_map.1 hx
    obtain ⟨u, _, rfl⟩ := List.mem_map.1 hi
    cases u <;> simp [insU, instrV, operandV]
  have e2 : handlerV 1 ⟨0, codeU l⟩ = 0 := by
    unfold handlerV
    rw [if_neg (by simp), if_neg (by simp [codeU]; omega)]
    exact e
  unfold checkV
  simp only [hdlP, List.length_cons, List.length_nil, List.map_cons, List.map_nil, firstNZ]
  rw [show ((0 + 1 : Nat) : Int) = 1 from rfl, e2]
  simp [actorV, firstNZ]
theorem rowsGood (l : List Bool) (hl : l.length ≤ 60) (hg : ∀ b, b ≤ l.length → 0 ≤ depU l b ∧ depU l b ≤ 8) : depthsV (hdlP (codeU l)) 0 = (wantU l l.length, 0) ∧ mostV (hdlP (codeU l)) 0 = mostU l l.length := by
  have hc := checkU l hl
  have ho : codeOk (hdlP (codeU l)).hs (codeU l) := codeOk_of hc (x := ⟨0, codeU l⟩) (by simp [hdlP])
  have hw : walkV (hdlP (codeU l)).hs (codeU l) = some (wantU l l.length, mostU l l.length) := by
    rcases walk_good ho with ⟨o, m, h1, h2⟩ | ⟨h1, h2⟩
    · obtain ⟨rfl, rfl⟩ := h2.uniq (goodU _ l hg)
      exact h1
    · exact absurd h2 (goodU _ l hg).not_bad
  have hd : depthsV (hdlP (codeU l)) 0 = (wantU l l.length, 0) := by
    unfold depthsV
    rw [if_neg (by rw [hc]; simp), if_neg (by simp [hdlP])]
    simp only [show (hdlP (codeU l)).hs[(0 : Int).toNat]? = some ⟨0, codeU l⟩ from rfl, hw]
  refine ⟨hd, ?_⟩
  unfold mostV
  rw [hd]
  simp only [show (hdlP (codeU l)).hs[(0 : Int).toNat]? = some ⟨0, codeU l⟩ from rfl, hw]
  simp
theorem rowsBad (l : List Bool) (hl : l.length ≤ 60) (hg : ∀ b, b < l.length → 0 ≤ depU l b ∧ depU l b ≤ 8) (hb : ¬ (0 ≤ depU l l.length ∧ depU l l.length ≤ 8)) : depthsV (hdlP (codeU l)) 0 = ([], 5) ∧ mostV (hdlP (codeU l)) 0 = -1 := by
  have hc := checkU l hl
  have ho : codeOk (hdlP (codeU l)).hs (codeU l) := codeOk_of hc (x := ⟨0, codeU l⟩) (by simp [hdlP])
  have hw : walkV (hdlP (codeU l)).hs (codeU l) = none := by
    rcases walk_good ho with ⟨o, m, h1, h2⟩ | ⟨h1, h2⟩
    · exact absurd (badU _ l hg hb) h2.not_bad
    · exact h1
  have hd : depthsV (hdlP (codeU l)) 0 = ([], 5) := by
    unfold depthsV
    rw [if_neg (by rw [hc]; simp), if_neg (by simp [hdlP])]
    simp only [show (hdlP (codeU l)).hs[(0 : Int).toNat]? = some ⟨0, codeU l⟩ from rfl, hw]
  refine ⟨hd, ?_⟩
  unfold mostV
  rw [hd]
  simp

end Go.Gv
