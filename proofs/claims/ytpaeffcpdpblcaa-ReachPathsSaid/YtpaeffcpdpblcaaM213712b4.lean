/- Texts of this proof, one behind the other. What is proved, and on which conditions, stands ahead of each. -/
import Derived.Test.YtpaeffcpdpblcaaProg
import Derived.Test.YtpaeffcpdpblcaaM19fa75c3
import Derived.Test.YtpaeffcpdpblcaaM2057b5eb

/- Plain laws of what is reached. Conditions: those that each law names. -/
set_option linter.unusedVariables false
set_option linter.unusedSimpArgs false
namespace Go.Gv
open Go.Proofs


/-- What comes of some by what each one sends. -/
inductive Rea (snd : List (List Int)) (l : List Int) : Int → Prop
  | base {x : Int} (h : x ∈ l) : Rea snd l x
  | step {x y : Int} (h : Rea snd l y) (hx : x ∈ sndOf snd y) : Rea snd l x
theorem sndOf_in {snd : List (List Int)} (hs : ∀ s ∈ snd, InN snd.length s) (y : Int) : InN snd.length (sndOf snd y) := by
  intro x hx
  unfold sndOf at hx
  cases h : snd[y.toNat]? with
  | none => rw [h] at hx; simp at hx
  | some s => rw [h] at hx; exact hs s (List.mem_of_getElem? h) x hx
theorem Rea.rng {snd : List (List Int)} (hs : ∀ s ∈ snd, InN snd.length s) {l : List Int} (hl : InN snd.length l) {x : Int} (h : Rea snd l x) : 0 ≤ x ∧ x < snd.length := by
  induction h with
  | base h => exact hl _ h
  | step _ hx _ => exact sndOf_in hs _ _ hx
theorem Rea.trans {snd : List (List Int)} {l m : List Int} (hm : ∀ y ∈ m, Rea snd l y) {x : Int} (h : Rea snd m x) : Rea snd l x := by
  induction h with
  | base h => exact hm _ h
  | step _ hx ih => exact .step ih hx
theorem clGo_spec {snd : List (List Int)} (hs : ∀ s ∈ snd, InN snd.length s) : ∀ (f : Nat) (met l : List Int), mea snd met l = f → InN snd.length l →
    (∀ x ∈ met, x ∈ clGo snd f met l) ∧ (∀ x ∈ l, x ∈ clGo snd f met l) ∧ (∀ x ∈ clGo snd f met l, x ∈ met ∨ Rea snd l x) ∧
    ((∀ y ∈ met, ∀ z ∈ sndOf snd y, z ∈ met ∨ z ∈ l) → ∀ y ∈ clGo snd f met l, ∀ z ∈ sndOf snd y, z ∈ clGo snd f met l) := by
  intro f
  induction f with
  | zero =>
    intro met l hm hl
    have h0 : l = [] := by
      have : l.length = 0 := by unfold mea at hm; omega
      exact List.eq_nil_of_length_eq_zero this
    subst h0
    refine ⟨fun x hx => hx, by simp, fun x hx => .inl hx, fun h y hy z hz => ?_⟩
    rcases h y hy z hz with q | q
    · exact q
    · cases q
  | succ f ih =>
    intro met l hm hl
    cases l with
    | nil =>
      refine ⟨fun x hx => hx, by simp, fun x hx => .inl hx, fun h y hy z hz => ?_⟩
      rcases h y hy z hz with q | q
      · exact q
      · cases q
    | cons h l =>
      obtain ⟨h0, h1⟩ := hl h (by simp)
      have hl2 : InN snd.length l := fun x hx => hl x (by simp [hx])
      by_cases hin : h ∈ met
      · have e : clGo snd (f + 1) met (h :: l) = clGo snd f met l := by simp [clGo, hin]
        have hm2 : mea snd met l = f := by simp [mea] at hm ⊢; omega
        obtain ⟨a1, a2, a3, a4⟩ := ih met l hm2 hl2
        rw [e]
        refine ⟨a1, fun x hx => ?_, fun x hx => ?_, fun hc => a4 (fun y hy z hz => ?_)⟩
        · rcases List.mem_cons.1 hx with q | q
          · rw [q]; exact a1 h hin
          · exact a2 x q
        · rcases a3 x hx with q | q
          · exact .inl q
          · exact .inr (q.trans (fun y hy => .base (by simp [hy])))
        · rcases hc y hy z hz with q | q
          · exact .inl q
          · rcases List.mem_cons.1 q with r | r
            · rw [r]; exact .inl hin
            · exact .inr r
      · have e : clGo snd (f + 1) met (h :: l) = clGo snd f (met ++ [h]) (l ++ sndOf snd h) := by simp [clGo, hin]
        have hlt : h.toNat < snd.length := by omega
        have hs' : sndOf snd h = snd[h.toNat] := by simp [sndOf, hlt]
        have hm2 : mea snd (met ++ [h]) (l ++ sndOf snd h) = f := by
          have := unm_in met h.toNat (by rw [Int.toNat_of_nonneg h0]; exact hin) snd 0 (Nat.zero_le _) (by simpa using hlt)
          rw [Int.toNat_of_nonneg h0] at this
          simp only [Nat.sub_zero] at this
          rw [hs']
          simp only [mea, List.length_append, List.length_cons] at hm ⊢
          omega
        have hl3 : InN snd.length (l ++ sndOf snd h) := by
          intro x hx
          rcases List.mem_append.1 hx with q | q
          · exact hl2 x q
          · exact sndOf_in hs h x q
        obtain ⟨a1, a2, a3, a4⟩ := ih (met ++ [h]) (l ++ sndOf snd h) hm2 hl3
        rw [e]
        refine ⟨fun x hx => a1 x (by simp [hx]), fun x hx => ?_, fun x hx => ?_, fun hc => a4 (fun y hy z hz => ?_)⟩
        · rcases List.mem_cons.1 hx with q | q
          · rw [q]; exact a1 h (by simp)
          · exact a2 x (by simp [q])
        · rcases a3 x hx with q | q
          · rcases List.mem_append.1 q with r | r
            · exact .inl r
            · rw [List.mem_singleton.1 r]; exact .inr (.base (by simp))
          · refine .inr (q.trans (fun y hy => ?_))
            rcases List.mem_append.1 hy with r | r
            · exact .base (by simp [r])
            · exact .step (.base (by simp)) r
        · rcases List.mem_append.1 hy with q | q
          · rcases hc y q z hz with r | r
            · exact .inl (by simp [r])
            · rcases List.mem_cons.1 r with t | t
              · rw [t]; exact .inl (by simp)
              · exact .inr (by simp [t])
          · rw [List.mem_singleton.1 q] at hz
            exact .inr (by simp [hz])
theorem reachV_mem {snd : List (List Int)} (hs : ∀ s ∈ snd, InN snd.length s) {l : List Int} (hl : InN snd.length l) (x : Int) : x ∈ reachV snd l ↔ Rea snd l x := by
  obtain ⟨a1, a2, a3, a4⟩ := clGo_spec hs (mea snd [] l) [] l rfl hl
  have hcl := a4 (by simp)
  refine ⟨fun h => ?_, fun h => ?_⟩
  · rcases a3 x h with q | q
    · cases q
    · exact q
  · induction h with
    | base h => exact a2 _ h
    | step _ hx ih => exact hcl _ ih _ hx
theorem closedV_mem {snd : List (List Int)} (hs : ∀ s ∈ snd, InN snd.length s) {l : List Int} (hl : InN snd.length l) (x : Int) : x ∈ closedV snd l ↔ Rea snd l x := by
  unfold closedV
  rw [List.mem_filter, decide_eq_true_iff, reachV_mem hs hl]
  refine ⟨fun h => h.2, fun h => ⟨?_, h⟩⟩
  obtain ⟨h0, h1⟩ := h.rng hs hl
  exact List.mem_map.2 ⟨x.toNat, List.mem_range.2 (by omega), by omega⟩
theorem range_up (n : Nat) : Up ((List.range n).map fun n : Nat => (n : Int)) := by
  unfold Up
  rw [List.pairwise_map]
  exact List.pairwise_lt_range.imp (by intro a b h; omega)
theorem closedV_up (snd : List (List Int)) (l : List Int) : Up (closedV snd l) := by
  unfold closedV
  exact (range_up _).filter _
theorem atI_in {p : Prg} {n : Int} {l : List (List Int)} {s : List Int} (h : atI l n = s) (hs : s ≠ []) : 0 ≤ n ∧ n.toNat < l.length ∧ l[n.toNat]? = some s := by
  unfold atI at h
  split at h
  · rename_i h0
    cases hq : l[n.toNat]? with
    | none => rw [hq] at h; exact absurd h.symm hs
    | some t => rw [hq] at h; simp at h; subst h; exact ⟨h0, (List.getElem?_eq_some_iff.1 hq).1, rfl⟩
  · exact absurd h.symm hs
/-- What is put together of all that a handler sends. -/
def wantL (rea : List (List Int)) (s : List Int) : List Int := s.foldl (fun w x => putL (put1 w x) (atI rea x)) []
theorem wantL_succ (rea : List (List Int)) (s : List Int) (i : Nat) (h : i < s.length) : wantL rea (s.take (i + 1)) = putL (put1 (wantL rea (s.take i)) s[i]) (atI rea s[i]) := by
  rw [List.take_succ_eq_append_getElem h, wantL, List.foldl_append]; rfl
theorem wantL_spec (rea : List (List Int)) : ∀ (s w : List Int), Up w → Up (s.foldl (fun w x => putL (put1 w x) (atI rea x)) w) ∧ ∀ y, y ∈ s.foldl (fun w x => putL (put1 w x) (atI rea x)) w ↔ y ∈ w ∨ ∃ x ∈ s, y = x ∨ y ∈ atI rea x
  | [], w, hw => ⟨hw, by simp⟩
  | x :: s, w, hw => by
    obtain ⟨a1, a2⟩ := wantL_spec rea s (putL (put1 w x) (atI rea x)) (putL_up (put1_up hw))
    refine ⟨a1, fun y => ?_⟩
    simp only [List.foldl_cons]
    rw [a2 y, putL_mem, put1_mem]
    simp only [List.mem_cons, exists_eq_or_imp]
    constructor
    · rintro (((q | q) | q) | q) <;> simp [q]
    · rintro (q | (q | q) | q) <;> simp [q]
theorem reaV_at (p : Prg) (n : Int) : atI (reaV p) n = if 0 ≤ n ∧ n < p.hs.length then closedV (sndV p) (atI (sndV p) n) else [] := by
  unfold atI
  by_cases h0 : 0 ≤ n
  · by_cases h1 : n < p.hs.length
    · rw [if_pos h0, if_pos ⟨h0, h1⟩, if_pos h0]
      have h2 : n.toNat < (sndV p).length := by rw [sndV_len]; omega
      simp [reaV, h2]
    · rw [if_pos h0, if_neg (fun q => h1 q.2), List.getElem?_eq_none (by rw [reaV_len]; omega)]; rfl
  · rw [if_neg h0, if_neg (fun q => h0 q.1)]
theorem sndV_at (p : Prg) (n : Int) (h : 0 ≤ n ∧ n < p.hs.length) : atI (sndV p) n = sndOf (sndV p) n := by
  unfold atI sndOf; rw [if_pos h.1]
theorem sndV_out (p : Prg) (n : Int) (h : ¬ (0 ≤ n ∧ n < p.hs.length)) : atI (sndV p) n = [] := by
  unfold atI
  split
  · rw [List.getElem?_eq_none (by rw [sndV_len]; omega)]; rfl
  · rfl
/-- What may come of a handler: what it may send, and what may come of that. -/
theorem paths_law {p : Prg} (hp : flowV p = 0) (n : Int) : atI (reaV p) n = wantL (reaV p) (atI (sndV p) n) := by
  have hs := sndV_in hp
  obtain ⟨w1, w2⟩ := wantL_spec (reaV p) (atI (sndV p) n) [] (by simp [Up])
  by_cases h : 0 ≤ n ∧ n < p.hs.length
  · rw [reaV_at, if_pos h]
    refine Up.ext (closedV_up _ _) w1 (fun x => ?_)
    have hin : InN (sndV p).length (atI (sndV p) n) := by rw [sndV_at p n h]; exact sndOf_in hs n
    rw [closedV_mem hs hin, wantL, w2 x]
    simp only [List.not_mem_nil, false_or]
    constructor
    · intro q
      induction q with
      | base q => exact ⟨_, q, .inl rfl⟩
      | @step x y _ hx ih =>
        obtain ⟨z, hz, e | e⟩ := ih
        · subst e
          refine ⟨y, hz, .inr ?_⟩
          have hy := hin y hz
          rw [sndV_len] at hy
          rw [reaV_at, if_pos hy, closedV_mem hs (by rw [sndV_at p y hy]; exact sndOf_in hs y)]
          exact .base (by rw [sndV_at p y hy]; exact hx)
        · refine ⟨z, hz, .inr ?_⟩
          have hy := hin z hz
          rw [sndV_len] at hy
          rw [reaV_at, if_pos hy, closedV_mem hs (by rw [sndV_at p z hy]; exact sndOf_in hs z)] at e ⊢
          exact .step e hx
    · rintro ⟨z, hz, e | e⟩
      · rw [e]; exact .base hz
      · have hy := hin z hz
        rw [sndV_len] at hy
        rw [reaV_at, if_pos hy, closedV_mem hs (by rw [sndV_at p z hy]; exact sndOf_in hs z)] at e
        refine e.trans (fun y hy2 => .step (.base hz) (by rw [← sndV_at p z hy]; exact hy2))
  · rw [reaV_at, if_neg h, sndV_out p n h]; rfl
/-- What is live holds what comes of it. -/
theorem live_closed {p : Prg} (hp : flowV p = 0) {x y : Int} (hx : x ∈ liveP p) (hy : y ∈ atI (reaV p) x) : y ∈ liveP p := by
  have hs := sndV_in hp
  have hl2 := live2_in (flowV_check hp) (sndV_len p).symm (armsV p)
  have hr := closedV_in (sndV p) (live2 p (sndV p) (armsV p)) x hx
  rw [sndV_len] at hr
  unfold liveP liveV at hx ⊢
  rw [closedV_mem hs hl2] at hx ⊢
  rw [reaV_at, if_pos hr, closedV_mem hs (by rw [sndV_at p x hr]; exact sndOf_in hs x)] at hy
  exact hy.trans (fun z hz => .step hx (by rw [← sndV_at p x hr]; exact hz))
theorem live_boot {p : Prg} (hp : flowV p = 0) {n : Nt} (hn : n ∈ p.boot) : n.hd ∈ liveP p := by
  have hs := sndV_in hp
  have hc := flowV_check hp
  have hl2 := live2_in hc (sndV_len p).symm (armsV p)
  have hf : InN (sndV p).length (firstV p) := by rw [sndV_len]; exact first_in hc
  unfold liveP liveV
  rw [closedV_mem hs hl2]
  refine .base ?_
  have : n.hd ∈ closedV (sndV p) (firstV p) := (closedV_mem hs hf _).2 (.base (List.mem_append.2 (.inl (List.mem_map.2 ⟨n, hn, rfl⟩))))
  unfold live2
  split
  · exact List.mem_append.2 (.inl this)
  · exact this

end Go.Gv

/- The law ReachPaths answers true, for all programs. No condition. -/
set_option linter.unusedVariables false
set_option linter.unusedSimpArgs false
namespace Go.Gv
open Go.Proofs

def paths_r0 : List AI := [⟨(some 2), none, (.op (.box 180002 4 (.t 0)))⟩, ⟨(some 4), none, (.op (.mv (.c (.bool false))))⟩]
def paths_r1 : List AI := [⟨(some 18), none, (.op (.load (some 4) (.t 2)))⟩, ⟨(some 19), none, (.call (.c (.fn 7 [])) [(.t 18)])⟩, ⟨(some 20), none, (.op (.not (.t 19)))⟩]
def paths_r2 : List AI := [⟨(some 21), none, (.call (.c (.fn 12 [])) [])⟩, ⟨(some 4), none, (.op (.mv (.t 21)))⟩]
def paths_r3 : List AI := [⟨(some 23), none, (.op (.load (some 4) (.t 2)))⟩, ⟨(some 24), none, (.call (.c (.fn 14 [])) [(.t 23)])⟩, ⟨(some 22), none, (.op (.mv (.t 24)))⟩, ⟨(some 25), none, (.op (.ext (.t 22) 0))⟩, ⟨(some 26), none, (.op (.ext (.t 22) 1))⟩, ⟨(some 5), none, (.op (.mv (.t 25)))⟩, ⟨(some 6), none, (.op (.mv (.t 26)))⟩]
def paths_r4 : List AI := [⟨(some 27), none, (.op (.mv (.t 6)))⟩, ⟨(some 28), none, (.op (.ibin .neq (.t 27) (.c (.int .i64 0))))⟩, ⟨(some 29), none, (.op (.mv (.t 28)))⟩, ⟨(some 30), (some (29, false)), (.op (.mv (.t 5)))⟩, ⟨(some 31), (some (29, false)), (.nq 1 false (.t 30))⟩, ⟨(some 32), none, (.op (.pick (.t 29) (.c (.bool true)) (.t 31)))⟩]
def paths_r5 : List AI := [⟨(some 33), none, (.call (.c (.fn 12 [])) [])⟩, ⟨(some 4), none, (.op (.mv (.t 33)))⟩]
def paths_r6 : List AI := [⟨(some 34), none, (.op (.mv (.t 1)))⟩, ⟨(some 35), none, (.op (.fld 0 (.t 2)))⟩, ⟨(some 36), none, (.op (.load none (.t 35)))⟩, ⟨(some 37), none, (.op (.len (.t 36)))⟩, ⟨(some 38), none, (.op (.ibin .add (.t 37) (.c (.int .i64 1))))⟩, ⟨(some 39), none, (.call (.c (.fn 16 [])) [(.t 34), (.t 38)])⟩, ⟨(some 7), none, (.op (.mv (.t 39)))⟩]
def paths_r7 : List AI := [⟨(some 8), none, (.op (.mv (.c .nils)))⟩]
def paths_r8 : List AI := [⟨(some 40), none, (.op (.mv (.t 5)))⟩, ⟨(some 41), none, (.op (.mv (.t 7)))⟩, ⟨(some 42), none, (.call (.c (.fn 17 [])) [(.t 40), (.t 41)])⟩, ⟨(some 9), none, (.op (.mv (.t 42)))⟩]
def paths_r9 : List AI := [⟨(some 10), none, (.op (.mv (.c (.int .i64 0))))⟩]
def paths_r10 : List AI := [⟨(some 43), none, (.op (.mv (.t 10)))⟩, ⟨(some 44), none, (.op (.mv (.t 9)))⟩, ⟨(some 45), none, (.op (.len (.t 44)))⟩, ⟨(some 46), none, (.op (.ibin .lss (.t 43) (.t 45)))⟩]
def paths_r11 : List AI := [⟨(some 49), none, (.op (.mv (.t 8)))⟩, ⟨(some 50), none, (.op (.mv (.t 9)))⟩, ⟨(some 51), none, (.op (.mv (.t 10)))⟩, ⟨(some 52), none, (.op (.idx 1 (.t 50) (.t 51)))⟩, ⟨(some 53), none, (.op (.load none (.t 52)))⟩, ⟨(some 54), none, (.call (.c (.fn 22 [])) [(.t 49), (.t 53)])⟩, ⟨(some 8), none, (.op (.mv (.t 54)))⟩]
def paths_r12 : List AI := [⟨(some 55), none, (.op (.mv (.t 5)))⟩, ⟨(some 56), none, (.op (.mv (.t 9)))⟩, ⟨(some 57), none, (.op (.mv (.t 10)))⟩, ⟨(some 58), none, (.op (.idx 1 (.t 56) (.t 57)))⟩, ⟨(some 59), none, (.op (.load none (.t 58)))⟩, ⟨(some 60), none, (.call (.c (.fn 18 [])) [(.t 55), (.t 59)])⟩, ⟨(some 11), none, (.op (.mv (.t 60)))⟩]
def paths_r13 : List AI := [⟨(some 12), none, (.op (.mv (.c (.int .i64 0))))⟩]
def paths_r14 : List AI := [⟨(some 61), none, (.op (.mv (.t 12)))⟩, ⟨(some 62), none, (.op (.mv (.t 11)))⟩, ⟨(some 63), none, (.op (.len (.t 62)))⟩, ⟨(some 64), none, (.op (.ibin .lss (.t 61) (.t 63)))⟩]
def paths_r15 : List AI := [⟨(some 67), none, (.op (.mv (.t 8)))⟩, ⟨(some 68), none, (.op (.mv (.t 11)))⟩, ⟨(some 69), none, (.op (.mv (.t 12)))⟩, ⟨(some 70), none, (.op (.idx 1 (.t 68) (.t 69)))⟩, ⟨(some 71), none, (.op (.load none (.t 70)))⟩, ⟨(some 72), none, (.call (.c (.fn 22 [])) [(.t 67), (.t 71)])⟩, ⟨(some 8), none, (.op (.mv (.t 72)))⟩]
def paths_r16 : List AI := [⟨(some 65), none, (.op (.mv (.t 12)))⟩, ⟨(some 66), none, (.op (.ibin .add (.t 65) (.c (.int .i64 1))))⟩, ⟨(some 12), none, (.op (.mv (.t 66)))⟩]
def paths_l0 : AC := (.seq (.seq (.reg paths_r14) (.cond (.t 64) .skip (.exit 2))) (.seq (.block 3 (.reg paths_r15)) (.reg paths_r16)))
def paths_r17 : List AI := [⟨(some 47), none, (.op (.mv (.t 10)))⟩, ⟨(some 48), none, (.op (.ibin .add (.t 47) (.c (.int .i64 1))))⟩, ⟨(some 10), none, (.op (.mv (.t 48)))⟩]
def paths_l1 : AC := (.seq (.seq (.reg paths_r10) (.cond (.t 46) .skip (.exit 0))) (.seq (.block 1 (.seq (.reg paths_r11) (.seq (.reg paths_r12) (.seq (.reg paths_r13) (.block 2 (.loop paths_l0)))))) (.reg paths_r17)))
def paths_r18 : List AI := [⟨(some 73), none, (.op (.mv (.t 5)))⟩, ⟨(some 74), none, (.call (.c (.fn 20 [])) [(.t 73)])⟩, ⟨(some 13), none, (.op (.mv (.t 74)))⟩]
def paths_r19 : List AI := [⟨(some 14), none, (.op (.mv (.c (.int .i64 0))))⟩]
def paths_r20 : List AI := [⟨(some 75), none, (.op (.mv (.t 14)))⟩, ⟨(some 76), none, (.op (.mv (.t 13)))⟩, ⟨(some 77), none, (.op (.len (.t 76)))⟩, ⟨(some 78), none, (.op (.ibin .lss (.t 75) (.t 77)))⟩]
def paths_r21 : List AI := [⟨(some 81), none, (.op (.mv (.t 5)))⟩, ⟨(some 82), none, (.op (.mv (.t 13)))⟩, ⟨(some 83), none, (.op (.mv (.t 14)))⟩, ⟨(some 84), none, (.op (.idx 1 (.t 82) (.t 83)))⟩, ⟨(some 85), none, (.op (.load none (.t 84)))⟩, ⟨(some 86), none, (.call (.c (.fn 18 [])) [(.t 81), (.t 85)])⟩, ⟨(some 15), none, (.op (.mv (.t 86)))⟩]
def paths_r22 : List AI := [⟨(some 16), none, (.op (.mv (.c (.int .i64 0))))⟩]
def paths_r23 : List AI := [⟨(some 87), none, (.op (.mv (.t 16)))⟩, ⟨(some 88), none, (.op (.mv (.t 15)))⟩, ⟨(some 89), none, (.op (.len (.t 88)))⟩, ⟨(some 90), none, (.op (.ibin .lss (.t 87) (.t 89)))⟩]
def paths_r24 : List AI := [⟨(some 93), none, (.op (.mv (.t 13)))⟩, ⟨(some 94), none, (.op (.mv (.t 15)))⟩, ⟨(some 95), none, (.op (.mv (.t 16)))⟩, ⟨(some 96), none, (.op (.mv (.t 16)))⟩, ⟨(some 97), none, (.op (.ibin .add (.t 96) (.c (.int .i64 1))))⟩, ⟨(some 98), none, (.op (.slice (some 1) (.t 94) (some (.t 95)) (some (.t 97))))⟩, ⟨(some 99), none, (.call (.c (.fn 23 [])) [(.t 93), (.t 98)])⟩, ⟨(some 100), none, (.op (.not (.t 99)))⟩]
def paths_r25 : List AI := [⟨(some 4), none, (.op (.mv (.c (.bool false))))⟩]
def paths_r26 : List AI := [⟨(some 91), none, (.op (.mv (.t 16)))⟩, ⟨(some 92), none, (.op (.ibin .add (.t 91) (.c (.int .i64 1))))⟩, ⟨(some 16), none, (.op (.mv (.t 92)))⟩]
def paths_l2 : AC := (.seq (.seq (.reg paths_r23) (.cond (.t 90) .skip (.exit 6))) (.seq (.block 7 (.seq (.reg paths_r24) (.cond (.t 100) (.seq (.reg paths_r25) .ret) .skip))) (.reg paths_r26)))
def paths_r27 : List AI := [⟨(some 79), none, (.op (.mv (.t 14)))⟩, ⟨(some 80), none, (.op (.ibin .add (.t 79) (.c (.int .i64 1))))⟩, ⟨(some 14), none, (.op (.mv (.t 80)))⟩]
def paths_l3 : AC := (.seq (.seq (.reg paths_r20) (.cond (.t 78) .skip (.exit 4))) (.seq (.block 5 (.seq (.reg paths_r21) (.seq (.reg paths_r22) (.block 6 (.loop paths_l2))))) (.reg paths_r27)))
def paths_r28 : List AI := [⟨(some 17), none, (.op (.mv (.c (.int .i64 0))))⟩]
def paths_r29 : List AI := [⟨(some 101), none, (.op (.mv (.t 17)))⟩, ⟨(some 102), none, (.op (.fld 2 (.t 2)))⟩, ⟨(some 103), none, (.op (.load none (.t 102)))⟩, ⟨(some 104), none, (.op (.len (.t 103)))⟩, ⟨(some 105), none, (.op (.ibin .lss (.t 101) (.t 104)))⟩]
def paths_r30 : List AI := [⟨(some 108), none, (.op (.mv (.t 13)))⟩, ⟨(some 109), none, (.op (.fld 2 (.t 2)))⟩, ⟨(some 110), none, (.op (.load none (.t 109)))⟩, ⟨(some 111), none, (.op (.mv (.t 17)))⟩, ⟨(some 112), none, (.op (.idx 3 (.t 110) (.t 111)))⟩, ⟨(some 113), none, (.op (.fld 1 (.t 112)))⟩, ⟨(some 114), none, (.op (.load none (.t 113)))⟩, ⟨(some 115), none, (.op (.bsl 180115 1 3 1 (.int .i64 0) [(0, (.t 114))]))⟩, ⟨(some 116), none, (.call (.c (.fn 23 [])) [(.t 108), (.t 115)])⟩, ⟨(some 117), none, (.op (.not (.t 116)))⟩]
def paths_r31 : List AI := [⟨(some 4), none, (.op (.mv (.c (.bool false))))⟩]
def paths_r32 : List AI := [⟨(some 106), none, (.op (.mv (.t 17)))⟩, ⟨(some 107), none, (.op (.ibin .add (.t 106) (.c (.int .i64 1))))⟩, ⟨(some 17), none, (.op (.mv (.t 107)))⟩]
def paths_l4 : AC := (.seq (.seq (.reg paths_r29) (.cond (.t 105) .skip (.exit 8))) (.seq (.block 9 (.seq (.reg paths_r30) (.cond (.t 117) (.seq (.reg paths_r31) .ret) .skip))) (.reg paths_r32)))
def paths_r33 : List AI := [⟨(some 118), none, (.op (.mv (.t 5)))⟩, ⟨(some 119), none, (.op (.mv (.t 7)))⟩, ⟨(some 120), none, (.call (.c (.fn 18 [])) [(.t 118), (.t 119)])⟩, ⟨(some 121), none, (.op (.mv (.t 8)))⟩, ⟨(some 122), none, (.call (.c (.fn 19 [])) [(.t 120), (.t 121)])⟩, ⟨(some 123), none, (.op (.mv (.t 122)))⟩, ⟨(some 124), (some (123, true)), (.call (.c (.fn 12 [])) [])⟩, ⟨(some 125), none, (.op (.pick (.t 123) (.t 124) (.c (.bool false))))⟩, ⟨(some 4), none, (.op (.mv (.t 125)))⟩]
def paths_c : AC := (.seq (.reg paths_r0) (.seq (.seq (.reg paths_r1) (.cond (.t 20) (.seq (.reg paths_r2) .ret) .skip)) (.seq (.reg paths_r3) (.seq (.seq (.reg paths_r4) (.cond (.t 32) (.seq (.reg paths_r5) .ret) .skip)) (.seq (.reg paths_r6) (.seq (.reg paths_r7) (.seq (.reg paths_r8) (.seq (.seq (.reg paths_r9) (.block 0 (.loop paths_l1))) (.seq (.reg paths_r18) (.seq (.seq (.reg paths_r19) (.block 4 (.loop paths_l3))) (.seq (.seq (.reg paths_r28) (.block 8 (.loop paths_l4))) (.seq (.reg paths_r33) .ret))))))))))))
def paths_res : List ARes := [(.tmp 4)]
set_option maxRecDepth 100000 in
theorem paths_get : getF Try.prog 6 180000 [] = some ("gavotte/gavottelaw20.ReachPaths", 126, paths_c, paths_res) := by kernel_rfl
attribute [simp] paths_r0 paths_r1 paths_r2 paths_r3 paths_r4 paths_r5 paths_r6 paths_r7 paths_r8 paths_r9 paths_r10 paths_r11 paths_r12 paths_r13 paths_r14 paths_r15 paths_r16 paths_r17 paths_r18 paths_r19 paths_r20 paths_r21 paths_r22 paths_r23 paths_r24 paths_r25 paths_r26 paths_r27 paths_r28 paths_r29 paths_r30 paths_r31 paths_r32 paths_r33 paths_res


structure PSt (st : Nat) (p : Prg) (k : Int) (S : St) : Prop where
  t2 : ∃ s2, S.t 2 = .ptr 180002 s2 4 0 0 ∧ S.blk 180002 = some ⟨s2, 4, [p.av]⟩
  pl : PlanM 170013 st p S
  t5 : S.t 5 = .ptr 170013 st 12 0 0
  t7 : S.t 7 = iv k
def IsW (v : AV) (w : List Int) : Prop := v = ints w ∨ (v = .nils ∧ w = [])
theorem IsW.co {v : AV} {w : List Int} (h : IsW v w) : co1 none v (ints w) := by
  rcases h with rfl | ⟨rfl, rfl⟩ <;> simp [ints]
theorem IsW.cells {v : AV} {w : List Int} (h : IsW v w) : v.one = true := by
  rcases h with rfl | ⟨rfl, rfl⟩ <;> simp [ints]
theorem IsW.co0 {v : AV} {w : List Int} (h : IsW v w) : Go.Gv.co none v (ints w) := by
  rcases h with rfl | ⟨rfl, rfl⟩ <;> simp [ints]
theorem putL_len : ∀ (m l : List Int), (putL l m).length ≤ l.length + m.length
  | [], l => by simp [putL]
  | x :: m, l => by
    have ih := putL_len m (put1 l x)
    have h1 : ∀ l : List Int, (put1 l x).length ≤ l.length + 1 := by
      intro l
      induction l with
      | nil => simp [put1]
      | cons y l ih =>
        simp only [put1]
        split
        · simp; omega
        · split <;> simp
    have := h1 l
    simp only [putL, List.foldl_cons, List.length_cons] at ih ⊢
    omega
theorem put1_len (l : List Int) (x : Int) : (put1 l x).length ≤ l.length + 1 := putL_len [x] l
theorem atI_bound {l : List (List Int)} {b : Nat} (h : ∀ s ∈ l, s.length ≤ b) (n : Int) : (atI l n).length ≤ b := by
  unfold atI
  split
  · cases hq : l[n.toNat]? with
    | none => simp
    | some s => exact h s (List.mem_of_getElem? hq)
  · simp
theorem wantL_len {rea : List (List Int)} {b : Nat} (h : ∀ s ∈ rea, s.length ≤ b) (s : List Int) (i : Nat) : (wantL rea (s.take i)).length ≤ i * (b + 1) := by
  induction i with
  | zero => simp [wantL]
  | succ i ih =>
    by_cases hi : i < s.length
    · rw [wantL_succ rea s i hi]
      have h1 := putL_len (atI rea s[i]) (put1 (wantL rea (s.take i)) s[i])
      have h2 := put1_len (wantL rea (s.take i)) s[i]
      have h3 := atI_bound h s[i]
      have : (i + 1) * (b + 1) = i * (b + 1) + b + 1 := by rw [Nat.add_mul]; omega
      omega
    · have e : s.take (i + 1) = s.take i := by rw [List.take_of_length_le (by omega), List.take_of_length_le (by omega)]
      rw [e]
      refine Nat.le_trans ih (Nat.mul_le_mul_right _ (by omega))
-- The inner loop of the first: what is reached from one.
theorem paths_in0 (st : Nat) (p : Prg) (k : Int) (s r w0 : List Int) (i : Nat) (hr : r.length ≤ 1000) (hw0 : w0.length ≤ 50000) {κ : Ex → St → Prop}
    (hκ : ∀ S, PSt st p k S → S.t 9 = ints s → S.t 10 = iv i → IsW (S.t 8) (putL w0 r) → κ (.exit 2) S) (S : St)
    (h : PSt st p k S) (h9 : S.t 9 = ints s) (h10 : S.t 10 = iv i) (h11 : S.t 11 = ints r) (h12 : S.t 12 = iv 0) (h8 : IsW (S.t 8) w0) : LoopG Try.prog paths_l0 κ S .mk := by
  refine loopN (fun j S => PSt st p k S ∧ S.t 9 = ints s ∧ S.t 10 = iv i ∧ S.t 11 = ints r ∧ S.t 12 = iv j ∧ IsW (S.t 8) (putL w0 (r.take j))) r.length ⟨h, h9, h10, h11, by simpa using h12, by simpa [putL] using h8⟩ ?_
  clear h h9 h10 h11 h12 h8 S
  rintro j S hj ⟨⟨⟨s2, t2, b2⟩, pl, t5, t7⟩, h9, h10, h11, h12, h8⟩
  by_cases hlt : j < r.length
  · have hw := wrap_succ j _ hlt (by omega)
    have hl := putL_len (r.take j) w0
    have hl2 : (r.take j).length ≤ j := by simp; omega
    have hst : putL w0 (r.take (j + 1)) = put1 (putL w0 (r.take j)) r[j] := by
      rw [List.take_succ_eq_append_getElem hlt, putL_append]; rfl
    rw [hst]
    generalize putL w0 (r.take j) = w at *
    simp [paths_l0, h11, h12, ints, hlt]
    refine call (put1_pc w r[j] (by omega)) (by simp [h8.co0]) ?_
    simp [h12, hw, hlt]
    exact ⟨⟨⟨s2, by simp [t2], by simp [b2]⟩, pl, by simp [t5], by simp [t7]⟩, by simp [h9, ints], by simp [h10], by simp [h11, ints], .inl rfl⟩
  · have e1 : j = r.length := by omega
    subst e1
    rw [List.take_length] at h8
    simp [paths_l0, h11, h12, ints]
    exact hκ _ ⟨⟨s2, by simp [t2], by simp [b2]⟩, pl, by simp [t5], by simp [t7]⟩ (by simp [h9]) (by simp [h10]) (by simpa using h8)
theorem paths_in1 (st : Nat) (p : Prg) (hp : flowV p = 0) (k : Int) (s : List Int) (hs : s.length ≤ 100) {κ : Ex → St → Prop}
    (hκ : ∀ S, PSt st p k S → IsW (S.t 8) (wantL (reaV p) s) → κ (.exit 0) S) (S : St)
    (h : PSt st p k S) (h9 : S.t 9 = ints s) (h10 : S.t 10 = iv 0) (h8 : S.t 8 = .nils) : LoopG Try.prog paths_l1 κ S .mk := by
  refine loopN (fun i S => PSt st p k S ∧ S.t 9 = ints s ∧ S.t 10 = iv i ∧ IsW (S.t 8) (wantL (reaV p) (s.take i))) s.length ⟨h, h9, by simpa using h10, .inr ⟨h8, by simp [wantL]⟩⟩ ?_
  clear h h9 h10 h8 S
  rintro i S hi ⟨⟨⟨s2, t2, b2⟩, pl, t5, t7⟩, h9, h10, h8⟩
  have hrb := reaV_bound hp
  by_cases hlt : i < s.length
  · have hw := wrap_succ i _ hlt (by omega)
    have hl := wantL_len hrb s i
    have hst := wantL_succ (reaV p) s i hlt
    have hlb := atI_bound hrb s[i]
    rw [hst]
    generalize wantL (reaV p) (s.take i) = w at *
    have hwl : w.length ≤ 2000 := by
      have : i * (16 + 1) ≤ 100 * 17 := by have := Nat.mul_le_mul_right 17 (show i ≤ 100 by omega); omega
      omega
    have hpl := put1_len w s[i]
    simp [paths_l1, h9, h10, ints, hlt]
    refine call (put1_pc w s[i] (by omega)) (by simp [h8.co0]) ?_
    simp [t5, h9, h10, ints, hlt]
    refine preaches_v 170013 st (by decide) p hp s[i] (.inr pl) (fun S1 hP hF ht he => ?_)
    obtain ⟨e1, e2⟩ := he pl
    simp [ht]
    refine paths_in0 st p k s (atI (reaV p) s[i]) (put1 w s[i]) i (by omega) (by omega) ?_ _ ⟨⟨s2, by simp [t2], by simp [e1, b2]⟩, hP, by simp [t5], by simp [t7]⟩ (by simp [h9]) (by simp [h10]) (by simp) (by simp) (.inl (by simp))
    rintro S2 hS h9 h10 h8
    simp [h10, hw, hlt]
    obtain ⟨⟨s2', t2', b2'⟩, pl', t5', t7'⟩ := hS
    exact ⟨⟨⟨s2', by simp [t2'], by simp [b2']⟩, pl', by simp [t5'], by simp [t7']⟩, by simp [h9], by simpa using h8⟩
  · have e1 : i = s.length := by omega
    subst e1
    rw [List.take_length] at h8
    simp [paths_l1, h9, h10, ints]
    exact hκ _ ⟨⟨s2, by simp [t2], by simp [b2]⟩, pl, by simp [t5], by simp [t7]⟩ (by simpa using h8)
theorem meetsV_one {l : List Int} {x : Int} (h : x ∈ l) : meetsV l [x] = true := List.any_eq_true.2 ⟨x, h, by simp⟩
theorem paths_in2 (st : Nat) (p : Prg) (k : Int) (l r W : List Int) (i : Nat) (hl : l.length ≤ 1000) (hr : r.length ≤ 1000) (hin : ∀ x ∈ r, x ∈ l) {κ : Ex → St → Prop}
    (hκ : ∀ S, PSt st p k S → S.t 13 = ints l → S.t 14 = iv i → IsW (S.t 8) W → κ (.exit 6) S) (S : St)
    (h : PSt st p k S) (h13 : S.t 13 = ints l) (h14 : S.t 14 = iv i) (h15 : S.t 15 = ints r) (h16 : S.t 16 = iv 0) (h8 : IsW (S.t 8) W) : LoopG Try.prog paths_l2 κ S .mk := by
  refine loopN (fun j S => PSt st p k S ∧ S.t 13 = ints l ∧ S.t 14 = iv i ∧ S.t 15 = ints r ∧ S.t 16 = iv j ∧ IsW (S.t 8) W) r.length ⟨h, h13, h14, h15, by simpa using h16, h8⟩ ?_
  clear h h13 h14 h15 h16 h8 S
  rintro j S hj ⟨⟨⟨s2, t2, b2⟩, pl, t5, t7⟩, h13, h14, h15, h16, h8⟩
  by_cases hlt : j < r.length
  · have hw := wrap_succ j _ hlt (by omega)
    have hsl : List.drop j (List.take (j + 1) (r.map iv)) = [iv r[j]] := by
      rw [List.take_succ_eq_append_getElem (by simpa using hlt), List.drop_append_of_le_length (by simp; omega), List.drop_of_length_le (by simp; omega)]
      simp
    have h0j : (0 : Int) ≤ (j : Int) + 1 := by omega
    simp [paths_l2, h13, h15, h16, ints, hlt, hw, hsl, h0j, show j + 1 ≤ r.length by omega]
    refine call (meets_pc l [r[j]] (by omega) (by simp)) (by simp [ints]) ?_
    rw [meetsV_one (hin _ (List.getElem_mem hlt))]
    simp [h16, hw, hlt]
    exact ⟨⟨⟨s2, by simp [t2], by simp [b2]⟩, pl, by simp [t5], by simp [t7]⟩, by simp [h13, ints], by simp [h14], by simp [h15, ints], by simpa using h8⟩
  · have e1 : j = r.length := by omega
    subst e1
    simp [paths_l2, h15, h16, ints]
    exact hκ _ ⟨⟨s2, by simp [t2], by simp [b2]⟩, pl, by simp [t5], by simp [t7]⟩ (by simp [h13]) (by simp [h14]) (by simpa using h8)
theorem paths_in3 (st : Nat) (p : Prg) (hp : flowV p = 0) (k : Int) (W : List Int) {κ : Ex → St → Prop}
    (hκ : ∀ S, PSt st p k S → S.t 13 = ints (liveP p) → IsW (S.t 8) W → κ (.exit 4) S) (S : St)
    (h : PSt st p k S) (h13 : S.t 13 = ints (liveP p)) (h14 : S.t 14 = iv 0) (h8 : IsW (S.t 8) W) : LoopG Try.prog paths_l3 κ S .mk := by
  obtain ⟨c1, _⟩ := checkV_zero (flowV_check hp)
  have hll := liveP_len p
  refine loopN (fun i S => PSt st p k S ∧ S.t 13 = ints (liveP p) ∧ S.t 14 = iv i ∧ IsW (S.t 8) W) (liveP p).length ⟨h, h13, by simpa using h14, h8⟩ ?_
  clear h h13 h14 h8 S
  rintro i S hi ⟨⟨⟨s2, t2, b2⟩, pl, t5, t7⟩, h13, h14, h8⟩
  have hrb := reaV_bound hp
  by_cases hlt : i < (liveP p).length
  · have hw := wrap_succ i _ hlt (by omega)
    have hlb := atI_bound hrb (liveP p)[i]
    have hcl : ∀ x ∈ atI (reaV p) (liveP p)[i], x ∈ liveP p := fun x hx => live_closed hp (List.getElem_mem hlt) hx
    generalize hl : liveP p = l at *
    simp [paths_l3, h13, h14, ints, hlt, t5]
    refine preaches_v 170013 st (by decide) p hp l[i] (.inr pl) (fun S1 hP hF ht he => ?_)
    obtain ⟨e1, e2⟩ := he pl
    simp [ht]
    refine paths_in2 st p k l (atI (reaV p) l[i]) W i (by omega) (by omega) hcl ?_ _ ⟨⟨s2, by simp [t2], by simp [e1, b2]⟩, hP, by simp [t5], by simp [t7]⟩ (by simp [h13, ints]) (by simp [h14]) (by simp) (by simp) (by simpa using h8)
    rintro S2 hS h13 h14 h8
    simp [h14, hw, hlt]
    obtain ⟨⟨s2', t2', b2'⟩, pl', t5', t7'⟩ := hS
    exact ⟨⟨⟨s2', by simp [t2'], by simp [b2']⟩, pl', by simp [t5'], by simp [t7']⟩, by simp [h13, ints], by simpa using h8⟩
  · have e1 : i = (liveP p).length := by omega
    subst e1
    simp [paths_l3, h13, h14, ints]
    exact hκ _ ⟨⟨s2, by simp [t2], by simp [b2]⟩, pl, by simp [t5], by simp [t7]⟩ (by simp [h13, ints]) (by simpa using h8)
theorem paths_in4 (st : Nat) (p : Prg) (hp : flowV p = 0) (k : Int) (W : List Int) {κ : Ex → St → Prop}
    (hκ : ∀ S, PSt st p k S → IsW (S.t 8) W → κ (.exit 8) S) (S : St)
    (h : PSt st p k S) (h13 : S.t 13 = ints (liveP p)) (h17 : S.t 17 = iv 0) (h8 : IsW (S.t 8) W) : LoopG Try.prog paths_l4 κ S .mk := by
  obtain ⟨c1, c2, c3, _⟩ := checkV_zero (flowV_check hp)
  have hll := liveP_len p
  refine loopN (fun i S => PSt st p k S ∧ S.t 13 = ints (liveP p) ∧ S.t 17 = iv i ∧ IsW (S.t 8) W) p.boot.length ⟨h, h13, by simpa using h17, h8⟩ ?_
  clear h h13 h17 h8 S
  rintro i S hi ⟨⟨⟨s2, t2, b2⟩, pl, t5, t7⟩, h13, h17, h8⟩
  by_cases hlt : i < p.boot.length
  · have hw := wrap_succ i _ hlt (by omega)
    have hb := live_boot hp (List.getElem_mem hlt)
    generalize hl : liveP p = l at *
    simp [paths_l4, h13, h17, t2, b2, ints, hlt]
    refine call (meets_pc l [p.boot[i].hd] (by omega) (by simp)) (by simp [ints]) ?_
    rw [meetsV_one hb]
    simp [h17, hw, hlt]
    exact ⟨⟨⟨s2, by simp [t2], by simp [b2]⟩, pl, by simp [t5], by simp [t7]⟩, by simp [h13, ints], by simpa using h8⟩
  · have e1 : i = p.boot.length := by omega
    subst e1
    simp [paths_l4, h17, t2, b2]
    exact hκ _ ⟨⟨s2, by simp [t2], by simp [b2]⟩, pl, by simp [t5], by simp [t7]⟩ (by simpa using h8)
theorem reachPaths_pc (p : Prg) (h : Int) : PC Try.prog 6 [p.av, iv h] (.bool true) := by
  refine pc_of_get paths_get (by simp) _ (by simp) _ ?_
  unfold paths_c
  simp
  refine call (small_pc p) (by simp) ?_
  simp
  refine split (fun h1 => ?_) (fun h1 => ?_) <;> simp [h1]
  rotate_left
  · refine awake20_v (fun S ht hc => ?_)
    simp [ht]
  · refine pnew_v p (fun hf S st hP hB hK ht hc => ?_) (fun hf S hB hK ht hc => ?_)
    rotate_left
    · simp [ht, hf]
      refine awake20_v (fun S ht hc => ?_)
      simp [ht]
    · have hb2 := hB 180002 (by simp) (by simp)
      obtain ⟨q1, _⟩ := h1
      have hb2 : S.blk 180002 = some ⟨0, 4, [p.av]⟩ := by rw [hb2]; simp
      simp [ht, hb2]
      clear hB hK hc
      have hkw : IntKind.i64.wrap ((p.hs.length : Int) + 1) = ((p.hs.length + 1 : Nat) : Int) := by rw [wrap_in _ (by omega) (by omega)]; omega
      rw [hkw]
      refine call (rndg_pc h ((p.hs.length + 1 : Nat) : Int) (by omega)) (by simp) ?_
      obtain ⟨k, hk1, hk2⟩ := rndg_cases h ((p.hs.length + 1 : Nat) : Int) (by omega)
      rw [hk2]
      simp [ht]
      refine psends_v 170013 st (by decide) p hf k (.inl hP) (fun S1 hP1 hF1 ht1 _ => ?_)
      have hb3 : S1.blk 180002 = some ⟨0, 4, [p.av]⟩ := by rw [hF1.b 180002 (by decide)]; exact hb2
      have hrb := reaV_bound hf
      have hsb := atI_bound (sndV_bound hf) k
      simp [ht1]
      refine paths_in1 st p hf k (atI (sndV p) k) (by omega) ?_ _ ⟨⟨0, by simp [ht1, ht], by simp [hb3]⟩, hP1, by simp [ht1, ht], by simp [ht1, ht]⟩ (by simp) (by simp) (by simp [ht1, ht])
      rintro S ⟨⟨s2, t2, b2⟩, pl, t5, t7⟩ h8
      rw [← paths_law hf k] at h8
      simp [t5]
      refine plive_v 170013 st (by decide) p hf (.inr pl) (fun S1 hP1 hF1 ht1 he => ?_)
      obtain ⟨e1, _⟩ := he pl
      simp [ht1]
      refine paths_in3 st p hf k (atI (reaV p) k) ?_ _ ⟨⟨s2, by simp [t2], by simp [e1, b2]⟩, hP1, by simp [t5], by simp [t7]⟩ (by simp) (by simp) (by simpa using h8)
      rintro S hS h13 h8
      simp
      obtain ⟨⟨s2, t2, b2⟩, pl, t5, t7⟩ := hS
      refine paths_in4 st p hf k (atI (reaV p) k) ?_ _ ⟨⟨s2, by simp [t2], by simp [b2]⟩, pl, by simp [t5], by simp [t7]⟩ (by simp [h13]) (by simp) (by simpa using h8)
      rintro S ⟨⟨s2, t2, b2⟩, pl, t5, t7⟩ h8
      simp [t5, t7]
      refine preaches_v 170013 st (by decide) p hf k (.inr pl) (fun S1 hP1 hF1 ht1 _ => ?_)
      have hlk := atI_bound hrb k
      simp [ht1]
      refine call (aints_pc (atI (reaV p) k) (atI (reaV p) k) (by omega)) (by simp [h8.co0]) ?_
      simp
      refine awake20_v (fun S2 ht2 _ => ?_)
      simp [ht2]

end Go.Gv
