/- Texts of this proof, one behind the other. What is proved, and on which conditions, stands ahead of each. -/
import Derived.Test.YtpaeffcpdpblcaaGreatProg
import Derived.Test.YtpaeffcpdpblcaaGreatM15b83bb5
import Derived.Test.YtpaeffcpdpblcaaGreatM14be5a71
import Derived.Test.YtpaeffcpdpblcaaGreatM103f5580

/- What a plan's closed answers: the handlers that are reached. Conditions: those that each law names. -/
set_option linter.unusedVariables false
set_option linter.unusedSimpArgs false
namespace Go.Gv
open Go.Proofs

def closed_r0 : List AI := [⟨(some 4), none, (.op (.mv (.c .nils)))⟩]
def closed_r1 : List AI := [⟨(some 9), none, (.op (.mkm 132009))⟩, ⟨(some 5), none, (.op (.mv (.t 9)))⟩]
def closed_r2 : List AI := [⟨(some 10), none, (.op (.mv (.t 1)))⟩, ⟨(some 11), none, (.op (.len (.t 10)))⟩, ⟨(some 12), none, (.op (.ibin .gtr (.t 11) (.c (.int .i64 0))))⟩]
def closed_r3 : List AI := [⟨(some 13), none, (.op (.mv (.t 1)))⟩, ⟨(some 14), none, (.op (.idx 1 (.t 13) (.c (.int .i64 0))))⟩, ⟨(some 15), none, (.op (.load none (.t 14)))⟩, ⟨(some 6), none, (.op (.mv (.t 15)))⟩]
def closed_r4 : List AI := [⟨(some 16), none, (.op (.mv (.t 1)))⟩, ⟨(some 17), none, (.op (.slice (some 1) (.t 16) (some (.c (.int .i64 1))) none))⟩, ⟨(some 1), none, (.op (.mv (.t 17)))⟩]
def closed_r5 : List AI := [⟨(some 18), none, (.op (.mv (.t 5)))⟩, ⟨(some 19), none, (.op (.mv (.t 6)))⟩, ⟨(some 20), none, (.op (.mget .i64 (.bool false) (.t 18) (.t 19)))⟩, ⟨(some 21), none, (.op (.not (.t 20)))⟩]
def closed_r6 : List AI := [⟨(some 22), none, (.op (.mv (.t 5)))⟩, ⟨(some 23), none, (.op (.mv (.t 6)))⟩, ⟨none, none, (.op (.mput (.t 22) (.t 23) (.c (.bool true))))⟩]
def closed_r7 : List AI := [⟨(some 24), none, (.op (.mv (.t 1)))⟩, ⟨(some 25), none, (.op (.mv (.t 0)))⟩, ⟨(some 26), none, (.op (.nilck (.t 25)))⟩, ⟨(some 27), none, (.op (.fld 8 (.t 26)))⟩, ⟨(some 28), none, (.op (.load none (.t 27)))⟩, ⟨(some 29), none, (.op (.mv (.t 6)))⟩, ⟨(some 30), none, (.op (.idx 1 (.t 28) (.t 29)))⟩, ⟨(some 31), none, (.op (.load none (.t 30)))⟩, ⟨(some 32), none, (.op (.bsl 132032 1 35 2 .nils [(0, (.t 24)), (1, (.t 31))]))⟩, ⟨(some 33), none, (.call (.c (.fn 80 [])) [(.t 32)])⟩, ⟨(some 1), none, (.op (.mv (.t 33)))⟩]
def closed_l0 : AC := (.seq (.seq (.reg closed_r2) (.cond (.t 12) .skip (.exit 0))) (.block 1 (.seq (.reg closed_r3) (.seq (.reg closed_r4) (.seq (.reg closed_r5) (.cond (.t 21) (.seq (.reg closed_r6) (.reg closed_r7)) .skip))))))
def closed_r8 : List AI := [⟨(some 7), none, (.op (.mv (.c .nils)))⟩]
def closed_r9 : List AI := [⟨(some 34), none, (.op (.mv (.t 0)))⟩, ⟨(some 35), none, (.op (.nilck (.t 34)))⟩, ⟨(some 36), none, (.op (.fld 0 (.t 35)))⟩, ⟨(some 37), none, (.op (.fld 0 (.t 36)))⟩, ⟨(some 38), none, (.op (.load none (.t 37)))⟩, ⟨(some 39), none, (.op (.len (.t 38)))⟩, ⟨(some 40), none, (.op (.mv (.c (.int .i64 0))))⟩]
def closed_r10 : List AI := [⟨(some 41), none, (.op (.ibin .lss (.t 40) (.t 39)))⟩]
def closed_r11 : List AI := [⟨(some 42), none, (.op (.mv (.t 40)))⟩, ⟨(some 8), none, (.op (.mv (.t 42)))⟩]
def closed_r12 : List AI := [⟨(some 43), none, (.op (.mv (.t 5)))⟩, ⟨(some 44), none, (.op (.mv (.t 8)))⟩, ⟨(some 45), none, (.op (.mget .i64 (.bool false) (.t 43) (.t 44)))⟩]
def closed_r13 : List AI := [⟨(some 46), none, (.op (.mv (.t 7)))⟩, ⟨(some 47), none, (.op (.mv (.t 8)))⟩, ⟨(some 48), none, (.op (.bsl 132048 1 3 1 (.int .i64 0) [(0, (.t 47))]))⟩, ⟨(some 49), none, (.op (.app 132049 1 3 8 (.t 46) (.t 48)))⟩, ⟨(some 7), none, (.op (.mv (.t 49)))⟩]
def closed_r14 : List AI := [⟨(some 50), none, (.op (.ibin .add (.t 40) (.c (.int .i64 1))))⟩, ⟨(some 40), none, (.op (.mv (.t 50)))⟩]
def closed_l1 : AC := (.seq (.reg closed_r10) (.seq (.cond (.t 41) .skip (.exit 2)) (.seq (.block 3 (.seq (.reg closed_r11) (.seq (.reg closed_r12) (.cond (.t 45) (.reg closed_r13) .skip)))) (.reg closed_r14))))
def closed_r15 : List AI := [⟨(some 51), none, (.op (.mv (.t 7)))⟩, ⟨(some 4), none, (.op (.mv (.t 51)))⟩]
def closed_c : AC := (.seq (.reg closed_r0) (.seq (.reg closed_r1) (.seq (.block 0 (.loop closed_l0)) (.seq (.reg closed_r8) (.seq (.seq (.reg closed_r9) (.block 2 (.loop closed_l1))) (.seq (.reg closed_r15) .ret))))))
def closed_res : List ARes := [(.tmp 4)]
set_option maxRecDepth 100000 in
theorem closed_get : getF Tryz.prog 63 132000 [] = some ("(*gavotte/reach.Plan).closed", 52, closed_c, closed_res) := by kernel_rfl
attribute [simp] closed_r0 closed_r1 closed_r2 closed_r3 closed_r4 closed_r5 closed_r6 closed_r7 closed_r8 closed_r9 closed_r10 closed_r11 closed_r12 closed_r13 closed_r14 closed_r15 closed_res


def LstV (v : AV) (xs : List AV) : Prop := v = .lst 1 xs ∨ (∃ nm st, v = .acc nm st 1 xs) ∨ (v = .nils ∧ xs = [])
theorem LstV.idx {v : AV} {snd : List (List Int)} (h : LstV v (snd.map ints)) (blk : Nat → Option Blk) (i : Nat) (hi : i < snd.length) : idxA blk 1 v i = some (.kp [ints snd[i]] 0) := by
  rcases h with rfl | ⟨nm, st, rfl⟩ | ⟨rfl, h⟩
  · simp [hi, ints]
  · simp [hi, ints]
  · have : snd = [] := by simpa using h
    subst this; simp at hi
-- The search: what is met, what is left.
def sndOf (snd : List (List Int)) (h : Int) : List Int := (snd[h.toNat]?).getD []
def clGo (snd : List (List Int)) : Nat → List Int → List Int → List Int
  | 0, met, _ => met
  | f + 1, met, l => match l with
    | [] => met
    | h :: l => if h ∈ met then clGo snd f met l else clGo snd f (met ++ [h]) (l ++ sndOf snd h)
def unm (met : List Int) : Nat → List (List Int) → Nat
  | _, [] => 0
  | i, s :: l => (if (i : Int) ∈ met then 0 else s.length) + unm met (i + 1) l
theorem unm_out (met : List Int) (h : Nat) : ∀ (l : List (List Int)) (i : Nat), (h < i) → unm (met ++ [(h : Int)]) i l = unm met i l
  | [], _, _ => rfl
  | s :: l, i, hi => by
    rw [unm, unm, unm_out met h l (i + 1) (by omega)]
    have : ((i : Int) ∈ met ++ [(h : Int)]) ↔ ((i : Int) ∈ met) := by simp; omega
    simp only [this]
theorem unm_in (met : List Int) (h : Nat) (hm : ¬ (h : Int) ∈ met) : ∀ (l : List (List Int)) (i : Nat) (_ : i ≤ h) (hi : h - i < l.length), unm (met ++ [(h : Int)]) i l + (l[h - i]'hi).length = unm met i l
  | [], _, _, hi => by simp at hi
  | s :: l, i, h1, h2 => by
    by_cases e : i = h
    · subst e
      rw [unm, unm, unm_out met i l (i + 1) (by omega), if_pos (by simp), if_neg hm]
      simp; omega
    · have ih := unm_in met h hm l (i + 1) (by omega) (by simp at h2; omega)
      have : ((i : Int) ∈ met ++ [(h : Int)]) ↔ ((i : Int) ∈ met) := by simp; omega
      have e2 : (s :: l)[h - i]'h2 = l[h - (i + 1)]'(by simp at h2; omega) := by
        have : h - i = (h - (i + 1)) + 1 := by omega
        simp [this]
      rw [unm, unm, e2]
      simp only [this]
      omega
theorem unm_nil : ∀ (l : List (List Int)) (i : Nat), unm [] i l = l.flatten.length
  | [], _ => rfl
  | s :: l, i => by rw [unm, unm_nil l (i + 1)]; simp
def mea (snd : List (List Int)) (met l : List Int) : Nat := l.length + unm met 0 snd
def InN (n : Nat) (l : List Int) : Prop := ∀ x ∈ l, 0 ≤ x ∧ x < n
/-- The handlers that are reached from some. -/
def reachV (snd : List (List Int)) (l : List Int) : List Int := clGo snd (mea snd [] l) [] l
def closedV (snd : List (List Int)) (l : List Int) : List Int := ((List.range snd.length).map fun n : Nat => (n : Int)).filter fun h => decide (h ∈ reachV snd l)
theorem range_map_succ (i : Nat) (p : Int → Bool) : ((List.range (i + 1)).map fun n : Nat => (n : Int)).filter p = ((List.range i).map fun n : Nat => (n : Int)).filter p ++ if p i = true then [(i : Int)] else [] := by
  rw [List.range_succ, List.map_append, List.filter_append]
  simp only [List.map_cons, List.map_nil, List.filter_cons, List.filter_nil]
theorem closed_v (nm st : Nat) (cs hs : List AV) (v8 : AV) (snd : List (List Int)) (hnm : nm ≠ 132009) (c0 : cs[0]? = some (.lst 2 hs)) (c8 : cs[8]? = some v8) (hv : LstV v8 (snd.map ints)) (hn : hs.length = snd.length) (hn2 : hs.length ≤ 1000)
    (hsnd : ∀ s ∈ snd, InN snd.length s) (l : List Int) (hl : InN snd.length l) (hm : mea snd [] l ≤ 100000) {T : St} {κ : AV → St → Prop} {u : Dep κ} (hbT : T.blk nm = some ⟨st, 12, [.agg cs]⟩)
    (hκ : ∀ r S, AccIs S r 132049 1 3 ((closedV snd l).map iv) → Frl [132009] [132032, 132048, 132049] T S → S.t = T.t → T.clk ≤ S.clk → κ r S) :
    CallG Tryz.prog (.fn 63 []) [.ptr nm st 12 0 0, ints l] T κ u := by
  refine callV closed_get (by simp) (by simp) ?_
  unfold closed_c
  simp
  refine loopM (fun m S => ∃ met l', mea snd met l' = m ∧ m ≤ 100000 ∧ InN snd.length l' ∧ clGo snd m met l' = reachV snd l ∧ S.t 0 = .ptr nm st 12 0 0 ∧ S.t 1 = ints l' ∧ (∃ s9, S.t 5 = .mp 132009 s9 ∧ S.blk 132009 = some ⟨s9, 0, setM met⟩) ∧
    (∀ n, n ≠ 132009 → S.blk n = T.blk n) ∧ (∀ n, n ∉ [132032, 132048, 132049] → S.tok n = T.tok n) ∧ T.clk ≤ S.clk) (mea snd [] l) ?_ ?_
  · refine ⟨[], l, rfl, hm, hl, rfl, by simp [ints], by simp [ints], ⟨T.clk + 1, by simp, by simp⟩, ?_, ?_, by simp; omega⟩
    · intro n hn; simp [hn]
    · intro n hn; rfl
  · rintro m S ⟨met, l', rfl, hm', hl', hR, g0, g1, ⟨s9, g5, g9⟩, hB, hK, hC⟩
    cases l' with
    | nil =>
      have hR' : met = reachV snd l := by
        have : ∀ f, clGo snd f met [] = met := fun f => by cases f <;> rfl
        rw [← hR, this]
      subst hR'
      have hbS : S.blk nm = some ⟨st, 12, [.agg cs]⟩ := by rw [hB nm hnm]; exact hbT
      simp [closed_l0, g0, g1, g5, g9, ints, hbS, c0]
      refine loopN (fun i S => S.t 39 = iv hs.length ∧ S.t 40 = iv i ∧ (∃ s9, S.t 5 = .mp 132009 s9 ∧ S.blk 132009 = some ⟨s9, 0, setM (reachV snd l)⟩) ∧
        AccIs S (S.t 7) 132049 1 3 ((((List.range i).map fun n : Nat => (n : Int)).filter fun h => decide (h ∈ reachV snd l)).map iv) ∧
        (∀ n, n ≠ 132009 → S.blk n = T.blk n) ∧ (∀ n, n ∉ [132032, 132048, 132049] → S.tok n = T.tok n) ∧ T.clk ≤ S.clk) hs.length ?_ ?_
      · refine ⟨by simp, by simp, ⟨s9, by simp [g5], by simp [g9]⟩, ?_, hB, hK, by simp; omega⟩
        simp [AccIs]
      · clear g0 g1 g5 g9 hB hK hbS hR hl' hm' hm
        rintro i S' hi ⟨g39, g40, ⟨s9', g5, g9⟩, hv7, hB, hK, hC⟩
        have hlen : ((((List.range i).map fun n : Nat => (n : Int)).filter fun h => decide (h ∈ reachV snd l))).length ≤ i := by
          refine Nat.le_trans (List.length_filter_le _ _) (by simp)
        by_cases hlt : i < hs.length
        · have hw := wrap_succ i _ hlt (by omega)
          have hrs := range_map_succ i (fun h => decide (h ∈ reachV snd l))
          rw [hrs]
          generalize hxs : (((List.range i).map fun n : Nat => (n : Int)).filter fun h => decide (h ∈ reachV snd l)) = xs at *
          have hf := findM_set (i : Int) (reachV snd l)
          by_cases hin : ((i : Nat) : Int) ∈ reachV snd l
          · rw [if_pos hin] at hf
            have hb8 : (xs.length + 1) * 8 ≤ 140737488355328 := by omega
            rcases hv7 with ⟨q1, q2⟩ | ⟨s7, q1, q2⟩
            · have hx0 : xs = [] := by simpa using q2
              subst hx0
              simp [closed_l1, g39, g40, g5, g9, hlt, hf, hw, q1]
              refine ⟨by simp [AccIs, hin], hB, fun n n1 n2 n3 => by simp [n1, n2, n3]; exact hK n (by simp [n1, n2, n3]), by omega⟩
            · simp [closed_l1, g39, g40, g5, g9, hlt, hf, hw, q1, q2, hb8]
              refine ⟨by simp [AccIs, hin], hB, fun n n1 n2 n3 => by simp [n1, n2, n3]; exact hK n (by simp [n1, n2, n3]), by omega⟩
          · rw [if_neg hin] at hf
            simp [closed_l1, g39, g40, g5, g9, hlt, hf, hw]
            refine ⟨by simpa [hin, AccIs] using hv7, hB, fun n n1 n2 n3 => hK n (by simp [n1, n2, n3]), by omega⟩
        · have e : i = hs.length := by omega
          subst e
          simp [closed_l1, g39, g40]
          have ec : closedV snd l = (((List.range hs.length).map fun n : Nat => (n : Int)).filter fun h => decide (h ∈ reachV snd l)) := by rw [closedV, hn]
          rw [← ec] at hv7
          exact hκ _ _ (by simpa [AccIs] using hv7) ⟨fun n h => hB n (by simpa using h), hK⟩ rfl (by simp; omega)
    | cons h l' =>
      obtain ⟨h0, h1⟩ := hl' h (by simp)
      have hl2 : InN snd.length l' := fun x hx => hl' x (by simp [hx])
      have hf := findM_set h met
      have hstep : mea snd met (h :: l') = mea snd met l' + 1 := by simp [mea]; omega
      by_cases hin : h ∈ met
      · rw [if_pos hin] at hf
        rw [hstep, clGo, if_pos hin] at hR
        simp [closed_l0, g0, g1, g5, g9, ints, hf]
        refine ⟨mea snd met l', by omega, met, l', rfl, by omega, hl2, hR, by rw [List.take_of_length_le (by simp)], rfl, hB, fun n n1 n2 n3 => hK n (by simp [n1, n2, n3]), by omega⟩
      · rw [if_neg hin] at hf
        have hbS : S.blk nm = some ⟨st, 12, [.agg cs]⟩ := by rw [hB nm hnm]; exact hbT
        have hlt : h.toNat < snd.length := by omega
        have hsnd' : sndOf snd h = snd[h.toNat] := by simp [sndOf, hlt]
        have hmm : mea snd (met ++ [h]) (l' ++ snd[h.toNat]) = mea snd met l' := by
          have := unm_in met h.toNat (by rw [Int.toNat_of_nonneg h0]; exact hin) snd 0 (Nat.zero_le _) (by simpa using hlt)
          rw [Int.toNat_of_nonneg h0] at this
          simp only [Nat.sub_zero] at this
          simp only [mea, List.length_append]
          omega
        rw [hstep, clGo, if_neg hin, hsnd'] at hR
        have hl3 : InN snd.length (l' ++ snd[h.toNat]) := by
          intro x hx
          rcases List.mem_append.1 hx with q | q
          · exact hl2 x q
          · exact hsnd _ (List.getElem_mem hlt) x q
        have hsz : l'.length + snd[h.toNat].length ≤ 100000 := by
          have : (l' ++ snd[h.toNat]).length ≤ mea snd (met ++ [h]) (l' ++ snd[h.toNat]) := by simp [mea]
          rw [hmm, List.length_append] at this
          omega
        simp [closed_l0, g0, g1, g5, g9, ints, hf, hbS, hnm, c8, h0, hv.idx _ _ hlt]
        have htk : List.take l'.length (List.map iv l') = List.map iv l' := List.take_of_length_le (by simp)
        refine call (concat_pc [l', snd[h.toNat]] (by simp) (by simp; omega)) (by simp [ints, htk]) ?_
        simp
        refine ⟨mea snd met l', by omega, met ++ [h], l' ++ snd[h.toNat], hmm, by omega, hl3, hR, g0, by simp [ints], ⟨s9, g5, rfl, setM_snoc met h⟩, ?_, ?_, by omega⟩
        · intro n n1; simp [n1]; exact hB n n1
        · intro n n1 n2 n3; simp [n1]; exact hK n (by simp [n1, n2, n3])
theorem closed_l (nm st : Nat) (cs hs : List AV) (v8 : AV) (snd : List (List Int)) (hnm : nm ≠ 132009) (c0 : cs[0]? = some (.lst 2 hs)) (c8 : cs[8]? = some v8) (hv : LstV v8 (snd.map ints)) (hn : hs.length = snd.length) (hn2 : hs.length ≤ 1000)
    (hsnd : ∀ s ∈ snd, InN snd.length s) (l : List Int) (hl : InN snd.length l) (hm : mea snd [] l ≤ 100000) {blk : Nat → Option Blk} (hb : blk nm = some ⟨st, 12, [.agg cs]⟩) :
    LCallP Tryz.prog (.fn 63 []) [.ptr nm st 12 0 0, ints l] blk (effL [132009] [132032, 132048, 132049] (ints (closedV snd l))) := by
  refine LCallP.of [132009] [132032, 132048, 132049] _ rfl (fun T hT => ?_)
  refine closed_v (u := .mk) nm st cs hs v8 snd hnm c0 c8 hv hn hn2 hsnd l hl hm (by rw [hT nm (by simp [ints])]; exact hb) ?_
  rintro r S ha hF _ _
  refine ⟨fun E v hr => ?_, hF⟩
  rcases ha with ⟨q1, q2⟩ | ⟨s7, q1, q2⟩
  · rw [q1] at hr
    have : closedV snd l = [] := by simpa using q2
    rw [this]; exact hr.lst_of_nils
  · rw [q1] at hr; exact hr.lst_of_acc

end Go.Gv

/- What the parts of flow (chapter 4) answer: how many numbers an instruction takes and puts, what may come behind it. No condition beyond those that each law names. -/
set_option linter.unusedVariables false
set_option linter.unusedSimpArgs false
namespace Go.Gv
open Go.Proofs

def valid1_r0 : List AI := [⟨(some 2), none, (.op (.mv (.c (.bool false))))⟩]
def valid1_r1 : List AI := [⟨(some 3), none, (.op (.mv (.t 0)))⟩, ⟨(some 4), none, (.op (.ibin .geq (.t 3) (.c (.int .i64 1))))⟩, ⟨(some 5), none, (.op (.mv (.t 4)))⟩, ⟨(some 6), (some (5, true)), (.op (.mv (.t 0)))⟩, ⟨(some 7), (some (5, true)), (.op (.ibin .leq (.t 6) (.c (.int .i64 25))))⟩, ⟨(some 8), none, (.op (.pick (.t 5) (.t 7) (.c (.bool false))))⟩, ⟨(some 2), none, (.op (.mv (.t 8)))⟩]
def valid1_c : AC := (.seq (.reg valid1_r0) (.seq (.reg valid1_r1) .ret))
def valid1_res : List ARes := [(.tmp 2)]
set_option maxRecDepth 100000 in
theorem valid1_get : getF Tryz.prog 55 104100 [] = some ("gavotte/gavotteref1.Valid", 9, valid1_c, valid1_res) := by kernel_rfl
def pops_r0 : List AI := [⟨(some 2), none, (.op (.mv (.c (.int .i64 0))))⟩]
def pops_r1 : List AI := [⟨(some 4), none, (.op (.mv (.t 0)))⟩, ⟨(some 5), none, (.op (.ibin .eql (.t 4) (.c (.int .i64 4))))⟩, ⟨(some 3), none, (.op (.mv (.t 5)))⟩]
def pops_r2 : List AI := [⟨(some 6), none, (.op (.mv (.t 0)))⟩, ⟨(some 7), none, (.op (.ibin .geq (.t 6) (.c (.int .i64 9))))⟩, ⟨(some 8), none, (.op (.mv (.t 7)))⟩, ⟨(some 9), (some (8, true)), (.op (.mv (.t 0)))⟩, ⟨(some 10), (some (8, true)), (.op (.ibin .leq (.t 9) (.c (.int .i64 13))))⟩, ⟨(some 11), none, (.op (.pick (.t 8) (.t 10) (.c (.bool false))))⟩, ⟨(some 3), none, (.op (.mv (.t 11)))⟩]
def pops_r3 : List AI := [⟨(some 12), none, (.op (.mv (.t 0)))⟩, ⟨(some 13), none, (.op (.ibin .geq (.t 12) (.c (.int .i64 15))))⟩, ⟨(some 14), none, (.op (.mv (.t 13)))⟩, ⟨(some 15), (some (14, true)), (.op (.mv (.t 0)))⟩, ⟨(some 16), (some (14, true)), (.op (.ibin .leq (.t 15) (.c (.int .i64 18))))⟩, ⟨(some 17), none, (.op (.pick (.t 14) (.t 16) (.c (.bool false))))⟩, ⟨(some 3), none, (.op (.mv (.t 17)))⟩]
def pops_r4 : List AI := [⟨(some 2), none, (.op (.mv (.c (.int .i64 2))))⟩]
def pops_r5 : List AI := [⟨(some 19), none, (.op (.mv (.t 0)))⟩, ⟨(some 20), none, (.op (.ibin .eql (.t 19) (.c (.int .i64 2))))⟩, ⟨(some 18), none, (.op (.mv (.t 20)))⟩]
def pops_r6 : List AI := [⟨(some 21), none, (.op (.mv (.t 0)))⟩, ⟨(some 22), none, (.op (.ibin .eql (.t 21) (.c (.int .i64 3))))⟩, ⟨(some 18), none, (.op (.mv (.t 22)))⟩]
def pops_r7 : List AI := [⟨(some 23), none, (.op (.mv (.t 0)))⟩, ⟨(some 24), none, (.op (.ibin .eql (.t 23) (.c (.int .i64 6))))⟩, ⟨(some 18), none, (.op (.mv (.t 24)))⟩]
def pops_r8 : List AI := [⟨(some 25), none, (.op (.mv (.t 0)))⟩, ⟨(some 26), none, (.op (.ibin .eql (.t 25) (.c (.int .i64 14))))⟩, ⟨(some 18), none, (.op (.mv (.t 26)))⟩]
def pops_r9 : List AI := [⟨(some 27), none, (.op (.mv (.t 0)))⟩, ⟨(some 28), none, (.op (.ibin .eql (.t 27) (.c (.int .i64 19))))⟩, ⟨(some 18), none, (.op (.mv (.t 28)))⟩]
def pops_r10 : List AI := [⟨(some 29), none, (.op (.mv (.t 0)))⟩, ⟨(some 30), none, (.op (.ibin .eql (.t 29) (.c (.int .i64 21))))⟩, ⟨(some 18), none, (.op (.mv (.t 30)))⟩]
def pops_r11 : List AI := [⟨(some 31), none, (.op (.mv (.t 0)))⟩, ⟨(some 32), none, (.op (.ibin .eql (.t 31) (.c (.int .i64 22))))⟩, ⟨(some 18), none, (.op (.mv (.t 32)))⟩]
def pops_r12 : List AI := [⟨(some 2), none, (.op (.mv (.c (.int .i64 1))))⟩]
def pops_r13 : List AI := [⟨(some 2), none, (.op (.mv (.c (.int .i64 0))))⟩]
def pops_c : AC := (.seq (.reg pops_r0) (.seq (.block 0 (.seq (.seq (.reg pops_r1) (.cond (.t 3) .skip (.seq (.reg pops_r2) (.cond (.t 3) .skip (.reg pops_r3))))) (.cond (.t 3) (.seq (.reg pops_r4) .ret) (.seq (.seq (.reg pops_r5) (.cond (.t 18) .skip (.seq (.reg pops_r6) (.cond (.t 18) .skip (.seq (.reg pops_r7) (.cond (.t 18) .skip (.seq (.reg pops_r8) (.cond (.t 18) .skip (.seq (.reg pops_r9) (.cond (.t 18) .skip (.seq (.reg pops_r10) (.cond (.t 18) .skip (.reg pops_r11))))))))))))) (.cond (.t 18) (.seq (.reg pops_r12) .ret) .skip))))) (.seq (.reg pops_r13) .ret)))
def pops_res : List ARes := [(.tmp 2)]
set_option maxRecDepth 100000 in
theorem pops_get : getF Tryz.prog 72 106000 [] = some ("gavotte/ops.Pops", 33, pops_c, pops_res) := by kernel_rfl
def puts_r0 : List AI := [⟨(some 2), none, (.op (.mv (.c (.int .i64 0))))⟩]
def puts_r1 : List AI := [⟨(some 4), none, (.op (.mv (.t 0)))⟩, ⟨(some 5), none, (.op (.ibin .eql (.t 4) (.c (.int .i64 3))))⟩, ⟨(some 3), none, (.op (.mv (.t 5)))⟩]
def puts_r2 : List AI := [⟨(some 6), none, (.op (.mv (.t 0)))⟩, ⟨(some 7), none, (.op (.ibin .eql (.t 6) (.c (.int .i64 4))))⟩, ⟨(some 3), none, (.op (.mv (.t 7)))⟩]
def puts_r3 : List AI := [⟨(some 2), none, (.op (.mv (.c (.int .i64 2))))⟩]
def puts_r4 : List AI := [⟨(some 9), none, (.op (.mv (.t 0)))⟩, ⟨(some 10), none, (.op (.ibin .eql (.t 9) (.c (.int .i64 1))))⟩, ⟨(some 8), none, (.op (.mv (.t 10)))⟩]
def puts_r5 : List AI := [⟨(some 11), none, (.op (.mv (.t 0)))⟩, ⟨(some 12), none, (.op (.ibin .eql (.t 11) (.c (.int .i64 5))))⟩, ⟨(some 8), none, (.op (.mv (.t 12)))⟩]
def puts_r6 : List AI := [⟨(some 13), none, (.op (.mv (.t 0)))⟩, ⟨(some 14), none, (.op (.ibin .eql (.t 13) (.c (.int .i64 7))))⟩, ⟨(some 8), none, (.op (.mv (.t 14)))⟩]
def puts_r7 : List AI := [⟨(some 15), none, (.op (.mv (.t 0)))⟩, ⟨(some 16), none, (.op (.ibin .eql (.t 15) (.c (.int .i64 8))))⟩, ⟨(some 8), none, (.op (.mv (.t 16)))⟩]
def puts_r8 : List AI := [⟨(some 17), none, (.op (.mv (.t 0)))⟩, ⟨(some 18), none, (.op (.ibin .geq (.t 17) (.c (.int .i64 9))))⟩, ⟨(some 19), none, (.op (.mv (.t 18)))⟩, ⟨(some 20), (some (19, true)), (.op (.mv (.t 0)))⟩, ⟨(some 21), (some (19, true)), (.op (.ibin .leq (.t 20) (.c (.int .i64 19))))⟩, ⟨(some 22), none, (.op (.pick (.t 19) (.t 21) (.c (.bool false))))⟩, ⟨(some 8), none, (.op (.mv (.t 22)))⟩]
def puts_r9 : List AI := [⟨(some 2), none, (.op (.mv (.c (.int .i64 1))))⟩]
def puts_r10 : List AI := [⟨(some 2), none, (.op (.mv (.c (.int .i64 0))))⟩]
def puts_c : AC := (.seq (.reg puts_r0) (.seq (.block 0 (.seq (.seq (.reg puts_r1) (.cond (.t 3) .skip (.reg puts_r2))) (.cond (.t 3) (.seq (.reg puts_r3) .ret) (.seq (.seq (.reg puts_r4) (.cond (.t 8) .skip (.seq (.reg puts_r5) (.cond (.t 8) .skip (.seq (.reg puts_r6) (.cond (.t 8) .skip (.seq (.reg puts_r7) (.cond (.t 8) .skip (.reg puts_r8))))))))) (.cond (.t 8) (.seq (.reg puts_r9) .ret) .skip))))) (.seq (.reg puts_r10) .ret)))
def puts_res : List ARes := [(.tmp 2)]
set_option maxRecDepth 100000 in
theorem puts_get : getF Tryz.prog 53 94000 [] = some ("gavotte/ops.Puts", 23, puts_c, puts_res) := by kernel_rfl
def rpops_r0 : List AI := [⟨(some 2), none, (.op (.mv (.c (.int .i64 0))))⟩]
def rpops_r1 : List AI := [⟨(some 3), none, (.op (.mv (.t 0)))⟩, ⟨(some 4), none, (.call (.c (.fn 55 [])) [(.t 3)])⟩, ⟨(some 5), none, (.op (.not (.t 4)))⟩]
def rpops_r2 : List AI := [⟨(some 2), none, (.op (.mv (.c (.int .i64 0))))⟩]
def rpops_r3 : List AI := [⟨(some 6), none, (.op (.bsl 82006 1 3 26 (.int .i64 0) [(0, (.c (.int .i64 0))), (1, (.c (.int .i64 0))), (2, (.c (.int .i64 1))), (3, (.c (.int .i64 1))), (4, (.c (.int .i64 2))), (5, (.c (.int .i64 0))), (6, (.c (.int .i64 1))), (7, (.c (.int .i64 0))), (8, (.c (.int .i64 0))), (9, (.c (.int .i64 2))), (10, (.c (.int .i64 2))), (11, (.c (.int .i64 2))), (12, (.c (.int .i64 2))), (13, (.c (.int .i64 2))), (14, (.c (.int .i64 1))), (15, (.c (.int .i64 2))), (16, (.c (.int .i64 2))), (17, (.c (.int .i64 2))), (18, (.c (.int .i64 2))), (19, (.c (.int .i64 1))), (20, (.c (.int .i64 0))), (21, (.c (.int .i64 1))), (22, (.c (.int .i64 1))), (23, (.c (.int .i64 0))), (24, (.c (.int .i64 0))), (25, (.c (.int .i64 0)))]))⟩, ⟨(some 7), none, (.op (.mv (.t 0)))⟩, ⟨(some 8), none, (.op (.idx 1 (.t 6) (.t 7)))⟩, ⟨(some 9), none, (.op (.load none (.t 8)))⟩, ⟨(some 2), none, (.op (.mv (.t 9)))⟩]
def rpops_c : AC := (.seq (.reg rpops_r0) (.seq (.seq (.reg rpops_r1) (.cond (.t 5) (.seq (.reg rpops_r2) .ret) .skip)) (.seq (.reg rpops_r3) .ret)))
def rpops_res : List ARes := [(.tmp 2)]
set_option maxRecDepth 100000 in
theorem rpops_get : getF Tryz.prog 39 82000 [] = some ("gavotte/gavotteref1.Pops", 10, rpops_c, rpops_res) := by kernel_rfl
def rputs_r0 : List AI := [⟨(some 2), none, (.op (.mv (.c (.int .i64 0))))⟩]
def rputs_r1 : List AI := [⟨(some 3), none, (.op (.mv (.t 0)))⟩, ⟨(some 4), none, (.call (.c (.fn 55 [])) [(.t 3)])⟩, ⟨(some 5), none, (.op (.not (.t 4)))⟩]
def rputs_r2 : List AI := [⟨(some 2), none, (.op (.mv (.c (.int .i64 0))))⟩]
def rputs_r3 : List AI := [⟨(some 6), none, (.op (.bsl 83006 1 3 26 (.int .i64 0) [(0, (.c (.int .i64 0))), (1, (.c (.int .i64 1))), (2, (.c (.int .i64 0))), (3, (.c (.int .i64 2))), (4, (.c (.int .i64 2))), (5, (.c (.int .i64 1))), (6, (.c (.int .i64 0))), (7, (.c (.int .i64 1))), (8, (.c (.int .i64 1))), (9, (.c (.int .i64 1))), (10, (.c (.int .i64 1))), (11, (.c (.int .i64 1))), (12, (.c (.int .i64 1))), (13, (.c (.int .i64 1))), (14, (.c (.int .i64 1))), (15, (.c (.int .i64 1))), (16, (.c (.int .i64 1))), (17, (.c (.int .i64 1))), (18, (.c (.int .i64 1))), (19, (.c (.int .i64 1))), (20, (.c (.int .i64 0))), (21, (.c (.int .i64 0))), (22, (.c (.int .i64 0))), (23, (.c (.int .i64 0))), (24, (.c (.int .i64 0))), (25, (.c (.int .i64 0)))]))⟩, ⟨(some 7), none, (.op (.mv (.t 0)))⟩, ⟨(some 8), none, (.op (.idx 1 (.t 6) (.t 7)))⟩, ⟨(some 9), none, (.op (.load none (.t 8)))⟩, ⟨(some 2), none, (.op (.mv (.t 9)))⟩]
def rputs_c : AC := (.seq (.reg rputs_r0) (.seq (.seq (.reg rputs_r1) (.cond (.t 5) (.seq (.reg rputs_r2) .ret) .skip)) (.seq (.reg rputs_r3) .ret)))
def rputs_res : List ARes := [(.tmp 2)]
set_option maxRecDepth 100000 in
theorem rputs_get : getF Tryz.prog 40 83000 [] = some ("gavotte/gavotteref1.Puts", 10, rputs_c, rputs_res) := by kernel_rfl
def takes_r0 : List AI := [⟨(some 2), none, (.op (.box 93002 4 (.t 0)))⟩, ⟨(some 3), none, (.op (.box 93003 2 (.t 1)))⟩, ⟨(some 4), none, (.op (.mv (.c (.int .i64 0))))⟩]
def takes_r1 : List AI := [⟨(some 6), none, (.op (.fld 0 (.t 3)))⟩, ⟨(some 7), none, (.op (.load none (.t 6)))⟩, ⟨(some 8), none, (.call (.c (.fn 72 [])) [(.t 7)])⟩, ⟨(some 5), none, (.op (.mv (.t 8)))⟩]
def takes_r2 : List AI := [⟨(some 9), none, (.op (.fld 0 (.t 3)))⟩, ⟨(some 10), none, (.op (.load none (.t 9)))⟩, ⟨(some 11), none, (.op (.ibin .eql (.t 10) (.c (.int .i64 22))))⟩]
def takes_r3 : List AI := [⟨(some 12), none, (.op (.mv (.t 5)))⟩, ⟨(some 13), none, (.op (.fld 0 (.t 2)))⟩, ⟨(some 14), none, (.op (.load none (.t 13)))⟩, ⟨(some 15), none, (.op (.fld 1 (.t 3)))⟩, ⟨(some 16), none, (.op (.load none (.t 15)))⟩, ⟨(some 17), none, (.op (.idx 2 (.t 14) (.t 16)))⟩, ⟨(some 18), none, (.op (.fld 0 (.t 17)))⟩, ⟨(some 19), none, (.op (.load none (.t 18)))⟩, ⟨(some 20), none, (.op (.ibin .add (.t 12) (.t 19)))⟩, ⟨(some 5), none, (.op (.mv (.t 20)))⟩]
def takes_r4 : List AI := [⟨(some 21), none, (.op (.mv (.t 5)))⟩, ⟨(some 4), none, (.op (.mv (.t 21)))⟩]
def takes_c : AC := (.seq (.reg takes_r0) (.seq (.reg takes_r1) (.seq (.seq (.reg takes_r2) (.cond (.t 11) (.reg takes_r3) .skip)) (.seq (.reg takes_r4) .ret))))
def takes_res : List ARes := [(.tmp 4)]
set_option maxRecDepth 100000 in
theorem takes_get : getF Tryz.prog 52 93000 [] = some ("gavotte/flow.takes", 22, takes_c, takes_res) := by kernel_rfl
def next_r0 : List AI := [⟨(some 3), none, (.op (.box 95003 2 (.t 1)))⟩, ⟨(some 4), none, (.op (.mv (.c .nils)))⟩]
def next_r1 : List AI := [⟨(some 5), none, (.op (.fld 0 (.t 3)))⟩, ⟨(some 6), none, (.op (.load none (.t 5)))⟩]
def next_r2 : List AI := [⟨(some 8), none, (.op (.ibin .eql (.t 6) (.c (.int .i64 20))))⟩, ⟨(some 7), none, (.op (.mv (.t 8)))⟩]
def next_r3 : List AI := [⟨(some 9), none, (.op (.fld 1 (.t 3)))⟩, ⟨(some 10), none, (.op (.load none (.t 9)))⟩, ⟨(some 11), none, (.op (.bsl 95011 1 3 1 (.int .i64 0) [(0, (.t 10))]))⟩, ⟨(some 4), none, (.op (.mv (.t 11)))⟩]
def next_r4 : List AI := [⟨(some 13), none, (.op (.ibin .eql (.t 6) (.c (.int .i64 21))))⟩, ⟨(some 12), none, (.op (.mv (.t 13)))⟩]
def next_r5 : List AI := [⟨(some 14), none, (.op (.fld 1 (.t 3)))⟩, ⟨(some 15), none, (.op (.load none (.t 14)))⟩, ⟨(some 16), none, (.op (.mv (.t 0)))⟩, ⟨(some 17), none, (.op (.ibin .add (.t 16) (.c (.int .i64 1))))⟩, ⟨(some 18), none, (.op (.bsl 95018 1 3 2 (.int .i64 0) [(0, (.t 15)), (1, (.t 17))]))⟩, ⟨(some 4), none, (.op (.mv (.t 18)))⟩]
def next_r6 : List AI := [⟨(some 20), none, (.op (.ibin .eql (.t 6) (.c (.int .i64 25))))⟩, ⟨(some 19), none, (.op (.mv (.t 20)))⟩]
def next_r7 : List AI := [⟨(some 4), none, (.op (.mv (.c .nils)))⟩]
def next_r8 : List AI := [⟨(some 21), none, (.op (.mv (.t 0)))⟩, ⟨(some 22), none, (.op (.ibin .add (.t 21) (.c (.int .i64 1))))⟩, ⟨(some 23), none, (.op (.bsl 95023 1 3 1 (.int .i64 0) [(0, (.t 22))]))⟩, ⟨(some 4), none, (.op (.mv (.t 23)))⟩]
def next_c : AC := (.seq (.reg next_r0) (.seq (.seq (.reg next_r1) (.block 0 (.seq (.reg next_r2) (.cond (.t 7) (.seq (.reg next_r3) .ret) (.seq (.reg next_r4) (.cond (.t 12) (.seq (.reg next_r5) .ret) (.seq (.reg next_r6) (.cond (.t 19) (.seq (.reg next_r7) .ret) .skip)))))))) (.seq (.reg next_r8) .ret)))
def next_res : List ARes := [(.tmp 4)]
set_option maxRecDepth 100000 in
theorem next_get : getF Tryz.prog 54 95000 [] = some ("gavotte/flow.next", 24, next_c, next_res) := by kernel_rfl
def mul64_r0 : List AI := [⟨(some 4), none, (.op (.mv (.c (.int .u64 0))))⟩, ⟨(some 5), none, (.op (.mv (.c (.int .u64 0))))⟩]
def mul64_r1 : List AI := [⟨(some 14), none, (.op (.mv (.t 0)))⟩, ⟨(some 15), none, (.op (.ibin .and (.t 14) (.c (.int .u64 4294967295))))⟩, ⟨(some 6), none, (.op (.mv (.t 15)))⟩]
def mul64_r2 : List AI := [⟨(some 16), none, (.op (.mv (.t 0)))⟩, ⟨(some 17), none, (.op (.shift false (.t 16) (.c (.int .u64 32))))⟩, ⟨(some 7), none, (.op (.mv (.t 17)))⟩]
def mul64_r3 : List AI := [⟨(some 18), none, (.op (.mv (.t 1)))⟩, ⟨(some 19), none, (.op (.ibin .and (.t 18) (.c (.int .u64 4294967295))))⟩, ⟨(some 8), none, (.op (.mv (.t 19)))⟩]
def mul64_r4 : List AI := [⟨(some 20), none, (.op (.mv (.t 1)))⟩, ⟨(some 21), none, (.op (.shift false (.t 20) (.c (.int .u64 32))))⟩, ⟨(some 9), none, (.op (.mv (.t 21)))⟩]
def mul64_r5 : List AI := [⟨(some 22), none, (.op (.mv (.t 6)))⟩, ⟨(some 23), none, (.op (.mv (.t 8)))⟩, ⟨(some 24), none, (.op (.ibin .mul (.t 22) (.t 23)))⟩, ⟨(some 10), none, (.op (.mv (.t 24)))⟩]
def mul64_r6 : List AI := [⟨(some 25), none, (.op (.mv (.t 7)))⟩, ⟨(some 26), none, (.op (.mv (.t 8)))⟩, ⟨(some 27), none, (.op (.ibin .mul (.t 25) (.t 26)))⟩, ⟨(some 28), none, (.op (.mv (.t 10)))⟩, ⟨(some 29), none, (.op (.shift false (.t 28) (.c (.int .u64 32))))⟩, ⟨(some 30), none, (.op (.ibin .add (.t 27) (.t 29)))⟩, ⟨(some 11), none, (.op (.mv (.t 30)))⟩]
def mul64_r7 : List AI := [⟨(some 31), none, (.op (.mv (.t 11)))⟩, ⟨(some 32), none, (.op (.ibin .and (.t 31) (.c (.int .u64 4294967295))))⟩, ⟨(some 12), none, (.op (.mv (.t 32)))⟩]
def mul64_r8 : List AI := [⟨(some 33), none, (.op (.mv (.t 11)))⟩, ⟨(some 34), none, (.op (.shift false (.t 33) (.c (.int .u64 32))))⟩, ⟨(some 13), none, (.op (.mv (.t 34)))⟩]
def mul64_r9 : List AI := [⟨(some 35), none, (.op (.mv (.t 12)))⟩, ⟨(some 36), none, (.op (.mv (.t 6)))⟩, ⟨(some 37), none, (.op (.mv (.t 9)))⟩, ⟨(some 38), none, (.op (.ibin .mul (.t 36) (.t 37)))⟩, ⟨(some 39), none, (.op (.ibin .add (.t 35) (.t 38)))⟩, ⟨(some 12), none, (.op (.mv (.t 39)))⟩]
def mul64_r10 : List AI := [⟨(some 40), none, (.op (.mv (.t 7)))⟩, ⟨(some 41), none, (.op (.mv (.t 9)))⟩, ⟨(some 42), none, (.op (.ibin .mul (.t 40) (.t 41)))⟩, ⟨(some 43), none, (.op (.mv (.t 13)))⟩, ⟨(some 44), none, (.op (.ibin .add (.t 42) (.t 43)))⟩, ⟨(some 45), none, (.op (.mv (.t 12)))⟩, ⟨(some 46), none, (.op (.shift false (.t 45) (.c (.int .u64 32))))⟩, ⟨(some 47), none, (.op (.ibin .add (.t 44) (.t 46)))⟩, ⟨(some 4), none, (.op (.mv (.t 47)))⟩]
def mul64_r11 : List AI := [⟨(some 48), none, (.op (.mv (.t 0)))⟩, ⟨(some 49), none, (.op (.mv (.t 1)))⟩, ⟨(some 50), none, (.op (.ibin .mul (.t 48) (.t 49)))⟩, ⟨(some 5), none, (.op (.mv (.t 50)))⟩]
def mul64_c : AC := (.seq (.reg mul64_r0) (.seq (.reg mul64_r1) (.seq (.reg mul64_r2) (.seq (.reg mul64_r3) (.seq (.reg mul64_r4) (.seq (.reg mul64_r5) (.seq (.reg mul64_r6) (.seq (.reg mul64_r7) (.seq (.reg mul64_r8) (.seq (.reg mul64_r9) (.seq (.reg mul64_r10) (.seq (.reg mul64_r11) .ret))))))))))))
def mul64_res : List ARes := [(.tmp 4), (.tmp 5)]
set_option maxRecDepth 100000 in
theorem mul64_get : getF Tryz.prog 88 120000 [] = some ("math/bits.Mul64", 51, mul64_c, mul64_res) := by kernel_rfl
def mul_r0 : List AI := [⟨(some 4), none, (.op (.mv (.c (.int .u64 0))))⟩, ⟨(some 5), none, (.op (.mv (.c (.int .u64 0))))⟩]
def mul_r1 : List AI := [⟨(some 11), none, (.op (.mv (.t 0)))⟩, ⟨(some 12), none, (.op (.conv .u32 (.t 11)))⟩, ⟨(some 13), none, (.op (.mv (.t 1)))⟩, ⟨(some 14), none, (.op (.conv .u32 (.t 13)))⟩, ⟨(some 15), none, (.call (.c (.fn 87 [])) [(.t 12), (.t 14)])⟩, ⟨(some 10), none, (.op (.mv (.t 15)))⟩, ⟨(some 16), none, (.op (.ext (.t 10) 0))⟩, ⟨(some 17), none, (.op (.ext (.t 10) 1))⟩, ⟨(some 6), none, (.op (.mv (.t 16)))⟩, ⟨(some 7), none, (.op (.mv (.t 17)))⟩]
def mul_r2 : List AI := [⟨(some 18), none, (.op (.mv (.t 6)))⟩, ⟨(some 19), none, (.op (.conv .u64 (.t 18)))⟩, ⟨(some 20), none, (.op (.mv (.t 7)))⟩, ⟨(some 21), none, (.op (.conv .u64 (.t 20)))⟩, ⟨(some 4), none, (.op (.mv (.t 19)))⟩, ⟨(some 5), none, (.op (.mv (.t 21)))⟩]
def mul_r3 : List AI := [⟨(some 23), none, (.op (.mv (.t 0)))⟩, ⟨(some 24), none, (.op (.mv (.t 1)))⟩, ⟨(some 25), none, (.call (.c (.fn 88 [])) [(.t 23), (.t 24)])⟩, ⟨(some 22), none, (.op (.mv (.t 25)))⟩, ⟨(some 26), none, (.op (.ext (.t 22) 0))⟩, ⟨(some 27), none, (.op (.ext (.t 22) 1))⟩, ⟨(some 8), none, (.op (.mv (.t 26)))⟩, ⟨(some 9), none, (.op (.mv (.t 27)))⟩]
def mul_r4 : List AI := [⟨(some 28), none, (.op (.mv (.t 8)))⟩, ⟨(some 29), none, (.op (.mv (.t 9)))⟩, ⟨(some 4), none, (.op (.mv (.t 28)))⟩, ⟨(some 5), none, (.op (.mv (.t 29)))⟩]
def mul_c : AC := (.seq (.reg mul_r0) (.seq (.cond (.c (.bool false)) (.seq (.reg mul_r1) (.seq (.reg mul_r2) .ret)) .skip) (.seq (.reg mul_r3) (.seq (.reg mul_r4) .ret))))
def mul_res : List ARes := [(.tmp 4), (.tmp 5)]
set_option maxRecDepth 100000 in
theorem mul_get : getF Tryz.prog 71 105000 [] = some ("math/bits.Mul", 30, mul_c, mul_res) := by kernel_rfl
attribute [simp] valid1_r0 valid1_r1 valid1_res pops_r0 pops_r1 pops_r2 pops_r3 pops_r4 pops_r5 pops_r6 pops_r7 pops_r8 pops_r9 pops_r10 pops_r11 pops_r12 pops_r13 pops_res puts_r0 puts_r1 puts_r2 puts_r3 puts_r4 puts_r5 puts_r6 puts_r7 puts_r8 puts_r9 puts_r10 puts_res rpops_r0 rpops_r1 rpops_r2 rpops_r3 rpops_res rputs_r0 rputs_r1 rputs_r2 rputs_r3 rputs_res takes_r0 takes_r1 takes_r2 takes_r3 takes_r4 takes_res next_r0 next_r1 next_r2 next_r3 next_r4 next_r5 next_r6 next_r7 next_r8 next_res mul64_r0 mul64_r1 mul64_r2 mul64_r3 mul64_r4 mul64_r5 mul64_r6 mul64_r7 mul64_r8 mul64_r9 mul64_r10 mul64_r11 mul64_res mul_r0 mul_r1 mul_r2 mul_r3 mul_r4 mul_res


def popsV (n : Int) : Int := if n = 4 ∨ (9 ≤ n ∧ n ≤ 13) ∨ (15 ≤ n ∧ n ≤ 18) then 2 else if n = 2 ∨ n = 3 ∨ n = 6 ∨ n = 14 ∨ n = 19 ∨ n = 21 ∨ n = 22 then 1 else 0
def putsV (n : Int) : Int := if n = 3 ∨ n = 4 then 2 else if n = 1 ∨ n = 5 ∨ n = 7 ∨ n = 8 ∨ (9 ≤ n ∧ n ≤ 19) then 1 else 0
theorem popsV_range (n : Int) : 0 ≤ popsV n ∧ popsV n ≤ 2 := by unfold popsV; split <;> (try split) <;> omega
theorem putsV_range (n : Int) : 0 ≤ putsV n ∧ putsV n ≤ 2 := by unfold putsV; split <;> (try split) <;> omega
theorem pops_pc (n : Int) : PC Tryz.prog 72 [iv n] (iv (popsV n)) := by
  refine pc_of_get pops_get (by simp) _ (by simp) _ ?_
  unfold pops_c
  simp
  repeat' (refine split (fun hc => ?_) (fun hc => ?_) <;> simp [*])
  all_goals grind [popsV]
theorem puts_pc (n : Int) : PC Tryz.prog 53 [iv n] (iv (putsV n)) := by
  refine pc_of_get puts_get (by simp) _ (by simp) _ ?_
  unfold puts_c
  simp
  repeat' (refine split (fun hc => ?_) (fun hc => ?_) <;> simp [*])
  all_goals grind [putsV]
theorem lit25 {n : Int} (h1 : 1 ≤ n) (h2 : n ≤ 25) : n = 1 ∨ n = 2 ∨ n = 3 ∨ n = 4 ∨ n = 5 ∨ n = 6 ∨ n = 7 ∨ n = 8 ∨ n = 9 ∨ n = 10 ∨ n = 11 ∨ n = 12 ∨ n = 13 ∨ n = 14 ∨ n = 15 ∨ n = 16 ∨ n = 17 ∨ n = 18 ∨ n = 19 ∨ n = 20 ∨ n = 21 ∨ n = 22 ∨ n = 23 ∨ n = 24 ∨ n = 25 := by omega
theorem rpops_pc (n : Int) : PC Tryz.prog 39 [iv n] (iv (popsV n)) := by
  refine pc_of_get rpops_get (by simp) _ (by simp) _ ?_
  unfold rpops_c
  simp
  refine call (rvalid_pc n) (by simp) ?_
  simp
  refine split (fun h1 => ?_) (fun h1 => ?_) <;> simp [h1]
  rotate_left
  · grind [popsV]
  refine split (fun h2 => ?_) (fun h2 => ?_) <;> simp [h2]
  rotate_left
  · grind [popsV]
  rcases lit25 h1 h2 with h | h | h | h | h | h | h | h | h | h | h | h | h | h | h | h | h | h | h | h | h | h | h | h | h <;> subst h <;> simp [popsV]
theorem rputs_pc (n : Int) : PC Tryz.prog 40 [iv n] (iv (putsV n)) := by
  refine pc_of_get rputs_get (by simp) _ (by simp) _ ?_
  unfold rputs_c
  simp
  refine call (rvalid_pc n) (by simp) ?_
  simp
  refine split (fun h1 => ?_) (fun h1 => ?_) <;> simp [h1]
  rotate_left
  · grind [putsV]
  refine split (fun h2 => ?_) (fun h2 => ?_) <;> simp [h2]
  rotate_left
  · grind [putsV]
  rcases lit25 h1 h2 with h | h | h | h | h | h | h | h | h | h | h | h | h | h | h | h | h | h | h | h | h | h | h | h | h <;> subst h <;> simp [putsV]

/-- The arguments of a handler, by its number. -/
def argsOf (hs : List Hnd) (a : Int) : Int := (hs[a.toNat]?.map Hnd.args).getD 0
def takesV (hs : List Hnd) (i : Ins) : Int := popsV i.op + if i.op = 22 then argsOf hs i.a else 0
/-- What must hold of an instruction that is looked at. -/
def insOk (hs : List Hnd) (i : Ins) : Prop := i.op = 22 → 0 ≤ i.a ∧ i.a.toNat < hs.length ∧ 0 ≤ argsOf hs i.a ∧ argsOf hs i.a ≤ 4
theorem takesV_range {hs : List Hnd} {i : Ins} (h : insOk hs i) : 0 ≤ takesV hs i ∧ takesV hs i ≤ 6 := by
  have := popsV_range i.op
  unfold takesV
  split
  · rename_i h1; have := h h1; omega
  · omega
theorem takes_pc (p : Prg) (i : Ins) (h : insOk p.hs i) : PC Tryz.prog 52 [p.av, i.av] (iv (takesV p.hs i)) := by
  refine pc_of_get takes_get (by simp) _ (by simp) _ ?_
  unfold takes_c
  simp
  refine call (pops_pc i.op) (by simp) ?_
  simp
  refine split (fun h1 => ?_) (fun h1 => ?_) <;> simp [h1]
  · obtain ⟨h2, h3, h4, h5⟩ := h h1
    have e : argsOf p.hs i.a = p.hs[i.a.toNat].args := by simp [argsOf, h3]
    have := popsV_range 22
    simp [h2, h3, takesV, h1]
    rw [wrap_in _ (by omega) (by omega)]
    omega
  · simp [takesV, h1]

/-- What may come behind an instruction. -/
def nextV (at' : Nat) (i : Ins) : List Nat :=
  if i.op = 20 then [i.a.toNat] else if i.op = 21 then [i.a.toNat, at' + 1] else if i.op = 25 then [] else [at' + 1]
def nats (l : List Nat) : AV := .lst 1 (l.map (fun n : Nat => iv n))
theorem next_pc (n : Nat) (i : Ins) (hn : n < 4611686018427387904) (h : i.op = 20 ∨ i.op = 21 → 0 ≤ i.a) : PC Tryz.prog 54 [iv n, i.av] (nats (nextV n i)) := by
  have w : IntKind.i64.wrap ((n : Int) + 1) = (n : Int) + 1 := wrap_in _ (by omega) (by omega)
  refine pc_of_get next_get (by simp) _ (by simp) _ ?_
  unfold next_c
  simp
  refine split (fun h1 => ?_) (fun h1 => ?_) <;> simp [h1]
  · have := h (.inl h1)
    simp [nextV, h1, nats]; omega
  refine split (fun h2 => ?_) (fun h2 => ?_) <;> simp [h2]
  · have := h (.inr h2)
    simp [nextV, h2, nats, w]; omega
  refine split (fun h3 => ?_) (fun h3 => ?_) <;> simp [h3]
  · simp [nextV, h3, nats]
  · simp [nextV, h1, h2, h3, nats, w]

abbrev uv (n : Int) : AV := .int .u64 n
theorem u64_wrap (n : Int) (h1 : 0 ≤ n) (h2 : n < 18446744073709551616) : IntKind.u64.wrap n = n := by
  simp [IntKind.wrap, IntKind.signed, IntKind.bits]; omega
theorem u64_wrap_mod (n : Int) : IntKind.u64.wrap n = n % 18446744073709551616 := by simp [IntKind.wrap, IntKind.signed, IntKind.bits]
theorem u64_low (n : Nat) (h : n < 18446744073709551616) : bitAnd .u64 (n : Int) 4294967295 = ((n % 4294967296 : Nat) : Int) := by
  have e : (BitVec.ofInt 64 (n : Int) &&& BitVec.ofInt 64 4294967295).toNat = n % 4294967296 := by
    have e1 : (BitVec.ofInt 64 (n : Int)).toNat = n := by rw [BitVec.toNat_ofInt]; omega
    have e2 : (BitVec.ofInt 64 4294967295).toNat = 2 ^ 32 - 1 := by decide
    rw [BitVec.toNat_and, e1, e2, Nat.and_two_pow_sub_one_eq_mod]
  show IntKind.u64.wrap ((BitVec.ofInt 64 (n : Int) &&& BitVec.ofInt 64 4294967295).toNat : Int) = _
  rw [e, u64_wrap _ (by omega) (by omega)]
theorem shr32 (n : Nat) : shiftI false .u64 n 32 = ((n / 4294967296 : Nat) : Int) := by
  show (n : Int).fdiv 4294967296 = _
  rw [Int.fdiv_eq_ediv_of_nonneg _ (by decide)]; rfl
/-- A product with 1. -/
theorem mul64_pc (n : Nat) (h : n < 4294967296) : PC Tryz.prog 88 [uv 1, uv n] (.tup [uv 0, uv n]) := by
  refine pc_of_get mul64_get (by simp) _ (by simp) _ ?_
  unfold mul64_c
  have e1 : bitAnd .u64 1 4294967295 = 1 := u64_low 1 (by omega)
  have e2 := u64_low n (by omega)
  rw [Nat.mod_eq_of_lt h] at e2
  have e0 : bitAnd .u64 0 4294967295 = 0 := u64_low 0 (by omega)
  have w0 : IntKind.u64.wrap 0 = 0 := by decide
  have wn : IntKind.u64.wrap (n : Int) = n := u64_wrap _ (by omega) (by omega)
  have s0 : shiftI false .u64 1 32 = 0 := shr32 1
  have s1 := shr32 n
  rw [Nat.div_eq_of_lt h] at s1
  have s2 : shiftI false .u64 0 32 = 0 := shr32 0
  simp only [Int.natCast_zero] at s1
  simp [e1, e2, s0, s1, s2, wn, w0, e0]
theorem mul_pc (n : Nat) (h : n < 4294967296) : PC Tryz.prog 71 [uv 1, uv n] (.tup [uv 0, uv n]) := by
  refine pc_of_get mul_get (by simp) _ (by simp) _ ?_
  unfold mul_c
  simp
  refine call (mul64_pc n h) (by simp) ?_
  simp

end Go.Gv

/- What slices.Repeat does for a list of one number. No condition beyond those that the law names. -/
set_option linter.unusedVariables false
set_option linter.unusedSimpArgs false
namespace Go.Gv
open Go.Proofs

def rep_r0 : List AI := [⟨(some 4), none, (.op (.mv (.c .nils)))⟩]
def rep_r1 : List AI := [⟨(some 9), none, (.op (.mv (.t 1)))⟩, ⟨(some 10), none, (.op (.ibin .lss (.t 9) (.c (.int .i64 0))))⟩]
def rep_r2 : List AI := [⟨(some 11), none, (.op .bad)⟩, ⟨none, none, (.op .bad)⟩]
def rep_r3 : List AI := [⟨(some 13), none, (.op (.mv (.t 0)))⟩, ⟨(some 14), none, (.op (.len (.t 13)))⟩, ⟨(some 15), none, (.op (.conv .u64 (.t 14)))⟩, ⟨(some 16), none, (.op (.mv (.t 1)))⟩, ⟨(some 17), none, (.op (.conv .u64 (.t 16)))⟩, ⟨(some 18), none, (.call (.c (.fn 71 [])) [(.t 15), (.t 17)])⟩, ⟨(some 12), none, (.op (.mv (.t 18)))⟩, ⟨(some 19), none, (.op (.ext (.t 12) 0))⟩, ⟨(some 20), none, (.op (.ext (.t 12) 1))⟩, ⟨(some 5), none, (.op (.mv (.t 19)))⟩, ⟨(some 6), none, (.op (.mv (.t 20)))⟩]
def rep_r4 : List AI := [⟨(some 21), none, (.op (.mv (.t 5)))⟩, ⟨(some 22), none, (.op (.ibin .gtr (.t 21) (.c (.int .u64 0))))⟩, ⟨(some 23), none, (.op (.mv (.t 22)))⟩, ⟨(some 24), (some (23, false)), (.op (.mv (.t 6)))⟩, ⟨(some 25), (some (23, false)), (.op (.ibin .gtr (.t 24) (.c (.int .u64 9223372036854775807))))⟩, ⟨(some 26), none, (.op (.pick (.t 23) (.c (.bool true)) (.t 25)))⟩]
def rep_r5 : List AI := [⟨(some 27), none, (.op .bad)⟩, ⟨none, none, (.op .bad)⟩]
def rep_r6 : List AI := [⟨(some 28), none, (.op (.mv (.t 6)))⟩, ⟨(some 29), none, (.op (.conv .i64 (.t 28)))⟩, ⟨(some 30), none, (.op (.msl 92030 1 8 (.int .i64 0) (.t 29)))⟩, ⟨(some 7), none, (.op (.mv (.t 30)))⟩]
def rep_r7 : List AI := [⟨(some 31), none, (.op (.mv (.t 7)))⟩, ⟨(some 32), none, (.op (.mv (.t 0)))⟩, ⟨(some 33), none, (.op (.cpy 1 (.t 31) (.t 32)))⟩, ⟨(some 8), none, (.op (.mv (.t 33)))⟩]
def rep_r8 : List AI := [⟨(some 34), none, (.op (.mv (.t 8)))⟩, ⟨(some 35), none, (.op (.mv (.t 7)))⟩, ⟨(some 36), none, (.op (.len (.t 35)))⟩, ⟨(some 37), none, (.op (.ibin .lss (.t 34) (.t 36)))⟩]
def rep_r9 : List AI := [⟨(some 38), none, (.op (.mv (.t 8)))⟩, ⟨(some 39), none, (.op (.mv (.t 7)))⟩, ⟨(some 40), none, (.op (.mv (.t 8)))⟩, ⟨(some 41), none, (.op (.slice (some 1) (.t 39) (some (.t 40)) none))⟩, ⟨(some 42), none, (.op (.mv (.t 7)))⟩, ⟨(some 43), none, (.op (.mv (.t 8)))⟩, ⟨(some 44), none, (.op (.slice (some 1) (.t 42) none (some (.t 43))))⟩, ⟨(some 45), none, (.op (.cpy 1 (.t 41) (.t 44)))⟩, ⟨(some 46), none, (.op (.ibin .add (.t 38) (.t 45)))⟩, ⟨(some 8), none, (.op (.mv (.t 46)))⟩]
def rep_p9 : List (List Nat) := [[], [], [], [1, 2], [], [], [4, 5], [3, 6, 1, 2, 4, 5], [0, 7, 3, 6, 1, 2, 4, 5], [8, 7, 0, 1, 2, 3, 4, 5, 6]]
def rep_l0 : AC := (.seq (.seq (.reg rep_r8) (.cond (.t 37) .skip (.exit 0))) (.block 1 (.regd rep_r9 rep_p9)))
def rep_r10 : List AI := [⟨(some 47), none, (.op (.mv (.t 7)))⟩, ⟨(some 4), none, (.op (.mv (.t 47)))⟩]
def rep_c : AC := (.seq (.reg rep_r0) (.seq (.seq (.reg rep_r1) (.cond (.t 10) (.reg rep_r2) .skip)) (.seq (.reg rep_r3) (.seq (.seq (.reg rep_r4) (.cond (.t 26) (.reg rep_r5) .skip)) (.seq (.reg rep_r6) (.seq (.reg rep_r7) (.seq (.block 0 (.loop rep_l0)) (.seq (.reg rep_r10) .ret))))))))
def rep_res : List ARes := [(.tmp 4)]
set_option maxRecDepth 100000 in
theorem rep_get : getF Tryz.prog 51 92000 [] = some ("slices.Repeat[[]int,int]", 48, rep_c, rep_res) := by kernel_rfl
attribute [simp] rep_r0 rep_r1 rep_r2 rep_r3 rep_r4 rep_r5 rep_r6 rep_r7 rep_r8 rep_r9 rep_p9 rep_r10 rep_res


theorem replicate_copy (n c : Nat) (a z : AV) (h1 : 0 < n) (h2 : n < c) :
    List.replicate n a ++ (List.replicate (min n (c - n)) a ++ (List.replicate n a ++ List.replicate (c - n) z).drop (n + min n (c - n))) =
      List.replicate (n + min n (c - n)) a ++ List.replicate (c - (n + min n (c - n))) z := by
  rw [List.drop_append]
  simp only [List.drop_replicate, List.length_replicate]
  have e2 : n - (n + min n (c - n)) = 0 := by omega
  rw [e2, List.replicate_zero, List.nil_append, ← List.append_assoc, List.replicate_append_replicate]
  congr 1
  congr 1; omega
theorem repeat_v (x v : Int) (c : Nat) (hv : v = c) (hc : 1 ≤ c) (hc2 : c ≤ 1000) (nm st0 : Nat) {S : St} {k : AV → St → Prop} {u : Dep k}
    (hk : ∀ st S', Fr (rng 92000 93000) S S' → S'.blk 92030 = some ⟨st, 1, List.replicate c (iv x)⟩ → k (.sl 92030 st 1 0 c) S') :
    CallG Tryz.prog (.fn 51 []) [.acc nm st0 1 [iv x], iv v] S k u := by
  subst hv
  refine callV rep_get (by simp) (by simp) ?_
  unfold rep_c
  have w1 : IntKind.u64.wrap (c : Int) = c := u64_wrap _ (by omega) (by omega)
  have w2 : IntKind.u64.wrap 1 = 1 := by decide
  have w3 : IntKind.i64.wrap (c : Int) = c := wrap_in _ (by omega) (by omega)
  have n1 : ¬ ((c : Int) < 0) := by omega
  have n2 : ¬ ((c : Int) > 9223372036854775807) := by omega
  have n2' : ¬ (9223372036854775807 < (c : Int)) := by omega
  simp [n1, w1, w2]
  refine call (mul_pc c (by omega)) (by simp) ?_
  have hm : c * 8 ≤ 140737488355328 := by omega
  have hl1 : min 1 c = 1 := by omega
  simp [n2, n2', w3, hm, hl1]
  refine loopM (fun m S' => ∃ (n : Nat), m = c - n ∧ 1 ≤ n ∧ n ≤ c ∧ S'.t 8 = iv n ∧ (∃ st, S'.t 7 = .sl 92030 st 1 0 c ∧ S'.blk 92030 = some ⟨st, 1, List.replicate n (iv x) ++ List.replicate (c - n) (iv 0)⟩) ∧ Fh (rng 92000 93000) S S') (c - 1) ?_ ?_
  · refine ⟨1, rfl, by omega, hc, by simp, ⟨S.clk + 1 + 2 + 11 + 6 + 1 + 1, by simp, ?_⟩, ?_⟩
    · simp
    · exact Fh.here (fun n hn => by repeat rw [upd_out hn rfl]) (fun n hn => rfl) (by omega)
  · rintro m S' ⟨n, rfl, h1, h2, g8, ⟨st, g7, gb⟩, hF⟩
    by_cases hlt : n < c
    · have hw : IntKind.i64.wrap ((n : Int) + ((min n (c - n) : Nat) : Int)) = ((n + min n (c - n) : Nat) : Int) := by rw [wrap_in _ (by omega) (by omega)]; omega
      have hle : n + (c - n) ≤ c := by omega
      have hcopy := replicate_copy n c (iv x) (iv 0) h1 hlt
      have hmin : min n c = n := by omega
      simp [rep_l0, g7, g8, gb, hlt, h2, hle]
      exact ⟨c - (n + min n (c - n)), by omega, n + min n (c - n), rfl, by omega, by omega, hw, hcopy, hF.step (fun n hn => by repeat rw [upd_out hn rfl]) (fun n hn => rfl) (by omega)⟩
    · have e : n = c := by omega
      subst e
      simp [rep_l0, g7, g8, gb]
      refine hk st _ ⟨rfl, hF.b, hF.k, by have := hF.c; simp only []; omega⟩ ?_
      simpa using gb

end Go.Gv

/- What flow.walk answers: the depths that walkV tells. The code's instructions may be looked at (codeOk). -/
set_option linter.unusedVariables false
set_option linter.unusedSimpArgs false
namespace Go.Gv
open Go.Proofs

def walk_r0 : List AI := [⟨(some 2), none, (.op (.box 79002 4 (.t 0)))⟩, ⟨(some 3), none, (.op (.box 79003 2 (.t 1)))⟩, ⟨(some 4), none, (.op (.mv (.c .nils)))⟩, ⟨(some 5), none, (.op (.mv (.c (.int .i64 0))))⟩, ⟨(some 6), none, (.op (.mv (.c (.bool false))))⟩]
def walk_r1 : List AI := [⟨(some 13), none, (.op (.bsl 79013 1 3 1 (.int .i64 0) [(0, (.c (.int .i64 (-1))))]))⟩, ⟨(some 14), none, (.op (.fld 1 (.t 3)))⟩, ⟨(some 15), none, (.op (.load none (.t 14)))⟩, ⟨(some 16), none, (.op (.len (.t 15)))⟩, ⟨(some 17), none, (.op (.ibin .add (.t 16) (.c (.int .i64 1))))⟩, ⟨(some 18), none, (.call (.c (.fn 51 [])) [(.t 13), (.t 17)])⟩, ⟨(some 4), none, (.op (.mv (.t 18)))⟩]
def walk_r2 : List AI := [⟨(some 19), none, (.op (.mv (.t 4)))⟩, ⟨(some 20), none, (.op (.idx 1 (.t 19) (.c (.int .i64 0))))⟩, ⟨none, none, (.op (.store 1 (.t 20) (.c (.int .i64 0))))⟩]
def walk_r3 : List AI := [⟨(some 21), none, (.op (.bslm 1000079021 1 3 1 (.int .i64 0) [(0, (.c (.int .i64 0)))]))⟩, ⟨(some 7), none, (.op (.mv (.t 21)))⟩]
def walk_r4 : List AI := [⟨(some 22), none, (.op (.mv (.t 7)))⟩, ⟨(some 23), none, (.op (.len (.t 22)))⟩, ⟨(some 24), none, (.op (.ibin .gtr (.t 23) (.c (.int .i64 0))))⟩]
def walk_r5 : List AI := [⟨(some 25), none, (.op (.mv (.t 7)))⟩, ⟨(some 26), none, (.op (.idx 1 (.t 25) (.c (.int .i64 0))))⟩, ⟨(some 27), none, (.op (.load none (.t 26)))⟩, ⟨(some 8), none, (.op (.mv (.t 27)))⟩]
def walk_r6 : List AI := [⟨(some 28), none, (.op (.mv (.t 7)))⟩, ⟨(some 29), none, (.op (.slice (some 1) (.t 28) (some (.c (.int .i64 1))) none))⟩, ⟨(some 7), none, (.op (.mv (.t 29)))⟩]
def walk_r7 : List AI := [⟨(some 30), none, (.op (.mv (.t 8)))⟩, ⟨(some 31), none, (.op (.fld 1 (.t 3)))⟩, ⟨(some 32), none, (.op (.load none (.t 31)))⟩, ⟨(some 33), none, (.op (.len (.t 32)))⟩, ⟨(some 34), none, (.op (.ibin .eql (.t 30) (.t 33)))⟩]
def walk_r8 : List AI := [⟨(some 35), none, (.op (.fld 1 (.t 3)))⟩, ⟨(some 36), none, (.op (.load none (.t 35)))⟩, ⟨(some 37), none, (.op (.mv (.t 8)))⟩, ⟨(some 38), none, (.op (.idx 2 (.t 36) (.t 37)))⟩, ⟨(some 39), none, (.op (.load (some 2) (.t 38)))⟩, ⟨(some 9), none, (.op (.new 79009 2 (.agg [(.int .i64 0), (.int .i64 0)])))⟩, ⟨none, none, (.op (.store 2 (.t 9) (.t 39)))⟩]
def walk_r9 : List AI := [⟨(some 40), none, (.op (.mv (.t 4)))⟩, ⟨(some 41), none, (.op (.mv (.t 8)))⟩, ⟨(some 42), none, (.op (.idx 1 (.t 40) (.t 41)))⟩, ⟨(some 43), none, (.op (.load none (.t 42)))⟩, ⟨(some 44), none, (.op (.load (some 4) (.t 2)))⟩, ⟨(some 45), none, (.op (.load (some 2) (.t 9)))⟩, ⟨(some 46), none, (.call (.c (.fn 52 [])) [(.t 44), (.t 45)])⟩, ⟨(some 47), none, (.op (.ibin .sub (.t 43) (.t 46)))⟩, ⟨(some 10), none, (.op (.mv (.t 47)))⟩]
def walk_p9 : List (List Nat) := [[], [], [0, 1], [2, 0, 1], [], [], [4, 5], [3, 6, 2, 0, 1, 4, 5], [7, 6, 0, 1, 2, 3, 4, 5]]
def walk_r10 : List AI := [⟨(some 48), none, (.op (.mv (.t 10)))⟩, ⟨(some 49), none, (.op (.ibin .lss (.t 48) (.c (.int .i64 0))))⟩, ⟨(some 50), none, (.op (.mv (.t 49)))⟩, ⟨(some 51), (some (50, false)), (.op (.mv (.t 10)))⟩, ⟨(some 52), (some (50, false)), (.op (.fld 0 (.t 9)))⟩, ⟨(some 53), (some (50, false)), (.op (.load none (.t 52)))⟩, ⟨(some 54), (some (50, false)), (.call (.c (.fn 53 [])) [(.t 53)])⟩, ⟨(some 55), (some (50, false)), (.op (.ibin .add (.t 51) (.t 54)))⟩, ⟨(some 56), (some (50, false)), (.op (.ibin .gtr (.t 55) (.c (.int .i64 8))))⟩, ⟨(some 57), none, (.op (.pick (.t 50) (.c (.bool true)) (.t 56)))⟩]
def walk_r11 : List AI := [⟨(some 4), none, (.op (.mv (.c .nils)))⟩, ⟨(some 5), none, (.op (.mv (.c (.int .i64 0))))⟩, ⟨(some 6), none, (.op (.mv (.c (.bool false))))⟩]
def walk_r12 : List AI := [⟨(some 58), none, (.op (.mv (.t 10)))⟩, ⟨(some 59), none, (.op (.fld 0 (.t 9)))⟩, ⟨(some 60), none, (.op (.load none (.t 59)))⟩, ⟨(some 61), none, (.call (.c (.fn 53 [])) [(.t 60)])⟩, ⟨(some 62), none, (.op (.ibin .add (.t 58) (.t 61)))⟩, ⟨(some 10), none, (.op (.mv (.t 62)))⟩]
def walk_r13 : List AI := [⟨(some 63), none, (.op (.mv (.t 5)))⟩, ⟨(some 64), none, (.op (.mv (.t 4)))⟩, ⟨(some 65), none, (.op (.mv (.t 8)))⟩, ⟨(some 66), none, (.op (.idx 1 (.t 64) (.t 65)))⟩, ⟨(some 67), none, (.op (.load none (.t 66)))⟩, ⟨(some 68), none, (.op (.mv (.t 10)))⟩, ⟨(some 69), none, (.op (.mm true (.t 63) [(.t 67), (.t 68)]))⟩, ⟨(some 5), none, (.op (.mv (.t 69)))⟩]
def walk_r14 : List AI := [⟨(some 70), none, (.op (.mv (.t 8)))⟩, ⟨(some 71), none, (.op (.load (some 2) (.t 9)))⟩, ⟨(some 72), none, (.call (.c (.fn 54 [])) [(.t 70), (.t 71)])⟩, ⟨(some 73), none, (.op (.len (.t 72)))⟩, ⟨(some 74), none, (.op (.mv (.c (.int .i64 0))))⟩]
def walk_r15 : List AI := [⟨(some 75), none, (.op (.ibin .lss (.t 74) (.t 73)))⟩]
def walk_r16 : List AI := [⟨(some 76), none, (.op (.idx 1 (.t 72) (.t 74)))⟩, ⟨(some 77), none, (.op (.load none (.t 76)))⟩, ⟨(some 12), none, (.op (.mv (.t 77)))⟩]
def walk_r17 : List AI := [⟨(some 78), none, (.op (.mv (.t 4)))⟩, ⟨(some 79), none, (.op (.mv (.t 12)))⟩, ⟨(some 80), none, (.op (.idx 1 (.t 78) (.t 79)))⟩, ⟨(some 81), none, (.op (.load none (.t 80)))⟩, ⟨(some 82), none, (.op (.ibin .eql (.t 81) (.c (.int .i64 (-1)))))⟩]
def walk_r18 : List AI := [⟨(some 83), none, (.op (.mv (.t 4)))⟩, ⟨(some 84), none, (.op (.mv (.t 12)))⟩, ⟨(some 85), none, (.op (.mv (.t 10)))⟩, ⟨(some 86), none, (.op (.idx 1 (.t 83) (.t 84)))⟩, ⟨none, none, (.op (.store 1 (.t 86) (.t 85)))⟩]
def walk_r19 : List AI := [⟨(some 87), none, (.op (.mv (.t 7)))⟩, ⟨(some 88), none, (.op (.mv (.t 12)))⟩, ⟨(some 89), none, (.op (.bsl 79089 1 3 1 (.int .i64 0) [(0, (.t 88))]))⟩, ⟨(some 90), none, (.op (.appw 1000079021 1 3 8 (.t 87) (.t 89)))⟩, ⟨(some 7), none, (.op (.mv (.t 90)))⟩]
def walk_r20 : List AI := [⟨(some 91), none, (.op (.mv (.t 4)))⟩, ⟨(some 92), none, (.op (.mv (.t 12)))⟩, ⟨(some 93), none, (.op (.idx 1 (.t 91) (.t 92)))⟩, ⟨(some 94), none, (.op (.load none (.t 93)))⟩, ⟨(some 95), none, (.op (.mv (.t 10)))⟩, ⟨(some 96), none, (.op (.ibin .neq (.t 94) (.t 95)))⟩]
def walk_r21 : List AI := [⟨(some 4), none, (.op (.mv (.c .nils)))⟩, ⟨(some 5), none, (.op (.mv (.c (.int .i64 0))))⟩, ⟨(some 6), none, (.op (.mv (.c (.bool false))))⟩]
def walk_r22 : List AI := [⟨(some 97), none, (.op (.ibin .add (.t 74) (.c (.int .i64 1))))⟩, ⟨(some 74), none, (.op (.mv (.t 97)))⟩]
def walk_l0 : AC := (.seq (.reg walk_r15) (.seq (.cond (.t 75) .skip (.exit 2)) (.seq (.block 3 (.seq (.reg walk_r16) (.seq (.seq (.reg walk_r17) (.cond (.t 82) (.seq (.reg walk_r18) (.reg walk_r19)) .skip)) (.seq (.reg walk_r20) (.cond (.t 96) (.seq (.reg walk_r21) .ret) .skip))))) (.reg walk_r22))))
def walk_l1 : AC := (.seq (.seq (.reg walk_r4) (.cond (.t 24) .skip (.exit 0))) (.block 1 (.seq (.reg walk_r5) (.seq (.reg walk_r6) (.seq (.seq (.reg walk_r7) (.cond (.t 34) (.exit 1) .skip)) (.seq (.reg walk_r8) (.seq (.regd walk_r9 walk_p9) (.seq (.seq (.reg walk_r10) (.cond (.t 57) (.seq (.reg walk_r11) .ret) .skip)) (.seq (.reg walk_r12) (.seq (.reg walk_r13) (.seq (.reg walk_r14) (.block 2 (.loop walk_l0)))))))))))))
def walk_r23 : List AI := [⟨(some 98), none, (.op (.mv (.t 4)))⟩, ⟨(some 99), none, (.op (.mv (.t 5)))⟩, ⟨(some 4), none, (.op (.mv (.t 98)))⟩, ⟨(some 5), none, (.op (.mv (.t 99)))⟩, ⟨(some 6), none, (.op (.mv (.c (.bool true))))⟩]
def walk_c : AC := (.seq (.reg walk_r0) (.seq (.reg walk_r1) (.seq (.reg walk_r2) (.seq (.seq (.reg walk_r3) (.block 0 (.loop walk_l1))) (.seq (.reg walk_r23) .ret)))))
def walk_res : List ARes := [(.tmp 4), (.tmp 5), (.tmp 6)]
set_option maxRecDepth 100000 in
theorem walk_get : getF Tryz.prog 34 79000 [(21, 1000000021), (90, 1000000021)] = some ("gavotte/flow.walk", 100, walk_c, walk_res) := by kernel_rfl
attribute [simp] walk_r0 walk_r1 walk_r2 walk_r3 walk_r4 walk_r5 walk_r6 walk_r7 walk_r8 walk_r9 walk_p9 walk_r10 walk_r11 walk_r12 walk_r13 walk_r14 walk_r15 walk_r16 walk_r17 walk_r18 walk_r19 walk_r20 walk_r21 walk_r22 walk_r23 walk_res


def visit1 (n : Int) (s : List Int × List Nat) (k : Nat) : Option (List Int × List Nat) :=
  if s.1[k]? = some (-1) then some (s.1.set k n, s.2 ++ [k]) else if s.1[k]? = some n then some s else none
def visitL (n : Int) : List Nat → List Int × List Nat → Option (List Int × List Nat)
  | [], s => some s
  | k :: ks, s => (visit1 n s k).bind (visitL n ks)
def walkGo (hs : List Hnd) (code : List Ins) : Nat → List Int → List Nat → Int → Option (List Int × Int)
  | 0, _, _, _ => none
  | _ + 1, out, [], most => some (out, most)
  | f + 1, out, a :: left, most =>
    if a = code.length then walkGo hs code f out left most else
      match code[a]?, out[a]? with
      | some i, some d =>
        if d - takesV hs i < 0 ∨ d - takesV hs i + putsV i.op > 8 then none else
          match visitL (d - takesV hs i + putsV i.op) (nextV a i) (out, left) with
          | some s => walkGo hs code f s.1 s.2 (max (max most d) (d - takesV hs i + putsV i.op))
          | none => none
      | _, _ => none
def walkV (hs : List Hnd) (code : List Ins) : Option (List Int × Int) :=
  walkGo hs code (code.length + 3) ((List.replicate (code.length + 1) (-1)).set 0 0) [0] 0
def walkAV : Option (List Int × Int) → AV
  | some r => .tup [ints r.1, iv r.2, .bool true]
  | none => .tup [ints [], iv 0, .bool false]
def codeOk (hs : List Hnd) (code : List Ins) : Prop := code.length ≤ 900 ∧ ∀ i ∈ code, insOk hs i ∧ (i.op = 20 ∨ i.op = 21 → 0 ≤ i.a ∧ i.a ≤ code.length)

/-- The depths and the queue are as they should be. -/
structure WfW (n : Nat) (out : List Int) (left : List Nat) : Prop where
  len : out.length = n + 1
  rng : ∀ x ∈ out, -1 ≤ x ∧ x ≤ 8
  q : ∀ a ∈ left, a ≤ n
/-- How many places are not reached. -/
def unr (out : List Int) : Nat := out.countP (fun x => x == -1)
theorem unr_set (out : List Int) (k : Nat) (n : Int) (h : out[k]? = some (-1)) (hn : n ≠ -1) : unr (out.set k n) + 1 = unr out := by
  induction out generalizing k with
  | nil => simp at h
  | cons x l ih =>
    cases k with
    | zero =>
      simp at h; subst h
      simp [unr, hn]
    | succ k =>
      have := ih k (by simpa using h)
      simp only [unr, List.set_cons_succ, List.countP_cons] at this ⊢
      omega
theorem visit1_ok {m : Nat} {n : Int} {s s' : List Int × List Nat} {k : Nat} (h : visit1 n s k = some s') (hk : k ≤ m) (hn : 0 ≤ n ∧ n ≤ 8) (hw : WfW m s.1 s.2) : WfW m s'.1 s'.2 ∧ unr s'.1 + s'.2.length = unr s.1 + s.2.length := by
  unfold visit1 at h
  split at h
  · rename_i h1
    cases h
    have := unr_set s.1 k n h1 (by omega)
    refine ⟨⟨by simpa using hw.len, ?_, ?_⟩, by simp; omega⟩
    · intro x hx
      rcases List.mem_or_eq_of_mem_set hx with hx | hx
      · exact hw.rng x hx
      · omega
    · intro a ha
      simp at ha
      rcases ha with ha | ha
      · exact hw.q a ha
      · omega
  · split at h
    · cases h; exact ⟨hw, rfl⟩
    · cases h
theorem visitL_ok {m : Nat} {n : Int} : ∀ {ks : List Nat} {s s' : List Int × List Nat}, visitL n ks s = some s' → (∀ k ∈ ks, k ≤ m) → (0 ≤ n ∧ n ≤ 8) → WfW m s.1 s.2 → WfW m s'.1 s'.2 ∧ unr s'.1 + s'.2.length = unr s.1 + s.2.length
  | [], s, s', h, _, _, hw => by cases h; exact ⟨hw, rfl⟩
  | k :: ks, s, s', h, hk, hn, hw => by
    simp only [visitL, Option.bind_eq_some_iff] at h
    obtain ⟨s1, h1, h2⟩ := h
    obtain ⟨a1, a2⟩ := visit1_ok h1 (hk k (by simp)) hn hw
    obtain ⟨b1, b2⟩ := visitL_ok h2 (fun k hk' => hk k (by simp [hk'])) hn a1
    exact ⟨b1, b2.trans a2⟩
theorem nextV_le {code : List Ins} {hs : List Hnd} (hc : codeOk hs code) {a : Nat} {i : Ins} (hi : code[a]? = some i) : ∀ k ∈ nextV a i, k ≤ code.length := by
  have ha := (List.getElem?_eq_some_iff.1 hi).1
  have := (hc.2 i (List.mem_of_getElem? hi)).2
  intro k hk
  unfold nextV at hk
  split at hk
  · rename_i h; have := this (.inl h); simp at hk; omega
  · split at hk
    · rename_i h; have := this (.inr h); simp at hk; omega
    · split at hk
      · simp at hk
      · simp at hk; omega
/-- A queue in a block of its own. -/
def LQ (NL : Nat) (S : St) (v : AV) (xs : List AV) : Prop := ∃ st off es, v = .sl NL st 1 off xs.length ∧ S.blk NL = some ⟨st, 1, es⟩ ∧ off + xs.length ≤ es.length ∧ (es.drop off).take xs.length = xs
theorem take_first {α : Type} {es xs : List α} {x : α} {off : Nat} (h : (es.drop off).take (x :: xs).length = x :: xs) : es[off]? = some x ∧ (es.drop (off + 1)).take xs.length = xs := by
  have h0 : ((es.drop off).take (x :: xs).length)[0]? = some x := by rw [h]; rfl
  simp at h0
  refine ⟨h0, ?_⟩
  have hlt := (List.getElem?_eq_some_iff.1 h0).1
  rw [List.drop_eq_getElem_cons hlt, List.length_cons, List.take_succ_cons] at h
  exact (List.cons.inj h).2
theorem flat_ints (l : List Int) : (∀ x ∈ l.map iv, ∀ y ∈ x.cells, y.cl1 = true) := by
  intro x hx y hy
  rw [List.mem_map] at hx
  obtain ⟨n, _, rfl⟩ := hx
  simp at hy; subst hy; rfl
theorem list_ints (l : List Int) (blk : Nat → Option Blk) (nm st : Nat) (hb : blk nm = some ⟨st, 1, l.map iv⟩) : listOf blk 1 (.sl nm st 1 0 l.length) = some (l.map iv) := by
  have e : (l.map iv).take l.length = l.map iv := List.take_of_length_le (by simp)
  rw [listOf_sl]
  simp [hb, e]
/-- What holds at the head of the walk's loop. -/
def WI (p : Prg) (h : Hnd) (R : Option (List Int × Int)) (f : Nat) (S : St) : Prop :=
  ∃ (out : List Int) (left : List Nat) (most : Int), walkGo p.hs h.code f out left most = R ∧ WfW h.code.length out left ∧ (unr out + left.length < f ∧ f ≤ h.code.length + 3) ∧ (0 ≤ most ∧ most ≤ 8) ∧
    (∃ st, S.t 2 = .ptr 79002 st 4 0 0 ∧ S.blk 79002 = some ⟨st, 4, [p.av]⟩) ∧ (∃ st, S.t 3 = .ptr 79003 st 2 0 0 ∧ S.blk 79003 = some ⟨st, 2, [h.av]⟩) ∧
    (∃ st, S.t 4 = .sl 92030 st 1 0 out.length ∧ S.blk 92030 = some ⟨st, 1, out.map iv⟩) ∧ S.t 5 = iv most ∧ LQ 1000079021 S (S.t 7) (left.map (fun n : Nat => iv n))
/-- What holds at the head of the inner loop. -/
def WJ (p : Prg) (h : Hnd) (n : Int) (ks : List Nat) (m : Nat) (most : Int) (R : Option (List Int × List Nat)) (j : Nat) (S : St) : Prop :=
  ∃ (out : List Int) (left : List Nat), visitL n (ks.drop j) (out, left) = R ∧ WfW h.code.length out left ∧ unr out + left.length = m ∧
    (∃ st, S.t 2 = .ptr 79002 st 4 0 0 ∧ S.blk 79002 = some ⟨st, 4, [p.av]⟩) ∧ (∃ st, S.t 3 = .ptr 79003 st 2 0 0 ∧ S.blk 79003 = some ⟨st, 2, [h.av]⟩) ∧
    (∃ st, S.t 4 = .sl 92030 st 1 0 out.length ∧ S.blk 92030 = some ⟨st, 1, out.map iv⟩) ∧ S.t 5 = iv most ∧ LQ 1000079021 S (S.t 7) (left.map (fun n : Nat => iv n)) ∧
    S.t 10 = iv n ∧ S.t 72 = nats ks ∧ S.t 73 = iv ks.length ∧ S.t 74 = iv j
set_option maxHeartbeats 1000000 in
theorem walk_pc (p : Prg) (h : Hnd) (hc : codeOk p.hs h.code) : PC Tryz.prog 34 [p.av, h.av] (walkAV (walkV p.hs h.code)) := by
  have hlen := hc.1
  refine pc_of_get walk_get (by simp) _ (by simp) _ ?_
  unfold walk_c
  have w1 : IntKind.i64.wrap ((h.code.length : Int) + 1) = ((h.code.length + 1 : Nat) : Int) := by rw [wrap_in _ (by omega) (by omega)]; rfl
  simp
  refine repeat_v (-1) _ (h.code.length + 1) w1 (by omega) (by omega) _ _ (fun st S1 hF hb => ?_)
  have ht := hF.t
  have b2 := hF.b 79002 rfl
  have b3 := hF.b 79003 rfl
  simp at b2 b3 ht
  simp [ht, b2, b3, hb]
  clear hF ht
  refine loopM (WI p h (walkV p.hs h.code)) (h.code.length + 3) ?_ ?_
  · refine ⟨(List.replicate (h.code.length + 1) (-1)).set 0 0, [0], 0, rfl, ⟨by simp, ?_, by simp⟩, ?_, by omega, by simp [b2], by simp [b3], ?_, by simp, ?_⟩
    · intro x hx
      rcases List.mem_or_eq_of_mem_set hx with hx | hx
      · have := List.eq_of_mem_replicate hx; omega
      · omega
    · refine ⟨?_, by omega⟩
      simp [unr, List.replicate_succ, List.countP_replicate]
    · simp [List.map_set]
    · exact ⟨_, 0, [iv 0], by simp; rfl, by simp, by simp, by simp⟩
  clear b2 b3 hb S1 st
  rintro f S ⟨out, left, most, hgo, hwf, ⟨hun, hfl⟩, hmost, ⟨s2, g2, b2⟩, ⟨s3, g3, b3⟩, ⟨s4, g4, b4⟩, g5, ⟨s7, off, es, g7, b7, hle, hq⟩⟩
  obtain ⟨f, rfl⟩ : ∃ f', f = f' + 1 := ⟨f - 1, by omega⟩
  cases left with
  | nil =>
    simp at g7
    simp [walkGo] at hgo
    have hl := list_ints out S.blk 92030 s4 b4
    simp [walk_l1, g2, g3, g4, g5, g7, b2, b3, b4, ← hgo, walkAV, hl, ints]
  | cons a left =>
    simp at g7 hle hq
    obtain ⟨q1, q2⟩ := take_first (x := iv a) (xs := left.map (fun n : Nat => iv n)) (off := off) (es := es) (by simpa using hq)
    simp at q2
    have ha := hwf.q a (by simp)
    simp [walk_l1, g2, g3, g4, g5, g7, b2, b3, b4, b7, q1]
    refine split (fun hal => ?_) (fun hal => ?_)
    · have hal : a = h.code.length := by omega
      rw [walkGo, if_pos hal] at hgo
      simp
      refine ⟨f, by omega, out, left, most, hgo, ⟨hwf.len, hwf.rng, fun x hx => hwf.q x (by simp [hx])⟩, by simp at hun; omega, hmost, by simp [g2, b2], by simp [g3, b3], by simp [g4, b4], by simp [g5], ?_⟩
      exact ⟨s7, off + 1, es, by simp, by simp [b7], by simp; omega, by simpa using q2⟩
    · have hlt : a < h.code.length := by omega
      have hne : a ≠ h.code.length := by omega
      have hout := hwf.len
      have hi : h.code[a]? = some h.code[a] := List.getElem?_eq_getElem hlt
      have hd : out[a]? = some out[a] := List.getElem?_eq_getElem (by omega)
      have hlo : a < out.length := by omega
      have hrd := hwf.rng _ (List.getElem_mem (l := out) (n := a) (by omega))
      obtain ⟨hok, hjmp⟩ := hc.2 _ (List.getElem_mem (l := h.code) (n := a) hlt)
      have htk := takesV_range hok
      have hpt := putsV_range (h.code[a]).op
      have wt : IntKind.i64.wrap (out[a] - takesV p.hs h.code[a]) = out[a] - takesV p.hs h.code[a] := wrap_in _ (by omega) (by omega)
      have wp : IntKind.i64.wrap (out[a] - takesV p.hs h.code[a] + putsV (h.code[a]).op) = out[a] - takesV p.hs h.code[a] + putsV (h.code[a]).op := wrap_in _ (by omega) (by omega)
      simp [g2, g3, g4, g5, g7, b2, b3, b4, b7, hlt, hlo]
      refine calld (takes_pc p _ hok) (by simp) ?_
      simp [wt]
      rw [walkGo, if_neg hne, hi, hd] at hgo
      simp only at hgo
      refine split (fun hn1 => ?_) (fun hn1 => ?_) <;> simp [hn1]
      · rw [if_pos (.inl hn1)] at hgo
        simp [← hgo, walkAV]
      refine call (puts_pc (h.code[a]).op) (by simp) ?_
      simp [wp]
      refine split (fun hn2 => ?_) (fun hn2 => ?_) <;> simp [hn2]
      · rw [if_pos (.inr hn2)] at hgo
        simp [← hgo, walkAV]
      rw [if_neg (by omega)] at hgo
      refine call (puts_pc (h.code[a]).op) (by simp) ?_
      simp [wp, hlo, g2, g3, g4, g5, b2, b3, b4]
      refine call (next_pc a h.code[a] (by omega) (fun q => (hjmp q).1)) (by simp) ?_
      simp [nats]
      generalize hk : nextV a h.code[a] = ks at hgo ⊢
      generalize hn : out[a] - takesV p.hs h.code[a] + putsV (h.code[a]).op = n at hgo wp ⊢
      have hks : ∀ k ∈ ks, k ≤ h.code.length := by rw [← hk]; exact nextV_le hc hi
      have hkl : ks.length ≤ 2 := by rw [← hk]; unfold nextV; (repeat' split) <;> simp
      have hn0 : 0 ≤ n ∧ n ≤ 8 := by omega
      refine loopN (WJ p h n ks (unr out + left.length) (max (max most out[a]) n) (visitL n ks (out, left))) ks.length ?_ ?_
      · exact ⟨out, left, rfl, ⟨hwf.len, hwf.rng, fun x hx => hwf.q x (by simp [hx])⟩, rfl, by simp [g2, b2], by simp [g3, b3], by simp [g4, b4], by simp, ⟨s7, off + 1, es, by simp, by simp [b7], by simp; omega, by simpa using q2⟩, by simp, by simp [nats], by simp, by simp⟩
      · rintro j S2 hj ⟨o2, l2, hv, hw2, hu2, ⟨t2, k2, c2⟩, ⟨t3, k3, c3⟩, ⟨t4, k4, c4⟩, k5, ⟨t7, of2, es2, k7, c7, hle2, hq2⟩, k10, k72, k73, k74⟩
        by_cases hjl : j < ks.length
        · have hd2 : ks.drop j = ks[j] :: ks.drop (j + 1) := List.drop_eq_getElem_cons hjl
          have hkj := hks _ (List.getElem_mem hjl)
          have ho2 := hw2.len
          have hko : ks[j] < o2.length := by omega
          have hr2 := hw2.rng _ (List.getElem_mem hko)
          rw [hd2] at hv
          simp at hle2
          have e2 : o2[ks[j]]? = some o2[ks[j]] := List.getElem?_eq_getElem hko
          simp [walk_l0, nats, k2, k3, k4, k5, k7, k10, k72, k73, k74, c2, c3, c4, c7, hjl, hko]
          have hl2 : (l2.length + 1) * 8 ≤ 140737488355328 := by simp at hun; omega
          have hq3 : (es2.drop of2).take l2.length = l2.map (fun n : Nat => iv n) := by simpa using hq2
          have wj := wrap_succ j _ hjl (by omega)
          refine split (fun hm1 => ?_) (fun hm1 => ?_)
          · have hv1 : visit1 n (o2, l2) ks[j] = some (o2.set ks[j] n, l2 ++ [ks[j]]) := by
              unfold visit1; rw [if_pos (by rw [e2, hm1])]
            obtain ⟨hw3, hu3⟩ := visit1_ok hv1 hkj hn0 hw2
            simp only [visitL, hv1, Option.bind_some] at hv
            simp [k2, k3, k4, k5, k7, k10, k72, k73, k74, c2, c3, c4, c7, hjl, hko, hle2, hl2, hq3, nats, wj]
            refine ⟨o2.set ks[j] n, l2 ++ [ks[j]], hv, hw3, by simpa [hu2] using hu3, by simp [k2, c2], by simp [k3, c3], by simp [k4, c4, List.map_set], by simp [k5], ?_, by simp [k10], by simp [k72, nats], by simp [k73], by simp⟩
            exact ⟨_, 0, (l2 ++ [ks[j]]).map (fun n : Nat => iv n), by simp; rfl, by simp, by simp, by rw [List.drop_zero]; exact List.take_of_length_le (Nat.le_refl _)⟩
          · simp [k2, k3, k4, k5, k7, k10, k72, k73, k74, c2, c3, c4, c7, hjl, hko, nats]
            refine split (fun hm2 => ?_) (fun hm2 => ?_)
            · have hv1 : visit1 n (o2, l2) ks[j] = some (o2, l2) := by
                unfold visit1; rw [if_neg (by rw [e2]; simpa using hm1), if_pos (by rw [e2, hm2])]
              simp only [visitL, hv1, Option.bind_some] at hv
              simp [k74, wj]
              refine ⟨o2, l2, hv, hw2, hu2, by simp [k2, c2], by simp [k3, c3], by simp [k4, c4], by simp [k5], ?_, by simp [k10], by simp [k72, nats], by simp [k73], by simp⟩
              exact ⟨t7, of2, es2, by simp [k7], by simp [c7], by simpa using hle2, hq2⟩
            · have hv1 : visit1 n (o2, l2) ks[j] = none := by
                unfold visit1; rw [if_neg (by rw [e2]; simpa using hm1), if_neg (by rw [e2]; simpa using hm2)]
              simp only [visitL, hv1, Option.bind_none] at hv
              rw [← hv] at hgo
              simp only at hgo
              simp [← hgo, walkAV]
        · have hjl : j = ks.length := by omega
          subst hjl
          rw [List.drop_length] at hv
          simp only [visitL] at hv
          rw [← hv] at hgo
          simp only at hgo
          simp [walk_l0, k2, k3, k4, k5, k7, k10, k72, k73, k74, c2, c3, c4, c7]
          simp at hun
          refine ⟨f, by omega, o2, l2, _, hgo, hw2, by omega, by omega, by simp [k2, c2], by simp [k3, c3], by simp [k4, c4], by simp [k5], ?_⟩
          exact ⟨t7, of2, es2, by simp [k7], by simp [c7], by simpa using hle2, hq2⟩

end Go.Gv

/- What flow.Depths, flow.Check and flow.Most answer. No condition beyond those that each law names. -/
set_option linter.unusedVariables false
set_option linter.unusedSimpArgs false
namespace Go.Gv
open Go.Proofs

def depths_r0 : List AI := [⟨(some 2), none, (.op (.box 33002 4 (.t 0)))⟩, ⟨(some 4), none, (.op (.mv (.c .nils)))⟩, ⟨(some 5), none, (.op (.mv (.c (.int .i64 0))))⟩]
def depths_r1 : List AI := [⟨(some 10), none, (.op (.load (some 4) (.t 2)))⟩, ⟨(some 11), none, (.call (.c (.fn 33 [])) [(.t 10)])⟩, ⟨(some 6), none, (.op (.mv (.t 11)))⟩]
def depths_r2 : List AI := [⟨(some 12), none, (.op (.mv (.t 6)))⟩, ⟨(some 13), none, (.op (.ibin .neq (.t 12) (.c (.int .i64 0))))⟩]
def depths_r3 : List AI := [⟨(some 14), none, (.op (.mv (.t 6)))⟩, ⟨(some 4), none, (.op (.mv (.c .nils)))⟩, ⟨(some 5), none, (.op (.mv (.t 14)))⟩]
def depths_r4 : List AI := [⟨(some 15), none, (.op (.mv (.t 1)))⟩, ⟨(some 16), none, (.op (.ibin .lss (.t 15) (.c (.int .i64 0))))⟩, ⟨(some 17), none, (.op (.mv (.t 16)))⟩, ⟨(some 18), (some (17, false)), (.op (.mv (.t 1)))⟩, ⟨(some 19), (some (17, false)), (.op (.fld 0 (.t 2)))⟩, ⟨(some 20), (some (17, false)), (.op (.load none (.t 19)))⟩, ⟨(some 21), (some (17, false)), (.op (.len (.t 20)))⟩, ⟨(some 22), (some (17, false)), (.op (.ibin .geq (.t 18) (.t 21)))⟩, ⟨(some 23), none, (.op (.pick (.t 17) (.c (.bool true)) (.t 22)))⟩]
def depths_r5 : List AI := [⟨(some 4), none, (.op (.mv (.c .nils)))⟩, ⟨(some 5), none, (.op (.mv (.c (.int .i64 7))))⟩]
def depths_r6 : List AI := [⟨(some 25), none, (.op (.load (some 4) (.t 2)))⟩, ⟨(some 26), none, (.op (.fld 0 (.t 2)))⟩, ⟨(some 27), none, (.op (.load none (.t 26)))⟩, ⟨(some 28), none, (.op (.mv (.t 1)))⟩, ⟨(some 29), none, (.op (.idx 2 (.t 27) (.t 28)))⟩, ⟨(some 30), none, (.op (.load (some 2) (.t 29)))⟩, ⟨(some 31), none, (.call (.c (.fn 34 [])) [(.t 25), (.t 30)])⟩, ⟨(some 24), none, (.op (.mv (.t 31)))⟩, ⟨(some 32), none, (.op (.ext (.t 24) 0))⟩, ⟨(some 33), none, (.op (.ext (.t 24) 1))⟩, ⟨(some 34), none, (.op (.ext (.t 24) 2))⟩, ⟨(some 7), none, (.op (.mv (.t 32)))⟩, ⟨(some 8), none, (.op (.mv (.t 33)))⟩, ⟨(some 9), none, (.op (.mv (.t 34)))⟩]
def depths_p6 : List (List Nat) := [[], [], [1], [], [2, 3, 1], [4, 2, 3, 1], [0, 5, 4, 2, 3, 1], [6, 0, 5, 4, 2, 3, 1], [7, 6, 0, 5, 4, 2, 3, 1], [7, 6, 0, 5, 4, 2, 3, 1], [7, 6, 0, 5, 4, 2, 3, 1], [8, 6, 0, 1, 2, 3, 4, 5, 7], [9, 11, 0, 1, 2, 3, 4, 5, 6, 7, 8], [10, 12, 0, 1, 2, 3, 4, 5, 6, 7, 8, 9, 11]]
def depths_r7 : List AI := [⟨(some 35), none, (.op (.mv (.t 9)))⟩, ⟨(some 36), none, (.op (.not (.t 35)))⟩]
def depths_r8 : List AI := [⟨(some 4), none, (.op (.mv (.c .nils)))⟩, ⟨(some 5), none, (.op (.mv (.c (.int .i64 5))))⟩]
def depths_r9 : List AI := [⟨(some 37), none, (.op (.mv (.t 7)))⟩, ⟨(some 4), none, (.op (.mv (.t 37)))⟩, ⟨(some 5), none, (.op (.mv (.c (.int .i64 0))))⟩]
def depths_c : AC := (.seq (.reg depths_r0) (.seq (.seq (.reg depths_r1) (.seq (.reg depths_r2) (.cond (.t 13) (.seq (.reg depths_r3) .ret) .skip))) (.seq (.seq (.reg depths_r4) (.cond (.t 23) (.seq (.reg depths_r5) .ret) .skip)) (.seq (.regd depths_r6 depths_p6) (.seq (.seq (.reg depths_r7) (.cond (.t 36) (.seq (.reg depths_r8) .ret) .skip)) (.seq (.reg depths_r9) .ret))))))
def depths_res : List ARes := [(.tmp 4), (.tmp 5)]
set_option maxRecDepth 100000 in
theorem depths_get : getF Tryz.prog 60 33000 [] = some ("gavotte/flow.Depths", 38, depths_c, depths_res) := by kernel_rfl
def fcheck_r0 : List AI := [⟨(some 1), none, (.op (.box 36001 4 (.t 0)))⟩, ⟨(some 2), none, (.op (.mv (.c (.int .i64 0))))⟩]
def fcheck_r1 : List AI := [⟨(some 9), none, (.op (.load (some 4) (.t 1)))⟩, ⟨(some 10), none, (.call (.c (.fn 33 [])) [(.t 9)])⟩, ⟨(some 3), none, (.op (.mv (.t 10)))⟩]
def fcheck_r2 : List AI := [⟨(some 11), none, (.op (.mv (.t 3)))⟩, ⟨(some 12), none, (.op (.ibin .neq (.t 11) (.c (.int .i64 0))))⟩]
def fcheck_r3 : List AI := [⟨(some 13), none, (.op (.mv (.t 3)))⟩, ⟨(some 2), none, (.op (.mv (.t 13)))⟩]
def fcheck_r4 : List AI := [⟨(some 14), none, (.op (.fld 0 (.t 1)))⟩, ⟨(some 15), none, (.op (.load none (.t 14)))⟩, ⟨(some 16), none, (.op (.len (.t 15)))⟩, ⟨(some 17), none, (.op (.mv (.c (.int .i64 0))))⟩]
def fcheck_r5 : List AI := [⟨(some 18), none, (.op (.ibin .lss (.t 17) (.t 16)))⟩]
def fcheck_r6 : List AI := [⟨(some 19), none, (.op (.idx 2 (.t 15) (.t 17)))⟩, ⟨(some 20), none, (.op (.load (some 2) (.t 19)))⟩, ⟨(some 5), none, (.op (.new 36005 2 (.agg [(.int .i64 0), .nils])))⟩, ⟨none, none, (.op (.store 2 (.t 5) (.t 20)))⟩]
def fcheck_r7 : List AI := [⟨(some 22), none, (.op (.load (some 4) (.t 1)))⟩, ⟨(some 23), none, (.op (.load (some 2) (.t 5)))⟩, ⟨(some 24), none, (.call (.c (.fn 34 [])) [(.t 22), (.t 23)])⟩, ⟨(some 21), none, (.op (.mv (.t 24)))⟩, ⟨(some 25), none, (.op (.ext (.t 21) 0))⟩, ⟨(some 26), none, (.op (.ext (.t 21) 1))⟩, ⟨(some 27), none, (.op (.ext (.t 21) 2))⟩, ⟨(some 6), none, (.op (.mv (.t 25)))⟩, ⟨(some 7), none, (.op (.mv (.t 26)))⟩, ⟨(some 8), none, (.op (.mv (.t 27)))⟩]
def fcheck_r8 : List AI := [⟨(some 28), none, (.op (.mv (.t 8)))⟩, ⟨(some 29), none, (.op (.not (.t 28)))⟩]
def fcheck_r9 : List AI := [⟨(some 2), none, (.op (.mv (.c (.int .i64 5))))⟩]
def fcheck_r10 : List AI := [⟨(some 30), none, (.op (.ibin .add (.t 17) (.c (.int .i64 1))))⟩, ⟨(some 17), none, (.op (.mv (.t 30)))⟩]
def fcheck_l0 : AC := (.seq (.reg fcheck_r5) (.seq (.cond (.t 18) .skip (.exit 0)) (.seq (.block 1 (.seq (.reg fcheck_r6) (.seq (.reg fcheck_r7) (.seq (.reg fcheck_r8) (.cond (.t 29) (.seq (.reg fcheck_r9) .ret) .skip))))) (.reg fcheck_r10))))
def fcheck_r11 : List AI := [⟨(some 2), none, (.op (.mv (.c (.int .i64 0))))⟩]
def fcheck_c : AC := (.seq (.reg fcheck_r0) (.seq (.seq (.reg fcheck_r1) (.seq (.reg fcheck_r2) (.cond (.t 12) (.seq (.reg fcheck_r3) .ret) .skip))) (.seq (.seq (.reg fcheck_r4) (.block 0 (.loop fcheck_l0))) (.seq (.reg fcheck_r11) .ret))))
def fcheck_res : List ARes := [(.tmp 2)]
set_option maxRecDepth 100000 in
theorem fcheck_get : getF Tryz.prog 23 36000 [] = some ("gavotte/flow.Check", 31, fcheck_c, fcheck_res) := by kernel_rfl
attribute [simp] depths_r0 depths_r1 depths_r2 depths_r3 depths_r4 depths_r5 depths_r6 depths_p6 depths_r7 depths_r8 depths_r9 depths_res fcheck_r0 fcheck_r1 fcheck_r2 fcheck_r3 fcheck_r4 fcheck_r5 fcheck_r6 fcheck_r7 fcheck_r8 fcheck_r9 fcheck_r10 fcheck_r11 fcheck_res


theorem firstNZ_zero {l : List Int} (h : firstNZ l = 0) : ∀ x ∈ l, x = 0 := by
  induction l with
  | nil => simp
  | cons a l ih =>
    unfold firstNZ at h
    split at h
    · omega
    · rename_i ha
      intro x hx
      rcases List.mem_cons.1 hx with hx | hx
      · omega
      · exact ih h x hx
theorem checkV_zero {p : Prg} (h : checkV p = 0) : p.hs.length ≤ 16 ∧ p.as.length ≤ 8 ∧ p.boot.length ≤ 16 ∧ 0 < p.as.length ∧ 1 ≤ p.fuel ∧ p.fuel ≤ 256 ∧ (∀ x ∈ p.hs, handlerV p.hs.length x = 0) ∧ (∀ a ∈ p.as, actorV p.hs a = 0) ∧ (∀ n ∈ p.boot, noteV p.hs p.as.length n = 0) := by
  unfold checkV at h
  split at h
  · omega
  · rename_i h1
    split at h
    · omega
    · rename_i h2
      split at h
      · rename_i h3; exact absurd h h3
      · rename_i h3
        split at h
        · rename_i h4; exact absurd h h4
        · rename_i h4
          simp only [ne_eq, Decidable.not_not] at h3 h4
          refine ⟨by omega, by omega, by omega, by omega, by omega, by omega, ?_, ?_, ?_⟩
          · intro x hx; exact firstNZ_zero h3 _ (List.mem_map_of_mem hx)
          · intro x hx; exact firstNZ_zero h4 _ (List.mem_map_of_mem hx)
          · intro x hx; exact firstNZ_zero h _ (List.mem_map_of_mem hx)
theorem handlerV_zero {n : Int} {x : Hnd} (h : handlerV n x = 0) : 0 ≤ x.args ∧ x.args ≤ 4 ∧ x.code.length ≤ 64 ∧ ∀ i ∈ x.code, instrV n x.args x.code.length i = 0 := by
  unfold handlerV at h
  split at h
  · omega
  · rename_i h1
    split at h
    · omega
    · rename_i h2
      exact ⟨by omega, by omega, by omega, fun i hi => firstNZ_zero h _ (List.mem_map_of_mem hi)⟩
theorem instrV_zero {n a k : Int} {i : Ins} (h : instrV n a k i = 0) : 1 ≤ i.op ∧ i.op ≤ 25 ∧ (i.op = 20 ∨ i.op = 21 → 0 ≤ i.a ∧ i.a ≤ k) ∧ (i.op = 5 ∨ i.op = 6 → 0 ≤ i.a ∧ i.a < 8) ∧ (i.op = 7 → 0 ≤ i.a ∧ i.a < a) ∧ (i.op = 22 → 0 ≤ i.a ∧ i.a < n) := by
  unfold instrV at h
  split at h
  · omega
  · rename_i h1
    split at h
    · omega
    · rename_i h2
      split at h
      · omega
      · rename_i h3
        split at h
        · omega
        · rename_i h4
          simp only [not_or, not_and, Decidable.not_not] at h1 h2 h3 h4
          have hop : 1 ≤ i.op ∧ i.op ≤ 25 := by
            have := h1.1; omega
          refine ⟨hop.1, hop.2, ?_, ?_, ?_, ?_⟩
          · intro q
            have : operandV i.op = 4 := by unfold operandV; rcases q with q | q <;> simp [q]
            have := h2 this; omega
          · intro q
            have : operandV i.op = 2 := by unfold operandV; rcases q with q | q <;> simp [q]
            have := h3.1 this; omega
          · intro q
            have : operandV i.op = 3 := by unfold operandV; simp [q]
            have := h3.2 this; omega
          · intro q
            have : operandV i.op = 5 := by unfold operandV; simp [q]
            have := h4 this; omega
theorem codeOk_of {p : Prg} (h : checkV p = 0) {x : Hnd} (hx : x ∈ p.hs) : codeOk p.hs x.code := by
  obtain ⟨c1, _, _, _, _, _, c7, _, _⟩ := checkV_zero h
  obtain ⟨_, _, d3, d4⟩ := handlerV_zero (c7 x hx)
  refine ⟨by omega, fun i hi => ?_⟩
  obtain ⟨_, _, e3, _, _, e6⟩ := instrV_zero (d4 i hi)
  refine ⟨fun q => ?_, e3⟩
  obtain ⟨f1, f2⟩ := e6 q
  have hlt : i.a.toNat < p.hs.length := by omega
  have ea : argsOf p.hs i.a = (p.hs[i.a.toNat]).args := by simp [argsOf, hlt]
  obtain ⟨g1, g2, _, _⟩ := handlerV_zero (c7 _ (List.getElem_mem hlt))
  exact ⟨f1, hlt, by omega, by omega⟩

def depthsV (p : Prg) (h : Int) : List Int × Int :=
  if checkV p ≠ 0 then ([], checkV p) else if h < 0 ∨ h ≥ p.hs.length then ([], 7) else
    match p.hs[h.toNat]? with
    | some x => match walkV p.hs x.code with
      | some r => (r.1, 0)
      | none => ([], 5)
    | none => ([], 7)
theorem depths_pc (p : Prg) (h : Int) : PC Tryz.prog 60 [p.av, iv h] (.tup [ints (depthsV p h).1, iv (depthsV p h).2]) := by
  refine pc_of_get depths_get (by simp) _ (by simp) _ ?_
  unfold depths_c
  simp
  refine call (check_pc p) (by simp) ?_
  simp
  refine split (fun h1 => ?_) (fun h1 => ?_) <;> simp [h1]
  rotate_left
  · simp [depthsV, h1]
  refine split (fun h2 => ?_) (fun h2 => ?_) <;> simp [h2]
  · simp [depthsV, h1, h2]
  refine split (fun h3 => ?_) (fun h3 => ?_) <;> simp [h3]
  · simp [depthsV, h1, h2, h3]
  have h0 : 0 ≤ h := by omega
  have hlt : h.toNat < p.hs.length := by omega
  simp [h0, hlt]
  refine calld (walk_pc p p.hs[h.toNat] (codeOk_of h1 (List.getElem_mem hlt))) (by simp) ?_
  have e : p.hs[h.toNat]? = some p.hs[h.toNat] := List.getElem?_eq_getElem hlt
  have hd : depthsV p h = match walkV p.hs p.hs[h.toNat].code with | some r => (r.1, 0) | none => ([], 5) := by
    simp only [depthsV, h1, e]; rw [if_neg (by simp), if_neg (by omega)]
  rw [hd]
  cases walkV p.hs p.hs[h.toNat].code with
  | none => simp [walkAV]
  | some r => simp [walkAV]

def walkE (hs : List Hnd) (x : Hnd) : Int := match walkV hs x.code with | some _ => 0 | none => 5
def flowV (p : Prg) : Int := if checkV p ≠ 0 then checkV p else firstNZ (p.hs.map (walkE p.hs))
theorem fcheck_pc (p : Prg) : PC Tryz.prog 23 [p.av] (iv (flowV p)) := by
  refine pc_of_get fcheck_get (by simp) _ (by simp) _ ?_
  unfold fcheck_c
  simp
  refine call (check_pc p) (by simp) ?_
  simp
  refine split (fun h1 => ?_) (fun h1 => ?_) <;> simp [h1]
  rotate_left
  · simp [flowV, h1]
  have hl := (checkV_zero h1).1
  refine loopN (fun i S => firstNZ ((p.hs.map (walkE p.hs)).drop i) = flowV p ∧ (∃ st, S.t 1 = .ptr 36001 st 4 0 0 ∧ S.blk 36001 = some ⟨st, 4, [p.av]⟩) ∧ S.t 15 = .lst 2 (p.hs.map Hnd.av) ∧ S.t 16 = iv p.hs.length ∧ S.t 17 = iv i) p.hs.length ?_ ?_
  · simp [flowV, h1]
  · rintro i S hi ⟨hv, ⟨st, g1, b1⟩, g15, g16, g17⟩
    by_cases hlt : i < p.hs.length
    · have e : p.hs[i]? = some p.hs[i] := List.getElem?_eq_getElem hlt
      simp [fcheck_l0, g1, b1, g15, g16, g17, hlt, wrap_succ i _ hlt (by omega)]
      refine call (walk_pc p p.hs[i] (codeOk_of h1 (List.getElem_mem hlt))) (by simp) ?_
      rw [firstNZ_drop _ _ (by simpa using hlt)] at hv
      simp only [List.getElem_map] at hv
      rw [walkE] at hv
      cases hw : walkV p.hs p.hs[i].code with
      | none =>
        rw [hw] at hv
        simp at hv
        simp [walkAV, ← hv]
      | some r =>
        rw [hw] at hv
        simp at hv
        simp [walkAV, g1, b1, g15, g16, g17, wrap_succ i _ hlt (by omega)]
        exact hv
    · have e : i = p.hs.length := by omega
      subst e
      rw [firstNZ_end _ _ (by simp)] at hv
      simp [fcheck_l0, g1, b1, g15, g16, g17, ← hv]

def mostV (p : Prg) (h : Int) : Int :=
  if (depthsV p h).2 ≠ 0 then -1 else match p.hs[h.toNat]? with
    | some x => match walkV p.hs x.code with
      | some r => r.2
      | none => 0
    | none => 0
end Go.Gv
