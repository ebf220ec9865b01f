/- Texts of this proof, one behind the other. What is proved, and on which conditions, stands ahead of each. -/
import Derived.Test.YthhgjncefjnogaaProg
import Derived.Test.YthhgjncefjnogaaMgVmRuns10

/- What flow.walk answers: the depths that walkV tells. The code's instructions may be looked at (codeOk). -/
set_option linter.unusedVariables false
set_option linter.unusedSimpArgs false
namespace Go.Gv
open Go.Proofs

def walk_r0 : List AI := [⟨(some 2), none, (.op (.box 79002 4 (.t 0)))⟩, ⟨(some 3), none, (.op (.box 79003 2 (.t 1)))⟩, ⟨(some 4), none, (.op (.mv (.c .nils)))⟩, ⟨(some 5), none, (.op (.mv (.c (.int .i64 0))))⟩, ⟨(some 6), none, (.op (.mv (.c (.bool false))))⟩]
def walk_r1 : List AI := [⟨(some 13), none, (.op (.bsl 79013 1 3 1 (.int .i64 0) [(0, (.c (.int .i64 (-1))))]))⟩, ⟨(some 14), none, (.op (.fld 1 (.t 3)))⟩, ⟨(some 15), none, (.op (.load none (.t 14)))⟩, ⟨(some 16), none, (.op (.len (.t 15)))⟩, ⟨(some 17), none, (.op (.ibin .add (.t 16) (.c (.int .i64 1))))⟩, ⟨(some 18), none, (.call (.c (.fn 92 [])) [(.t 13), (.t 17)])⟩, ⟨(some 4), none, (.op (.mv (.t 18)))⟩]
def walk_r2 : List AI := [⟨(some 19), none, (.op (.mv (.t 4)))⟩, ⟨(some 20), none, (.op (.idx 1 (.t 19) (.c (.int .i64 0))))⟩, ⟨none, none, (.op (.store 1 (.t 20) (.c (.int .i64 0))))⟩]
def walk_r3 : List AI := [⟨(some 21), none, (.op (.bslm 1000079021 1 3 1 (.int .i64 0) [(0, (.c (.int .i64 0)))]))⟩, ⟨(some 7), none, (.op (.mv (.t 21)))⟩]
def walk_r4 : List AI := [⟨(some 22), none, (.op (.mv (.t 7)))⟩, ⟨(some 23), none, (.op (.len (.t 22)))⟩, ⟨(some 24), none, (.op (.ibin .gtr (.t 23) (.c (.int .i64 0))))⟩]
def walk_r5 : List AI := [⟨(some 25), none, (.op (.mv (.t 7)))⟩, ⟨(some 26), none, (.op (.idx 1 (.t 25) (.c (.int .i64 0))))⟩, ⟨(some 27), none, (.op (.load none (.t 26)))⟩, ⟨(some 8), none, (.op (.mv (.t 27)))⟩]
def walk_r6 : List AI := [⟨(some 28), none, (.op (.mv (.t 7)))⟩, ⟨(some 29), none, (.op (.slice (some 1) (.t 28) (some (.c (.int .i64 1))) none))⟩, ⟨(some 7), none, (.op (.mv (.t 29)))⟩]
def walk_r7 : List AI := [⟨(some 30), none, (.op (.mv (.t 8)))⟩, ⟨(some 31), none, (.op (.fld 1 (.t 3)))⟩, ⟨(some 32), none, (.op (.load none (.t 31)))⟩, ⟨(some 33), none, (.op (.len (.t 32)))⟩, ⟨(some 34), none, (.op (.ibin .eql (.t 30) (.t 33)))⟩]
def walk_r8 : List AI := [⟨(some 35), none, (.op (.fld 1 (.t 3)))⟩, ⟨(some 36), none, (.op (.load none (.t 35)))⟩, ⟨(some 37), none, (.op (.mv (.t 8)))⟩, ⟨(some 38), none, (.op (.idx 2 (.t 36) (.t 37)))⟩, ⟨(some 39), none, (.op (.load (some 2) (.t 38)))⟩, ⟨(some 9), none, (.op (.new 79009 2 (.agg [(.int .i64 0), (.int .i64 0)])))⟩, ⟨none, none, (.op (.store 2 (.t 9) (.t 39)))⟩]
def walk_r9 : List AI := [⟨(some 40), none, (.op (.mv (.t 4)))⟩, ⟨(some 41), none, (.op (.mv (.t 8)))⟩, ⟨(some 42), none, (.op (.idx 1 (.t 40) (.t 41)))⟩, ⟨(some 43), none, (.op (.load none (.t 42)))⟩, ⟨(some 44), none, (.op (.load (some 4) (.t 2)))⟩, ⟨(some 45), none, (.op (.load (some 2) (.t 9)))⟩, ⟨(some 46), none, (.call (.c (.fn 93 [])) [(.t 44), (.t 45)])⟩, ⟨(some 47), none, (.op (.ibin .sub (.t 43) (.t 46)))⟩, ⟨(some 10), none, (.op (.mv (.t 47)))⟩]
def walk_p9 : List (List Nat) := [[], [], [0, 1], [2, 0, 1], [], [], [4, 5], [3, 6, 2, 0, 1, 4, 5], [7, 6, 0, 1, 2, 3, 4, 5]]
def walk_r10 : List AI := [⟨(some 48), none, (.op (.mv (.t 10)))⟩, ⟨(some 49), none, (.op (.ibin .lss (.t 48) (.c (.int .i64 0))))⟩, ⟨(some 50), none, (.op (.mv (.t 49)))⟩, ⟨(some 51), (some (50, false)), (.op (.mv (.t 10)))⟩, ⟨(some 52), (some (50, false)), (.op (.fld 0 (.t 9)))⟩, ⟨(some 53), (some (50, false)), (.op (.load none (.t 52)))⟩, ⟨(some 54), (some (50, false)), (.call (.c (.fn 94 [])) [(.t 53)])⟩, ⟨(some 55), (some (50, false)), (.op (.ibin .add (.t 51) (.t 54)))⟩, ⟨(some 56), (some (50, false)), (.op (.ibin .gtr (.t 55) (.c (.int .i64 8))))⟩, ⟨(some 57), none, (.op (.pick (.t 50) (.c (.bool true)) (.t 56)))⟩]
def walk_r11 : List AI := [⟨(some 4), none, (.op (.mv (.c .nils)))⟩, ⟨(some 5), none, (.op (.mv (.c (.int .i64 0))))⟩, ⟨(some 6), none, (.op (.mv (.c (.bool false))))⟩]
def walk_r12 : List AI := [⟨(some 58), none, (.op (.mv (.t 10)))⟩, ⟨(some 59), none, (.op (.fld 0 (.t 9)))⟩, ⟨(some 60), none, (.op (.load none (.t 59)))⟩, ⟨(some 61), none, (.call (.c (.fn 94 [])) [(.t 60)])⟩, ⟨(some 62), none, (.op (.ibin .add (.t 58) (.t 61)))⟩, ⟨(some 10), none, (.op (.mv (.t 62)))⟩]
def walk_r13 : List AI := [⟨(some 63), none, (.op (.mv (.t 5)))⟩, ⟨(some 64), none, (.op (.mv (.t 4)))⟩, ⟨(some 65), none, (.op (.mv (.t 8)))⟩, ⟨(some 66), none, (.op (.idx 1 (.t 64) (.t 65)))⟩, ⟨(some 67), none, (.op (.load none (.t 66)))⟩, ⟨(some 68), none, (.op (.mv (.t 10)))⟩, ⟨(some 69), none, (.op (.mm true (.t 63) [(.t 67), (.t 68)]))⟩, ⟨(some 5), none, (.op (.mv (.t 69)))⟩]
def walk_r14 : List AI := [⟨(some 70), none, (.op (.mv (.t 8)))⟩, ⟨(some 71), none, (.op (.load (some 2) (.t 9)))⟩, ⟨(some 72), none, (.call (.c (.fn 95 [])) [(.t 70), (.t 71)])⟩, ⟨(some 73), none, (.op (.len (.t 72)))⟩, ⟨(some 74), none, (.op (.mv (.c (.int .i64 0))))⟩]
def walk_r15 : List AI := [⟨(some 75), none, (.op (.ibin .lss (.t 74) (.t 73)))⟩]
def walk_r16 : List AI := [⟨(some 76), none, (.op (.idx 1 (.t 72) (.t 74)))⟩, ⟨(some 77), none, (.op (.load none (.t 76)))⟩, ⟨(some 12), none, (.op (.mv (.t 77)))⟩]
def walk_r17 : List AI := [⟨(some 78), none, (.op (.mv (.t 4)))⟩, ⟨(some 79), none, (.op (.mv (.t 12)))⟩, ⟨(some 80), none, (.op (.idx 1 (.t 78) (.t 79)))⟩, ⟨(some 81), none, (.op (.load none (.t 80)))⟩, ⟨(some 82), none, (.op (.ibin .eql (.t 81) (.c (.int .i64 (-1)))))⟩]
def walk_r18 : List AI := [⟨(some 83), none, (.op (.mv (.t 4)))⟩, ⟨(some 84), none, (.op (.mv (.t 12)))⟩, ⟨(some 85), none, (.op (.mv (.t 10)))⟩, ⟨(some 86), none, (.op (.idx 1 (.t 83) (.t 84)))⟩, ⟨none, none, (.op (.store 1 (.t 86) (.t 85)))⟩]
def walk_r19 : List AI := [⟨(some 87), none, (.op (.mv (.t 7)))⟩, ⟨(some 88), none, (.op (.mv (.t 12)))⟩, ⟨(some 89), none, (.op (.bsl 79089 1 3 1 (.int .i64 0) [(0, (.t 88))]))⟩, ⟨(some 90), none, (.op (.appw 1000079021 1 3 8 (.t 87) (.t 89)))⟩, ⟨(some 7), none, (.op (.mv (.t 90)))⟩]
def walk_r20 : List AI := [⟨(some 91), none, (.op (.mv (.t 4)))⟩, ⟨(some 92), none, (.op (.mv (.t 12)))⟩, ⟨(some 93), none, (.op (.idx 1 (.t 91) (.t 92)))⟩, ⟨(some 94), none, (.op (.load none (.t 93)))⟩, ⟨(some 95), none, (.op (.mv (.t 10)))⟩, ⟨(some 96), none, (.op (.ibin .neq (.t 94) (.t 95)))⟩]
def walk_r21 : List AI := [⟨(some 4), none, (.op (.mv (.c .nils)))⟩, ⟨(some 5), none, (.op (.mv (.c (.int .i64 0))))⟩, ⟨(some 6), none, (.op (.mv (.c (.bool false))))⟩]
def walk_r22 : List AI := [⟨(some 97), none, (.op (.ibin .add (.t 74) (.c (.int .i64 1))))⟩, ⟨(some 74), none, (.op (.mv (.t 97)))⟩]
def walk_l0 : AC := (.seq (.reg walk_r15) (.seq (.cond (.t 75) .skip (.exit 2)) (.seq (.block 3 (.seq (.reg walk_r16) (.seq (.seq (.reg walk_r17) (.cond (.t 82) (.seq (.reg walk_r18) (.reg walk_r19)) .skip)) (.seq (.reg walk_r20) (.cond (.t 96) (.seq (.reg walk_r21) .ret) .skip))))) (.reg walk_r22))))
def walk_l1 : AC := (.seq (.seq (.reg walk_r4) (.cond (.t 24) .skip (.exit 0))) (.block 1 (.seq (.reg walk_r5) (.seq (.reg walk_r6) (.seq (.seq (.reg walk_r7) (.cond (.t 34) (.exit 1) .skip)) (.seq (.reg walk_r8) (.seq (.regd walk_r9 walk_p9) (.seq (.seq (.reg walk_r10) (.cond (.t 57) (.seq (.reg walk_r11) .ret) .skip)) (.seq (.reg walk_r12) (.seq (.reg walk_r13) (.seq (.reg walk_r14) (.block 2 (.loop walk_l0)))))))))))))
def walk_r23 : List AI := [⟨(some 98), none, (.op (.mv (.t 4)))⟩, ⟨(some 99), none, (.op (.mv (.t 5)))⟩, ⟨(some 4), none, (.op (.mv (.t 98)))⟩, ⟨(some 5), none, (.op (.mv (.t 99)))⟩, ⟨(some 6), none, (.op (.mv (.c (.bool true))))⟩]
def walk_c : AC := (.seq (.reg walk_r0) (.seq (.reg walk_r1) (.seq (.reg walk_r2) (.seq (.seq (.reg walk_r3) (.block 0 (.loop walk_l1))) (.seq (.reg walk_r23) .ret)))))
def walk_res : List ARes := [(.tmp 4), (.tmp 5), (.tmp 6)]
set_option maxRecDepth 100000 in
theorem walk_get : getF Try.prog 79 79000 [(21, 1000000021), (90, 1000000021)] = some ("gavotte/flow.walk", 100, walk_c, walk_res) := by kernel_rfl
attribute [simp] walk_r0 walk_r1 walk_r2 walk_r3 walk_r4 walk_r5 walk_r6 walk_r7 walk_r8 walk_r9 walk_p9 walk_r10 walk_r11 walk_r12 walk_r13 walk_r14 walk_r15 walk_r16 walk_r17 walk_r18 walk_r19 walk_r20 walk_r21 walk_r22 walk_r23 walk_res

def visit1 (n : Int) (s : List Int × List Nat) (k : Nat) : Option (List Int × List Nat) :=
  if s.1[k]? = some (-1) then some (s.1.set k n, s.2 ++ [k]) else if s.1[k]? = some n then some s else none
def visitL (n : Int) : List Nat → List Int × List Nat → Option (List Int × List Nat)
  | [], s => some s
  | k :: ks, s => (visit1 n s k).bind (visitL n ks)
def walkGo (hs : List Hnd) (code : List Ins) : Nat → List Int → List Nat → Int → Option (List Int × Int)
  | 0, _, _, _ => none
  | _ + 1, out, [], most => some (out, most)
  | f + 1, out, a :: left, most =>
    if a = code.length then walkGo hs code f out left most else
      match code[a]?, out[a]? with
      | some i, some d =>
        if d - takesV hs i < 0 ∨ d - takesV hs i + putsV i.op > 8 then none else
          match visitL (d - takesV hs i + putsV i.op) (nextV a i) (out, left) with
          | some s => walkGo hs code f s.1 s.2 (max (max most d) (d - takesV hs i + putsV i.op))
          | none => none
      | _, _ => none
def walkV (hs : List Hnd) (code : List Ins) : Option (List Int × Int) :=
  walkGo hs code (code.length + 3) ((List.replicate (code.length + 1) (-1)).set 0 0) [0] 0
def walkAV : Option (List Int × Int) → AV
  | some r => .tup [ints r.1, iv r.2, .bool true]
  | none => .tup [ints [], iv 0, .bool false]
def codeOk (hs : List Hnd) (code : List Ins) : Prop := code.length ≤ 900 ∧ ∀ i ∈ code, insOk hs i ∧ (i.op = 20 ∨ i.op = 21 → 0 ≤ i.a ∧ i.a ≤ code.length)

/-- The depths and the queue are as they should be. -/
structure WfW (n : Nat) (out : List Int) (left : List Nat) : Prop where
  len : out.length = n + 1
  rng : ∀ x ∈ out, -1 ≤ x ∧ x ≤ 8
  q : ∀ a ∈ left, a ≤ n
/-- How many places are not reached. -/
def unr (out : List Int) : Nat := out.countP (fun x => x == -1)
theorem unr_set (out : List Int) (k : Nat) (n : Int) (h : out[k]? = some (-1)) (hn : n ≠ -1) : unr (out.set k n) + 1 = unr out := by
  induction out generalizing k with
  | nil => simp at h
  | cons x l ih =>
    cases k with
    | zero =>
      simp at h; subst h
      simp [unr, hn]
    | succ k =>
      have := ih k (by simpa using h)
      simp only [unr, List.set_cons_succ, List.countP_cons] at this ⊢
      omega
theorem visit1_ok {m : Nat} {n : Int} {s s' : List Int × List Nat} {k : Nat} (h : visit1 n s k = some s') (hk : k ≤ m) (hn : 0 ≤ n ∧ n ≤ 8) (hw : WfW m s.1 s.2) : WfW m s'.1 s'.2 ∧ unr s'.1 + s'.2.length = unr s.1 + s.2.length := by
  unfold visit1 at h
  split at h
  · rename_i h1
    cases h
    have := unr_set s.1 k n h1 (by omega)
    refine ⟨⟨by simpa using hw.len, ?_, ?_⟩, by simp; omega⟩
    · intro x hx
      rcases List.mem_or_eq_of_mem_set hx with hx | hx
      · exact hw.rng x hx
      · omega
    · intro a ha
      simp at ha
      rcases ha with ha | ha
      · exact hw.q a ha
      · omega
  · split at h
    · cases h; exact ⟨hw, rfl⟩
    · cases h
theorem visitL_ok {m : Nat} {n : Int} : ∀ {ks : List Nat} {s s' : List Int × List Nat}, visitL n ks s = some s' → (∀ k ∈ ks, k ≤ m) → (0 ≤ n ∧ n ≤ 8) → WfW m s.1 s.2 → WfW m s'.1 s'.2 ∧ unr s'.1 + s'.2.length = unr s.1 + s.2.length
  | [], s, s', h, _, _, hw => by cases h; exact ⟨hw, rfl⟩
  | k :: ks, s, s', h, hk, hn, hw => by
    simp only [visitL, Option.bind_eq_some_iff] at h
    obtain ⟨s1, h1, h2⟩ := h
    obtain ⟨a1, a2⟩ := visit1_ok h1 (hk k (by simp)) hn hw
    obtain ⟨b1, b2⟩ := visitL_ok h2 (fun k hk' => hk k (by simp [hk'])) hn a1
    exact ⟨b1, b2.trans a2⟩
theorem nextV_le {code : List Ins} {hs : List Hnd} (hc : codeOk hs code) {a : Nat} {i : Ins} (hi : code[a]? = some i) : ∀ k ∈ nextV a i, k ≤ code.length := by
  have ha := (List.getElem?_eq_some_iff.1 hi).1
  have := (hc.2 i (List.mem_of_getElem? hi)).2
  intro k hk
  unfold nextV at hk
  split at hk
  · rename_i h; have := this (.inl h); simp at hk; omega
  · split at hk
    · rename_i h; have := this (.inr h); simp at hk; omega
    · split at hk
      · simp at hk
      · simp at hk; omega
/-- A queue in a block of its own. -/
def LQ (NL : Nat) (S : St) (v : AV) (xs : List AV) : Prop := ∃ st off es, v = .sl NL st 1 off xs.length ∧ S.blk NL = some ⟨st, 1, es⟩ ∧ off + xs.length ≤ es.length ∧ (es.drop off).take xs.length = xs
theorem take_first {α : Type} {es xs : List α} {x : α} {off : Nat} (h : (es.drop off).take (x :: xs).length = x :: xs) : es[off]? = some x ∧ (es.drop (off + 1)).take xs.length = xs := by
  have h0 : ((es.drop off).take (x :: xs).length)[0]? = some x := by rw [h]; rfl
  simp at h0
  refine ⟨h0, ?_⟩
  have hlt := (List.getElem?_eq_some_iff.1 h0).1
  rw [List.drop_eq_getElem_cons hlt, List.length_cons, List.take_succ_cons] at h
  exact (List.cons.inj h).2
theorem flat_ints (l : List Int) : (∀ x ∈ l.map iv, ∀ y ∈ x.cells, y.cl1 = true) := by
  intro x hx y hy
  rw [List.mem_map] at hx
  obtain ⟨n, _, rfl⟩ := hx
  simp at hy; subst hy; rfl
theorem list_ints (l : List Int) (blk : Nat → Option Blk) (nm st : Nat) (hb : blk nm = some ⟨st, 1, l.map iv⟩) : listOf blk 1 (.sl nm st 1 0 l.length) = some (l.map iv) := by
  have e : (l.map iv).take l.length = l.map iv := List.take_of_length_le (by simp)
  rw [listOf_sl]
  simp [hb, e]
/-- What holds at the head of the walk's loop. -/
def WI (p : Prg) (h : Hnd) (R : Option (List Int × Int)) (f : Nat) (S : St) : Prop :=
  ∃ (out : List Int) (left : List Nat) (most : Int), walkGo p.hs h.code f out left most = R ∧ WfW h.code.length out left ∧ (unr out + left.length < f ∧ f ≤ h.code.length + 3) ∧ (0 ≤ most ∧ most ≤ 8) ∧
    (∃ st, S.t 2 = .ptr 79002 st 4 0 0 ∧ S.blk 79002 = some ⟨st, 4, [p.av]⟩) ∧ (∃ st, S.t 3 = .ptr 79003 st 2 0 0 ∧ S.blk 79003 = some ⟨st, 2, [h.av]⟩) ∧
    (∃ st, S.t 4 = .sl 92030 st 1 0 out.length ∧ S.blk 92030 = some ⟨st, 1, out.map iv⟩) ∧ S.t 5 = iv most ∧ LQ 1000079021 S (S.t 7) (left.map (fun n : Nat => iv n))
/-- What holds at the head of the inner loop. -/
def WJ (p : Prg) (h : Hnd) (n : Int) (ks : List Nat) (m : Nat) (most : Int) (R : Option (List Int × List Nat)) (j : Nat) (S : St) : Prop :=
  ∃ (out : List Int) (left : List Nat), visitL n (ks.drop j) (out, left) = R ∧ WfW h.code.length out left ∧ unr out + left.length = m ∧
    (∃ st, S.t 2 = .ptr 79002 st 4 0 0 ∧ S.blk 79002 = some ⟨st, 4, [p.av]⟩) ∧ (∃ st, S.t 3 = .ptr 79003 st 2 0 0 ∧ S.blk 79003 = some ⟨st, 2, [h.av]⟩) ∧
    (∃ st, S.t 4 = .sl 92030 st 1 0 out.length ∧ S.blk 92030 = some ⟨st, 1, out.map iv⟩) ∧ S.t 5 = iv most ∧ LQ 1000079021 S (S.t 7) (left.map (fun n : Nat => iv n)) ∧
    S.t 10 = iv n ∧ S.t 72 = nats ks ∧ S.t 73 = iv ks.length ∧ S.t 74 = iv j
set_option maxHeartbeats 1000000 in
theorem walk_pc (p : Prg) (h : Hnd) (hc : codeOk p.hs h.code) : PC Try.prog 79 [p.av, h.av] (walkAV (walkV p.hs h.code)) := by
  have hlen := hc.1
  refine pc_of_get walk_get (by simp) _ (by simp) _ ?_
  unfold walk_c
  have w1 : IntKind.i64.wrap ((h.code.length : Int) + 1) = ((h.code.length + 1 : Nat) : Int) := by rw [wrap_in _ (by omega) (by omega)]; rfl
  simp
  refine repeat_v (-1) _ (h.code.length + 1) w1 (by omega) (by omega) _ _ (fun st S1 hF hb => ?_)
  have ht := hF.t
  have b2 := hF.b 79002 rfl
  have b3 := hF.b 79003 rfl
  simp at b2 b3 ht
  simp [ht, b2, b3, hb]
  clear hF ht
  refine loopM (WI p h (walkV p.hs h.code)) (h.code.length + 3) ?_ ?_
  · refine ⟨(List.replicate (h.code.length + 1) (-1)).set 0 0, [0], 0, rfl, ⟨by simp, ?_, by simp⟩, ?_, by omega, by simp [b2], by simp [b3], ?_, by simp, ?_⟩
    · intro x hx
      rcases List.mem_or_eq_of_mem_set hx with hx | hx
      · have := List.eq_of_mem_replicate hx; omega
      · omega
    · refine ⟨?_, by omega⟩
      simp [unr, List.replicate_succ, List.countP_replicate]
    · simp [List.map_set]
    · exact ⟨_, 0, [iv 0], by simp; rfl, by simp, by simp, by simp⟩
  clear b2 b3 hb S1 st
  rintro f S ⟨out, left, most, hgo, hwf, ⟨hun, hfl⟩, hmost, ⟨s2, g2, b2⟩, ⟨s3, g3, b3⟩, ⟨s4, g4, b4⟩, g5, ⟨s7, off, es, g7, b7, hle, hq⟩⟩
  obtain ⟨f, rfl⟩ : ∃ f', f = f' + 1 := ⟨f - 1, by omega⟩
  cases left with
  | nil =>
    simp at g7
    simp [walkGo] at hgo
    have hl := list_ints out S.blk 92030 s4 b4
    simp [walk_l1, g2, g3, g4, g5, g7, b2, b3, b4, ← hgo, walkAV, hl, ints]
  | cons a left =>
    simp at g7 hle hq
    obtain ⟨q1, q2⟩ := take_first (x := iv a) (xs := left.map (fun n : Nat => iv n)) (off := off) (es := es) (by simpa using hq)
    simp at q2
    have ha := hwf.q a (by simp)
    simp [walk_l1, g2, g3, g4, g5, g7, b2, b3, b4, b7, q1]
    refine split (fun hal => ?_) (fun hal => ?_)
    · have hal : a = h.code.length := by omega
      rw [walkGo, if_pos hal] at hgo
      simp
      refine ⟨f, by omega, out, left, most, hgo, ⟨hwf.len, hwf.rng, fun x hx => hwf.q x (by simp [hx])⟩, by simp at hun; omega, hmost, by simp [g2, b2], by simp [g3, b3], by simp [g4, b4], by simp [g5], ?_⟩
      exact ⟨s7, off + 1, es, by simp, by simp [b7], by simp; omega, by simpa using q2⟩
    · have hlt : a < h.code.length := by omega
      have hne : a ≠ h.code.length := by omega
      have hout := hwf.len
      have hi : h.code[a]? = some h.code[a] := List.getElem?_eq_getElem hlt
      have hd : out[a]? = some out[a] := List.getElem?_eq_getElem (by omega)
      have hlo : a < out.length := by omega
      have hrd := hwf.rng _ (List.getElem_mem (l := out) (n := a) (by omega))
      obtain ⟨hok, hjmp⟩ := hc.2 _ (List.getElem_mem (l := h.code) (n := a) hlt)
      have htk := takesV_range hok
      have hpt := putsV_range (h.code[a]).op
      have wt : IntKind.i64.wrap (out[a] - takesV p.hs h.code[a]) = out[a] - takesV p.hs h.code[a] := wrap_in _ (by omega) (by omega)
      have wp : IntKind.i64.wrap (out[a] - takesV p.hs h.code[a] + putsV (h.code[a]).op) = out[a] - takesV p.hs h.code[a] + putsV (h.code[a]).op := wrap_in _ (by omega) (by omega)
      simp [g2, g3, g4, g5, g7, b2, b3, b4, b7, hlt, hlo]
      refine calld (takes_pc p _ hok) (by simp) ?_
      simp [wt]
      rw [walkGo, if_neg hne, hi, hd] at hgo
      simp only at hgo
      refine split (fun hn1 => ?_) (fun hn1 => ?_) <;> simp [hn1]
      · rw [if_pos (.inl hn1)] at hgo
        simp [← hgo, walkAV]
      refine call (puts_pc (h.code[a]).op) (by simp) ?_
      simp [wp]
      refine split (fun hn2 => ?_) (fun hn2 => ?_) <;> simp [hn2]
      · rw [if_pos (.inr hn2)] at hgo
        simp [← hgo, walkAV]
      rw [if_neg (by omega)] at hgo
      refine call (puts_pc (h.code[a]).op) (by simp) ?_
      simp [wp, hlo, g2, g3, g4, g5, b2, b3, b4]
      refine call (next_pc a h.code[a] (by omega) (fun q => (hjmp q).1)) (by simp) ?_
      simp [nats]
      generalize hk : nextV a h.code[a] = ks at hgo ⊢
      generalize hn : out[a] - takesV p.hs h.code[a] + putsV (h.code[a]).op = n at hgo wp ⊢
      have hks : ∀ k ∈ ks, k ≤ h.code.length := by rw [← hk]; exact nextV_le hc hi
      have hkl : ks.length ≤ 2 := by rw [← hk]; unfold nextV; (repeat' split) <;> simp
      have hn0 : 0 ≤ n ∧ n ≤ 8 := by omega
      refine loopN (WJ p h n ks (unr out + left.length) (max (max most out[a]) n) (visitL n ks (out, left))) ks.length ?_ ?_
      · exact ⟨out, left, rfl, ⟨hwf.len, hwf.rng, fun x hx => hwf.q x (by simp [hx])⟩, rfl, by simp [g2, b2], by simp [g3, b3], by simp [g4, b4], by simp, ⟨s7, off + 1, es, by simp, by simp [b7], by simp; omega, by simpa using q2⟩, by simp, by simp [nats], by simp, by simp⟩
      · rintro j S2 hj ⟨o2, l2, hv, hw2, hu2, ⟨t2, k2, c2⟩, ⟨t3, k3, c3⟩, ⟨t4, k4, c4⟩, k5, ⟨t7, of2, es2, k7, c7, hle2, hq2⟩, k10, k72, k73, k74⟩
        by_cases hjl : j < ks.length
        · have hd2 : ks.drop j = ks[j] :: ks.drop (j + 1) := List.drop_eq_getElem_cons hjl
          have hkj := hks _ (List.getElem_mem hjl)
          have ho2 := hw2.len
          have hko : ks[j] < o2.length := by omega
          have hr2 := hw2.rng _ (List.getElem_mem hko)
          rw [hd2] at hv
          simp at hle2
          have e2 : o2[ks[j]]? = some o2[ks[j]] := List.getElem?_eq_getElem hko
          simp [walk_l0, nats, k2, k3, k4, k5, k7, k10, k72, k73, k74, c2, c3, c4, c7, hjl, hko]
          have hl2 : (l2.length + 1) * 8 ≤ 140737488355328 := by simp at hun; omega
          have hq3 : (es2.drop of2).take l2.length = l2.map (fun n : Nat => iv n) := by simpa using hq2
          have wj := wrap_succ j _ hjl (by omega)
          refine split (fun hm1 => ?_) (fun hm1 => ?_)
          · have hv1 : visit1 n (o2, l2) ks[j] = some (o2.set ks[j] n, l2 ++ [ks[j]]) := by
              unfold visit1; rw [if_pos (by rw [e2, hm1])]
            obtain ⟨hw3, hu3⟩ := visit1_ok hv1 hkj hn0 hw2
            simp only [visitL, hv1, Option.bind_some] at hv
            simp [k2, k3, k4, k5, k7, k10, k72, k73, k74, c2, c3, c4, c7, hjl, hko, hle2, hl2, hq3, nats, wj]
            refine ⟨o2.set ks[j] n, l2 ++ [ks[j]], hv, hw3, by simpa [hu2] using hu3, by simp [k2, c2], by simp [k3, c3], by simp [k4, c4, List.map_set], by simp [k5], ?_, by simp [k10], by simp [k72, nats], by simp [k73], by simp⟩
            exact ⟨_, 0, (l2 ++ [ks[j]]).map (fun n : Nat => iv n), by simp; rfl, by simp, by simp, by rw [List.drop_zero]; exact List.take_of_length_le (Nat.le_refl _)⟩
          · simp [k2, k3, k4, k5, k7, k10, k72, k73, k74, c2, c3, c4, c7, hjl, hko, nats]
            refine split (fun hm2 => ?_) (fun hm2 => ?_)
            · have hv1 : visit1 n (o2, l2) ks[j] = some (o2, l2) := by
                unfold visit1; rw [if_neg (by rw [e2]; simpa using hm1), if_pos (by rw [e2, hm2])]
              simp only [visitL, hv1, Option.bind_some] at hv
              simp [k74, wj]
              refine ⟨o2, l2, hv, hw2, hu2, by simp [k2, c2], by simp [k3, c3], by simp [k4, c4], by simp [k5], ?_, by simp [k10], by simp [k72, nats], by simp [k73], by simp⟩
              exact ⟨t7, of2, es2, by simp [k7], by simp [c7], by simpa using hle2, hq2⟩
            · have hv1 : visit1 n (o2, l2) ks[j] = none := by
                unfold visit1; rw [if_neg (by rw [e2]; simpa using hm1), if_neg (by rw [e2]; simpa using hm2)]
              simp only [visitL, hv1, Option.bind_none] at hv
              rw [← hv] at hgo
              simp only at hgo
              simp [← hgo, walkAV]
        · have hjl : j = ks.length := by omega
          subst hjl
          rw [List.drop_length] at hv
          simp only [visitL] at hv
          rw [← hv] at hgo
          simp only at hgo
          simp [walk_l0, k2, k3, k4, k5, k7, k10, k72, k73, k74, c2, c3, c4, c7]
          simp at hun
          refine ⟨f, by omega, o2, l2, _, hgo, hw2, by omega, by omega, by simp [k2, c2], by simp [k3, c3], by simp [k4, c4], by simp [k5], ?_⟩
          exact ⟨t7, of2, es2, by simp [k7], by simp [c7], by simpa using hle2, hq2⟩

end Go.Gv

/- What flow.Depths, flow.Check and flow.Most answer. No condition beyond those that each law names. -/
set_option linter.unusedVariables false
set_option linter.unusedSimpArgs false
namespace Go.Gv
open Go.Proofs

def depths_r0 : List AI := [⟨(some 2), none, (.op (.box 33002 4 (.t 0)))⟩, ⟨(some 4), none, (.op (.mv (.c .nils)))⟩, ⟨(some 5), none, (.op (.mv (.c (.int .i64 0))))⟩]
def depths_r1 : List AI := [⟨(some 10), none, (.op (.load (some 4) (.t 2)))⟩, ⟨(some 11), none, (.call (.c (.fn 31 [])) [(.t 10)])⟩, ⟨(some 6), none, (.op (.mv (.t 11)))⟩]
def depths_r2 : List AI := [⟨(some 12), none, (.op (.mv (.t 6)))⟩, ⟨(some 13), none, (.op (.ibin .neq (.t 12) (.c (.int .i64 0))))⟩]
def depths_r3 : List AI := [⟨(some 14), none, (.op (.mv (.t 6)))⟩, ⟨(some 4), none, (.op (.mv (.c .nils)))⟩, ⟨(some 5), none, (.op (.mv (.t 14)))⟩]
def depths_r4 : List AI := [⟨(some 15), none, (.op (.mv (.t 1)))⟩, ⟨(some 16), none, (.op (.ibin .lss (.t 15) (.c (.int .i64 0))))⟩, ⟨(some 17), none, (.op (.mv (.t 16)))⟩, ⟨(some 18), (some (17, false)), (.op (.mv (.t 1)))⟩, ⟨(some 19), (some (17, false)), (.op (.fld 0 (.t 2)))⟩, ⟨(some 20), (some (17, false)), (.op (.load none (.t 19)))⟩, ⟨(some 21), (some (17, false)), (.op (.len (.t 20)))⟩, ⟨(some 22), (some (17, false)), (.op (.ibin .geq (.t 18) (.t 21)))⟩, ⟨(some 23), none, (.op (.pick (.t 17) (.c (.bool true)) (.t 22)))⟩]
def depths_r5 : List AI := [⟨(some 4), none, (.op (.mv (.c .nils)))⟩, ⟨(some 5), none, (.op (.mv (.c (.int .i64 7))))⟩]
def depths_r6 : List AI := [⟨(some 25), none, (.op (.load (some 4) (.t 2)))⟩, ⟨(some 26), none, (.op (.fld 0 (.t 2)))⟩, ⟨(some 27), none, (.op (.load none (.t 26)))⟩, ⟨(some 28), none, (.op (.mv (.t 1)))⟩, ⟨(some 29), none, (.op (.idx 2 (.t 27) (.t 28)))⟩, ⟨(some 30), none, (.op (.load (some 2) (.t 29)))⟩, ⟨(some 31), none, (.call (.c (.fn 79 [])) [(.t 25), (.t 30)])⟩, ⟨(some 24), none, (.op (.mv (.t 31)))⟩, ⟨(some 32), none, (.op (.ext (.t 24) 0))⟩, ⟨(some 33), none, (.op (.ext (.t 24) 1))⟩, ⟨(some 34), none, (.op (.ext (.t 24) 2))⟩, ⟨(some 7), none, (.op (.mv (.t 32)))⟩, ⟨(some 8), none, (.op (.mv (.t 33)))⟩, ⟨(some 9), none, (.op (.mv (.t 34)))⟩]
def depths_p6 : List (List Nat) := [[], [], [1], [], [2, 3, 1], [4, 2, 3, 1], [0, 5, 4, 2, 3, 1], [6, 0, 5, 4, 2, 3, 1], [7, 6, 0, 5, 4, 2, 3, 1], [7, 6, 0, 5, 4, 2, 3, 1], [7, 6, 0, 5, 4, 2, 3, 1], [8, 6, 0, 1, 2, 3, 4, 5, 7], [9, 11, 0, 1, 2, 3, 4, 5, 6, 7, 8], [10, 12, 0, 1, 2, 3, 4, 5, 6, 7, 8, 9, 11]]
def depths_r7 : List AI := [⟨(some 35), none, (.op (.mv (.t 9)))⟩, ⟨(some 36), none, (.op (.not (.t 35)))⟩]
def depths_r8 : List AI := [⟨(some 4), none, (.op (.mv (.c .nils)))⟩, ⟨(some 5), none, (.op (.mv (.c (.int .i64 5))))⟩]
def depths_r9 : List AI := [⟨(some 37), none, (.op (.mv (.t 7)))⟩, ⟨(some 4), none, (.op (.mv (.t 37)))⟩, ⟨(some 5), none, (.op (.mv (.c (.int .i64 0))))⟩]
def depths_c : AC := (.seq (.reg depths_r0) (.seq (.seq (.reg depths_r1) (.seq (.reg depths_r2) (.cond (.t 13) (.seq (.reg depths_r3) .ret) .skip))) (.seq (.seq (.reg depths_r4) (.cond (.t 23) (.seq (.reg depths_r5) .ret) .skip)) (.seq (.regd depths_r6 depths_p6) (.seq (.seq (.reg depths_r7) (.cond (.t 36) (.seq (.reg depths_r8) .ret) .skip)) (.seq (.reg depths_r9) .ret))))))
def depths_res : List ARes := [(.tmp 4), (.tmp 5)]
set_option maxRecDepth 100000 in
theorem depths_get : getF Try.prog 33 33000 [] = some ("gavotte/flow.Depths", 38, depths_c, depths_res) := by kernel_rfl
def fcheck_r0 : List AI := [⟨(some 1), none, (.op (.box 36001 4 (.t 0)))⟩, ⟨(some 2), none, (.op (.mv (.c (.int .i64 0))))⟩]
def fcheck_r1 : List AI := [⟨(some 9), none, (.op (.load (some 4) (.t 1)))⟩, ⟨(some 10), none, (.call (.c (.fn 31 [])) [(.t 9)])⟩, ⟨(some 3), none, (.op (.mv (.t 10)))⟩]
def fcheck_r2 : List AI := [⟨(some 11), none, (.op (.mv (.t 3)))⟩, ⟨(some 12), none, (.op (.ibin .neq (.t 11) (.c (.int .i64 0))))⟩]
def fcheck_r3 : List AI := [⟨(some 13), none, (.op (.mv (.t 3)))⟩, ⟨(some 2), none, (.op (.mv (.t 13)))⟩]
def fcheck_r4 : List AI := [⟨(some 14), none, (.op (.fld 0 (.t 1)))⟩, ⟨(some 15), none, (.op (.load none (.t 14)))⟩, ⟨(some 16), none, (.op (.len (.t 15)))⟩, ⟨(some 17), none, (.op (.mv (.c (.int .i64 0))))⟩]
def fcheck_r5 : List AI := [⟨(some 18), none, (.op (.ibin .lss (.t 17) (.t 16)))⟩]
def fcheck_r6 : List AI := [⟨(some 19), none, (.op (.idx 2 (.t 15) (.t 17)))⟩, ⟨(some 20), none, (.op (.load (some 2) (.t 19)))⟩, ⟨(some 5), none, (.op (.new 36005 2 (.agg [(.int .i64 0), .nils])))⟩, ⟨none, none, (.op (.store 2 (.t 5) (.t 20)))⟩]
def fcheck_r7 : List AI := [⟨(some 22), none, (.op (.load (some 4) (.t 1)))⟩, ⟨(some 23), none, (.op (.load (some 2) (.t 5)))⟩, ⟨(some 24), none, (.call (.c (.fn 79 [])) [(.t 22), (.t 23)])⟩, ⟨(some 21), none, (.op (.mv (.t 24)))⟩, ⟨(some 25), none, (.op (.ext (.t 21) 0))⟩, ⟨(some 26), none, (.op (.ext (.t 21) 1))⟩, ⟨(some 27), none, (.op (.ext (.t 21) 2))⟩, ⟨(some 6), none, (.op (.mv (.t 25)))⟩, ⟨(some 7), none, (.op (.mv (.t 26)))⟩, ⟨(some 8), none, (.op (.mv (.t 27)))⟩]
def fcheck_r8 : List AI := [⟨(some 28), none, (.op (.mv (.t 8)))⟩, ⟨(some 29), none, (.op (.not (.t 28)))⟩]
def fcheck_r9 : List AI := [⟨(some 2), none, (.op (.mv (.c (.int .i64 5))))⟩]
def fcheck_r10 : List AI := [⟨(some 30), none, (.op (.ibin .add (.t 17) (.c (.int .i64 1))))⟩, ⟨(some 17), none, (.op (.mv (.t 30)))⟩]
def fcheck_l0 : AC := (.seq (.reg fcheck_r5) (.seq (.cond (.t 18) .skip (.exit 0)) (.seq (.block 1 (.seq (.reg fcheck_r6) (.seq (.reg fcheck_r7) (.seq (.reg fcheck_r8) (.cond (.t 29) (.seq (.reg fcheck_r9) .ret) .skip))))) (.reg fcheck_r10))))
def fcheck_r11 : List AI := [⟨(some 2), none, (.op (.mv (.c (.int .i64 0))))⟩]
def fcheck_c : AC := (.seq (.reg fcheck_r0) (.seq (.seq (.reg fcheck_r1) (.seq (.reg fcheck_r2) (.cond (.t 12) (.seq (.reg fcheck_r3) .ret) .skip))) (.seq (.seq (.reg fcheck_r4) (.block 0 (.loop fcheck_l0))) (.seq (.reg fcheck_r11) .ret))))
def fcheck_res : List ARes := [(.tmp 2)]
set_option maxRecDepth 100000 in
theorem fcheck_get : getF Try.prog 36 36000 [] = some ("gavotte/flow.Check", 31, fcheck_c, fcheck_res) := by kernel_rfl
def most_r0 : List AI := [⟨(some 2), none, (.op (.box 34002 4 (.t 0)))⟩, ⟨(some 4), none, (.op (.mv (.c (.int .i64 0))))⟩]
def most_r1 : List AI := [⟨(some 11), none, (.op (.load (some 4) (.t 2)))⟩, ⟨(some 12), none, (.op (.mv (.t 1)))⟩, ⟨(some 13), none, (.call (.c (.fn 33 [])) [(.t 11), (.t 12)])⟩, ⟨(some 10), none, (.op (.mv (.t 13)))⟩, ⟨(some 14), none, (.op (.ext (.t 10) 0))⟩, ⟨(some 15), none, (.op (.ext (.t 10) 1))⟩, ⟨(some 5), none, (.op (.mv (.t 14)))⟩, ⟨(some 6), none, (.op (.mv (.t 15)))⟩]
def most_r2 : List AI := [⟨(some 16), none, (.op (.mv (.t 6)))⟩, ⟨(some 17), none, (.op (.ibin .neq (.t 16) (.c (.int .i64 0))))⟩]
def most_r3 : List AI := [⟨(some 4), none, (.op (.mv (.c (.int .i64 (-1)))))⟩]
def most_r4 : List AI := [⟨(some 19), none, (.op (.load (some 4) (.t 2)))⟩, ⟨(some 20), none, (.op (.fld 0 (.t 2)))⟩, ⟨(some 21), none, (.op (.load none (.t 20)))⟩, ⟨(some 22), none, (.op (.mv (.t 1)))⟩, ⟨(some 23), none, (.op (.idx 2 (.t 21) (.t 22)))⟩, ⟨(some 24), none, (.op (.load (some 2) (.t 23)))⟩, ⟨(some 25), none, (.call (.c (.fn 79 [])) [(.t 19), (.t 24)])⟩, ⟨(some 18), none, (.op (.mv (.t 25)))⟩, ⟨(some 26), none, (.op (.ext (.t 18) 0))⟩, ⟨(some 27), none, (.op (.ext (.t 18) 1))⟩, ⟨(some 28), none, (.op (.ext (.t 18) 2))⟩, ⟨(some 7), none, (.op (.mv (.t 26)))⟩, ⟨(some 8), none, (.op (.mv (.t 27)))⟩, ⟨(some 9), none, (.op (.mv (.t 28)))⟩]
def most_p4 : List (List Nat) := [[], [], [1], [], [2, 3, 1], [4, 2, 3, 1], [0, 5, 4, 2, 3, 1], [6, 0, 5, 4, 2, 3, 1], [7, 6, 0, 5, 4, 2, 3, 1], [7, 6, 0, 5, 4, 2, 3, 1], [7, 6, 0, 5, 4, 2, 3, 1], [8, 6, 0, 1, 2, 3, 4, 5, 7], [9, 11, 0, 1, 2, 3, 4, 5, 6, 7, 8], [10, 12, 0, 1, 2, 3, 4, 5, 6, 7, 8, 9, 11]]
def most_r5 : List AI := [⟨(some 29), none, (.op (.mv (.t 8)))⟩, ⟨(some 4), none, (.op (.mv (.t 29)))⟩]
def most_c : AC := (.seq (.reg most_r0) (.seq (.seq (.reg most_r1) (.seq (.reg most_r2) (.cond (.t 17) (.seq (.reg most_r3) .ret) .skip))) (.seq (.regd most_r4 most_p4) (.seq (.reg most_r5) .ret))))
def most_res : List ARes := [(.tmp 4)]
set_option maxRecDepth 100000 in
theorem most_get : getF Try.prog 34 34000 [] = some ("gavotte/flow.Most", 30, most_c, most_res) := by kernel_rfl
attribute [simp] depths_r0 depths_r1 depths_r2 depths_r3 depths_r4 depths_r5 depths_r6 depths_p6 depths_r7 depths_r8 depths_r9 depths_res fcheck_r0 fcheck_r1 fcheck_r2 fcheck_r3 fcheck_r4 fcheck_r5 fcheck_r6 fcheck_r7 fcheck_r8 fcheck_r9 fcheck_r10 fcheck_r11 fcheck_res most_r0 most_r1 most_r2 most_r3 most_r4 most_p4 most_r5 most_res

theorem firstNZ_zero {l : List Int} (h : firstNZ l = 0) : ∀ x ∈ l, x = 0 := by
  induction l with
  | nil => simp
  | cons a l ih =>
    unfold firstNZ at h
    split at h
    · omega
    · rename_i ha
      intro x hx
      rcases List.mem_cons.1 hx with hx | hx
      · omega
      · exact ih h x hx
theorem checkV_zero {p : Prg} (h : checkV p = 0) : p.hs.length ≤ 16 ∧ p.as.length ≤ 8 ∧ p.boot.length ≤ 16 ∧ 0 < p.as.length ∧ 1 ≤ p.fuel ∧ p.fuel ≤ 256 ∧ (∀ x ∈ p.hs, handlerV p.hs.length x = 0) ∧ (∀ a ∈ p.as, actorV p.hs a = 0) ∧ (∀ n ∈ p.boot, noteV p.hs p.as.length n = 0) := by
  unfold checkV at h
  split at h
  · omega
  · rename_i h1
    split at h
    · omega
    · rename_i h2
      split at h
      · rename_i h3; exact absurd h h3
      · rename_i h3
        split at h
        · rename_i h4; exact absurd h h4
        · rename_i h4
          simp only [ne_eq, Decidable.not_not] at h3 h4
          refine ⟨by omega, by omega, by omega, by omega, by omega, by omega, ?_, ?_, ?_⟩
          · intro x hx; exact firstNZ_zero h3 _ (List.mem_map_of_mem hx)
          · intro x hx; exact firstNZ_zero h4 _ (List.mem_map_of_mem hx)
          · intro x hx; exact firstNZ_zero h _ (List.mem_map_of_mem hx)
theorem handlerV_zero {n : Int} {x : Hnd} (h : handlerV n x = 0) : 0 ≤ x.args ∧ x.args ≤ 4 ∧ x.code.length ≤ 64 ∧ ∀ i ∈ x.code, instrV n x.args x.code.length i = 0 := by
  unfold handlerV at h
  split at h
  · omega
  · rename_i h1
    split at h
    · omega
    · rename_i h2
      exact ⟨by omega, by omega, by omega, fun i hi => firstNZ_zero h _ (List.mem_map_of_mem hi)⟩
theorem instrV_zero {n a k : Int} {i : Ins} (h : instrV n a k i = 0) : 1 ≤ i.op ∧ i.op ≤ 25 ∧ (i.op = 20 ∨ i.op = 21 → 0 ≤ i.a ∧ i.a ≤ k) ∧ (i.op = 5 ∨ i.op = 6 → 0 ≤ i.a ∧ i.a < 8) ∧ (i.op = 7 → 0 ≤ i.a ∧ i.a < a) ∧ (i.op = 22 → 0 ≤ i.a ∧ i.a < n) := by
  unfold instrV at h
  split at h
  · omega
  · rename_i h1
    split at h
    · omega
    · rename_i h2
      split at h
      · omega
      · rename_i h3
        split at h
        · omega
        · rename_i h4
          simp only [not_or, not_and, Decidable.not_not] at h1 h2 h3 h4
          have hop : 1 ≤ i.op ∧ i.op ≤ 25 := by
            have := h1.1; omega
          refine ⟨hop.1, hop.2, ?_, ?_, ?_, ?_⟩
          · intro q
            have : operandV i.op = 4 := by unfold operandV; rcases q with q | q <;> simp [q]
            have := h2 this; omega
          · intro q
            have : operandV i.op = 2 := by unfold operandV; rcases q with q | q <;> simp [q]
            have := h3.1 this; omega
          · intro q
            have : operandV i.op = 3 := by unfold operandV; simp [q]
            have := h3.2 this; omega
          · intro q
            have : operandV i.op = 5 := by unfold operandV; simp [q]
            have := h4 this; omega
theorem codeOk_of {p : Prg} (h : checkV p = 0) {x : Hnd} (hx : x ∈ p.hs) : codeOk p.hs x.code := by
  obtain ⟨c1, _, _, _, _, _, c7, _, _⟩ := checkV_zero h
  obtain ⟨_, _, d3, d4⟩ := handlerV_zero (c7 x hx)
  refine ⟨by omega, fun i hi => ?_⟩
  obtain ⟨_, _, e3, _, _, e6⟩ := instrV_zero (d4 i hi)
  refine ⟨fun q => ?_, e3⟩
  obtain ⟨f1, f2⟩ := e6 q
  have hlt : i.a.toNat < p.hs.length := by omega
  have ea : argsOf p.hs i.a = (p.hs[i.a.toNat]).args := by simp [argsOf, hlt]
  obtain ⟨g1, g2, _, _⟩ := handlerV_zero (c7 _ (List.getElem_mem hlt))
  exact ⟨f1, hlt, by omega, by omega⟩

def depthsV (p : Prg) (h : Int) : List Int × Int :=
  if checkV p ≠ 0 then ([], checkV p) else if h < 0 ∨ h ≥ p.hs.length then ([], 7) else
    match p.hs[h.toNat]? with
    | some x => match walkV p.hs x.code with
      | some r => (r.1, 0)
      | none => ([], 5)
    | none => ([], 7)
theorem depths_pc (p : Prg) (h : Int) : PC Try.prog 33 [p.av, iv h] (.tup [ints (depthsV p h).1, iv (depthsV p h).2]) := by
  refine pc_of_get depths_get (by simp) _ (by simp) _ ?_
  unfold depths_c
  simp
  refine call (check_pc p) (by simp) ?_
  simp
  refine split (fun h1 => ?_) (fun h1 => ?_) <;> simp [h1]
  rotate_left
  · simp [depthsV, h1]
  refine split (fun h2 => ?_) (fun h2 => ?_) <;> simp [h2]
  · simp [depthsV, h1, h2]
  refine split (fun h3 => ?_) (fun h3 => ?_) <;> simp [h3]
  · simp [depthsV, h1, h2, h3]
  have h0 : 0 ≤ h := by omega
  have hlt : h.toNat < p.hs.length := by omega
  simp [h0, hlt]
  refine calld (walk_pc p p.hs[h.toNat] (codeOk_of h1 (List.getElem_mem hlt))) (by simp) ?_
  have e : p.hs[h.toNat]? = some p.hs[h.toNat] := List.getElem?_eq_getElem hlt
  have hd : depthsV p h = match walkV p.hs p.hs[h.toNat].code with | some r => (r.1, 0) | none => ([], 5) := by
    simp only [depthsV, h1, e]; rw [if_neg (by simp), if_neg (by omega)]
  rw [hd]
  cases walkV p.hs p.hs[h.toNat].code with
  | none => simp [walkAV]
  | some r => simp [walkAV]

def walkE (hs : List Hnd) (x : Hnd) : Int := match walkV hs x.code with | some _ => 0 | none => 5
def flowV (p : Prg) : Int := if checkV p ≠ 0 then checkV p else firstNZ (p.hs.map (walkE p.hs))
theorem fcheck_pc (p : Prg) : PC Try.prog 36 [p.av] (iv (flowV p)) := by
  refine pc_of_get fcheck_get (by simp) _ (by simp) _ ?_
  unfold fcheck_c
  simp
  refine call (check_pc p) (by simp) ?_
  simp
  refine split (fun h1 => ?_) (fun h1 => ?_) <;> simp [h1]
  rotate_left
  · simp [flowV, h1]
  have hl := (checkV_zero h1).1
  refine loopN (fun i S => firstNZ ((p.hs.map (walkE p.hs)).drop i) = flowV p ∧ (∃ st, S.t 1 = .ptr 36001 st 4 0 0 ∧ S.blk 36001 = some ⟨st, 4, [p.av]⟩) ∧ S.t 15 = .lst 2 (p.hs.map Hnd.av) ∧ S.t 16 = iv p.hs.length ∧ S.t 17 = iv i) p.hs.length ?_ ?_
  · simp [flowV, h1]
  · rintro i S hi ⟨hv, ⟨st, g1, b1⟩, g15, g16, g17⟩
    by_cases hlt : i < p.hs.length
    · have e : p.hs[i]? = some p.hs[i] := List.getElem?_eq_getElem hlt
      simp [fcheck_l0, g1, b1, g15, g16, g17, hlt, wrap_succ i _ hlt (by omega)]
      refine call (walk_pc p p.hs[i] (codeOk_of h1 (List.getElem_mem hlt))) (by simp) ?_
      rw [firstNZ_drop _ _ (by simpa using hlt)] at hv
      simp only [List.getElem_map] at hv
      rw [walkE] at hv
      cases hw : walkV p.hs p.hs[i].code with
      | none =>
        rw [hw] at hv
        simp at hv
        simp [walkAV, ← hv]
      | some r =>
        rw [hw] at hv
        simp at hv
        simp [walkAV, g1, b1, g15, g16, g17, wrap_succ i _ hlt (by omega)]
        exact hv
    · have e : i = p.hs.length := by omega
      subst e
      rw [firstNZ_end _ _ (by simp)] at hv
      simp [fcheck_l0, g1, b1, g15, g16, g17, ← hv]

def mostV (p : Prg) (h : Int) : Int :=
  if (depthsV p h).2 ≠ 0 then -1 else match p.hs[h.toNat]? with
    | some x => match walkV p.hs x.code with
      | some r => r.2
      | none => 0
    | none => 0
theorem most_pc (p : Prg) (h : Int) : PC Try.prog 34 [p.av, iv h] (iv (mostV p h)) := by
  refine pc_of_get most_get (by simp) _ (by simp) _ ?_
  unfold most_c
  simp
  refine call (depths_pc p h) (by simp) ?_
  simp
  refine split (fun h1 => ?_) (fun h1 => ?_) <;> simp [h1]
  rotate_left
  · simp [mostV, h1]
  have hc : checkV p = 0 := by
    unfold depthsV at h1
    split at h1
    · exact h1
    · rename_i h2; simpa using h2
  have hin : 0 ≤ h ∧ h.toNat < p.hs.length := by
    unfold depthsV at h1
    rw [if_neg (by simpa using hc)] at h1
    split at h1
    · simp at h1
    · omega
  obtain ⟨h0, hlt⟩ := hin
  have e : p.hs[h.toNat]? = some p.hs[h.toNat] := List.getElem?_eq_getElem hlt
  simp [h0, hlt]
  refine calld (walk_pc p p.hs[h.toNat] (codeOk_of hc (List.getElem_mem hlt))) (by simp) ?_
  have hm : mostV p h = match walkV p.hs p.hs[h.toNat].code with | some r => r.2 | none => 0 := by
    simp only [mostV, h1, e]; rw [if_neg (by simp)]
  rw [hm]
  cases walkV p.hs p.hs[h.toNat].code with
  | none => simp [walkAV]
  | some r => simp [walkAV]

end Go.Gv

/- What the reference's Depths and CheckFlow answer: the depths that rdepthsV tells. The code's instructions may be looked at (codeOk). -/
set_option linter.unusedVariables false
set_option linter.unusedSimpArgs false
namespace Go.Gv
open Go.Proofs

def rdep_r0 : List AI := [⟨(some 2), none, (.op (.box 38002 4 (.t 0)))⟩, ⟨(some 4), none, (.op (.mv (.c .nils)))⟩, ⟨(some 5), none, (.op (.mv (.c (.int .i64 0))))⟩, ⟨(some 6), none, (.op (.mv (.c (.int .i64 0))))⟩]
def rdep_r1 : List AI := [⟨(some 19), none, (.op (.mv (.t 1)))⟩, ⟨(some 20), none, (.op (.ibin .lss (.t 19) (.c (.int .i64 0))))⟩, ⟨(some 21), none, (.op (.mv (.t 20)))⟩, ⟨(some 22), (some (21, false)), (.op (.mv (.t 1)))⟩, ⟨(some 23), (some (21, false)), (.op (.fld 0 (.t 2)))⟩, ⟨(some 24), (some (21, false)), (.op (.load none (.t 23)))⟩, ⟨(some 25), (some (21, false)), (.op (.len (.t 24)))⟩, ⟨(some 26), (some (21, false)), (.op (.ibin .geq (.t 22) (.t 25)))⟩, ⟨(some 27), none, (.op (.pick (.t 21) (.c (.bool true)) (.t 26)))⟩]
def rdep_r2 : List AI := [⟨(some 4), none, (.op (.mv (.c .nils)))⟩, ⟨(some 5), none, (.op (.mv (.c (.int .i64 (-1)))))⟩, ⟨(some 6), none, (.op (.mv (.c (.int .i64 7))))⟩]
def rdep_r3 : List AI := [⟨(some 28), none, (.op (.fld 0 (.t 2)))⟩, ⟨(some 29), none, (.op (.load none (.t 28)))⟩, ⟨(some 30), none, (.op (.mv (.t 1)))⟩, ⟨(some 31), none, (.op (.idx 2 (.t 29) (.t 30)))⟩, ⟨(some 32), none, (.op (.fld 1 (.t 31)))⟩, ⟨(some 33), none, (.op (.load none (.t 32)))⟩, ⟨(some 7), none, (.op (.mv (.t 33)))⟩]
def rdep_r4 : List AI := [⟨(some 34), none, (.op (.mv (.t 7)))⟩, ⟨(some 35), none, (.op (.len (.t 34)))⟩, ⟨(some 8), none, (.op (.mv (.t 35)))⟩]
def rdep_r5 : List AI := [⟨(some 36), none, (.op (.mv (.t 8)))⟩, ⟨(some 37), none, (.op (.ibin .add (.t 36) (.c (.int .i64 1))))⟩, ⟨(some 38), none, (.op (.msl 38038 1 8 (.int .i64 0) (.t 37)))⟩, ⟨(some 9), none, (.op (.mv (.t 38)))⟩]
def rdep_r6 : List AI := [⟨(some 10), none, (.op (.mv (.c (.int .i64 0))))⟩]
def rdep_r7 : List AI := [⟨(some 39), none, (.op (.mv (.t 10)))⟩, ⟨(some 40), none, (.op (.mv (.t 8)))⟩, ⟨(some 41), none, (.op (.ibin .leq (.t 39) (.t 40)))⟩]
def rdep_r8 : List AI := [⟨(some 44), none, (.op (.mv (.t 9)))⟩, ⟨(some 45), none, (.op (.mv (.t 10)))⟩, ⟨(some 46), none, (.op (.idx 1 (.t 44) (.t 45)))⟩, ⟨none, none, (.op (.store 1 (.t 46) (.c (.int .i64 (-1)))))⟩]
def rdep_r9 : List AI := [⟨(some 42), none, (.op (.mv (.t 10)))⟩, ⟨(some 43), none, (.op (.ibin .add (.t 42) (.c (.int .i64 1))))⟩, ⟨(some 10), none, (.op (.mv (.t 43)))⟩]
def rdep_l0 : AC := (.seq (.seq (.reg rdep_r7) (.cond (.t 41) .skip (.exit 0))) (.seq (.block 1 (.reg rdep_r8)) (.reg rdep_r9)))
def rdep_r10 : List AI := [⟨(some 47), none, (.op (.mv (.t 9)))⟩, ⟨(some 48), none, (.op (.idx 1 (.t 47) (.c (.int .i64 0))))⟩, ⟨none, none, (.op (.store 1 (.t 48) (.c (.int .i64 0))))⟩]
def rdep_r11 : List AI := [⟨(some 11), none, (.op (.mv (.c (.int .i64 0))))⟩]
def rdep_r12 : List AI := [⟨(some 12), none, (.op (.mv (.c (.bool true))))⟩]
def rdep_r13 : List AI := [⟨(some 49), none, (.op (.mv (.t 12)))⟩]
def rdep_r14 : List AI := [⟨(some 12), none, (.op (.mv (.c (.bool false))))⟩]
def rdep_r15 : List AI := [⟨(some 13), none, (.op (.mv (.c (.int .i64 0))))⟩]
def rdep_r16 : List AI := [⟨(some 50), none, (.op (.mv (.t 13)))⟩, ⟨(some 51), none, (.op (.mv (.t 8)))⟩, ⟨(some 52), none, (.op (.ibin .lss (.t 50) (.t 51)))⟩]
def rdep_r17 : List AI := [⟨(some 55), none, (.op (.mv (.t 9)))⟩, ⟨(some 56), none, (.op (.mv (.t 13)))⟩, ⟨(some 57), none, (.op (.idx 1 (.t 55) (.t 56)))⟩, ⟨(some 58), none, (.op (.load none (.t 57)))⟩, ⟨(some 59), none, (.op (.ibin .lss (.t 58) (.c (.int .i64 0))))⟩]
def rdep_r18 : List AI := [⟨(some 60), none, (.op (.mv (.t 7)))⟩, ⟨(some 61), none, (.op (.mv (.t 13)))⟩, ⟨(some 62), none, (.op (.idx 2 (.t 60) (.t 61)))⟩, ⟨(some 63), none, (.op (.load (some 2) (.t 62)))⟩, ⟨(some 14), none, (.op (.new 38014 2 (.agg [(.int .i64 0), (.int .i64 0)])))⟩, ⟨none, none, (.op (.store 2 (.t 14) (.t 63)))⟩]
def rdep_r19 : List AI := [⟨(some 64), none, (.op (.fld 0 (.t 14)))⟩, ⟨(some 65), none, (.op (.load none (.t 64)))⟩, ⟨(some 66), none, (.call (.c (.fn 82 [])) [(.t 65)])⟩, ⟨(some 15), none, (.op (.mv (.t 66)))⟩]
def rdep_r20 : List AI := [⟨(some 67), none, (.op (.fld 0 (.t 14)))⟩, ⟨(some 68), none, (.op (.load none (.t 67)))⟩, ⟨(some 69), none, (.op (.ibin .eql (.t 68) (.c (.int .i64 22))))⟩]
def rdep_r21 : List AI := [⟨(some 70), none, (.op (.mv (.t 15)))⟩, ⟨(some 71), none, (.op (.fld 0 (.t 2)))⟩, ⟨(some 72), none, (.op (.load none (.t 71)))⟩, ⟨(some 73), none, (.op (.fld 1 (.t 14)))⟩, ⟨(some 74), none, (.op (.load none (.t 73)))⟩, ⟨(some 75), none, (.op (.idx 2 (.t 72) (.t 74)))⟩, ⟨(some 76), none, (.op (.fld 0 (.t 75)))⟩, ⟨(some 77), none, (.op (.load none (.t 76)))⟩, ⟨(some 78), none, (.op (.ibin .add (.t 70) (.t 77)))⟩, ⟨(some 15), none, (.op (.mv (.t 78)))⟩]
def rdep_r22 : List AI := [⟨(some 79), none, (.op (.mv (.t 9)))⟩, ⟨(some 80), none, (.op (.mv (.t 13)))⟩, ⟨(some 81), none, (.op (.idx 1 (.t 79) (.t 80)))⟩, ⟨(some 82), none, (.op (.load none (.t 81)))⟩, ⟨(some 83), none, (.op (.mv (.t 15)))⟩, ⟨(some 84), none, (.op (.ibin .sub (.t 82) (.t 83)))⟩, ⟨(some 85), none, (.op (.fld 0 (.t 14)))⟩, ⟨(some 86), none, (.op (.load none (.t 85)))⟩, ⟨(some 87), none, (.call (.c (.fn 83 [])) [(.t 86)])⟩, ⟨(some 88), none, (.op (.ibin .add (.t 84) (.t 87)))⟩, ⟨(some 16), none, (.op (.mv (.t 88)))⟩]
def rdep_p22 : List (List Nat) := [[], [], [0, 1], [2, 0, 1], [], [3, 4, 2, 0, 1], [], [6], [7, 6], [5, 8, 3, 4, 2, 0, 1, 7, 6], [9, 8, 0, 1, 2, 3, 4, 5, 6, 7]]
def rdep_r23 : List AI := [⟨(some 89), none, (.op (.mv (.t 9)))⟩, ⟨(some 90), none, (.op (.mv (.t 13)))⟩, ⟨(some 91), none, (.op (.idx 1 (.t 89) (.t 90)))⟩, ⟨(some 92), none, (.op (.load none (.t 91)))⟩, ⟨(some 93), none, (.op (.mv (.t 15)))⟩, ⟨(some 94), none, (.op (.ibin .lss (.t 92) (.t 93)))⟩, ⟨(some 95), none, (.op (.mv (.t 94)))⟩, ⟨(some 96), (some (95, false)), (.op (.mv (.t 16)))⟩, ⟨(some 97), (some (95, false)), (.op (.ibin .gtr (.t 96) (.c (.int .i64 8))))⟩, ⟨(some 98), none, (.op (.pick (.t 95) (.c (.bool true)) (.t 97)))⟩]
def rdep_r24 : List AI := [⟨(some 4), none, (.op (.mv (.c .nils)))⟩, ⟨(some 5), none, (.op (.mv (.c (.int .i64 (-1)))))⟩, ⟨(some 6), none, (.op (.mv (.c (.int .i64 5))))⟩]
def rdep_r25 : List AI := [⟨(some 99), none, (.op (.mv (.t 11)))⟩, ⟨(some 100), none, (.op (.mv (.t 9)))⟩, ⟨(some 101), none, (.op (.mv (.t 13)))⟩, ⟨(some 102), none, (.op (.idx 1 (.t 100) (.t 101)))⟩, ⟨(some 103), none, (.op (.load none (.t 102)))⟩, ⟨(some 104), none, (.op (.mv (.t 16)))⟩, ⟨(some 105), none, (.op (.mm true (.t 99) [(.t 103), (.t 104)]))⟩, ⟨(some 11), none, (.op (.mv (.t 105)))⟩]
def rdep_r26 : List AI := [⟨(some 17), none, (.op (.mv (.c .nils)))⟩]
def rdep_r27 : List AI := [⟨(some 106), none, (.op (.fld 0 (.t 14)))⟩, ⟨(some 107), none, (.op (.load none (.t 106)))⟩]
def rdep_r28 : List AI := [⟨(some 112), none, (.op (.ibin .eql (.t 107) (.c (.int .i64 20))))⟩, ⟨(some 111), none, (.op (.mv (.t 112)))⟩]
def rdep_r29 : List AI := [⟨(some 113), none, (.op (.fld 1 (.t 14)))⟩, ⟨(some 114), none, (.op (.load none (.t 113)))⟩, ⟨(some 115), none, (.op (.bsl 38115 1 3 1 (.int .i64 0) [(0, (.t 114))]))⟩, ⟨(some 17), none, (.op (.mv (.t 115)))⟩]
def rdep_r30 : List AI := [⟨(some 117), none, (.op (.ibin .eql (.t 107) (.c (.int .i64 21))))⟩, ⟨(some 116), none, (.op (.mv (.t 117)))⟩]
def rdep_r31 : List AI := [⟨(some 118), none, (.op (.fld 1 (.t 14)))⟩, ⟨(some 119), none, (.op (.load none (.t 118)))⟩, ⟨(some 120), none, (.op (.mv (.t 13)))⟩, ⟨(some 121), none, (.op (.ibin .add (.t 120) (.c (.int .i64 1))))⟩, ⟨(some 122), none, (.op (.bsl 38122 1 3 2 (.int .i64 0) [(0, (.t 119)), (1, (.t 121))]))⟩, ⟨(some 17), none, (.op (.mv (.t 122)))⟩]
def rdep_r32 : List AI := [⟨(some 124), none, (.op (.ibin .eql (.t 107) (.c (.int .i64 25))))⟩, ⟨(some 123), none, (.op (.mv (.t 124)))⟩]
def rdep_r33 : List AI := [⟨(some 17), none, (.op (.mv (.c .nils)))⟩]
def rdep_r34 : List AI := [⟨(some 108), none, (.op (.mv (.t 13)))⟩, ⟨(some 109), none, (.op (.ibin .add (.t 108) (.c (.int .i64 1))))⟩, ⟨(some 110), none, (.op (.bsl 38110 1 3 1 (.int .i64 0) [(0, (.t 109))]))⟩, ⟨(some 17), none, (.op (.mv (.t 110)))⟩]
def rdep_r35 : List AI := [⟨(some 18), none, (.op (.mv (.c (.int .i64 0))))⟩]
def rdep_r36 : List AI := [⟨(some 125), none, (.op (.mv (.t 18)))⟩, ⟨(some 126), none, (.op (.mv (.t 17)))⟩, ⟨(some 127), none, (.op (.len (.t 126)))⟩, ⟨(some 128), none, (.op (.ibin .lss (.t 125) (.t 127)))⟩]
def rdep_r37 : List AI := [⟨(some 131), none, (.op (.mv (.t 9)))⟩, ⟨(some 132), none, (.op (.mv (.t 17)))⟩, ⟨(some 133), none, (.op (.mv (.t 18)))⟩, ⟨(some 134), none, (.op (.idx 1 (.t 132) (.t 133)))⟩, ⟨(some 135), none, (.op (.load none (.t 134)))⟩, ⟨(some 136), none, (.op (.idx 1 (.t 131) (.t 135)))⟩, ⟨(some 137), none, (.op (.load none (.t 136)))⟩, ⟨(some 138), none, (.op (.ibin .geq (.t 137) (.c (.int .i64 0))))⟩, ⟨(some 139), none, (.op (.mv (.t 138)))⟩, ⟨(some 140), (some (139, true)), (.op (.mv (.t 9)))⟩, ⟨(some 141), (some (139, true)), (.op (.mv (.t 17)))⟩, ⟨(some 142), (some (139, true)), (.op (.mv (.t 18)))⟩, ⟨(some 143), (some (139, true)), (.op (.idx 1 (.t 141) (.t 142)))⟩, ⟨(some 144), (some (139, true)), (.op (.load none (.t 143)))⟩, ⟨(some 145), (some (139, true)), (.op (.idx 1 (.t 140) (.t 144)))⟩, ⟨(some 146), (some (139, true)), (.op (.load none (.t 145)))⟩, ⟨(some 147), (some (139, true)), (.op (.mv (.t 16)))⟩, ⟨(some 148), (some (139, true)), (.op (.ibin .neq (.t 146) (.t 147)))⟩, ⟨(some 149), none, (.op (.pick (.t 139) (.t 148) (.c (.bool false))))⟩]
def rdep_r38 : List AI := [⟨(some 4), none, (.op (.mv (.c .nils)))⟩, ⟨(some 5), none, (.op (.mv (.c (.int .i64 (-1)))))⟩, ⟨(some 6), none, (.op (.mv (.c (.int .i64 5))))⟩]
def rdep_r39 : List AI := [⟨(some 150), none, (.op (.mv (.t 9)))⟩, ⟨(some 151), none, (.op (.mv (.t 17)))⟩, ⟨(some 152), none, (.op (.mv (.t 18)))⟩, ⟨(some 153), none, (.op (.idx 1 (.t 151) (.t 152)))⟩, ⟨(some 154), none, (.op (.load none (.t 153)))⟩, ⟨(some 155), none, (.op (.idx 1 (.t 150) (.t 154)))⟩, ⟨(some 156), none, (.op (.load none (.t 155)))⟩, ⟨(some 157), none, (.op (.ibin .lss (.t 156) (.c (.int .i64 0))))⟩]
def rdep_r40 : List AI := [⟨(some 158), none, (.op (.mv (.t 9)))⟩, ⟨(some 159), none, (.op (.mv (.t 17)))⟩, ⟨(some 160), none, (.op (.mv (.t 18)))⟩, ⟨(some 161), none, (.op (.idx 1 (.t 159) (.t 160)))⟩, ⟨(some 162), none, (.op (.load none (.t 161)))⟩, ⟨(some 163), none, (.op (.mv (.t 16)))⟩, ⟨(some 164), none, (.op (.idx 1 (.t 158) (.t 162)))⟩, ⟨none, none, (.op (.store 1 (.t 164) (.t 163)))⟩]
def rdep_r41 : List AI := [⟨(some 12), none, (.op (.mv (.c (.bool true))))⟩]
def rdep_r42 : List AI := [⟨(some 129), none, (.op (.mv (.t 18)))⟩, ⟨(some 130), none, (.op (.ibin .add (.t 129) (.c (.int .i64 1))))⟩, ⟨(some 18), none, (.op (.mv (.t 130)))⟩]
def rdep_l1 : AC := (.seq (.seq (.reg rdep_r36) (.cond (.t 128) .skip (.exit 7))) (.seq (.block 8 (.seq (.seq (.reg rdep_r37) (.cond (.t 149) (.seq (.reg rdep_r38) .ret) .skip)) (.seq (.reg rdep_r39) (.cond (.t 157) (.seq (.reg rdep_r40) (.reg rdep_r41)) .skip)))) (.reg rdep_r42)))
def rdep_r43 : List AI := [⟨(some 53), none, (.op (.mv (.t 13)))⟩, ⟨(some 54), none, (.op (.ibin .add (.t 53) (.c (.int .i64 1))))⟩, ⟨(some 13), none, (.op (.mv (.t 54)))⟩]
def rdep_l2 : AC := (.seq (.seq (.reg rdep_r16) (.cond (.t 52) .skip (.exit 4))) (.seq (.block 5 (.seq (.seq (.reg rdep_r17) (.cond (.t 59) (.exit 5) .skip)) (.seq (.reg rdep_r18) (.seq (.reg rdep_r19) (.seq (.seq (.reg rdep_r20) (.cond (.t 69) (.reg rdep_r21) .skip)) (.seq (.regd rdep_r22 rdep_p22) (.seq (.seq (.reg rdep_r23) (.cond (.t 98) (.seq (.reg rdep_r24) .ret) .skip)) (.seq (.reg rdep_r25) (.seq (.reg rdep_r26) (.seq (.seq (.reg rdep_r27) (.block 6 (.seq (.reg rdep_r28) (.cond (.t 111) (.reg rdep_r29) (.seq (.reg rdep_r30) (.cond (.t 116) (.reg rdep_r31) (.seq (.reg rdep_r32) (.cond (.t 123) (.reg rdep_r33) (.reg rdep_r34))))))))) (.seq (.reg rdep_r35) (.block 7 (.loop rdep_l1))))))))))))) (.reg rdep_r43)))
def rdep_l3 : AC := (.seq (.seq (.reg rdep_r13) (.cond (.t 49) .skip (.exit 2))) (.block 3 (.seq (.reg rdep_r14) (.seq (.reg rdep_r15) (.block 4 (.loop rdep_l2))))))
def rdep_r44 : List AI := [⟨(some 165), none, (.op (.mv (.t 9)))⟩, ⟨(some 166), none, (.op (.mv (.t 11)))⟩, ⟨(some 4), none, (.op (.mv (.t 165)))⟩, ⟨(some 5), none, (.op (.mv (.t 166)))⟩, ⟨(some 6), none, (.op (.mv (.c (.int .i64 0))))⟩]
def rdep_c : AC := (.seq (.reg rdep_r0) (.seq (.seq (.reg rdep_r1) (.cond (.t 27) (.seq (.reg rdep_r2) .ret) .skip)) (.seq (.reg rdep_r3) (.seq (.reg rdep_r4) (.seq (.reg rdep_r5) (.seq (.seq (.reg rdep_r6) (.block 0 (.loop rdep_l0))) (.seq (.reg rdep_r10) (.seq (.reg rdep_r11) (.seq (.seq (.reg rdep_r12) (.block 2 (.loop rdep_l3))) (.seq (.reg rdep_r44) .ret))))))))))
def rdep_res : List ARes := [(.tmp 4), (.tmp 5), (.tmp 6)]
set_option maxRecDepth 100000 in
theorem rdep_get : getF Try.prog 38 38000 [] = some ("gavotte/gavotteref1.Depths", 167, rdep_c, rdep_res) := by kernel_rfl
def rcflow_r0 : List AI := [⟨(some 1), none, (.op (.box 37001 4 (.t 0)))⟩, ⟨(some 2), none, (.op (.mv (.c (.int .i64 0))))⟩]
def rcflow_r1 : List AI := [⟨(some 5), none, (.op (.load (some 4) (.t 1)))⟩, ⟨(some 6), none, (.call (.c (.fn 35 [])) [(.t 5)])⟩, ⟨(some 3), none, (.op (.mv (.t 6)))⟩]
def rcflow_r2 : List AI := [⟨(some 4), none, (.op (.mv (.c (.int .i64 0))))⟩]
def rcflow_r3 : List AI := [⟨(some 7), none, (.op (.mv (.t 4)))⟩, ⟨(some 8), none, (.op (.fld 0 (.t 1)))⟩, ⟨(some 9), none, (.op (.load none (.t 8)))⟩, ⟨(some 10), none, (.op (.len (.t 9)))⟩, ⟨(some 11), none, (.op (.ibin .lss (.t 7) (.t 10)))⟩, ⟨(some 12), none, (.op (.mv (.t 11)))⟩, ⟨(some 13), (some (12, true)), (.op (.mv (.t 3)))⟩, ⟨(some 14), (some (12, true)), (.op (.ibin .eql (.t 13) (.c (.int .i64 0))))⟩, ⟨(some 15), none, (.op (.pick (.t 12) (.t 14) (.c (.bool false))))⟩]
def rcflow_r4 : List AI := [⟨(some 19), none, (.op (.load (some 4) (.t 1)))⟩, ⟨(some 20), none, (.op (.mv (.t 4)))⟩, ⟨(some 21), none, (.call (.c (.fn 38 [])) [(.t 19), (.t 20)])⟩, ⟨(some 18), none, (.op (.mv (.t 21)))⟩, ⟨(some 22), none, (.op (.ext (.t 18) 0))⟩, ⟨(some 23), none, (.op (.ext (.t 18) 1))⟩, ⟨(some 24), none, (.op (.ext (.t 18) 2))⟩, ⟨(some 3), none, (.op (.mv (.t 24)))⟩]
def rcflow_r5 : List AI := [⟨(some 16), none, (.op (.mv (.t 4)))⟩, ⟨(some 17), none, (.op (.ibin .add (.t 16) (.c (.int .i64 1))))⟩, ⟨(some 4), none, (.op (.mv (.t 17)))⟩]
def rcflow_l0 : AC := (.seq (.seq (.reg rcflow_r3) (.cond (.t 15) .skip (.exit 0))) (.seq (.block 1 (.reg rcflow_r4)) (.reg rcflow_r5)))
def rcflow_r6 : List AI := [⟨(some 25), none, (.op (.mv (.t 3)))⟩, ⟨(some 2), none, (.op (.mv (.t 25)))⟩]
def rcflow_c : AC := (.seq (.reg rcflow_r0) (.seq (.reg rcflow_r1) (.seq (.seq (.reg rcflow_r2) (.block 0 (.loop rcflow_l0))) (.seq (.reg rcflow_r6) .ret))))
def rcflow_res : List ARes := [(.tmp 2)]
set_option maxRecDepth 100000 in
theorem rcflow_get : getF Try.prog 37 37000 [] = some ("gavotte/gavotteref1.CheckFlow", 26, rcflow_c, rcflow_res) := by kernel_rfl
attribute [simp] rdep_r0 rdep_r1 rdep_r2 rdep_r3 rdep_r4 rdep_r5 rdep_r6 rdep_r7 rdep_r8 rdep_r9 rdep_r10 rdep_r11 rdep_r12 rdep_r13 rdep_r14 rdep_r15 rdep_r16 rdep_r17 rdep_r18 rdep_r19 rdep_r20 rdep_r21 rdep_r22 rdep_p22 rdep_r23 rdep_r24 rdep_r25 rdep_r26 rdep_r27 rdep_r28 rdep_r29 rdep_r30 rdep_r31 rdep_r32 rdep_r33 rdep_r34 rdep_r35 rdep_r36 rdep_r37 rdep_r38 rdep_r39 rdep_r40 rdep_r41 rdep_r42 rdep_r43 rdep_r44 rdep_res rcflow_r0 rcflow_r1 rcflow_r2 rcflow_r3 rcflow_r4 rcflow_r5 rcflow_r6 rcflow_res

def rvisit1 (d : Int) (s : List Int × Bool) (k : Nat) : Option (List Int × Bool) :=
  match s.1[k]? with
  | some x => if 0 ≤ x ∧ x ≠ d then none else if x < 0 then some (s.1.set k d, true) else some s
  | none => none
def rvisitL (d : Int) : List Nat → List Int × Bool → Option (List Int × Bool)
  | [], s => some s
  | k :: ks, s => (rvisit1 d s k).bind (rvisitL d ks)
/-- Lists, the most, whether something is new. -/
structure RS where
  l : List Int
  most : Int
  again : Bool
def rstep (hs : List Hnd) (code : List Ins) (s : RS) (i : Nat) : Option RS :=
  match s.l[i]?, code[i]? with
  | some x, some c =>
    if x < 0 then some s else if x < takesV hs c ∨ x - takesV hs c + putsV c.op > 8 then none else
      match rvisitL (x - takesV hs c + putsV c.op) (nextV i c) (s.l, s.again) with
      | some r => some ⟨r.1, max (max s.most x) (x - takesV hs c + putsV c.op), r.2⟩
      | none => none
  | _, _ => none
def rpass (hs : List Hnd) (code : List Ins) : List Nat → RS → Option RS
  | [], s => some s
  | i :: is, s => (rstep hs code s i).bind (rpass hs code is)
def rgo (hs : List Hnd) (code : List Ins) : Nat → List Int → Int → Option (List Int × Int)
  | 0, _, _ => none
  | f + 1, l, most => match rpass hs code (List.range code.length) ⟨l, most, false⟩ with
    | some s => if s.again = true then rgo hs code f s.l s.most else some (s.l, s.most)
    | none => none
def rwalkV (hs : List Hnd) (code : List Ins) : Option (List Int × Int) := rgo hs code (code.length + 3) ((List.replicate (code.length + 1) (-1)).set 0 0) 0
/-- The lists are as they should be. -/
structure WfR (n : Nat) (l : List Int) : Prop where
  len : l.length = n + 1
  rng : ∀ x ∈ l, -1 ≤ x ∧ x ≤ 8
theorem rvisit1_ok {m : Nat} {d : Int} {s s' : List Int × Bool} {k : Nat} (h : rvisit1 d s k = some s') (hd : 0 ≤ d ∧ d ≤ 8) (hw : WfR m s.1) : WfR m s'.1 ∧ (s'.2 = s.2 ∧ s'.1 = s.1 ∨ s'.2 = true ∧ unr s'.1 + 1 = unr s.1) := by
  unfold rvisit1 at h
  split at h
  · rename_i x hx
    have hr := hw.rng x (List.mem_of_getElem? hx)
    split at h
    · cases h
    · split at h
      · cases h
        refine ⟨⟨by simpa using hw.len, ?_⟩, .inr ⟨rfl, unr_set _ _ _ (by rw [hx]; congr 1; omega) (by omega)⟩⟩
        intro y hy
        rcases List.mem_or_eq_of_mem_set hy with hy | hy
        · exact hw.rng y hy
        · omega
      · cases h; exact ⟨hw, .inl ⟨rfl, rfl⟩⟩
  · cases h
theorem rvisitL_ok {m : Nat} {d : Int} : ∀ {ks : List Nat} {s s' : List Int × Bool}, rvisitL d ks s = some s' → (0 ≤ d ∧ d ≤ 8) → WfR m s.1 → WfR m s'.1 ∧ (s'.2 = s.2 ∧ s'.1 = s.1 ∨ s'.2 = true ∧ unr s'.1 + 1 ≤ unr s.1)
  | [], s, s', h, _, hw => by cases h; exact ⟨hw, .inl ⟨rfl, rfl⟩⟩
  | k :: ks, s, s', h, hd, hw => by
    simp only [rvisitL, Option.bind_eq_some_iff] at h
    obtain ⟨s1, h1, h2⟩ := h
    obtain ⟨a1, a2⟩ := rvisit1_ok h1 hd hw
    obtain ⟨b1, b2⟩ := rvisitL_ok h2 hd a1
    refine ⟨b1, ?_⟩
    rcases a2 with ⟨a2, a3⟩ | ⟨a2, a3⟩ <;> rcases b2 with ⟨b2, b3⟩ | ⟨b2, b3⟩
    · exact .inl ⟨b2.trans a2, b3.trans a3⟩
    · exact .inr ⟨b2, by rw [← a3]; exact b3⟩
    · exact .inr ⟨b2.trans a2, by rw [b3]; omega⟩
    · exact .inr ⟨b2, by omega⟩

/-- A list that is a literal, or nil. -/
def IsL (v : AV) (ks : List Nat) : Prop := (v = .nils ∧ ks = []) ∨ ∃ nm st, v = .acc nm st 1 (ks.map (fun n : Nat => iv n))
def RB (S : St) (p : Prg) (code : List Ins) (l : List Int) (most : Int) (again : Bool) : Prop :=
  (∃ st, S.t 2 = .ptr 38002 st 4 0 0 ∧ S.blk 38002 = some ⟨st, 4, [p.av]⟩) ∧ S.t 7 = .lst 2 (code.map Ins.av) ∧ S.t 8 = iv code.length ∧
  (∃ st, S.t 9 = .sl 38038 st 1 0 l.length ∧ S.blk 38038 = some ⟨st, 1, l.map iv⟩) ∧ S.t 11 = iv most ∧ S.t 12 = .bool again
def RJ (p : Prg) (code : List Ins) (d : Int) (ks : List Nat) (most : Int) (i : Nat) (R : Option (List Int × Bool)) (j : Nat) (S : St) : Prop :=
  ∃ (l : List Int) (ag : Bool), rvisitL d (ks.drop j) (l, ag) = R ∧ WfR code.length l ∧ RB S p code l most ag ∧ S.t 13 = iv i ∧ S.t 16 = iv d ∧ IsL (S.t 17) ks ∧ S.t 18 = iv j
theorem rd_inner (p : Prg) (code : List Ins) (d : Int) (hd : 0 ≤ d ∧ d ≤ 8) (ks : List Nat) (hk : ∀ k ∈ ks, k ≤ code.length) (hkl : ks.length ≤ 2) (l0 : List Int) (ag0 : Bool) (most : Int) (i : Nat) (hw : WfR code.length l0)
    (κ : Ex → St → Prop) (S : St) (u : Dep κ) (hB : RB S p code l0 most ag0) (h13 : S.t 13 = iv i) (h16 : S.t 16 = iv d) (h17 : IsL (S.t 17) ks) (h18 : S.t 18 = iv 0)
    (hok : ∀ r S', rvisitL d ks (l0, ag0) = some r → RB S' p code r.1 most r.2 → S'.t 13 = iv i → κ (.exit 7) S')
    (hno : ∀ S', rvisitL d ks (l0, ag0) = none → S'.t 4 = .nils → S'.t 5 = iv (-1) → S'.t 6 = iv 5 → κ .ret S') : LoopG Try.prog rdep_l1 κ S u := by
  refine loopN (RJ p code d ks most i (rvisitL d ks (l0, ag0))) ks.length ?_ ?_
  · exact ⟨l0, ag0, rfl, hw, hB, h13, h16, h17, h18⟩
  clear hw hB h13 h16 h17 h18
  rintro j S hj ⟨l, ag, hv, hw, ⟨⟨s2, g2, b2⟩, g7, g8, ⟨s9, g9, b9⟩, g11, g12⟩, h13, h16, h17, h18⟩
  by_cases hjl : j < ks.length
  · have hdr : ks.drop j = ks[j] :: ks.drop (j + 1) := List.drop_eq_getElem_cons hjl
    have hkj := hk _ (List.getElem_mem hjl)
    have hlen := hw.len
    have hko : ks[j] < l.length := by omega
    have hr := hw.rng _ (List.getElem_mem hko)
    have e : l[ks[j]]? = some l[ks[j]] := List.getElem?_eq_getElem hko
    have wj := wrap_succ j _ hjl (by omega)
    rw [hdr] at hv
    simp only [rvisitL] at hv
    rcases h17 with ⟨_, q⟩ | ⟨nm, st, h17⟩
    · rw [q] at hjl; simp at hjl
    have hv1 : rvisit1 d (l, ag) ks[j] = if 0 ≤ l[ks[j]] ∧ l[ks[j]] ≠ d then none else if l[ks[j]] < 0 then some (l.set ks[j] d, true) else some (l, ag) := by
      unfold rvisit1; simp only [e]
    simp [rdep_l1, g2, g7, g8, g9, g11, g12, b2, b9, h13, h16, h17, h18, hjl, hko]
    refine split (fun h0 => ?_) (fun h0 => ?_)
    · simp [h0, g2, g7, g8, g9, g11, g12, b2, b9, h13, h16, h17, h18, hjl, hko]
      refine split (fun h1 => ?_) (fun h1 => ?_)
      · rw [if_neg (by omega), if_neg (by omega)] at hv1
        rw [hv1] at hv
        simp only [Option.bind_some] at hv
        have h0' : ¬ l[ks[j]] < 0 := by omega
        simp [h1, g2, g7, g8, g9, g11, g12, b2, b9, h13, h16, h17, h18, hjl, hko]
        have hd' : ¬ d < 0 := by omega
        simp [hd', h18, wj]
        exact ⟨l, ag, hv, hw, ⟨by simp [g2, b2], by simp [g7], by simp [g8], by simp [g9, b9], by simp [g11], by simp [g12]⟩, by simp [h13], by simp [h16], .inr ⟨nm, st, by simp [h17]⟩, by simp⟩
      · rw [if_pos ⟨h0, h1⟩] at hv1
        rw [hv1] at hv
        simp only [Option.bind_none] at hv
        simp [h1]
        exact hno _ hv.symm (by simp) (by simp) (by simp)
    · have h0' : l[ks[j]] < 0 := by omega
      rw [if_neg (by omega), if_pos h0'] at hv1
      rw [hv1] at hv
      simp only [Option.bind_some] at hv
      simp [h0, g2, g7, g8, g9, g11, g12, b2, b9, h13, h16, h17, h18, hjl, hko, h0']
      simp [h18, wj]
      have hw2 := (rvisit1_ok (s := (l, ag)) (s' := (l.set ks[j] d, true)) (k := ks[j]) (d := d) (m := code.length) hv1 hd hw).1
      refine ⟨l.set ks[j] d, true, hv, hw2, ⟨by simp [g2, b2], by simp [g7], by simp [g8], by simp [g9, b9, List.map_set], by simp [g11], by simp⟩, by simp [h13], by simp [h16], .inr ⟨nm, st, by simp [h17]⟩, by simp⟩
  · have hjl : j = ks.length := by omega
    subst hjl
    rw [List.drop_length] at hv
    simp only [rvisitL] at hv
    have hfin : V Try.prog rdep_l1 (Lp κ fun S'' => ks.length < ks.length ∧ RJ p code d ks most i (rvisitL d ks (l0, ag0)) (ks.length + 1) S'') S := by
      rcases h17 with ⟨h17, q⟩ | ⟨nm, st, h17⟩
      · subst q
        simp at h18
        simp [rdep_l1, h17, h18]
        exact hok _ _ hv.symm ⟨by simp [g2, b2], by simp [g7], by simp [g8], by simp [g9, b9], by simp [g11], by simp [g12]⟩ (by simp [h13])
      · simp [rdep_l1, h17, h18]
        exact hok _ _ hv.symm ⟨by simp [g2, b2], by simp [g7], by simp [g8], by simp [g9, b9], by simp [g11], by simp [g12]⟩ (by simp [h13])
    exact hfin
def RM (p : Prg) (code : List Ins) (R : Option RS) (i : Nat) (S : St) : Prop :=
  ∃ s : RS, rpass p.hs code (List.range' i (code.length - i)) s = R ∧ WfR code.length s.l ∧ RB S p code s.l s.most s.again ∧ S.t 13 = iv i
theorem rd_mid (p : Prg) (code : List Ins) (hc : codeOk p.hs code) (s0 : RS) (hw : WfR code.length s0.l)
    (κ : Ex → St → Prop) (S : St) (u : Dep κ) (hB : RB S p code s0.l s0.most s0.again) (h13 : S.t 13 = iv 0)
    (hok : ∀ (s : RS) S', rpass p.hs code (List.range code.length) s0 = some s → WfR code.length s.l → RB S' p code s.l s.most s.again → κ (.exit 4) S')
    (hno : ∀ S', rpass p.hs code (List.range code.length) s0 = none → S'.t 4 = .nils → S'.t 5 = iv (-1) → S'.t 6 = iv 5 → κ .ret S') : LoopG Try.prog rdep_l2 κ S u := by
  have hlen := hc.1
  refine loopN (RM p code (rpass p.hs code (List.range code.length) s0)) code.length ?_ ?_
  · exact ⟨s0, by rw [List.range_eq_range']; rfl, hw, hB, h13⟩
  clear hw hB h13
  rintro i S hi ⟨s, hv, hw, ⟨⟨s2, g2, b2⟩, g7, g8, ⟨s9, g9, b9⟩, g11, g12⟩, h13⟩
  by_cases hlt : i < code.length
  · have hrg : List.range' i (code.length - i) = i :: List.range' (i + 1) (code.length - (i + 1)) := by
      rw [show code.length - i = (code.length - (i + 1)) + 1 by omega, List.range'_succ]
    rw [hrg] at hv
    simp only [rpass] at hv
    have hll := hw.len
    have hil : i < s.l.length := by omega
    have e1 : s.l[i]? = some s.l[i] := List.getElem?_eq_getElem hil
    have e2 : code[i]? = some code[i] := List.getElem?_eq_getElem hlt
    have hr := hw.rng _ (List.getElem_mem hil)
    have wi := wrap_succ i _ hlt (by omega)
    simp [rdep_l2, g2, g7, g8, g9, g11, g12, b2, b9, h13, hlt, hil]
    refine split (fun h0 => ?_) (fun h0 => ?_)
    · have hst : rstep p.hs code s i = some s := by unfold rstep; simp only [e1, e2]; rw [if_pos h0]
      rw [hst] at hv
      simp only [Option.bind_some] at hv
      simp [h13, wi]
      exact ⟨s, hv, hw, ⟨by simp [g2, b2], by simp [g7], by simp [g8], by simp [g9, b9], by simp [g11], by simp [g12]⟩, by simp⟩
    · obtain ⟨hok1, hjmp⟩ := hc.2 _ (List.getElem_mem hlt)
      have htk := takesV_range hok1
      have hpt := putsV_range (code[i]).op
      have hpp := popsV_range (code[i]).op
      have hst : rstep p.hs code s i = if s.l[i] < takesV p.hs code[i] ∨ s.l[i] - takesV p.hs code[i] + putsV (code[i]).op > 8 then none else
          match rvisitL (s.l[i] - takesV p.hs code[i] + putsV (code[i]).op) (nextV i code[i]) (s.l, s.again) with
          | some r => some ⟨r.1, max (max s.most s.l[i]) (s.l[i] - takesV p.hs code[i] + putsV (code[i]).op), r.2⟩
          | none => none := by
        unfold rstep; simp only [e1, e2]; rw [if_neg h0]
      have wt : IntKind.i64.wrap (s.l[i] - takesV p.hs code[i]) = s.l[i] - takesV p.hs code[i] := wrap_in _ (by omega) (by omega)
      have wp : IntKind.i64.wrap (s.l[i] - takesV p.hs code[i] + putsV (code[i]).op) = s.l[i] - takesV p.hs code[i] + putsV (code[i]).op := wrap_in _ (by omega) (by omega)
      simp [g2, g7, g8, g9, g11, g12, b2, b9, h13, hlt, hil]
      refine call (rpops_pc (code[i]).op) (by simp) ?_
      simp
      have hks := nextV_le hc e2
      have hkl : (nextV i code[i]).length ≤ 2 := by unfold nextV; (repeat' split) <;> simp
      have ht0 : popsV (code[i]).op = takesV p.hs code[i] ∨ (code[i]).op = 22 := by
        by_cases h22 : (code[i]).op = 22
        · exact .inr h22
        · left; unfold takesV; rw [if_neg h22]; omega
      refine split (fun h22 => ?_) (fun h22 => ?_)
      · obtain ⟨k1, k2, k3, k4⟩ := hok1 h22
        have ea : argsOf p.hs (code[i]).a = p.hs[(code[i]).a.toNat].args := by simp [argsOf, k2]
        have wa : IntKind.i64.wrap (popsV (code[i]).op + p.hs[(code[i]).a.toNat].args) = takesV p.hs code[i] := by
          rw [wrap_in _ (by omega) (by omega)]; unfold takesV; rw [if_pos h22, ea]
        simp [g2, g7, g8, g9, g11, g12, b2, b9, h13, hlt, hil, k1, k2, wa]
        refine calld (rputs_pc (code[i]).op) (by simp) ?_
        simp [g2, g7, g8, g9, g11, g12, b2, b9, h13, hlt, hil, wt, wp]
        refine split (fun hn1 => ?_) (fun hn1 => ?_) <;> simp [hn1]
        · rw [if_pos (.inl hn1)] at hst
          rw [hst] at hv
          simp only [Option.bind_none] at hv
          exact hno _ hv.symm (by simp) (by simp) (by simp)
        refine split (fun hn2 => ?_) (fun hn2 => ?_) <;> simp [hn2]
        · rw [if_pos (.inr hn2)] at hst
          rw [hst] at hv
          simp only [Option.bind_none] at hv
          exact hno _ hv.symm (by simp) (by simp) (by simp)
        rw [if_neg (by omega)] at hst
        simp [g2, g7, g8, g9, g11, g12, b2, b9, h13, hlt, hil]
        generalize hn : s.l[i] - takesV p.hs code[i] + putsV (code[i]).op = d at hst wp ⊢
        have hd : 0 ≤ d ∧ d ≤ 8 := by omega
        have inner : ∀ (κ : Ex → St → Prop) (S : St) (u : Dep κ), RB S p code s.l (max (max s.most s.l[i]) d) s.again → S.t 13 = iv i → S.t 16 = iv d → IsL (S.t 17) (nextV i code[i]) → S.t 18 = iv 0 →
            (∀ s' S', rstep p.hs code s i = some s' → WfR code.length s'.l → RB S' p code s'.l s'.most s'.again → S'.t 13 = iv i → κ (.exit 7) S') → (∀ S', rstep p.hs code s i = none → S'.t 4 = .nils → S'.t 5 = iv (-1) → S'.t 6 = iv 5 → κ .ret S') → LoopG Try.prog rdep_l1 κ S u := by
          intro κ S u q1 q2 q3 q4 q5 q6 q7
          refine rd_inner p code d hd (nextV i code[i]) hks hkl s.l s.again _ i hw κ S u q1 q2 q3 q4 q5 ?_ ?_
          · intro r S' hr hB hi
            rw [hr] at hst
            exact q6 _ S' hst ((rvisitL_ok hr hd hw).1) hB hi
          · intro S' hr
            rw [hr] at hst
            exact q7 S' hst
        have goOn : ∀ (s' : RS) (S' T : St), rstep p.hs code s i = some s' → WfR code.length s'.l → RB S' p code s'.l s'.most s'.again → (∀ x, x ≠ 53 → x ≠ 54 → x ≠ 13 → T.t x = S'.t x) → T.blk = S'.blk → T.t 13 = iv ((i + 1 : Nat) : Int) → RM p code (rpass p.hs code (List.range code.length) s0) (i + 1) T := by
          intro s' S' T h1 h2 ⟨⟨a1, a2, a3⟩, a4, a5, ⟨a6, a7, a8⟩, a9, a10⟩ hT hb h4
          rw [h1] at hv
          simp only [Option.bind_some] at hv
          have e := fun x h1 h2 h3 => hT x h1 h2 h3
          exact ⟨s', hv, h2, ⟨⟨a1, by rw [e 2 (by decide) (by decide) (by decide)]; exact a2, by rw [hb]; exact a3⟩, by rw [e 7 (by decide) (by decide) (by decide)]; exact a4, by rw [e 8 (by decide) (by decide) (by decide)]; exact a5,
            ⟨a6, by rw [e 9 (by decide) (by decide) (by decide)]; exact a7, by rw [hb]; exact a8⟩, by rw [e 11 (by decide) (by decide) (by decide)]; exact a9, by rw [e 12 (by decide) (by decide) (by decide)]; exact a10⟩, h4⟩
        have stop : ∀ S', rstep p.hs code s i = none → S'.t 4 = .nils → S'.t 5 = iv (-1) → S'.t 6 = iv 5 → κ .ret S' := by
          intro S' h1
          rw [h1] at hv
          simp only [Option.bind_none] at hv
          exact hno S' hv.symm
        refine split (fun h20 => ?_) (fun h20 => ?_) <;> simp [h20]
        · have q := hjmp (.inl h20)
          refine inner _ _ _ ⟨by simp [g2, b2], by simp [g7], by simp [g8], by simp [g9, b9], by simp, by simp [g12]⟩ (by simp [h13]) (by simp) (.inr ⟨38115, _, by simp [nextV, h20, Int.toNat_of_nonneg q.1]; rfl⟩) (by simp) (fun s' S' a b c d => ?_) (fun S' a b c d => ?_)
          · simp [d, wi]
            exact goOn s' S' _ a b c (fun x h1 h2 h3 => by simp [h1, h2, h3]) rfl (by simp)
          · simp; exact stop S' a b c d
        refine split (fun h21 => ?_) (fun h21 => ?_) <;> simp [h21]
        · have q := hjmp (.inr h21)
          simp [h13, wi]
          refine inner _ _ _ ⟨by simp [g2, b2], by simp [g7], by simp [g8], by simp [g9, b9], by simp, by simp [g12]⟩ (by simp [h13]) (by simp) (.inr ⟨38122, _, by simp [nextV, h21, Int.toNat_of_nonneg q.1]; rfl⟩) (by simp) (fun s' S' a b c d => ?_) (fun S' a b c d => ?_)
          · simp [d, wi]
            exact goOn s' S' _ a b c (fun x h1 h2 h3 => by simp [h1, h2, h3]) rfl (by simp)
          · simp; exact stop S' a b c d
        refine split (fun h25 => ?_) (fun h25 => ?_) <;> simp [h25]
        · refine inner _ _ _ ⟨by simp [g2, b2], by simp [g7], by simp [g8], by simp [g9, b9], by simp, by simp [g12]⟩ (by simp [h13]) (by simp) (.inl ⟨by simp, by simp [nextV, h25]⟩) (by simp) (fun s' S' a b c d => ?_) (fun S' a b c d => ?_)
          · simp [d, wi]
            exact goOn s' S' _ a b c (fun x h1 h2 h3 => by simp [h1, h2, h3]) rfl (by simp)
          · simp; exact stop S' a b c d
        · simp [h13, wi]
          refine inner _ _ _ ⟨by simp [g2, b2], by simp [g7], by simp [g8], by simp [g9, b9], by simp, by simp [g12]⟩ (by simp [h13]) (by simp) (.inr ⟨38110, _, by simp [nextV, h20, h21, h25]; rfl⟩) (by simp) (fun s' S' a b c d => ?_) (fun S' a b c d => ?_)
          · simp [d, wi]
            exact goOn s' S' _ a b c (fun x h1 h2 h3 => by simp [h1, h2, h3]) rfl (by simp)
          · simp; exact stop S' a b c d
      · have ht1 := ht0.resolve_right h22
        rw [ht1]
        simp [g2, g7, g8, g9, g11, g12, b2, b9, h13, hlt, hil]
        refine calld (rputs_pc (code[i]).op) (by simp) ?_
        simp [g2, g7, g8, g9, g11, g12, b2, b9, h13, hlt, hil, wt, wp]
        refine split (fun hn1 => ?_) (fun hn1 => ?_) <;> simp [hn1]
        · rw [if_pos (.inl hn1)] at hst
          rw [hst] at hv
          simp only [Option.bind_none] at hv
          exact hno _ hv.symm (by simp) (by simp) (by simp)
        refine split (fun hn2 => ?_) (fun hn2 => ?_) <;> simp [hn2]
        · rw [if_pos (.inr hn2)] at hst
          rw [hst] at hv
          simp only [Option.bind_none] at hv
          exact hno _ hv.symm (by simp) (by simp) (by simp)
        rw [if_neg (by omega)] at hst
        simp [g2, g7, g8, g9, g11, g12, b2, b9, h13, hlt, hil]
        generalize hn : s.l[i] - takesV p.hs code[i] + putsV (code[i]).op = d at hst wp ⊢
        have hd : 0 ≤ d ∧ d ≤ 8 := by omega
        have inner : ∀ (κ : Ex → St → Prop) (S : St) (u : Dep κ), RB S p code s.l (max (max s.most s.l[i]) d) s.again → S.t 13 = iv i → S.t 16 = iv d → IsL (S.t 17) (nextV i code[i]) → S.t 18 = iv 0 →
            (∀ s' S', rstep p.hs code s i = some s' → WfR code.length s'.l → RB S' p code s'.l s'.most s'.again → S'.t 13 = iv i → κ (.exit 7) S') → (∀ S', rstep p.hs code s i = none → S'.t 4 = .nils → S'.t 5 = iv (-1) → S'.t 6 = iv 5 → κ .ret S') → LoopG Try.prog rdep_l1 κ S u := by
          intro κ S u q1 q2 q3 q4 q5 q6 q7
          refine rd_inner p code d hd (nextV i code[i]) hks hkl s.l s.again _ i hw κ S u q1 q2 q3 q4 q5 ?_ ?_
          · intro r S' hr hB hi
            rw [hr] at hst
            exact q6 _ S' hst ((rvisitL_ok hr hd hw).1) hB hi
          · intro S' hr
            rw [hr] at hst
            exact q7 S' hst
        have goOn : ∀ (s' : RS) (S' T : St), rstep p.hs code s i = some s' → WfR code.length s'.l → RB S' p code s'.l s'.most s'.again → (∀ x, x ≠ 53 → x ≠ 54 → x ≠ 13 → T.t x = S'.t x) → T.blk = S'.blk → T.t 13 = iv ((i + 1 : Nat) : Int) → RM p code (rpass p.hs code (List.range code.length) s0) (i + 1) T := by
          intro s' S' T h1 h2 ⟨⟨a1, a2, a3⟩, a4, a5, ⟨a6, a7, a8⟩, a9, a10⟩ hT hb h4
          rw [h1] at hv
          simp only [Option.bind_some] at hv
          have e := fun x h1 h2 h3 => hT x h1 h2 h3
          exact ⟨s', hv, h2, ⟨⟨a1, by rw [e 2 (by decide) (by decide) (by decide)]; exact a2, by rw [hb]; exact a3⟩, by rw [e 7 (by decide) (by decide) (by decide)]; exact a4, by rw [e 8 (by decide) (by decide) (by decide)]; exact a5,
            ⟨a6, by rw [e 9 (by decide) (by decide) (by decide)]; exact a7, by rw [hb]; exact a8⟩, by rw [e 11 (by decide) (by decide) (by decide)]; exact a9, by rw [e 12 (by decide) (by decide) (by decide)]; exact a10⟩, h4⟩
        have stop : ∀ S', rstep p.hs code s i = none → S'.t 4 = .nils → S'.t 5 = iv (-1) → S'.t 6 = iv 5 → κ .ret S' := by
          intro S' h1
          rw [h1] at hv
          simp only [Option.bind_none] at hv
          exact hno S' hv.symm
        refine split (fun h20 => ?_) (fun h20 => ?_) <;> simp [h20]
        · have q := hjmp (.inl h20)
          refine inner _ _ _ ⟨by simp [g2, b2], by simp [g7], by simp [g8], by simp [g9, b9], by simp, by simp [g12]⟩ (by simp [h13]) (by simp) (.inr ⟨38115, _, by simp [nextV, h20, Int.toNat_of_nonneg q.1]; rfl⟩) (by simp) (fun s' S' a b c d => ?_) (fun S' a b c d => ?_)
          · simp [d, wi]
            exact goOn s' S' _ a b c (fun x h1 h2 h3 => by simp [h1, h2, h3]) rfl (by simp)
          · simp; exact stop S' a b c d
        refine split (fun h21 => ?_) (fun h21 => ?_) <;> simp [h21]
        · have q := hjmp (.inr h21)
          simp [h13, wi]
          refine inner _ _ _ ⟨by simp [g2, b2], by simp [g7], by simp [g8], by simp [g9, b9], by simp, by simp [g12]⟩ (by simp [h13]) (by simp) (.inr ⟨38122, _, by simp [nextV, h21, Int.toNat_of_nonneg q.1]; rfl⟩) (by simp) (fun s' S' a b c d => ?_) (fun S' a b c d => ?_)
          · simp [d, wi]
            exact goOn s' S' _ a b c (fun x h1 h2 h3 => by simp [h1, h2, h3]) rfl (by simp)
          · simp; exact stop S' a b c d
        refine split (fun h25 => ?_) (fun h25 => ?_) <;> simp [h25]
        · refine inner _ _ _ ⟨by simp [g2, b2], by simp [g7], by simp [g8], by simp [g9, b9], by simp, by simp [g12]⟩ (by simp [h13]) (by simp) (.inl ⟨by simp, by simp [nextV, h25]⟩) (by simp) (fun s' S' a b c d => ?_) (fun S' a b c d => ?_)
          · simp [d, wi]
            exact goOn s' S' _ a b c (fun x h1 h2 h3 => by simp [h1, h2, h3]) rfl (by simp)
          · simp; exact stop S' a b c d
        · simp [h13, wi]
          refine inner _ _ _ ⟨by simp [g2, b2], by simp [g7], by simp [g8], by simp [g9, b9], by simp, by simp [g12]⟩ (by simp [h13]) (by simp) (.inr ⟨38110, _, by simp [nextV, h20, h21, h25]; rfl⟩) (by simp) (fun s' S' a b c d => ?_) (fun S' a b c d => ?_)
          · simp [d, wi]
            exact goOn s' S' _ a b c (fun x h1 h2 h3 => by simp [h1, h2, h3]) rfl (by simp)
          · simp; exact stop S' a b c d
  · have e : i = code.length := by omega
    subst e
    rw [Nat.sub_self] at hv
    simp only [List.range'_zero, rpass] at hv
    simp [rdep_l2, g2, g7, g8, g9, g11, g12, b2, b9, h13]
    exact hok s _ hv.symm hw ⟨by simp [g2, b2], by simp [g7], by simp [g8], by simp [g9, b9], by simp [g11], by simp [g12]⟩

theorem rstep_ok {hs : List Hnd} {code : List Ins} {m : Nat} {s s' : RS} {i : Nat} (h : rstep hs code s i = some s') (hc : codeOk hs code) (hw : WfR m s.l) : WfR m s'.l ∧ (s'.again = s.again ∧ s'.l = s.l ∨ s'.again = true ∧ unr s'.l + 1 ≤ unr s.l) := by
  unfold rstep at h
  split at h
  · rename_i x c hx hcc
    split at h
    · cases h; exact ⟨hw, .inl ⟨rfl, rfl⟩⟩
    · split at h
      · cases h
      · rename_i h1 h2
        have hp := putsV_range c.op
        split at h
        · rename_i r hr
          cases h
          exact rvisitL_ok hr (by omega) hw
        · cases h
  · cases h
theorem rpass_ok {hs : List Hnd} {code : List Ins} {m : Nat} (hc : codeOk hs code) : ∀ {is : List Nat} {s s' : RS}, rpass hs code is s = some s' → WfR m s.l → WfR m s'.l ∧ (s'.again = s.again ∧ s'.l = s.l ∨ s'.again = true ∧ unr s'.l + 1 ≤ unr s.l)
  | [], s, s', h, hw => by cases h; exact ⟨hw, .inl ⟨rfl, rfl⟩⟩
  | i :: is, s, s', h, hw => by
    simp only [rpass, Option.bind_eq_some_iff] at h
    obtain ⟨s1, h1, h2⟩ := h
    obtain ⟨a1, a2⟩ := rstep_ok h1 hc hw
    obtain ⟨b1, b2⟩ := rpass_ok hc h2 a1
    refine ⟨b1, ?_⟩
    rcases a2 with ⟨a2, a3⟩ | ⟨a2, a3⟩ <;> rcases b2 with ⟨b2, b3⟩ | ⟨b2, b3⟩
    · exact .inl ⟨b2.trans a2, b3.trans a3⟩
    · exact .inr ⟨b2, by rw [← a3]; exact b3⟩
    · exact .inr ⟨b2.trans a2, by rw [b3]; omega⟩
    · exact .inr ⟨b2, by omega⟩
def rdepV (p : Prg) (h : Int) : List Int × Int × Int :=
  if h < 0 ∨ h ≥ p.hs.length then ([], -1, 7) else match p.hs[h.toNat]? with
    | some x => match rwalkV p.hs x.code with
      | some r => (r.1, r.2, 0)
      | none => ([], -1, 5)
    | none => ([], -1, 7)
def rdAV : Option (List Int × Int) → AV
  | some r => .tup [ints r.1, iv r.2, iv 0]
  | none => .tup [ints [], iv (-1), iv 5]
def RO (p : Prg) (code : List Ins) (R : Option (List Int × Int)) (f : Nat) (S : St) : Prop :=
  ∃ (l : List Int) (most : Int) (ag : Bool), RB S p code l most ag ∧ WfR code.length l ∧ (ag = true → rgo p.hs code f l most = R ∧ unr l < f) ∧ (ag = false → some (l, most) = R)
set_option maxHeartbeats 1000000 in
set_option maxRecDepth 10000 in
theorem rdep_pc (p : Prg) (h : Int) (hc : ∀ x ∈ p.hs, codeOk p.hs x.code) : PC Try.prog 38 [p.av, iv h] (.tup [ints (rdepV p h).1, iv (rdepV p h).2.1, iv (rdepV p h).2.2]) := by
  refine pc_of_get rdep_get (by simp) _ (by simp) _ ?_
  unfold rdep_c
  simp
  refine split (fun h1 => ?_) (fun h1 => ?_) <;> simp [h1]
  · simp [rdepV, h1]
  refine split (fun h2 => ?_) (fun h2 => ?_) <;> simp [h2]
  · simp [rdepV, h1, h2]
  have h0 : 0 ≤ h := by omega
  have hlt : h.toNat < p.hs.length := by omega
  have e : p.hs[h.toNat]? = some p.hs[h.toNat] := List.getElem?_eq_getElem hlt
  have hd : AV.tup [ints (rdepV p h).1, iv (rdepV p h).2.1, iv (rdepV p h).2.2] = rdAV (rwalkV p.hs p.hs[h.toNat].code) := by
    have : rdepV p h = match rwalkV p.hs p.hs[h.toNat].code with | some r => (r.1, r.2, 0) | none => ([], -1, 5) := by
      simp only [rdepV, e]; rw [if_neg (by omega)]
    rw [this]
    cases rwalkV p.hs p.hs[h.toNat].code <;> rfl
  rw [hd]
  have hc' := hc _ (List.getElem_mem hlt)
  have hlen := hc'.1
  simp [h0, hlt]
  generalize hcode : p.hs[h.toNat].code = code at hc' hlen ⊢
  have w1 : IntKind.i64.wrap ((code.length : Int) + 1) = (code.length : Int) + 1 := wrap_in _ (by omega) (by omega)
  have hnn : (0 : Int) ≤ (code.length : Int) + 1 := by omega
  have hby : (code.length + 1) * 8 ≤ 140737488355328 := by omega
  have htn : ((code.length : Int) + 1).toNat = code.length + 1 := by omega
  simp [w1, hnn, hby, htn]
  refine loopN (fun i S => (∃ st, S.t 2 = .ptr 38002 st 4 0 0 ∧ S.blk 38002 = some ⟨st, 4, [p.av]⟩) ∧ S.t 7 = .lst 2 (code.map Ins.av) ∧ S.t 8 = iv code.length ∧
    (∃ st, S.t 9 = .sl 38038 st 1 0 (code.length + 1) ∧ S.blk 38038 = some ⟨st, 1, List.replicate i (iv (-1)) ++ List.replicate (code.length + 1 - i) (iv 0)⟩) ∧ S.t 10 = iv i) (code.length + 1) ?_ ?_
  · simp
  · rintro i S hi ⟨⟨s2, g2, b2⟩, g7, g8, ⟨s9, g9, b9⟩, g10⟩
    by_cases hil : i < code.length + 1
    · have hle : (i : Int) ≤ code.length := by omega
      have wi := wrap_succ i _ hil (by omega)
      have hset : List.replicate i (iv (-1)) ++ (List.replicate (code.length + 1 - i) (iv 0)).set 0 (iv (-1)) = List.replicate (i + 1) (iv (-1)) ++ List.replicate (code.length - i) (iv 0) := by
        rw [show code.length + 1 - i = (code.length - i) + 1 by omega, List.replicate_succ, List.set_cons_zero, List.replicate_succ', List.append_assoc]; rfl
      have hget : (List.replicate i (iv (-1)) ++ List.replicate (code.length + 1 - i) (iv 0))[i]? = some (iv 0) := by
        rw [List.getElem?_append_right (by simp), List.length_replicate, Nat.sub_self, List.getElem?_replicate]; rw [if_pos (by omega)]
      simp [rdep_l0, g2, g7, g8, g9, g10, b2, b9, hle, hil, wi, hget, hset]
    · have hi2 : i = code.length + 1 := by omega
      subst hi2
      have hnle : ¬ ((code.length : Int) + 1 ≤ code.length) := by omega
      simp at b9 g10
      simp [rdep_l0, g2, g7, g8, g9, g10, b2, b9, hnle]
      have hw0 : WfR code.length ((List.replicate (code.length + 1) (-1)).set 0 0) := by
        refine ⟨by simp, fun x hx => ?_⟩
        rcases List.mem_or_eq_of_mem_set hx with hx | hx
        · have := List.eq_of_mem_replicate hx; omega
        · omega
      refine loopM (RO p code (rwalkV p.hs code)) (code.length + 3) ?_ ?_
      · refine ⟨(List.replicate (code.length + 1) (-1)).set 0 0, 0, true, ⟨by simp [g2, b2], by simp [g7], by simp [g8], by simp [g9, List.map_set], by simp, by simp⟩, hw0, fun _ => ⟨rfl, ?_⟩, by simp⟩
        simp [unr, List.replicate_succ, List.countP_replicate]
      · clear g2 g7 g8 g9 g10 b2 b9 hnle hw0
        rintro f S ⟨l, most, ag, ⟨⟨s2, g2, b2⟩, g7, g8, ⟨s9, g9, b9⟩, g11, g12⟩, hw, h1, h2⟩
        cases ag with
        | false =>
          have := h2 rfl
          have hl := list_ints l S.blk 38038 s9 b9
          simp [rdep_l3, g2, g7, g8, g9, g11, g12, b2, b9, ← this, rdAV, hl, ints]
        | true =>
          obtain ⟨q1, q2⟩ := h1 rfl
          obtain ⟨f, rfl⟩ : ∃ f', f = f' + 1 := ⟨f - 1, by omega⟩
          simp only [rgo] at q1
          simp [rdep_l3, g2, g7, g8, g9, g11, g12, b2, b9]
          refine rd_mid p code hc' ⟨l, most, false⟩ hw _ _ _ ⟨by simp [g2, b2], by simp [g7], by simp [g8], by simp [g9, b9], by simp [g11], by simp⟩ (by simp) ?_ ?_
          · intro s S' hs hws hB
            rw [hs] at q1
            simp only at q1
            obtain ⟨_, hun⟩ := rpass_ok hc' hs hw
            simp only at hun
            simp
            by_cases hag : s.again = true
            · rw [if_pos hag] at q1
              rcases hun with ⟨hu, _⟩ | ⟨_, hu⟩
              · rw [hag] at hu; cases hu
              · exact ⟨f, by omega, s.l, s.most, s.again, hB, hws, fun _ => ⟨q1, by omega⟩, fun q => by rw [hag] at q; cases q⟩
            · rw [if_neg hag] at q1
              exact ⟨f, by omega, s.l, s.most, s.again, hB, hws, fun q => absurd q hag, fun _ => q1⟩
          · intro S' hs h4 h5 h6
            rw [hs] at q1
            simp only at q1
            simp [← q1, rdAV, h4, h5, h6]

def rflowGo (p : Prg) : List Int → Int → Int
  | [], e => e
  | h :: l, e => if e = 0 then rflowGo p l (rdepV p h).2.2 else e
def rflowV (p : Prg) : Int := rflowGo p ((List.range p.hs.length).map fun n : Nat => (n : Int)) (checkV p)
theorem rcflow_pc (p : Prg) (hl : p.hs.length < 1000000) : PC Try.prog 37 [p.av] (iv (rflowV p)) := by
  refine pc_of_get rcflow_get (by simp) _ (by simp) _ ?_
  unfold rcflow_c
  simp
  refine call (rcheck_pc p) (by simp) ?_
  simp
  refine loopN (fun i S => ∃ e : Int, (e = 0 → checkV p = 0) ∧ rflowGo p ((List.range' i (p.hs.length - i)).map fun n : Nat => (n : Int)) e = rflowV p ∧ (∃ st, S.t 1 = .ptr 37001 st 4 0 0 ∧ S.blk 37001 = some ⟨st, 4, [p.av]⟩) ∧ S.t 3 = iv e ∧ S.t 4 = iv i) p.hs.length ?_ ?_
  · exact ⟨checkV p, fun h => h, by rw [rflowV, List.range_eq_range']; rfl, by simp, by simp, by simp⟩
  · rintro i S hi ⟨e, h0, hv, ⟨st, g1, b1⟩, g3, g4⟩
    by_cases hlt : i < p.hs.length
    · rw [show p.hs.length - i = (p.hs.length - (i + 1)) + 1 by omega, List.range'_succ, List.map_cons, rflowGo] at hv
      have wi := wrap_succ i _ hlt (by omega)
      simp [rcflow_l0, g1, b1, g3, g4, hlt]
      refine split (fun he => ?_) (fun he => ?_) <;> simp [he]
      · rw [if_pos he] at hv
        have hc := h0 he
        simp [g1, b1, g4]
        refine call (rdep_pc p i (fun x hx => codeOk_of hc hx)) (by simp) ?_
        simp [g4, wi]
        exact ⟨_, fun _ => hc, hv, by simp [g1, b1]⟩
      · rw [if_neg he] at hv
        simp [g3, hv]
    · have e1 : i = p.hs.length := by omega
      subst e1
      rw [Nat.sub_self] at hv
      simp [rflowGo] at hv
      simp [rcflow_l0, g1, b1, g3, g4, hv]

end Go.Gv
