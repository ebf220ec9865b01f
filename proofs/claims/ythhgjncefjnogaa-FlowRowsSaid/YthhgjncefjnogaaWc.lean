/- What flow.walk answers: the depths that walkV tells. The code's instructions may be looked at (codeOk). -/
import Derived.Test.YthhgjncefjnogaaProg
import Derived.Test.YthhgjncefjnogaaWb
set_option linter.unusedVariables false
set_option linter.unusedSimpArgs false
namespace Go.Gv
open Go.Proofs

def walk_r0 : List AI := [⟨(some 2), none, (.op (.box 79002 4 (.t 0)))⟩, ⟨(some 3), none, (.op (.box 79003 2 (.t 1)))⟩, ⟨(some 4), none, (.op (.mv (.c .nils)))⟩, ⟨(some 5), none, (.op (.mv (.c (.int .i64 0))))⟩, ⟨(some 6), none, (.op (.mv (.c (.bool false))))⟩]
def walk_r1 : List AI := [⟨(some 13), none, (.op (.bsl 79013 1 3 1 (.int .i64 0) [(0, (.c (.int .i64 (-1))))]))⟩, ⟨(some 14), none, (.op (.fld 1 (.t 3)))⟩, ⟨(some 15), none, (.op (.load none (.t 14)))⟩, ⟨(some 16), none, (.op (.len (.t 15)))⟩, ⟨(some 17), none, (.op (.ibin .add (.t 16) (.c (.int .i64 1))))⟩, ⟨(some 18), none, (.call (.c (.fn 92 [])) [(.t 13), (.t 17)])⟩, ⟨(some 4), none, (.op (.mv (.t 18)))⟩]
def walk_r2 : List AI := [⟨(some 19), none, (.op (.mv (.t 4)))⟩, ⟨(some 20), none, (.op (.idx 1 (.t 19) (.c (.int .i64 0))))⟩, ⟨none, none, (.op (.store 1 (.t 20) (.c (.int .i64 0))))⟩]
def walk_r3 : List AI := [⟨(some 21), none, (.op (.bslm 1000079021 1 3 1 (.int .i64 0) [(0, (.c (.int .i64 0)))]))⟩, ⟨(some 7), none, (.op (.mv (.t 21)))⟩]
def walk_r4 : List AI := [⟨(some 22), none, (.op (.mv (.t 7)))⟩, ⟨(some 23), none, (.op (.len (.t 22)))⟩, ⟨(some 24), none, (.op (.ibin .gtr (.t 23) (.c (.int .i64 0))))⟩]
def walk_r5 : List AI := [⟨(some 25), none, (.op (.mv (.t 7)))⟩, ⟨(some 26), none, (.op (.idx 1 (.t 25) (.c (.int .i64 0))))⟩, ⟨(some 27), none, (.op (.load none (.t 26)))⟩, ⟨(some 8), none, (.op (.mv (.t 27)))⟩]
def walk_r6 : List AI := [⟨(some 28), none, (.op (.mv (.t 7)))⟩, ⟨(some 29), none, (.op (.slice (some 1) (.t 28) (some (.c (.int .i64 1))) none))⟩, ⟨(some 7), none, (.op (.mv (.t 29)))⟩]
def walk_r7 : List AI := [⟨(some 30), none, (.op (.mv (.t 8)))⟩, ⟨(some 31), none, (.op (.fld 1 (.t 3)))⟩, ⟨(some 32), none, (.op (.load none (.t 31)))⟩, ⟨(some 33), none, (.op (.len (.t 32)))⟩, ⟨(some 34), none, (.op (.ibin .eql (.t 30) (.t 33)))⟩]
def walk_r8 : List AI := [⟨(some 35), none, (.op (.fld 1 (.t 3)))⟩, ⟨(some 36), none, (.op (.load none (.t 35)))⟩, ⟨(some 37), none, (.op (.mv (.t 8)))⟩, ⟨(some 38), none, (.op (.idx 2 (.t 36) (.t 37)))⟩, ⟨(some 39), none, (.op (.load (some 2) (.t 38)))⟩, ⟨(some 9), none, (.op (.new 79009 2 (.agg [(.int .i64 0), (.int .i64 0)])))⟩, ⟨none, none, (.op (.store 2 (.t 9) (.t 39)))⟩]
def walk_r9 : List AI := [⟨(some 40), none, (.op (.mv (.t 4)))⟩, ⟨(some 41), none, (.op (.mv (.t 8)))⟩, ⟨(some 42), none, (.op (.idx 1 (.t 40) (.t 41)))⟩, ⟨(some 43), none, (.op (.load none (.t 42)))⟩, ⟨(some 44), none, (.op (.load (some 4) (.t 2)))⟩, ⟨(some 45), none, (.op (.load (some 2) (.t 9)))⟩, ⟨(some 46), none, (.call (.c (.fn 93 [])) [(.t 44), (.t 45)])⟩, ⟨(some 47), none, (.op (.ibin .sub (.t 43) (.t 46)))⟩, ⟨(some 10), none, (.op (.mv (.t 47)))⟩]
def walk_p9 : List (List Nat) := [[], [], [0, 1], [2, 0, 1], [], [], [4, 5], [3, 6, 2, 0, 1, 4, 5], [7, 6, 0, 1, 2, 3, 4, 5]]
def walk_r10 : List AI := [⟨(some 48), none, (.op (.mv (.t 10)))⟩, ⟨(some 49), none, (.op (.ibin .lss (.t 48) (.c (.int .i64 0))))⟩, ⟨(some 50), none, (.op (.mv (.t 49)))⟩, ⟨(some 51), (some (50, false)), (.op (.mv (.t 10)))⟩, ⟨(some 52), (some (50, false)), (.op (.fld 0 (.t 9)))⟩, ⟨(some 53), (some (50, false)), (.op (.load none (.t 52)))⟩, ⟨(some 54), (some (50, false)), (.call (.c (.fn 94 [])) [(.t 53)])⟩, ⟨(some 55), (some (50, false)), (.op (.ibin .add (.t 51) (.t 54)))⟩, ⟨(some 56), (some (50, false)), (.op (.ibin .gtr (.t 55) (.c (.int .i64 8))))⟩, ⟨(some 57), none, (.op (.pick (.t 50) (.c (.bool true)) (.t 56)))⟩]
def walk_r11 : List AI := [⟨(some 4), none, (.op (.mv (.c .nils)))⟩, ⟨(some 5), none, (.op (.mv (.c (.int .i64 0))))⟩, ⟨(some 6), none, (.op (.mv (.c (.bool false))))⟩]
def walk_r12 : List AI := [⟨(some 58), none, (.op (.mv (.t 10)))⟩, ⟨(some 59), none, (.op (.fld 0 (.t 9)))⟩, ⟨(some 60), none, (.op (.load none (.t 59)))⟩, ⟨(some 61), none, (.call (.c (.fn 94 [])) [(.t 60)])⟩, ⟨(some 62), none, (.op (.ibin .add (.t 58) (.t 61)))⟩, ⟨(some 10), none, (.op (.mv (.t 62)))⟩]
def walk_r13 : List AI := [⟨(some 63), none, (.op (.mv (.t 5)))⟩, ⟨(some 64), none, (.op (.mv (.t 4)))⟩, ⟨(some 65), none, (.op (.mv (.t 8)))⟩, ⟨(some 66), none, (.op (.idx 1 (.t 64) (.t 65)))⟩, ⟨(some 67), none, (.op (.load none (.t 66)))⟩, ⟨(some 68), none, (.op (.mv (.t 10)))⟩, ⟨(some 69), none, (.op (.mm true (.t 63) [(.t 67), (.t 68)]))⟩, ⟨(some 5), none, (.op (.mv (.t 69)))⟩]
def walk_r14 : List AI := [⟨(some 70), none, (.op (.mv (.t 8)))⟩, ⟨(some 71), none, (.op (.load (some 2) (.t 9)))⟩, ⟨(some 72), none, (.call (.c (.fn 95 [])) [(.t 70), (.t 71)])⟩, ⟨(some 73), none, (.op (.len (.t 72)))⟩, ⟨(some 74), none, (.op (.mv (.c (.int .i64 0))))⟩]
def walk_r15 : List AI := [⟨(some 75), none, (.op (.ibin .lss (.t 74) (.t 73)))⟩]
def walk_r16 : List AI := [⟨(some 76), none, (.op (.idx 1 (.t 72) (.t 74)))⟩, ⟨(some 77), none, (.op (.load none (.t 76)))⟩, ⟨(some 12), none, (.op (.mv (.t 77)))⟩]
def walk_r17 : List AI := [⟨(some 78), none, (.op (.mv (.t 4)))⟩, ⟨(some 79), none, (.op (.mv (.t 12)))⟩, ⟨(some 80), none, (.op (.idx 1 (.t 78) (.t 79)))⟩, ⟨(some 81), none, (.op (.load none (.t 80)))⟩, ⟨(some 82), none, (.op (.ibin .eql (.t 81) (.c (.int .i64 (-1)))))⟩]
def walk_r18 : List AI := [⟨(some 83), none, (.op (.mv (.t 4)))⟩, ⟨(some 84), none, (.op (.mv (.t 12)))⟩, ⟨(some 85), none, (.op (.mv (.t 10)))⟩, ⟨(some 86), none, (.op (.idx 1 (.t 83) (.t 84)))⟩, ⟨none, none, (.op (.store 1 (.t 86) (.t 85)))⟩]
def walk_r19 : List AI := [⟨(some 87), none, (.op (.mv (.t 7)))⟩, ⟨(some 88), none, (.op (.mv (.t 12)))⟩, ⟨(some 89), none, (.op (.bsl 79089 1 3 1 (.int .i64 0) [(0, (.t 88))]))⟩, ⟨(some 90), none, (.op (.appw 1000079021 1 3 8 (.t 87) (.t 89)))⟩, ⟨(some 7), none, (.op (.mv (.t 90)))⟩]
def walk_r20 : List AI := [⟨(some 91), none, (.op (.mv (.t 4)))⟩, ⟨(some 92), none, (.op (.mv (.t 12)))⟩, ⟨(some 93), none, (.op (.idx 1 (.t 91) (.t 92)))⟩, ⟨(some 94), none, (.op (.load none (.t 93)))⟩, ⟨(some 95), none, (.op (.mv (.t 10)))⟩, ⟨(some 96), none, (.op (.ibin .neq (.t 94) (.t 95)))⟩]
def walk_r21 : List AI := [⟨(some 4), none, (.op (.mv (.c .nils)))⟩, ⟨(some 5), none, (.op (.mv (.c (.int .i64 0))))⟩, ⟨(some 6), none, (.op (.mv (.c (.bool false))))⟩]
def walk_r22 : List AI := [⟨(some 97), none, (.op (.ibin .add (.t 74) (.c (.int .i64 1))))⟩, ⟨(some 74), none, (.op (.mv (.t 97)))⟩]
def walk_l0 : AC := (.seq (.reg walk_r15) (.seq (.cond (.t 75) .skip (.exit 2)) (.seq (.block 3 (.seq (.reg walk_r16) (.seq (.seq (.reg walk_r17) (.cond (.t 82) (.seq (.reg walk_r18) (.reg walk_r19)) .skip)) (.seq (.reg walk_r20) (.cond (.t 96) (.seq (.reg walk_r21) .ret) .skip))))) (.reg walk_r22))))
def walk_l1 : AC := (.seq (.seq (.reg walk_r4) (.cond (.t 24) .skip (.exit 0))) (.block 1 (.seq (.reg walk_r5) (.seq (.reg walk_r6) (.seq (.seq (.reg walk_r7) (.cond (.t 34) (.exit 1) .skip)) (.seq (.reg walk_r8) (.seq (.regd walk_r9 walk_p9) (.seq (.seq (.reg walk_r10) (.cond (.t 57) (.seq (.reg walk_r11) .ret) .skip)) (.seq (.reg walk_r12) (.seq (.reg walk_r13) (.seq (.reg walk_r14) (.block 2 (.loop walk_l0)))))))))))))
def walk_r23 : List AI := [⟨(some 98), none, (.op (.mv (.t 4)))⟩, ⟨(some 99), none, (.op (.mv (.t 5)))⟩, ⟨(some 4), none, (.op (.mv (.t 98)))⟩, ⟨(some 5), none, (.op (.mv (.t 99)))⟩, ⟨(some 6), none, (.op (.mv (.c (.bool true))))⟩]
def walk_c : AC := (.seq (.reg walk_r0) (.seq (.reg walk_r1) (.seq (.reg walk_r2) (.seq (.seq (.reg walk_r3) (.block 0 (.loop walk_l1))) (.seq (.reg walk_r23) .ret)))))
def walk_res : List ARes := [(.tmp 4), (.tmp 5), (.tmp 6)]
set_option maxRecDepth 100000 in
theorem walk_get : getF Try.prog 79 79000 [(21, 1000000021), (90, 1000000021)] = some ("gavotte/flow.walk", 100, walk_c, walk_res) := by kernel_rfl
attribute [simp] walk_r0 walk_r1 walk_r2 walk_r3 walk_r4 walk_r5 walk_r6 walk_r7 walk_r8 walk_r9 walk_p9 walk_r10 walk_r11 walk_r12 walk_r13 walk_r14 walk_r15 walk_r16 walk_r17 walk_r18 walk_r19 walk_r20 walk_r21 walk_r22 walk_r23 walk_res

def visit1 (n : Int) (s : List Int × List Nat) (k : Nat) : Option (List Int × List Nat) :=
  if s.1[k]? = some (-1) then some (s.1.set k n, s.2 ++ [k]) else if s.1[k]? = some n then some s else none
def visitL (n : Int) : List Nat → List Int × List Nat → Option (List Int × List Nat)
  | [], s => some s
  | k :: ks, s => (visit1 n s k).bind (visitL n ks)
def walkGo (hs : List Hnd) (code : List Ins) : Nat → List Int → List Nat → Int → Option (List Int × Int)
  | 0, _, _, _ => none
  | _ + 1, out, [], most => some (out, most)
  | f + 1, out, a :: left, most =>
    if a = code.length then walkGo hs code f out left most else
      match code[a]?, out[a]? with
      | some i, some d =>
        if d - takesV hs i < 0 ∨ d - takesV hs i + putsV i.op > 8 then none else
          match visitL (d - takesV hs i + putsV i.op) (nextV a i) (out, left) with
          | some s => walkGo hs code f s.1 s.2 (max (max most d) (d - takesV hs i + putsV i.op))
          | none => none
      | _, _ => none
def walkV (hs : List Hnd) (code : List Ins) : Option (List Int × Int) :=
  walkGo hs code (code.length + 3) ((List.replicate (code.length + 1) (-1)).set 0 0) [0] 0
def walkAV : Option (List Int × Int) → AV
  | some r => .tup [ints r.1, iv r.2, .bool true]
  | none => .tup [ints [], iv 0, .bool false]
def codeOk (hs : List Hnd) (code : List Ins) : Prop := code.length ≤ 900 ∧ ∀ i ∈ code, insOk hs i ∧ (i.op = 20 ∨ i.op = 21 → 0 ≤ i.a ∧ i.a ≤ code.length)

/-- The depths and the queue are as they should be. -/
structure WfW (n : Nat) (out : List Int) (left : List Nat) : Prop where
  len : out.length = n + 1
  rng : ∀ x ∈ out, -1 ≤ x ∧ x ≤ 8
  q : ∀ a ∈ left, a ≤ n
/-- How many places are not reached. -/
def unr (out : List Int) : Nat := out.countP (fun x => x == -1)
theorem unr_set (out : List Int) (k : Nat) (n : Int) (h : out[k]? = some (-1)) (hn : n ≠ -1) : unr (out.set k n) + 1 = unr out := by
  induction out generalizing k with
  | nil => simp at h
  | cons x l ih =>
    cases k with
    | zero =>
      simp at h; subst h
      simp [unr, hn]
    | succ k =>
      have := ih k (by simpa using h)
      simp only [unr, List.set_cons_succ, List.countP_cons] at this ⊢
      omega
theorem visit1_ok {m : Nat} {n : Int} {s s' : List Int × List Nat} {k : Nat} (h : visit1 n s k = some s') (hk : k ≤ m) (hn : 0 ≤ n ∧ n ≤ 8) (hw : WfW m s.1 s.2) : WfW m s'.1 s'.2 ∧ unr s'.1 + s'.2.length = unr s.1 + s.2.length := by
  unfold visit1 at h
  split at h
  · rename_i h1
    cases h
    have := unr_set s.1 k n h1 (by omega)
    refine ⟨⟨by simpa using hw.len, ?_, ?_⟩, by simp; omega⟩
    · intro x hx
      rcases List.mem_or_eq_of_mem_set hx with hx | hx
      · exact hw.rng x hx
      · omega
    · intro a ha
      simp at ha
      rcases ha with ha | ha
      · exact hw.q a ha
      · omega
  · split at h
    · cases h; exact ⟨hw, rfl⟩
    · cases h
theorem visitL_ok {m : Nat} {n : Int} : ∀ {ks : List Nat} {s s' : List Int × List Nat}, visitL n ks s = some s' → (∀ k ∈ ks, k ≤ m) → (0 ≤ n ∧ n ≤ 8) → WfW m s.1 s.2 → WfW m s'.1 s'.2 ∧ unr s'.1 + s'.2.length = unr s.1 + s.2.length
  | [], s, s', h, _, _, hw => by cases h; exact ⟨hw, rfl⟩
  | k :: ks, s, s', h, hk, hn, hw => by
    simp only [visitL, Option.bind_eq_some_iff] at h
    obtain ⟨s1, h1, h2⟩ := h
    obtain ⟨a1, a2⟩ := visit1_ok h1 (hk k (by simp)) hn hw
    obtain ⟨b1, b2⟩ := visitL_ok h2 (fun k hk' => hk k (by simp [hk'])) hn a1
    exact ⟨b1, b2.trans a2⟩
theorem nextV_le {code : List Ins} {hs : List Hnd} (hc : codeOk hs code) {a : Nat} {i : Ins} (hi : code[a]? = some i) : ∀ k ∈ nextV a i, k ≤ code.length := by
  have ha := (List.getElem?_eq_some_iff.1 hi).1
  have := (hc.2 i (List.mem_of_getElem? hi)).2
  intro k hk
  unfold nextV at hk
  split at hk
  · rename_i h; have := this (.inl h); simp at hk; omega
  · split at hk
    · rename_i h; have := this (.inr h); simp at hk; omega
    · split at hk
      · simp at hk
      · simp at hk; omega
/-- A queue in a block of its own. -/
def LQ (NL : Nat) (S : St) (v : AV) (xs : List AV) : Prop := ∃ st off es, v = .sl NL st 1 off xs.length ∧ S.blk NL = some ⟨st, 1, es⟩ ∧ off + xs.length ≤ es.length ∧ (es.drop off).take xs.length = xs
theorem take_first {α : Type} {es xs : List α} {x : α} {off : Nat} (h : (es.drop off).take (x :: xs).length = x :: xs) : es[off]? = some x ∧ (es.drop (off + 1)).take xs.length = xs := by
  have h0 : ((es.drop off).take (x :: xs).length)[0]? = some x := by rw [h]; rfl
  simp at h0
  refine ⟨h0, ?_⟩
  have hlt := (List.getElem?_eq_some_iff.1 h0).1
  rw [List.drop_eq_getElem_cons hlt, List.length_cons, List.take_succ_cons] at h
  exact (List.cons.inj h).2
theorem flat_ints (l : List Int) : (∀ x ∈ l.map iv, ∀ y ∈ x.cells, y.cl1 = true) := by
  intro x hx y hy
  rw [List.mem_map] at hx
  obtain ⟨n, _, rfl⟩ := hx
  simp at hy; subst hy; rfl
theorem list_ints (l : List Int) (blk : Nat → Option Blk) (nm st : Nat) (hb : blk nm = some ⟨st, 1, l.map iv⟩) : listOf blk 1 (.sl nm st 1 0 l.length) = some (l.map iv) := by
  have e : (l.map iv).take l.length = l.map iv := List.take_of_length_le (by simp)
  rw [listOf_sl]
  simp [hb, e]
/-- What holds at the head of the walk's loop. -/
def WI (p : Prg) (h : Hnd) (R : Option (List Int × Int)) (f : Nat) (S : St) : Prop :=
  ∃ (out : List Int) (left : List Nat) (most : Int), walkGo p.hs h.code f out left most = R ∧ WfW h.code.length out left ∧ (unr out + left.length < f ∧ f ≤ h.code.length + 3) ∧ (0 ≤ most ∧ most ≤ 8) ∧
    (∃ st, S.t 2 = .ptr 79002 st 4 0 0 ∧ S.blk 79002 = some ⟨st, 4, [p.av]⟩) ∧ (∃ st, S.t 3 = .ptr 79003 st 2 0 0 ∧ S.blk 79003 = some ⟨st, 2, [h.av]⟩) ∧
    (∃ st, S.t 4 = .sl 92030 st 1 0 out.length ∧ S.blk 92030 = some ⟨st, 1, out.map iv⟩) ∧ S.t 5 = iv most ∧ LQ 1000079021 S (S.t 7) (left.map (fun n : Nat => iv n))
/-- What holds at the head of the inner loop. -/
def WJ (p : Prg) (h : Hnd) (n : Int) (ks : List Nat) (m : Nat) (most : Int) (R : Option (List Int × List Nat)) (j : Nat) (S : St) : Prop :=
  ∃ (out : List Int) (left : List Nat), visitL n (ks.drop j) (out, left) = R ∧ WfW h.code.length out left ∧ unr out + left.length = m ∧
    (∃ st, S.t 2 = .ptr 79002 st 4 0 0 ∧ S.blk 79002 = some ⟨st, 4, [p.av]⟩) ∧ (∃ st, S.t 3 = .ptr 79003 st 2 0 0 ∧ S.blk 79003 = some ⟨st, 2, [h.av]⟩) ∧
    (∃ st, S.t 4 = .sl 92030 st 1 0 out.length ∧ S.blk 92030 = some ⟨st, 1, out.map iv⟩) ∧ S.t 5 = iv most ∧ LQ 1000079021 S (S.t 7) (left.map (fun n : Nat => iv n)) ∧
    S.t 10 = iv n ∧ S.t 72 = nats ks ∧ S.t 73 = iv ks.length ∧ S.t 74 = iv j
set_option maxHeartbeats 1000000 in
theorem walk_pc (p : Prg) (h : Hnd) (hc : codeOk p.hs h.code) : PC Try.prog 79 [p.av, h.av] (walkAV (walkV p.hs h.code)) := by
  have hlen := hc.1
  refine pc_of_get walk_get (by simp) _ (by simp) _ ?_
  unfold walk_c
  have w1 : IntKind.i64.wrap ((h.code.length : Int) + 1) = ((h.code.length + 1 : Nat) : Int) := by rw [wrap_in _ (by omega) (by omega)]; rfl
  simp
  refine repeat_v (-1) _ (h.code.length + 1) w1 (by omega) (by omega) _ _ (fun st S1 hF hb => ?_)
  have ht := hF.t
  have b2 := hF.b 79002 rfl
  have b3 := hF.b 79003 rfl
  simp at b2 b3 ht
  simp [ht, b2, b3, hb]
  clear hF ht
  refine loopM (WI p h (walkV p.hs h.code)) (h.code.length + 3) ?_ ?_
  · refine ⟨(List.replicate (h.code.length + 1) (-1)).set 0 0, [0], 0, rfl, ⟨by simp, ?_, by simp⟩, ?_, by omega, by simp [b2], by simp [b3], ?_, by simp, ?_⟩
    · intro x hx
      rcases List.mem_or_eq_of_mem_set hx with hx | hx
      · have := List.eq_of_mem_replicate hx; omega
      · omega
    · refine ⟨?_, by omega⟩
      simp [unr, List.replicate_succ, List.countP_replicate]
    · simp [List.map_set]
    · exact ⟨_, 0, [iv 0], by simp; rfl, by simp, by simp, by simp⟩
  clear b2 b3 hb S1 st
  rintro f S ⟨out, left, most, hgo, hwf, ⟨hun, hfl⟩, hmost, ⟨s2, g2, b2⟩, ⟨s3, g3, b3⟩, ⟨s4, g4, b4⟩, g5, ⟨s7, off, es, g7, b7, hle, hq⟩⟩
  obtain ⟨f, rfl⟩ : ∃ f', f = f' + 1 := ⟨f - 1, by omega⟩
  cases left with
  | nil =>
    simp at g7
    simp [walkGo] at hgo
    have hl := list_ints out S.blk 92030 s4 b4
    simp [walk_l1, g2, g3, g4, g5, g7, b2, b3, b4, ← hgo, walkAV, hl, ints]
  | cons a left =>
    simp at g7 hle hq
    obtain ⟨q1, q2⟩ := take_first (x := iv a) (xs := left.map (fun n : Nat => iv n)) (off := off) (es := es) (by simpa using hq)
    simp at q2
    have ha := hwf.q a (by simp)
    simp [walk_l1, g2, g3, g4, g5, g7, b2, b3, b4, b7, q1]
    refine split (fun hal => ?_) (fun hal => ?_)
    · have hal : a = h.code.length := by omega
      rw [walkGo, if_pos hal] at hgo
      simp
      refine ⟨f, by omega, out, left, most, hgo, ⟨hwf.len, hwf.rng, fun x hx => hwf.q x (by simp [hx])⟩, by simp at hun; omega, hmost, by simp [g2, b2], by simp [g3, b3], by simp [g4, b4], by simp [g5], ?_⟩
      exact ⟨s7, off + 1, es, by simp, by simp [b7], by simp; omega, by simpa using q2⟩
    · have hlt : a < h.code.length := by omega
      have hne : a ≠ h.code.length := by omega
      have hout := hwf.len
      have hi : h.code[a]? = some h.code[a] := List.getElem?_eq_getElem hlt
      have hd : out[a]? = some out[a] := List.getElem?_eq_getElem (by omega)
      have hlo : a < out.length := by omega
      have hrd := hwf.rng _ (List.getElem_mem (l := out) (n := a) (by omega))
      obtain ⟨hok, hjmp⟩ := hc.2 _ (List.getElem_mem (l := h.code) (n := a) hlt)
      have htk := takesV_range hok
      have hpt := putsV_range (h.code[a]).op
      have wt : IntKind.i64.wrap (out[a] - takesV p.hs h.code[a]) = out[a] - takesV p.hs h.code[a] := wrap_in _ (by omega) (by omega)
      have wp : IntKind.i64.wrap (out[a] - takesV p.hs h.code[a] + putsV (h.code[a]).op) = out[a] - takesV p.hs h.code[a] + putsV (h.code[a]).op := wrap_in _ (by omega) (by omega)
      simp [g2, g3, g4, g5, g7, b2, b3, b4, b7, hlt, hlo]
      refine calld (takes_pc p _ hok) (by simp) ?_
      simp [wt]
      rw [walkGo, if_neg hne, hi, hd] at hgo
      simp only at hgo
      refine split (fun hn1 => ?_) (fun hn1 => ?_) <;> simp [hn1]
      · rw [if_pos (.inl hn1)] at hgo
        simp [← hgo, walkAV]
      refine call (puts_pc (h.code[a]).op) (by simp) ?_
      simp [wp]
      refine split (fun hn2 => ?_) (fun hn2 => ?_) <;> simp [hn2]
      · rw [if_pos (.inr hn2)] at hgo
        simp [← hgo, walkAV]
      rw [if_neg (by omega)] at hgo
      refine call (puts_pc (h.code[a]).op) (by simp) ?_
      simp [wp, hlo, g2, g3, g4, g5, b2, b3, b4]
      refine call (next_pc a h.code[a] (by omega) (fun q => (hjmp q).1)) (by simp) ?_
      simp [nats]
      generalize hk : nextV a h.code[a] = ks at hgo ⊢
      generalize hn : out[a] - takesV p.hs h.code[a] + putsV (h.code[a]).op = n at hgo wp ⊢
      have hks : ∀ k ∈ ks, k ≤ h.code.length := by rw [← hk]; exact nextV_le hc hi
      have hkl : ks.length ≤ 2 := by rw [← hk]; unfold nextV; (repeat' split) <;> simp
      have hn0 : 0 ≤ n ∧ n ≤ 8 := by omega
      refine loopN (WJ p h n ks (unr out + left.length) (max (max most out[a]) n) (visitL n ks (out, left))) ks.length ?_ ?_
      · exact ⟨out, left, rfl, ⟨hwf.len, hwf.rng, fun x hx => hwf.q x (by simp [hx])⟩, rfl, by simp [g2, b2], by simp [g3, b3], by simp [g4, b4], by simp, ⟨s7, off + 1, es, by simp, by simp [b7], by simp; omega, by simpa using q2⟩, by simp, by simp [nats], by simp, by simp⟩
      · rintro j S2 hj ⟨o2, l2, hv, hw2, hu2, ⟨t2, k2, c2⟩, ⟨t3, k3, c3⟩, ⟨t4, k4, c4⟩, k5, ⟨t7, of2, es2, k7, c7, hle2, hq2⟩, k10, k72, k73, k74⟩
        by_cases hjl : j < ks.length
        · have hd2 : ks.drop j = ks[j] :: ks.drop (j + 1) := List.drop_eq_getElem_cons hjl
          have hkj := hks _ (List.getElem_mem hjl)
          have ho2 := hw2.len
          have hko : ks[j] < o2.length := by omega
          have hr2 := hw2.rng _ (List.getElem_mem hko)
          rw [hd2] at hv
          simp at hle2
          have e2 : o2[ks[j]]? = some o2[ks[j]] := List.getElem?_eq_getElem hko
          simp [walk_l0, nats, k2, k3, k4, k5, k7, k10, k72, k73, k74, c2, c3, c4, c7, hjl, hko]
          have hl2 : (l2.length + 1) * 8 ≤ 140737488355328 := by simp at hun; omega
          have hq3 : (es2.drop of2).take l2.length = l2.map (fun n : Nat => iv n) := by simpa using hq2
          have wj := wrap_succ j _ hjl (by omega)
          refine split (fun hm1 => ?_) (fun hm1 => ?_)
          · have hv1 : visit1 n (o2, l2) ks[j] = some (o2.set ks[j] n, l2 ++ [ks[j]]) := by
              unfold visit1; rw [if_pos (by rw [e2, hm1])]
            obtain ⟨hw3, hu3⟩ := visit1_ok hv1 hkj hn0 hw2
            simp only [visitL, hv1, Option.bind_some] at hv
            simp [k2, k3, k4, k5, k7, k10, k72, k73, k74, c2, c3, c4, c7, hjl, hko, hle2, hl2, hq3, nats, wj]
            refine ⟨o2.set ks[j] n, l2 ++ [ks[j]], hv, hw3, by simpa [hu2] using hu3, by simp [k2, c2], by simp [k3, c3], by simp [k4, c4, List.map_set], by simp [k5], ?_, by simp [k10], by simp [k72, nats], by simp [k73], by simp⟩
            exact ⟨_, 0, (l2 ++ [ks[j]]).map (fun n : Nat => iv n), by simp; rfl, by simp, by simp, by rw [List.drop_zero]; exact List.take_of_length_le (Nat.le_refl _)⟩
          · simp [k2, k3, k4, k5, k7, k10, k72, k73, k74, c2, c3, c4, c7, hjl, hko, nats]
            refine split (fun hm2 => ?_) (fun hm2 => ?_)
            · have hv1 : visit1 n (o2, l2) ks[j] = some (o2, l2) := by
                unfold visit1; rw [if_neg (by rw [e2]; simpa using hm1), if_pos (by rw [e2, hm2])]
              simp only [visitL, hv1, Option.bind_some] at hv
              simp [k74, wj]
              refine ⟨o2, l2, hv, hw2, hu2, by simp [k2, c2], by simp [k3, c3], by simp [k4, c4], by simp [k5], ?_, by simp [k10], by simp [k72, nats], by simp [k73], by simp⟩
              exact ⟨t7, of2, es2, by simp [k7], by simp [c7], by simpa using hle2, hq2⟩
            · have hv1 : visit1 n (o2, l2) ks[j] = none := by
                unfold visit1; rw [if_neg (by rw [e2]; simpa using hm1), if_neg (by rw [e2]; simpa using hm2)]
              simp only [visitL, hv1, Option.bind_none] at hv
              rw [← hv] at hgo
              simp only at hgo
              simp [← hgo, walkAV]
        · have hjl : j = ks.length := by omega
          subst hjl
          rw [List.drop_length] at hv
          simp only [visitL] at hv
          rw [← hv] at hgo
          simp only at hgo
          simp [walk_l0, k2, k3, k4, k5, k7, k10, k72, k73, k74, c2, c3, c4, c7]
          simp at hun
          refine ⟨f, by omega, o2, l2, _, hgo, hw2, by omega, by omega, by simp [k2, c2], by simp [k3, c3], by simp [k4, c4], by simp [k5], ?_⟩
          exact ⟨t7, of2, es2, by simp [k7], by simp [c7], by simpa using hle2, hq2⟩

end Go.Gv
