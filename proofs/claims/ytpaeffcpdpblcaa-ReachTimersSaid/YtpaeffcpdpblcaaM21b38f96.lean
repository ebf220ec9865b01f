/- Texts of this proof, one behind the other. What is proved, and on which conditions, stands ahead of each. -/
import Derived.Test.YtpaeffcpdpblcaaM145ed2fb
import Derived.Test.YtpaeffcpdpblcaaProg
import Derived.Test.YtpaeffcpdpblcaaM2057b5eb
import Derived.Test.YtpaeffcpdpblcaaM100a9d8d

/- Other names for lists that may be appended to; arguments of a struct taken coarser. No condition beyond those that each law names. -/
set_option linter.unusedVariables false
set_option linter.unusedSimpArgs false
namespace Go.Gv
open Go.RowKit

def rt0 (a b : Nat) : AV → AV
  | .acc nm st sz xs => .acc (if nm = a then b else nm) st sz xs
  | v => v
def rtc (a b : Nat) : AV → AV
  | .fn f caps => .fn f (caps.map (rt0 a b))
  | v => rt0 a b v
theorem rt_map (E : Env) (a b : Nat) : CellMap E E (rtc a b) := by
  have f0 : ∀ (x : AV) (v : Value), Rel E x v → Rel E (rt0 a b x) v := by
    intro x v h
    cases x with
    | acc nm st sz xs => cases h with | acc _ _ _ _ _ hu hv hl => exact .acc _ st sz xs v hu hv hl
    | _ => exact h
  refine ⟨?_, ?_, ?_, fun _ _ => rfl, .refl E⟩
  · intro x v h1 hrel
    cases x with
    | fn f caps =>
      cases hrel with
      | fn _ _ vs hs hr' =>
        refine .fn f _ vs (by simpa using hs) ?_
        intro j y u hy hu
        rw [List.getElem?_map] at hy
        cases hc : caps[j]? with
        | none => simp [hc] at hy
        | some z => simp only [hc, Option.map_some, Option.some.injEq] at hy; rw [← hy]; exact f0 z u (hr' j z u hc hu)
    | _ => exact f0 _ v hrel
  · intro x h1
    cases x <;> first | rfl | exact h1
  · intro x h1
    cases x <;> first | rfl | (simp [AV.one] at h1)

def Hp.renT (h : Hp) (a b : Nat) : Hp := ⟨fun n => (h.blk n).map (mapB (rtc a b)), fun n => if n = b then h.tok a else if n = a then none else h.tok n⟩

theorem Wkh.renT {c : Nat} {h : Hp} (a b : Nat) (hab : a ≠ b) : Wkh c c h (h.renT a b) (mapV (rtc a b)) := by
  refine ⟨Nat.le_refl _, fun E B w H hu => ?_⟩
  have hM := rt_map E a b
  have getb : ∀ n bl, (h.renT a b).blk n = some bl → ∃ b0, h.blk n = some b0 ∧ bl = mapB (rtc a b) b0 := by
    intro n bl hn
    simp only [Hp.renT, Option.map_eq_some_iff] at hn
    obtain ⟨b0, h1, h2⟩ := hn
    exact ⟨b0, h1, h2.symm⟩
  have gett : ∀ n t, (h.renT a b).tok n = some t → ∃ m, h.tok m = some t ∧ m = (if n = b then a else n) ∧ n ≠ a := by
    intro n t hn
    simp only [Hp.renT] at hn
    split at hn
    · rename_i e; exact ⟨a, hn, by rw [if_pos e], fun q => hab (q.symm.trans e)⟩
    · rename_i e
      split at hn
      · cases hn
      · rename_i e2; exact ⟨n, hn, by rw [if_neg e], e2⟩
  refine ⟨E, .refl E, ⟨H.K, ?_, ?_, ?_, ?_, ?_, ?_, ?_⟩, fun _ _ _ => rfl, fun _ h => h, fun x v hv => hM.relV hv⟩
  · intro n bl hn
    obtain ⟨b0, h0, rfl⟩ := getb n bl hn
    exact H.bu n b0 h0
  · intro n bl hn
    obtain ⟨b0, h0, rfl⟩ := getb n bl hn
    exact hM.blkOk (H.bu n b0 h0) (H.bk n b0 h0) (H.bk n b0 h0).noK
  · intro n t hn
    obtain ⟨m, h0, _⟩ := gett n t hn
    exact H.tu m t h0
  · intro n t hn
    obtain ⟨m, h0, _⟩ := gett n t hn
    exact H.tk m t h0
  · intro n n' bl bl' hn h1 h2
    obtain ⟨b0, h0, rfl⟩ := getb n bl h1
    obtain ⟨b0', h0', rfl⟩ := getb n' bl' h2
    exact H.bb n n' b0 b0' hn h0 h0'
  · intro n n' bl t h1 h2
    obtain ⟨b0, h0, rfl⟩ := getb n bl h1
    obtain ⟨m, ht, _⟩ := gett n' t h2
    exact H.bt n m b0 t h0 ht
  · intro n n' t t' g hn h1 h2 hg
    obtain ⟨m, ht, e1, e2⟩ := gett n t h1
    obtain ⟨m', ht', e1', e2'⟩ := gett n' t' h2
    refine H.tt m m' t t' g ?_ ht ht' hg
    rw [e1, e1']
    intro q
    split at q <;> split at q
    · rename_i x y; exact hn (x.trans y.symm)
    · exact e2' q.symm
    · exact e2 q
    · exact hn q

/-- A struct's cells taken coarser, one by one. -/
theorem call_cells {P : Program} {f : FuncId} (d : Nat) {cs cs' : List AV} {S : St} {k : AV → St → Prop} {u : Dep k} (hl : cs.length = cs'.length) (h1 : ∀ y ∈ cs', y.one = true)
    (hco : ∀ (j : Nat) (x y : AV), cs[j]? = some x → cs'[j]? = some y → x = y ∨ dco (fun _ => none) d x y) (h : CallG P (.fn f []) [.agg cs'] S k u) : CallG P (.fn f []) [.agg cs] S k u := by
  obtain ⟨g, caps, hf, hent, hc⟩ := h
  refine ⟨g, caps, hf, hent, fun E B W w args H hW hB hu hsz hrel => ?_⟩
  obtain ⟨rfl, rfl⟩ : f = g ∧ [] = caps := by cases hf; exact ⟨rfl, rfl⟩
  refine hc E B W w args H hW hB hu (by simpa using hsz) ?_
  intro j y u' hy hu'
  match j with
  | j + 1 => simp at hy
  | 0 =>
    simp at hy
    subst hy
    have hr := hrel 0 (.agg cs) u' rfl hu'
    cases hr with
    | agg _ vs hs h1' hr =>
      refine .agg cs' vs (by rw [← hl]; exact hs) (fun j y hy => h1 y (List.mem_of_getElem? hy)) (fun j y v hy hv => ?_)
      obtain ⟨x, hx⟩ : ∃ x, cs[j]? = some x := ⟨_, List.getElem?_eq_getElem (by rw [hl]; exact (List.getElem?_eq_some_iff.1 hy).1)⟩
      have hxr := hr j x v hx hv
      rcases hco j x y hx hy with q | q
      · rw [← q]; exact hxr
      · exact Rel.of_envK (K := E.K) (dcc_rel (w := w) d x y v q H.K hxr) (fun _ _ _ q => q)
end Go.Gv

/- The law ReachTimers answers true. No condition. -/
set_option linter.unusedVariables false
set_option linter.unusedSimpArgs false
namespace Go.Gv
open Go.Proofs

def ringM_r0 : List AI := [⟨(some 4), none, (.op (.new 145504 4 (.agg [.nils, .nils, .nils, (.int .i64 0)])))⟩]
def ringM_r1 : List AI := [⟨(some 8), none, (.op (.build [.nils, (.int .i64 0), (.int .i64 0), (.bool false)] [(2, (1, (.c (.int .i64 (-1)))))]))⟩, ⟨(some 9), none, (.op (.bslm 1000145509 4 38 1 (.agg [.nils, (.int .i64 0), (.int .i64 0), (.bool false)]) [(0, (.t 8))]))⟩, ⟨(some 10), none, (.op (.build [.nils, .nils, .nils, (.int .i64 0)] [(1, (1, (.t 9))), (3, (1, (.c (.int .i64 10))))]))⟩, ⟨(some 5), none, (.op (.new 145505 4 (.agg [.nils, .nils, .nils, (.int .i64 0)])))⟩, ⟨none, none, (.op (.store 4 (.t 5) (.t 10)))⟩]
def ringM_r2 : List AI := [⟨(some 6), none, (.op (.mv (.c (.int .i64 0))))⟩]
def ringM_r3 : List AI := [⟨(some 11), none, (.op (.mv (.t 6)))⟩, ⟨(some 12), none, (.op (.mv (.t 0)))⟩, ⟨(some 13), none, (.op (.ibin .lss (.t 11) (.t 12)))⟩]
def ringM_r4 : List AI := [⟨(some 7), none, (.op (.mv (.c .nils)))⟩]
def ringM_r5 : List AI := [⟨(some 16), none, (.op (.mv (.t 6)))⟩, ⟨(some 17), none, (.op (.ibin .add (.t 16) (.c (.int .i64 1))))⟩, ⟨(some 18), none, (.op (.mv (.t 0)))⟩, ⟨(some 19), none, (.op (.ibin .lss (.t 17) (.t 18)))⟩]
def ringM_r6 : List AI := [⟨(some 20), none, (.op (.build [(.int .i64 0), (.int .i64 0)] [(0, (1, (.c (.int .i64 8))))]))⟩, ⟨(some 21), none, (.op (.mv (.t 6)))⟩, ⟨(some 22), none, (.op (.ibin .add (.t 21) (.c (.int .i64 1))))⟩, ⟨(some 23), none, (.op (.build [(.int .i64 0), (.int .i64 0)] [(0, (1, (.c (.int .i64 22)))), (1, (1, (.t 22)))]))⟩, ⟨(some 24), none, (.op (.bsl 145524 2 35 2 (.agg [(.int .i64 0), (.int .i64 0)]) [(0, (.t 20)), (1, (.t 23))]))⟩, ⟨(some 7), none, (.op (.mv (.t 24)))⟩]
def ringM_r7 : List AI := [⟨(some 25), none, (.op (.mv (.t 1)))⟩]
def ringM_r8 : List AI := [⟨(some 26), none, (.op (.build [(.int .i64 0), (.int .i64 0)] [(0, (1, (.c (.int .i64 8))))]))⟩, ⟨(some 27), none, (.op (.build [(.int .i64 0), (.int .i64 0)] [(0, (1, (.c (.int .i64 22))))]))⟩, ⟨(some 28), none, (.op (.bsl 145528 2 35 2 (.agg [(.int .i64 0), (.int .i64 0)]) [(0, (.t 26)), (1, (.t 27))]))⟩, ⟨(some 7), none, (.op (.mv (.t 28)))⟩]
def ringM_r9 : List AI := [⟨(some 29), none, (.op (.fld 0 (.t 5)))⟩, ⟨(some 30), none, (.op (.load none (.t 29)))⟩, ⟨(some 31), none, (.op (.mv (.t 7)))⟩, ⟨(some 32), none, (.op (.build [(.int .i64 0), .nils] [(1, (1, (.t 31)))]))⟩, ⟨(some 33), none, (.op (.bslm 1000145533 2 33 1 (.agg [(.int .i64 0), .nils]) [(0, (.t 32))]))⟩, ⟨(some 34), none, (.op (.appw 1000145534 2 33 32 (.t 30) (.t 33)))⟩, ⟨(some 35), none, (.op (.fld 0 (.t 5)))⟩, ⟨none, none, (.op (.store 1 (.t 35) (.t 34)))⟩]
def ringM_r10 : List AI := [⟨(some 14), none, (.op (.mv (.t 6)))⟩, ⟨(some 15), none, (.op (.ibin .add (.t 14) (.c (.int .i64 1))))⟩, ⟨(some 6), none, (.op (.mv (.t 15)))⟩]
def ringM_l0 : AC := (.seq (.seq (.reg ringM_r3) (.cond (.t 13) .skip (.exit 0))) (.seq (.block 1 (.seq (.reg ringM_r4) (.seq (.seq (.reg ringM_r5) (.cond (.t 19) (.reg ringM_r6) (.seq (.reg ringM_r7) (.cond (.t 25) (.reg ringM_r8) .skip)))) (.reg ringM_r9)))) (.reg ringM_r10)))
def ringM_r11 : List AI := [⟨(some 36), none, (.op (.load (some 4) (.t 5)))⟩, ⟨none, none, (.op (.store 4 (.t 4) (.t 36)))⟩]
def ringM_c : AC := (.seq (.reg ringM_r0) (.seq (.reg ringM_r1) (.seq (.seq (.reg ringM_r2) (.block 0 (.loop ringM_l0))) (.seq (.reg ringM_r11) .ret))))
def ringM_res : List ARes := [(.cell (some 4) 4)]
set_option maxRecDepth 100000 in
theorem ringM_get : getF Try.prog 13 145500 [(9, 1000000009), (33, 1000000033), (34, 1000000034)] = some ("gavotte/gavottelaw20.ring", 37, ringM_c, ringM_res) := by kernel_rfl
def timers_r0 : List AI := [⟨(some 6), none, (.op (.mv (.c (.bool false))))⟩]
def timers_r1 : List AI := [⟨(some 11), none, (.call (.c (.fn 13 [])) [(.c (.int .i64 4)), (.c (.bool false))])⟩, ⟨(some 7), none, (.op (.new 182007 4 (.agg [.nils, .nils, .nils, (.int .i64 0)])))⟩, ⟨none, none, (.op (.store 4 (.t 7) (.t 11)))⟩]
def timers_r2 : List AI := [⟨(some 12), none, (.op (.mv (.t 2)))⟩]
def timers_r3 : List AI := [⟨(some 13), none, (.op (.fld 0 (.t 7)))⟩, ⟨(some 14), none, (.op (.load none (.t 13)))⟩, ⟨(some 15), none, (.op (.fld 0 (.t 7)))⟩, ⟨(some 16), none, (.op (.load none (.t 15)))⟩, ⟨(some 17), none, (.op (.idx 2 (.t 16) (.c (.int .i64 1))))⟩, ⟨(some 18), none, (.op (.fld 1 (.t 17)))⟩, ⟨(some 19), none, (.op (.load none (.t 18)))⟩, ⟨(some 20), none, (.op (.build [(.int .i64 0), (.int .i64 0)] [(0, (1, (.c (.int .i64 23))))]))⟩, ⟨(some 21), none, (.op (.bsl 182021 2 35 1 (.agg [(.int .i64 0), (.int .i64 0)]) [(0, (.t 20))]))⟩, ⟨(some 22), none, (.op (.app 182022 2 35 16 (.t 19) (.t 21)))⟩, ⟨(some 23), none, (.op (.idx 2 (.t 14) (.c (.int .i64 1))))⟩, ⟨(some 24), none, (.op (.fld 1 (.t 23)))⟩, ⟨none, none, (.op (.store 1 (.t 24) (.t 22)))⟩]
def timers_p3 : List (List Nat) := [[], [0], [], [2], [3, 2], [4, 3, 2], [5, 4, 3, 2], [], [7], [6, 8, 5, 4, 3, 2, 7], [1, 0, 2, 3, 4, 5, 6, 7, 8, 9], [10, 0, 1, 2, 3, 4, 5, 6, 7, 8, 9], [11, 9, 0, 1, 2, 3, 4, 5, 6, 7, 8, 10]]
def timers_r4 : List AI := [⟨(some 25), none, (.op (.fld 1 (.t 7)))⟩, ⟨(some 26), none, (.op (.load none (.t 25)))⟩, ⟨(some 27), none, (.op (.mv (.t 0)))⟩, ⟨(some 28), none, (.op (.build [.nils, (.int .i64 0), (.int .i64 0), (.bool false)] [(2, (1, (.c (.int .i64 2)))), (3, (1, (.t 27)))]))⟩, ⟨(some 29), none, (.op (.idx 4 (.t 26) (.c (.int .i64 0))))⟩, ⟨none, none, (.op (.store 4 (.t 29) (.t 28)))⟩]
def timers_r5 : List AI := [⟨(some 30), none, (.op (.mv (.t 1)))⟩]
def timers_r6 : List AI := [⟨(some 31), none, (.op (.build [(.int .i64 0), (.int .i64 0), .nils] [(1, (1, (.c (.int .i64 1))))]))⟩, ⟨(some 32), none, (.op (.bsl 182032 3 40 1 (.agg [(.int .i64 0), (.int .i64 0), .nils]) [(0, (.t 31))]))⟩, ⟨(some 33), none, (.op (.fld 2 (.t 7)))⟩, ⟨none, none, (.op (.store 1 (.t 33) (.t 32)))⟩]
def timers_r7 : List AI := [⟨(some 35), none, (.op (.load (some 4) (.t 7)))⟩, ⟨(some 36), none, (.call (.c (.fn 14 [])) [(.t 35)])⟩, ⟨(some 34), none, (.op (.mv (.t 36)))⟩, ⟨(some 37), none, (.op (.ext (.t 34) 0))⟩, ⟨(some 38), none, (.op (.ext (.t 34) 1))⟩, ⟨(some 8), none, (.op (.mv (.t 37)))⟩, ⟨(some 9), none, (.op (.mv (.t 38)))⟩]
def timers_r8 : List AI := [⟨(some 39), none, (.op (.mv (.t 9)))⟩, ⟨(some 40), none, (.op (.ibin .neq (.t 39) (.c (.int .i64 0))))⟩, ⟨(some 41), none, (.op (.mv (.t 40)))⟩, ⟨(some 42), (some (41, false)), (.op (.mv (.t 8)))⟩, ⟨(some 43), (some (41, false)), (.nq 1 false (.t 42))⟩, ⟨(some 44), none, (.op (.pick (.t 41) (.c (.bool true)) (.t 43)))⟩]
def timers_r9 : List AI := [⟨(some 6), none, (.op (.mv (.c (.bool false))))⟩]
def timers_r10 : List AI := [⟨(some 10), none, (.op (.mv (.c .nils)))⟩]
def timers_r11 : List AI := [⟨(some 46), none, (.op (.mv (.t 1)))⟩, ⟨(some 45), none, (.op (.mv (.t 46)))⟩]
def timers_r12 : List AI := [⟨(some 47), none, (.op (.bsl 182047 1 3 3 (.int .i64 0) [(0, (.c (.int .i64 1))), (1, (.c (.int .i64 2))), (2, (.c (.int .i64 3)))]))⟩, ⟨(some 10), none, (.op (.mv (.t 47)))⟩]
def timers_r13 : List AI := [⟨(some 49), none, (.op (.mv (.t 0)))⟩, ⟨(some 48), none, (.op (.mv (.t 49)))⟩]
def timers_r14 : List AI := [⟨(some 50), none, (.op (.bsl 182050 1 3 2 (.int .i64 0) [(0, (.c (.int .i64 2))), (1, (.c (.int .i64 3)))]))⟩, ⟨(some 10), none, (.op (.mv (.t 50)))⟩]
def timers_r15 : List AI := [⟨(some 51), none, (.op (.mv (.t 8)))⟩, ⟨(some 52), none, (.call (.c (.fn 20 [])) [(.t 51)])⟩, ⟨(some 53), none, (.op (.mv (.t 10)))⟩, ⟨(some 54), none, (.call (.c (.fn 19 [])) [(.t 52), (.t 53)])⟩, ⟨(some 55), none, (.op (.mv (.t 54)))⟩, ⟨(some 56), (some (55, true)), (.op (.mv (.t 8)))⟩, ⟨(some 57), (some (55, true)), (.call (.c (.fn 21 [])) [(.t 56), (.c (.int .i64 1))])⟩, ⟨(some 58), (some (55, true)), (.op (.mv (.t 2)))⟩, ⟨(some 59), (some (55, true)), (.op (.eqv false (.t 57) (.t 58)))⟩, ⟨(some 60), none, (.op (.pick (.t 55) (.t 59) (.c (.bool false))))⟩, ⟨(some 61), none, (.op (.mv (.t 60)))⟩, ⟨(some 62), (some (61, true)), (.op (.mv (.t 8)))⟩, ⟨(some 63), (some (61, true)), (.call (.c (.fn 21 [])) [(.t 62), (.c (.int .i64 2))])⟩, ⟨(some 64), (some (61, true)), (.op (.not (.t 63)))⟩, ⟨(some 65), none, (.op (.pick (.t 61) (.t 64) (.c (.bool false))))⟩, ⟨(some 66), none, (.op (.mv (.t 65)))⟩, ⟨(some 67), (some (66, true)), (.call (.c (.fn 12 [])) [])⟩, ⟨(some 68), none, (.op (.pick (.t 66) (.t 67) (.c (.bool false))))⟩, ⟨(some 6), none, (.op (.mv (.t 68)))⟩]
def timers_c : AC := (.seq (.reg timers_r0) (.seq (.reg timers_r1) (.seq (.seq (.reg timers_r2) (.cond (.t 12) (.regd timers_r3 timers_p3) .skip)) (.seq (.reg timers_r4) (.seq (.seq (.reg timers_r5) (.cond (.t 30) (.reg timers_r6) .skip)) (.seq (.gh (.reg timers_r7)) (.seq (.seq (.reg timers_r8) (.cond (.t 44) (.seq (.reg timers_r9) .ret) .skip)) (.seq (.reg timers_r10) (.seq (.block 0 (.seq (.reg timers_r11) (.cond (.t 45) (.reg timers_r12) (.seq (.reg timers_r13) (.cond (.t 48) (.reg timers_r14) .skip))))) (.seq (.reg timers_r15) .ret))))))))))
def timers_res : List ARes := [(.tmp 6)]
set_option maxRecDepth 100000 in
theorem timers_get : getF Try.prog 5 182000 [(1000007, 1)] = some ("gavotte/gavottelaw20.ReachTimers", 69, timers_c, timers_res) := by kernel_rfl
attribute [simp] ringM_r0 ringM_r1 ringM_r2 ringM_r3 ringM_r4 ringM_r5 ringM_r6 ringM_r7 ringM_r8 ringM_r9 ringM_r10 ringM_r11 ringM_res timers_r0 timers_r1 timers_r2 timers_r3 timers_p3 timers_r4 timers_r5 timers_r6 timers_r7 timers_r8 timers_r9 timers_r10 timers_r11 timers_r12 timers_r13 timers_r14 timers_r15 timers_res


def eC (nm st : Nat) (i : Int) : AV := .agg [iv 0, .acc nm st 2 [.agg [iv 8, iv 0], .agg [iv 22, iv i]]]
def RgM (S : St) : Prop := S.t 0 = iv 4 ∧ S.t 1 = .bool false ∧ (∃ s4, S.t 4 = .ptr 145504 s4 4 0 0 ∧ S.blk 145504 = some ⟨s4, 4, [.agg [.nils, .nils, .nils, iv 0]]⟩)
def RgV (S : St) (hv : AV) : Prop := ∃ s5 sa, S.t 5 = .ptr 145505 s5 4 0 0 ∧ S.blk 145505 = some ⟨s5, 4, [.agg [hv, .sl 1000145509 sa 4 0 1, .nils, iv 10]]⟩ ∧ S.blk 1000145509 = some ⟨sa, 4, [actE]⟩
def RgJ : Nat → St → Prop
  | 0, S => RgM S ∧ S.t 6 = iv 0 ∧ RgV S .nils
  | 1, S => RgM S ∧ S.t 6 = iv 1 ∧ ∃ sh s0, RgV S (.sl 1000145534 sh 2 0 1) ∧ S.blk 1000145534 = some ⟨sh, 2, [eC 145524 s0 1]⟩
  | 2, S => RgM S ∧ S.t 6 = iv 2 ∧ ∃ sh s0 s1, RgV S (.sl 1000145534 sh 2 0 2) ∧ S.blk 1000145534 = some ⟨sh, 2, [eC 145900 s0 1, eC 145900 s1 2]⟩ ∧ S.tok 145900 = some ⟨s1, 2, 35⟩
  | 3, S => RgM S ∧ S.t 6 = iv 3 ∧ ∃ sh s0 s1 s2, RgV S (.sl 1000145534 sh 2 0 3) ∧ S.blk 1000145534 = some ⟨sh, 2, [eC 145900 s0 1, eC 145900 s1 2, eC 145524 s2 3]⟩ ∧ S.tok 145900 = some ⟨s1, 2, 35⟩
  | 4, S => RgM S ∧ S.t 6 = iv 4 ∧ ∃ sh s0 s1 s2, RgV S (.sl 1000145534 sh 2 0 4) ∧ S.blk 1000145534 = some ⟨sh, 2, [eC 145900 s0 1, eC 145900 s1 2, eC 145524 s2 3, .agg [iv 0, .nils]]⟩ ∧ S.tok 145900 = some ⟨s1, 2, 35⟩
  | _, _ => False
theorem wrap1 : IntKind.i64.wrap 1 = 1 := by decide
theorem wrap2 : IntKind.i64.wrap 2 = 2 := by decide
theorem wrap3 : IntKind.i64.wrap 3 = 3 := by decide
theorem wrap4 : IntKind.i64.wrap 4 = 4 := by decide
theorem Wk.renT (S : St) (a b : Nat) (hab : a ≠ b) : Wk S ⟨S.t, (S.h.renT a b).blk, (S.h.renT a b).tok, S.clk⟩ := Wk.of' (Wkh.renT a b hab) rfl
theorem ringM_v {S : St} {k : AV → St → Prop} {u : Dep k}
    (hk : ∀ S' sh s0 s1 s2 sa, S'.t = S.t → S.clk ≤ S'.clk → S'.blk 1000145534 = some ⟨sh, 2, [eC 145900 s0 1, eC 145900 s1 2, eC 145524 s2 3, .agg [iv 0, .nils]]⟩ → S'.tok 145900 = some ⟨s1, 2, 35⟩ → S'.blk 1000145509 = some ⟨sa, 4, [actE]⟩ →
      k (.agg [.sl 1000145534 sh 2 0 4, .sl 1000145509 sa 4 0 1, .nils, iv 10]) S') :
    CallG Try.prog (.fn 13 []) [iv 4, .bool false] S k u := by
  refine callV ringM_get (by simp) (by simp) ?_
  unfold ringM_c
  simp
  refine loopNW (fun i S' => RgJ i S' ∧ S.clk ≤ S'.clk) 4 ⟨_, Wk.refl _, ?_⟩ ?_
  · refine ⟨⟨⟨by simp, by simp, _, by simp; rfl, by simp⟩, by simp, _, _, by simp; rfl, by simp [actE]; rfl, by simp [actE]⟩, by simp; omega⟩
  · rintro i S' hi ⟨hJ, hc⟩
    match i, hi, hJ with
    | 0, _, ⟨⟨g0, g1, s4, g4, b4⟩, g6, s5, sa, g5, b5, ba⟩ =>
      simp [ringM_l0, g0, g1, g4, g5, g6, b4, b5, wrap1]
      refine ⟨_, Wk.refl _, ?_, ?_⟩
      · simp [RgJ, RgM, RgV, eC, g0, g1, g4, g5, b4, b5, ba]
      · simp <;> omega
    | 1, _, ⟨⟨g0, g1, s4, g4, b4⟩, g6, sh, s0, ⟨s5, sa, g5, b5, ba⟩, bh⟩ =>
      simp [ringM_l0, g0, g1, g4, g5, g6, b4, b5, bh, wrap2]
      refine ⟨_, Wk.renT _ 145524 145900 (by decide), ?_, ?_⟩
      · simp [RgJ, RgM, RgV, eC, g0, g1, g4, g5, b4, b5, ba, bh, Hp.renT, St.h, mapB, mapE, rtc, rt0, actE]
      · simp <;> omega
    | 2, _, ⟨⟨g0, g1, s4, g4, b4⟩, g6, sh, s0, s1, ⟨s5, sa, g5, b5, ba⟩, bh, tk⟩ =>
      simp [ringM_l0, g0, g1, g4, g5, g6, b4, b5, bh, wrap3]
      refine ⟨_, Wk.refl _, ?_, ?_⟩
      · simp [RgJ, RgM, RgV, eC, g0, g1, g4, g5, b4, b5, ba, bh, tk]
      · simp <;> omega
    | 3, _, ⟨⟨g0, g1, s4, g4, b4⟩, g6, sh, s0, s1, s2, ⟨s5, sa, g5, b5, ba⟩, bh, tk⟩ =>
      simp [ringM_l0, g0, g1, g4, g5, g6, b4, b5, bh, wrap4]
      refine ⟨_, Wk.refl _, ?_, ?_⟩
      · simp [RgJ, RgM, RgV, eC, g0, g1, g4, g5, b4, b5, ba, bh, tk]
      · simp <;> omega
    | 4, _, ⟨⟨g0, g1, s4, g4, b4⟩, g6, sh, s0, s1, s2, ⟨s5, sa, g5, b5, ba⟩, bh, tk⟩ =>
      simp [ringM_l0, g0, g1, g4, g5, g6, b4, b5, bh]
      exact hk _ sh s0 s1 s2 sa rfl (by simp; omega) (by simp [bh]) (by simp [tk]) (by simp [ba])
    | i + 5, h, _ => omega
def tmP (armed boot arms : Bool) : Prg := ⟨[⟨0, [⟨8, 0⟩, ⟨22, 1⟩]⟩, ⟨0, [⟨8, 0⟩, ⟨22, 2⟩] ++ if arms = true then [⟨23, 0⟩] else []⟩, ⟨0, [⟨8, 0⟩, ⟨22, 3⟩]⟩, ⟨0, []⟩], [⟨[], 0, 2, armed⟩], if boot = true then [⟨0, 1, []⟩] else [], 10⟩
theorem tm_facts : ∀ armed boot arms : Bool, flowV (tmP armed boot arms) = 0 ∧ liveV (tmP armed boot arms) ((List.range (tmP armed boot arms).hs.length).map fun h => putL [] (rawH (tmP armed boot arms) h)) (armsV (tmP armed boot arms)) = (if boot = true then [1, 2, 3] else if armed = true then [2, 3] else []) ∧
    atB (armsV (tmP armed boot arms)) 1 = arms ∧ atB (armsV (tmP armed boot arms)) 2 = false := by decide +kernel
theorem tm_at (armed boot arms : Bool) : flowV (tmP armed boot arms) = 0 ∧ liveP (tmP armed boot arms) = (if boot = true then [1, 2, 3] else if armed = true then [2, 3] else []) ∧
    atB (armsV (tmP armed boot arms)) 1 = arms ∧ atB (armsV (tmP armed boot arms)) 2 = false := by
  obtain ⟨a, b, c, d⟩ := tm_facts armed boot arms
  refine ⟨a, ?_, c, d⟩
  rw [liveP, sndV_put]
  exact b
theorem reachTimers_pc (armed boot arms : Bool) : PC Try.prog 5 [.bool armed, .bool boot, .bool arms] (.bool true) := by
  refine pc_of_get timers_get (by simp) _ (by simp) _ ?_
  unfold timers_c
  simp
  refine ringM_v (fun S sh s0 s1 s2 sa ht hc bh tk ba => ?_)
  obtain ⟨f1, f2, f3, f4⟩ := tm_at armed boot arms
  rcases Bool.eq_false_or_eq_true armed with hd | hd <;> rcases Bool.eq_false_or_eq_true arms with ha | ha <;> rcases Bool.eq_false_or_eq_true boot with hb | hb
  all_goals
    simp [ht, bh, ba, tk, eC, actE, ha, hb]
    refine ghost ⟨fun t => if t = 0 then .bool armed else if t = 1 then .bool boot else if t = 2 then .bool arms else if t = 7 then .kp (tmP armed boot arms).av.cells 0 else .junk, fun _ => none, fun _ => none, _⟩ (wk_freeze 3 _ fun t => ?_) ?_
    · by_cases h0 : t = 0
      · subst h0; exact .inr (.inl (by simp [elemR, dco, co1]))
      by_cases h1 : t = 1
      · subst h1; exact .inr (.inl (by simp [elemR, dco, co1, hb]))
      by_cases h2 : t = 2
      · subst h2; exact .inr (.inl (by simp [elemR, dco, co1, ha]))
      by_cases h7 : t = 7
      · subst h7
        refine .inr (.inr ⟨182007, 2, 4, 0, 0, _, _, _, rfl, by decide, rfl, rfl, ?_, rfl⟩)
        simp [tmP, ha, hb, Prg.av, Hnd.av, Ins.av, Actr.av, Nt.av, dco, elemR, coL, co1, getB, bh, ba, ints, eC, actE]
      · rw [if_neg h0, if_neg h1, if_neg h2, if_neg h7]; exact .inl rfl
    · simp
      refine pnew_v (tmP armed boot arms) (fun hf S1 st hP hB hK ht1 hc1 => ?_) (fun h => absurd f1 h)
      clear hB hK hc1
      simp [ht1, ha, hb, hd]
      refine plive_v 170013 st (by decide) (tmP armed boot arms) f1 (.inl hP) (fun S2 hP2 hF2 ht2 _ => ?_)
      clear hF2 hP
      rw [f2]
      simp [ht2, ht1, ha, hb, hd]
      refine call (aints_pc (if boot = true then [1, 2, 3] else if armed = true then [2, 3] else []) (if boot = true then [1, 2, 3] else if armed = true then [2, 3] else []) (by simp [hb, hd])) (by simp [ints, hb, hd]) ?_
      simp [ht2, ht1, ha, hb, hd]
      refine parms_v 170013 st (by decide) (tmP armed boot arms) f1 1 (.inr hP2) (fun S3 hP3 hF3 ht3 _ => ?_)
      clear hF3 hP2
      rw [f3]
      simp [ht3, ht2, ht1, ha, hb, hd]
      refine parms_v 170013 st (by decide) (tmP armed boot arms) f1 2 (.inr hP3) (fun S4 hP4 hF4 ht4 _ => ?_)
      clear hF4 hP3
      rw [f4]
      simp [ht4, ht3, ht2, ht1, ha, hb, hd]
      refine awake20_v (fun S5 ht5 _ => ?_)
      simp [ht5]

end Go.Gv
