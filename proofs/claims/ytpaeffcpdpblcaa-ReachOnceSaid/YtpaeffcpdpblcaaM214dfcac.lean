/- Texts of this proof, one behind the other. What is proved, and on which conditions, stands ahead of each. -/
import Derived.Test.YtpaeffcpdpblcaaM145ed2fb
import Derived.Test.YtpaeffcpdpblcaaProg
import Derived.Test.YtpaeffcpdpblcaaM2057b5eb
import Derived.Test.YtpaeffcpdpblcaaM19fa75c3

/- Other names for lists that may be appended to; arguments of a struct taken coarser. No condition beyond those that each law names. -/
set_option linter.unusedVariables false
set_option linter.unusedSimpArgs false
namespace Go.Gv
open Go.RowKit

def rt0 (a b : Nat) : AV → AV
  | .acc nm st sz xs => .acc (if nm = a then b else nm) st sz xs
  | v => v
def rtc (a b : Nat) : AV → AV
  | .fn f caps => .fn f (caps.map (rt0 a b))
  | v => rt0 a b v
theorem rt_map (E : Env) (a b : Nat) : CellMap E E (rtc a b) := by
  have f0 : ∀ (x : AV) (v : Value), Rel E x v → Rel E (rt0 a b x) v := by
    intro x v h
    cases x with
    | acc nm st sz xs => cases h with | acc _ _ _ _ _ hu hv hl => exact .acc _ st sz xs v hu hv hl
    | _ => exact h
  refine ⟨?_, ?_, ?_, fun _ _ => rfl, .refl E⟩
  · intro x v h1 hrel
    cases x with
    | fn f caps =>
      cases hrel with
      | fn _ _ vs hs hr' =>
        refine .fn f _ vs (by simpa using hs) ?_
        intro j y u hy hu
        rw [List.getElem?_map] at hy
        cases hc : caps[j]? with
        | none => simp [hc] at hy
        | some z => simp only [hc, Option.map_some, Option.some.injEq] at hy; rw [← hy]; exact f0 z u (hr' j z u hc hu)
    | _ => exact f0 _ v hrel
  · intro x h1
    cases x <;> first | rfl | exact h1
  · intro x h1
    cases x <;> first | rfl | (simp [AV.one] at h1)

def Hp.renT (h : Hp) (a b : Nat) : Hp := ⟨fun n => (h.blk n).map (mapB (rtc a b)), fun n => if n = b then h.tok a else if n = a then none else h.tok n⟩

theorem Wkh.renT {c : Nat} {h : Hp} (a b : Nat) (hab : a ≠ b) : Wkh c c h (h.renT a b) (mapV (rtc a b)) := by
  refine ⟨Nat.le_refl _, fun E B w H hu => ?_⟩
  have hM := rt_map E a b
  have getb : ∀ n bl, (h.renT a b).blk n = some bl → ∃ b0, h.blk n = some b0 ∧ bl = mapB (rtc a b) b0 := by
    intro n bl hn
    simp only [Hp.renT, Option.map_eq_some_iff] at hn
    obtain ⟨b0, h1, h2⟩ := hn
    exact ⟨b0, h1, h2.symm⟩
  have gett : ∀ n t, (h.renT a b).tok n = some t → ∃ m, h.tok m = some t ∧ m = (if n = b then a else n) ∧ n ≠ a := by
    intro n t hn
    simp only [Hp.renT] at hn
    split at hn
    · rename_i e; exact ⟨a, hn, by rw [if_pos e], fun q => hab (q.symm.trans e)⟩
    · rename_i e
      split at hn
      · cases hn
      · rename_i e2; exact ⟨n, hn, by rw [if_neg e], e2⟩
  refine ⟨E, .refl E, ⟨H.K, ?_, ?_, ?_, ?_, ?_, ?_, ?_⟩, fun _ _ _ => rfl, fun _ h => h, fun x v hv => hM.relV hv⟩
  · intro n bl hn
    obtain ⟨b0, h0, rfl⟩ := getb n bl hn
    exact H.bu n b0 h0
  · intro n bl hn
    obtain ⟨b0, h0, rfl⟩ := getb n bl hn
    exact hM.blkOk (H.bu n b0 h0) (H.bk n b0 h0) (H.bk n b0 h0).noK
  · intro n t hn
    obtain ⟨m, h0, _⟩ := gett n t hn
    exact H.tu m t h0
  · intro n t hn
    obtain ⟨m, h0, _⟩ := gett n t hn
    exact H.tk m t h0
  · intro n n' bl bl' hn h1 h2
    obtain ⟨b0, h0, rfl⟩ := getb n bl h1
    obtain ⟨b0', h0', rfl⟩ := getb n' bl' h2
    exact H.bb n n' b0 b0' hn h0 h0'
  · intro n n' bl t h1 h2
    obtain ⟨b0, h0, rfl⟩ := getb n bl h1
    obtain ⟨m, ht, _⟩ := gett n' t h2
    exact H.bt n m b0 t h0 ht
  · intro n n' t t' g hn h1 h2 hg
    obtain ⟨m, ht, e1, e2⟩ := gett n t h1
    obtain ⟨m', ht', e1', e2'⟩ := gett n' t' h2
    refine H.tt m m' t t' g ?_ ht ht' hg
    rw [e1, e1']
    intro q
    split at q <;> split at q
    · rename_i x y; exact hn (x.trans y.symm)
    · exact e2' q.symm
    · exact e2 q
    · exact hn q

/-- A struct's cells taken coarser, one by one. -/
theorem call_cells {P : Program} {f : FuncId} (d : Nat) {cs cs' : List AV} {S : St} {k : AV → St → Prop} {u : Dep k} (hl : cs.length = cs'.length) (h1 : ∀ y ∈ cs', y.one = true)
    (hco : ∀ (j : Nat) (x y : AV), cs[j]? = some x → cs'[j]? = some y → x = y ∨ dco (fun _ => none) d x y) (h : CallG P (.fn f []) [.agg cs'] S k u) : CallG P (.fn f []) [.agg cs] S k u := by
  obtain ⟨g, caps, hf, hent, hc⟩ := h
  refine ⟨g, caps, hf, hent, fun E B W w args H hW hB hu hsz hrel => ?_⟩
  obtain ⟨rfl, rfl⟩ : f = g ∧ [] = caps := by cases hf; exact ⟨rfl, rfl⟩
  refine hc E B W w args H hW hB hu (by simpa using hsz) ?_
  intro j y u' hy hu'
  match j with
  | j + 1 => simp at hy
  | 0 =>
    simp at hy
    subst hy
    have hr := hrel 0 (.agg cs) u' rfl hu'
    cases hr with
    | agg _ vs hs h1' hr =>
      refine .agg cs' vs (by rw [← hl]; exact hs) (fun j y hy => h1 y (List.mem_of_getElem? hy)) (fun j y v hy hv => ?_)
      obtain ⟨x, hx⟩ : ∃ x, cs[j]? = some x := ⟨_, List.getElem?_eq_getElem (by rw [hl]; exact (List.getElem?_eq_some_iff.1 hy).1)⟩
      have hxr := hr j x v hx hv
      rcases hco j x y hx hy with q | q
      · rw [← q]; exact hxr
      · exact Rel.of_envK (K := E.K) (dcc_rel (w := w) d x y v q H.K hxr) (fun _ _ _ q => q)
end Go.Gv

/- A plan of a program whose handlers lie in a block of the caller's. Conditions: those that each law names. -/
set_option linter.unusedVariables false
set_option linter.unusedSimpArgs false
namespace Go.Gv
open Go.Proofs

def copyM_r0 : List AI := [⟨(some 1), none, (.op (.box 155001 4 (.t 0)))⟩, ⟨(some 2), none, (.op (.new 155002 4 (.agg [.nils, .nils, .nils, (.int .i64 0)])))⟩]
def copyM_r1 : List AI := [⟨(some 10), none, (.op (.fld 3 (.t 1)))⟩, ⟨(some 11), none, (.op (.load none (.t 10)))⟩, ⟨(some 12), none, (.op (.build [.nils, .nils, .nils, (.int .i64 0)] [(3, (1, (.t 11)))]))⟩, ⟨(some 3), none, (.op (.new 155003 4 (.agg [.nils, .nils, .nils, (.int .i64 0)])))⟩, ⟨none, none, (.op (.store 4 (.t 3) (.t 12)))⟩]
def copyM_r2 : List AI := [⟨(some 13), none, (.op (.fld 0 (.t 1)))⟩, ⟨(some 14), none, (.op (.load none (.t 13)))⟩, ⟨(some 15), none, (.op (.len (.t 14)))⟩, ⟨(some 16), none, (.op (.mv (.c (.int .i64 0))))⟩]
def copyM_r3 : List AI := [⟨(some 17), none, (.op (.ibin .lss (.t 16) (.t 15)))⟩]
def copyM_r4 : List AI := [⟨(some 18), none, (.op (.idx 2 (.t 14) (.t 16)))⟩, ⟨(some 19), none, (.op (.load (some 2) (.t 18)))⟩, ⟨(some 5), none, (.op (.new 155005 2 (.agg [(.int .i64 0), .nils])))⟩, ⟨none, none, (.op (.store 2 (.t 5) (.t 19)))⟩]
def copyM_r5 : List AI := [⟨(some 20), none, (.op (.fld 0 (.t 3)))⟩, ⟨(some 21), none, (.op (.load none (.t 20)))⟩, ⟨(some 22), none, (.op (.fld 0 (.t 5)))⟩, ⟨(some 23), none, (.op (.load none (.t 22)))⟩, ⟨(some 24), none, (.op (.fld 1 (.t 5)))⟩, ⟨(some 25), none, (.op (.load none (.t 24)))⟩, ⟨(some 26), none, (.call (.c (.fn 28 [])) [(.t 25)])⟩, ⟨(some 27), none, (.op (.build [(.int .i64 0), .nils] [(0, (1, (.t 23))), (1, (1, (.t 26)))]))⟩, ⟨(some 28), none, (.op (.bsl 155028 2 33 1 (.agg [(.int .i64 0), .nils]) [(0, (.t 27))]))⟩, ⟨(some 29), none, (.op (.app 155029 2 33 32 (.t 21) (.t 28)))⟩, ⟨(some 30), none, (.op (.fld 0 (.t 3)))⟩, ⟨none, none, (.op (.store 1 (.t 30) (.t 29)))⟩]
def copyM_p5 : List (List Nat) := [[], [0], [], [2], [], [4], [5, 4], [3, 6, 2, 5, 4], [7, 3, 6, 2, 5, 4], [1, 8, 6, 0, 7, 3, 2, 5, 4], [0, 1, 2, 3, 4, 5, 6, 7, 8, 9], [10, 9, 0, 1, 2, 3, 4, 5, 6, 7, 8]]
def copyM_r6 : List AI := [⟨(some 31), none, (.op (.ibin .add (.t 16) (.c (.int .i64 1))))⟩, ⟨(some 16), none, (.op (.mv (.t 31)))⟩]
def copyM_l0 : AC := (.seq (.reg copyM_r3) (.seq (.cond (.t 17) .skip (.exit 0)) (.seq (.block 1 (.seq (.reg copyM_r4) (.regd copyM_r5 copyM_p5))) (.reg copyM_r6))))
def copyM_r7 : List AI := [⟨(some 32), none, (.op (.fld 1 (.t 1)))⟩, ⟨(some 33), none, (.op (.load none (.t 32)))⟩, ⟨(some 34), none, (.op (.len (.t 33)))⟩, ⟨(some 35), none, (.op (.mv (.c (.int .i64 0))))⟩]
def copyM_r8 : List AI := [⟨(some 36), none, (.op (.ibin .lss (.t 35) (.t 34)))⟩]
def copyM_r9 : List AI := [⟨(some 37), none, (.op (.idx 4 (.t 33) (.t 35)))⟩, ⟨(some 38), none, (.op (.load (some 4) (.t 37)))⟩, ⟨(some 7), none, (.op (.new 155007 4 (.agg [.nils, (.int .i64 0), (.int .i64 0), (.bool false)])))⟩, ⟨none, none, (.op (.store 4 (.t 7) (.t 38)))⟩]
def copyM_r10 : List AI := [⟨(some 39), none, (.op (.fld 0 (.t 7)))⟩, ⟨(some 40), none, (.op (.load none (.t 39)))⟩, ⟨(some 41), none, (.call (.c (.fn 29 [])) [(.t 40)])⟩, ⟨(some 42), none, (.op (.fld 0 (.t 7)))⟩, ⟨none, none, (.op (.store 1 (.t 42) (.t 41)))⟩]
def copyM_r11 : List AI := [⟨(some 43), none, (.op (.fld 1 (.t 3)))⟩, ⟨(some 44), none, (.op (.load none (.t 43)))⟩, ⟨(some 45), none, (.op (.load (some 4) (.t 7)))⟩, ⟨(some 46), none, (.op (.bsl 155046 4 38 1 (.agg [.nils, (.int .i64 0), (.int .i64 0), (.bool false)]) [(0, (.t 45))]))⟩, ⟨(some 47), none, (.op (.app 155047 4 38 48 (.t 44) (.t 46)))⟩, ⟨(some 48), none, (.op (.fld 1 (.t 3)))⟩, ⟨none, none, (.op (.store 1 (.t 48) (.t 47)))⟩]
def copyM_r12 : List AI := [⟨(some 49), none, (.op (.ibin .add (.t 35) (.c (.int .i64 1))))⟩, ⟨(some 35), none, (.op (.mv (.t 49)))⟩]
def copyM_l1 : AC := (.seq (.reg copyM_r8) (.seq (.cond (.t 36) .skip (.exit 2)) (.seq (.block 3 (.seq (.reg copyM_r9) (.seq (.reg copyM_r10) (.reg copyM_r11)))) (.reg copyM_r12))))
def copyM_r13 : List AI := [⟨(some 50), none, (.op (.fld 2 (.t 1)))⟩, ⟨(some 51), none, (.op (.load none (.t 50)))⟩, ⟨(some 52), none, (.op (.len (.t 51)))⟩, ⟨(some 53), none, (.op (.mv (.c (.int .i64 0))))⟩]
def copyM_r14 : List AI := [⟨(some 54), none, (.op (.ibin .lss (.t 53) (.t 52)))⟩]
def copyM_r15 : List AI := [⟨(some 55), none, (.op (.idx 3 (.t 51) (.t 53)))⟩, ⟨(some 56), none, (.op (.load (some 3) (.t 55)))⟩, ⟨(some 9), none, (.op (.new 155009 3 (.agg [(.int .i64 0), (.int .i64 0), .nils])))⟩, ⟨none, none, (.op (.store 3 (.t 9) (.t 56)))⟩]
def copyM_r16 : List AI := [⟨(some 57), none, (.op (.fld 2 (.t 3)))⟩, ⟨(some 58), none, (.op (.load none (.t 57)))⟩, ⟨(some 59), none, (.op (.load (some 3) (.t 9)))⟩, ⟨(some 60), none, (.call (.c (.fn 30 [])) [(.t 59)])⟩, ⟨(some 61), none, (.op (.bsl 155061 3 40 1 (.agg [(.int .i64 0), (.int .i64 0), .nils]) [(0, (.t 60))]))⟩, ⟨(some 62), none, (.op (.app 155062 3 40 40 (.t 58) (.t 61)))⟩, ⟨(some 63), none, (.op (.fld 2 (.t 3)))⟩, ⟨none, none, (.op (.store 1 (.t 63) (.t 62)))⟩]
def copyM_p16 : List (List Nat) := [[], [0], [], [2], [3, 2], [1, 4, 3, 0, 2], [0, 1, 2, 3, 4, 5], [6, 5, 0, 1, 2, 3, 4]]
def copyM_r17 : List AI := [⟨(some 64), none, (.op (.ibin .add (.t 53) (.c (.int .i64 1))))⟩, ⟨(some 53), none, (.op (.mv (.t 64)))⟩]
def copyM_l2 : AC := (.seq (.reg copyM_r14) (.seq (.cond (.t 54) .skip (.exit 4)) (.seq (.block 5 (.seq (.reg copyM_r15) (.regd copyM_r16 copyM_p16))) (.reg copyM_r17))))
def copyM_r18 : List AI := [⟨(some 65), none, (.op (.load (some 4) (.t 3)))⟩, ⟨none, none, (.op (.store 4 (.t 2) (.t 65)))⟩]
def copyM_c : AC := (.seq (.reg copyM_r0) (.seq (.reg copyM_r1) (.seq (.seq (.reg copyM_r2) (.block 0 (.loop copyM_l0))) (.seq (.seq (.reg copyM_r7) (.block 2 (.loop copyM_l1))) (.seq (.seq (.reg copyM_r13) (.block 4 (.loop copyM_l2))) (.seq (.reg copyM_r18) .ret))))))
def copyM_res : List ARes := [(.cell (some 4) 2)]
set_option maxRecDepth 100000 in
theorem copyM_get : getF Try.prog 9 155000 [] = some ("gavotte/prog.Copy", 66, copyM_c, copyM_res) := by kernel_rfl
def cloneA_r0 : List AI := [⟨(some 2), none, (.op (.mv (.c .nils)))⟩]
def cloneA_r1 : List AI := [⟨(some 3), none, (.op (.mv (.t 0)))⟩, ⟨(some 4), none, (.nq 0 false (.t 3))⟩]
def cloneA_r2 : List AI := [⟨(some 2), none, (.op (.mv (.c .nils)))⟩]
def cloneA_r3 : List AI := [⟨(some 5), none, (.op (.bslm 1000153005 1 3 0 (.int .i64 0) []))⟩, ⟨(some 6), none, (.op (.mv (.t 0)))⟩, ⟨(some 7), none, (.op (.appw 1000153005 1 3 8 (.t 5) (.t 6)))⟩, ⟨(some 2), none, (.op (.mv (.t 7)))⟩]
def cloneA_c : AC := (.seq (.reg cloneA_r0) (.seq (.seq (.reg cloneA_r1) (.cond (.t 4) (.seq (.reg cloneA_r2) .ret) .skip)) (.seq (.reg cloneA_r3) .ret)))
def cloneA_res : List ARes := [(.tmp 2)]
set_option maxRecDepth 100000 in
theorem cloneA_get : getF Try.prog 29 153000 [(5, 1000000005), (7, 1000000005)] = some ("slices.Clone[[]int,int]", 8, cloneA_c, cloneA_res) := by kernel_rfl
def cloneB_r0 : List AI := [⟨(some 2), none, (.op (.mv (.c .nils)))⟩]
def cloneB_r1 : List AI := [⟨(some 3), none, (.op (.mv (.t 0)))⟩, ⟨(some 4), none, (.nq 0 false (.t 3))⟩]
def cloneB_r2 : List AI := [⟨(some 2), none, (.op (.mv (.c .nils)))⟩]
def cloneB_r3 : List AI := [⟨(some 5), none, (.op (.bslm 1000154005 1 3 0 (.int .i64 0) []))⟩, ⟨(some 6), none, (.op (.mv (.t 0)))⟩, ⟨(some 7), none, (.op (.appw 1000154005 1 3 8 (.t 5) (.t 6)))⟩, ⟨(some 2), none, (.op (.mv (.t 7)))⟩]
def cloneB_c : AC := (.seq (.reg cloneB_r0) (.seq (.seq (.reg cloneB_r1) (.cond (.t 4) (.seq (.reg cloneB_r2) .ret) .skip)) (.seq (.reg cloneB_r3) .ret)))
def cloneB_res : List ARes := [(.tmp 2)]
set_option maxRecDepth 100000 in
theorem cloneB_get : getF Try.prog 29 154000 [(5, 1000000005), (7, 1000000005)] = some ("slices.Clone[[]int,int]", 8, cloneB_c, cloneB_res) := by kernel_rfl
attribute [simp] copyM_r0 copyM_r1 copyM_r2 copyM_r3 copyM_r4 copyM_r5 copyM_p5 copyM_r6 copyM_r7 copyM_r8 copyM_r9 copyM_r10 copyM_r11 copyM_r12 copyM_r13 copyM_r14 copyM_r15 copyM_r16 copyM_p16 copyM_r17 copyM_r18 copyM_res cloneA_r0 cloneA_r1 cloneA_r2 cloneA_r3 cloneA_res cloneB_r0 cloneB_r1 cloneB_r2 cloneB_r3 cloneB_res


def hndN (h : Hnd) : AV := .agg [iv h.args, codeN h.code]
theorem codeN_co (blk : Nat → Option Blk) (d : Nat) (l : List Ins) : dco blk (d + 1) (codeN l) (.lst 2 (l.map Ins.av)) := by
  cases l with
  | nil => simp [codeN, dco]
  | cons x l => simp [codeN, dco]
theorem codeN_co0 (l : List Ins) : co1 none (codeN l) (.lst 2 (l.map Ins.av)) := by
  cases l with
  | nil => simp [codeN]
  | cons x l => simp [codeN]
theorem codeN_one (l : List Ins) : (codeN l).one = true := by cases l <;> rfl
theorem hndN_coL (blk : Nat → Option Blk) (d : Nat) : ∀ hs : List Hnd, coL (elemR (dco blk (d + 1))) (hs.map hndN) (hs.map Hnd.av)
  | [] => trivial
  | h :: hs => ⟨by simp only [hndN, Hnd.av, elemR, coL]; exact ⟨by simp [dco], codeN_co blk d h.code, trivial⟩, hndN_coL blk d hs⟩
theorem copyM_v0 (p : Prg) (hp : fitP p) (N s : Nat) (hN : LR N = false) {T : St} {k : AV → St → Prop} {u : Dep k} (hb : T.blk N = some ⟨s, 2, p.hs.map hndN⟩)
    (hk : ∀ v v' v'' S, S.t = T.t → Fh LR T S → AccIs S v 155029 2 33 (p.hs.map Hnd.av) → v.one = true → v'.one = true → v''.one = true → (∀ (E : Env) (w : Value), Rel E v' w → Rel E (.lst 4 (p.as.map Actr.av)) w) → (∀ (E : Env) (w : Value), Rel E v'' w → Rel E (.lst 3 (p.boot.map Nt.av)) w) →
      (∀ (E : Env) (w : Value), Rel E v w → Rel E (.lst 2 (p.hs.map Hnd.av)) w) → k (.agg [v, v', v'', iv p.fuel]) S) :
    CallG Try.prog (.fn 9 []) [.agg [.sl N s 2 0 p.hs.length, .lst 4 (p.as.map Actr.av), .lst 3 (p.boot.map Nt.av), iv p.fuel]] T k u := by
  obtain ⟨q1, q2, q3, q4, q5, q6⟩ := hp
  have n1 : N ≠ 155001 := fun e => by rw [e] at hN; cases hN
  have n2 : N ≠ 155002 := fun e => by rw [e] at hN; cases hN
  have n3 : N ≠ 155003 := fun e => by rw [e] at hN; cases hN
  refine callV copyM_get (by simp) (by simp) ?_
  unfold copyM_c
  simp [n1, n2, n3]
  refine loopN (fun i S => S.t 14 = .sl N s 2 0 p.hs.length ∧ S.t 15 = iv p.hs.length ∧ S.t 16 = iv i ∧ S.blk N = some ⟨s, 2, p.hs.map hndN⟩ ∧ Fh LR T S ∧ (∃ st, S.t 1 = .ptr 155001 st 4 0 0 ∧ S.blk 155001 = some ⟨st, 4, [.agg [.sl N s 2 0 p.hs.length, .lst 4 (p.as.map Actr.av), .lst 3 (p.boot.map Nt.av), iv p.fuel]]⟩) ∧
    (∃ st, S.t 2 = .ptr 155002 st 4 0 0 ∧ S.blk 155002 = some ⟨st, 4, [.agg [.nils, .nils, .nils, iv 0]]⟩) ∧
    (∃ st v, S.t 3 = .ptr 155003 st 4 0 0 ∧ S.blk 155003 = some ⟨st, 4, [.agg [v, .nils, .nils, iv p.fuel]]⟩ ∧ AccIs S v 155029 2 33 ((p.hs.map Hnd.av).take i))) p.hs.length ?_ ?_
  · refine ⟨by simp, by simp, by simp, by simp [n1, n2, n3, hb], Fh.here (fun n hn => by repeat rw [upd_out hn rfl]) (fun n hn => rfl) (by omega), by simp, by simp, by simp [AccIs]⟩
  · rintro i S hi ⟨g1, g2, g3, gb, gF, ⟨s1, g4, g5⟩, ⟨s2, g6, g7⟩, ⟨s3, v, g8, g9, hv⟩⟩
    by_cases hlt : i < p.hs.length
    · have n5 : N ≠ 155005 := fun e => by rw [e] at hN; cases hN
      have hnd : hndN p.hs[i] = .agg [iv p.hs[i].args, codeN p.hs[i].code] := rfl
      have hone := codeN_one p.hs[i].code
      have hcc : (codeN p.hs[i].code).cells = [codeN p.hs[i].code] := AV.cells_one hone
      simp [copyM_l0, g1, g2, g3, gb, g4, g5, g6, g7, g8, g9, hlt, hnd, hone, n5]
      have ws := wrap_succ i _ hlt (by omega)
      have hb : (min i p.hs.length + 1) * 32 ≤ 140737488355328 := by omega
      have ht := take_succ_map Hnd.av p.hs i hlt
      rcases hv with ⟨rfl, hx⟩ | ⟨s4, rfl, hx⟩
      · refine calld (cloneIns_pc p.hs[i].code (q4 _ (List.getElem_mem hlt))) (by simpa [Go.Gv.co] using codeN_co0 p.hs[i].code) ?_
        simp [g1, g2, g3, g4, g5, g6, g7, g8, g9, hlt, ws]
        refine ⟨by simp [n3, n5, gb], gF.step (fun n hn => by repeat rw [upd_out hn rfl]) (fun n hn => by repeat rw [upd_out hn rfl]) (by omega), ?_⟩
        simp [AccIs, ht, hx]
      · refine calld (cloneIns_pc p.hs[i].code (q4 _ (List.getElem_mem hlt))) (by simpa [Go.Gv.co] using codeN_co0 p.hs[i].code) ?_
        simp [g1, g2, g3, g4, g5, g6, g7, g8, g9, hx, hlt, ws, hb]
        refine ⟨by simp [n3, n5, gb], gF.step (fun n hn => by repeat rw [upd_out hn rfl]) (fun n hn => by repeat rw [upd_out hn rfl]) (by omega), ?_⟩
        simp [AccIs, ht, hx]
    · have e1 : i = p.hs.length := by omega
      subst e1
      simp [copyM_l0, g1, g2, g3, g4, g5, g6, g7, g8, g9]
      rw [List.take_of_length_le (by simp)] at hv
      obtain ⟨o1, o2, o3⟩ := hv.out
      refine loopN (fun i S => S.t 33 = .lst 4 (p.as.map Actr.av) ∧ S.t 34 = iv p.as.length ∧ S.t 35 = iv i ∧ Fh LR T S ∧ AccIs S v 155029 2 33 (p.hs.map Hnd.av) ∧ (∃ st, S.t 1 = .ptr 155001 st 4 0 0 ∧ S.blk 155001 = some ⟨st, 4, [.agg [.sl N s 2 0 p.hs.length, .lst 4 (p.as.map Actr.av), .lst 3 (p.boot.map Nt.av), iv p.fuel]]⟩) ∧
        (∃ st, S.t 2 = .ptr 155002 st 4 0 0 ∧ S.blk 155002 = some ⟨st, 4, [.agg [.nils, .nils, .nils, iv 0]]⟩) ∧
        (∃ st v', S.t 3 = .ptr 155003 st 4 0 0 ∧ S.blk 155003 = some ⟨st, 4, [.agg [v, v', .nils, iv p.fuel]]⟩ ∧ AccIs S v' 155047 4 38 ((p.as.map Actr.av).take i))) p.as.length ?_ ?_
      · refine ⟨by simp, by simp, by simp, gF.step (fun n hn => rfl) (fun n hn => rfl) (by omega), by simpa [AccIs] using hv, ⟨s1, by simp [g4], by simp [g5]⟩, ⟨s2, by simp [g6], by simp [g7]⟩, ⟨s3, .nils, by simp [g8], by simp [g9], by simp [AccIs]⟩⟩
      · clear g1 g2 g3 gb gF g4 g5 g6 g7 g8 g9 hi hlt hv S s1 s2 s3
        rintro i S hi ⟨g1, g2, g3, gF, hv0, ⟨s1, g4, g5⟩, ⟨s2, g6, g7⟩, ⟨s3, v', g8, g9, hv⟩⟩
        by_cases hlt : i < p.as.length
        · simp [copyM_l1, g1, g2, g3, g4, g5, g6, g7, g8, g9, hlt]
          have ws := wrap_succ i _ hlt (by omega)
          have hb : (min i p.as.length + 1) * 48 ≤ 140737488355328 := by omega
          have ht := take_succ_map Actr.av p.as i hlt
          refine call (cloneInts_pc p.as[i].regs (q5 _ (List.getElem_mem hlt))) (by simp) ?_
          rcases hv with ⟨rfl, hx⟩ | ⟨s4, rfl, hx⟩
          · simp [g1, g2, g3, g4, g5, g6, g7, g8, g9, hlt, ws, o1, o2]
            refine ⟨gF.step (fun n hn => by repeat rw [upd_out hn rfl]) (fun n hn => by repeat rw [upd_out hn rfl]) (by omega), by simpa [AccIs] using hv0, ?_⟩
            simp [AccIs, ht, hx]
          · simp [g1, g2, g3, g4, g5, g6, g7, g8, g9, hx, hlt, ws, hb, o1, o2]
            refine ⟨gF.step (fun n hn => by repeat rw [upd_out hn rfl]) (fun n hn => by repeat rw [upd_out hn rfl]) (by omega), by simpa [AccIs] using hv0, ?_⟩
            simp [AccIs, ht, hx]
        · have e1 : i = p.as.length := by omega
          subst e1
          simp [copyM_l1, g1, g2, g3, g4, g5, g6, g7, g8, g9]
          rw [List.take_of_length_le (by simp)] at hv
          obtain ⟨r1, r2, r3⟩ := hv.out
          have rel1 : ∀ (E : Env) (w : Value), Rel E v' w → Rel E (.lst 4 (p.as.map Actr.av)) w := by
            intro E w hw
            rcases hv with ⟨e1, e2⟩ | ⟨s7, e1, e2⟩
            · rw [e2]; rw [e1] at hw; exact hw.lst_of_nils
            · rw [e1] at hw; exact hw.lst_of_acc
          refine loopN (fun i S => S.t 51 = .lst 3 (p.boot.map Nt.av) ∧ S.t 52 = iv p.boot.length ∧ S.t 53 = iv i ∧ Fh LR T S ∧ AccIs S v 155029 2 33 (p.hs.map Hnd.av) ∧
            (∃ st, S.t 2 = .ptr 155002 st 4 0 0 ∧ S.blk 155002 = some ⟨st, 4, [.agg [.nils, .nils, .nils, iv 0]]⟩) ∧
            (∃ st v'', S.t 3 = .ptr 155003 st 4 0 0 ∧ S.blk 155003 = some ⟨st, 4, [.agg [v, v', v'', iv p.fuel]]⟩ ∧ AccIs S v'' 155062 3 40 ((p.boot.map Nt.av).take i))) p.boot.length ?_ ?_
          · refine ⟨by simp, by simp, by simp, gF.step (fun n hn => rfl) (fun n hn => rfl) (by omega), by simpa [AccIs] using hv0, ⟨s2, by simp [g6], by simp [g7]⟩, ⟨s3, .nils, by simp [g8], by simp [g9], by simp [AccIs]⟩⟩
          · clear g1 g2 g3 gF g4 g5 g6 g7 g8 g9 hi hlt hv hv0 S s1 s2 s3
            rintro i S hi ⟨g1, g2, g3, gF, hv0, ⟨s2, g6, g7⟩, ⟨s3, v'', g8, g9, hv⟩⟩
            by_cases hlt : i < p.boot.length
            · simp [copyM_l2, g1, g2, g3, g6, g7, g8, g9, hlt]
              have ws := wrap_succ i _ hlt (by omega)
              have hb : (min i p.boot.length + 1) * 40 ≤ 140737488355328 := by omega
              have ht := take_succ_map Nt.av p.boot i hlt
              rcases hv with ⟨rfl, hx⟩ | ⟨s4, rfl, hx⟩
              · refine calld (copyNote_pc p.boot[i] (q6 _ (List.getElem_mem hlt))) (by simp) ?_
                simp [g1, g2, g3, g6, g7, g8, g9, hlt, ws, o1, o2, r1, r2]
                refine ⟨gF.step (fun n hn => by repeat rw [upd_out hn rfl]) (fun n hn => by repeat rw [upd_out hn rfl]) (by omega), by simpa [AccIs] using hv0, ?_⟩
                simp [AccIs, ht, hx]
              · refine calld (copyNote_pc p.boot[i] (q6 _ (List.getElem_mem hlt))) (by simp) ?_
                simp [g1, g2, g3, g6, g7, g8, g9, hx, hlt, ws, hb, o1, o2, r1, r2]
                refine ⟨gF.step (fun n hn => by repeat rw [upd_out hn rfl]) (fun n hn => by repeat rw [upd_out hn rfl]) (by omega), by simpa [AccIs] using hv0, ?_⟩
                simp [AccIs, ht, hx]
            · have e1 : i = p.boot.length := by omega
              subst e1
              rw [List.take_of_length_le (by simp)] at hv
              obtain ⟨t1, t2, t3⟩ := hv.out
              simp [copyM_l2, g1, g2, g3, g6, g7, g8, g9, o1, o2, r1, r2, t1, t2]
              refine hk v v' v'' _ rfl (gF.step (fun n hn => by repeat rw [upd_out hn rfl]) (fun n hn => rfl) (by omega)) (by simpa [AccIs] using hv0) o1 r1 t1 rel1 ?_ ?_
              · intro E w hw
                rcases hv with ⟨e1, e2⟩ | ⟨s7, e1, e2⟩
                · rw [e2]; rw [e1] at hw; exact hw.lst_of_nils
                · rw [e1] at hw; exact hw.lst_of_acc
              · intro E w hw
                rcases hv0 with ⟨e1, e2⟩ | ⟨s7, e1, e2⟩
                · rw [e2]; rw [e1] at hw; exact hw.lst_of_nils
                · rw [e1] at hw; exact hw.lst_of_acc
theorem copyM_v (p : Prg) (hp : fitP p) (N s : Nat) (hN : LR N = false) {T : St} {k : AV → St → Prop} {u : Dep k} (hb : T.blk N = some ⟨s, 2, p.hs.map hndN⟩) (hk : ∀ S, S.t = T.t → Fh LR T S → k p.av S) :
    CallG Try.prog (.fn 9 []) [.agg [.sl N s 2 0 p.hs.length, .lst 4 (p.as.map Actr.av), .lst 3 (p.boot.map Nt.av), iv p.fuel]] T k u := by
  refine CallP.told1 (k' := fun r S => ∃ v v' v'', r = .agg [v, v', v'', iv p.fuel] ∧ S.t = T.t ∧ Fh LR T S ∧ (∀ (E : Env) (w : Value), Rel E v' w → Rel E (.lst 4 (p.as.map Actr.av)) w) ∧ (∀ (E : Env) (w : Value), Rel E v'' w → Rel E (.lst 3 (p.boot.map Nt.av)) w) ∧ (∀ (E : Env) (w : Value), Rel E v w → Rel E (.lst 2 (p.hs.map Hnd.av)) w))
    (copyM_v0 p hp N s hN (u := .mk) hb (fun v v' v'' S a b _ _ _ _ c d e => ⟨v, v', v'', rfl, a, b, c, d, e⟩)) ?_
  rintro r S ⟨v, v', v'', rfl, ht, hF, r1, r2, r0⟩
  refine ⟨p.av, S, fun E B w H hu => ⟨E, .refl E, H, fun _ _ _ => rfl, fun _ q => q, fun u hu => ?_⟩, Nat.le_refl _, rfl, hk S ht hF⟩
  cases hu with
  | agg _ vs hs h1 hr =>
    refine .agg _ vs (by simpa using hs) (fun j y hy => ?_) (fun j y u hy hu => ?_)
    · match j with
      | 0 => simp at hy; subst hy; rfl
      | 1 => simp at hy; subst hy; rfl
      | 2 => simp at hy; subst hy; rfl
      | 3 => simp at hy; subst hy; rfl
      | j + 4 => simp at hy
    · match j with
      | 0 => simp at hy; subst hy; exact r0 E u (hr 0 v u rfl hu)
      | 1 => simp at hy; subst hy; exact r1 E u (hr 1 v' u rfl hu)
      | 2 => simp at hy; subst hy; exact r2 E u (hr 2 v'' u rfl hu)
      | 3 => simp at hy; subst hy; exact hr 3 _ u rfl hu
      | j + 4 => simp at hy
theorem pnewM_v (p : Prg) (hf : flowV p = 0) (N s : Nat) (hN : LR N = false) (hN1 : N ≠ 170001) (hN2 : N ≠ 170013) {S : St} {k : AV → St → Prop} {u : Dep k} (hb : S.blk N = some ⟨s, 2, p.hs.map hndN⟩)
    (h1 : ∀ S' st, PlanF 170013 st p S' → (∀ n, LR n = false → n ≠ 170001 → n ≠ 170013 → S'.blk n = S.blk n) → (∀ n, LR n = false → S'.tok n = S.tok n) → S'.t = S.t → S.clk ≤ S'.clk → k (.tup [.ptr 170013 st 12 0 0, iv 0]) S') :
    CallG Try.prog (.fn 14 []) [.agg [.sl N s 2 0 p.hs.length, .lst 4 (p.as.map Actr.av), .lst 3 (p.boot.map Nt.av), iv p.fuel]] S k u := by
  refine callV pnew_get (by simp) (by simp) ?_
  unfold pnew_c
  simp
  have hl : (List.take p.hs.length (List.map hndN p.hs)) = List.map hndN p.hs := List.take_of_length_le (by simp)
  refine callW (fcheck_pc p) 3 ?_ rfl ?_
  · simp only [List.append_nil, coL, and_true, Prg.av, elemR]
    refine ⟨⟨rfl, p.hs.map hndN, by simp [getB, hN1, hb], by simp, ?_⟩, by simp [dco], by simp [dco], by simp [dco]⟩
    rw [List.drop_zero, hl]
    exact hndN_coL _ _ _
  · simp [hf]
    refine copyM_v p (fitP_of (flowV_check hf)) N s hN (by simp [hN1, hb]) (fun S1 ht hF => ?_)
    simp [ht, Prg.av]
    refine h1 _ _ (by simp [PlanF, planC]) (fun n a b c => ?_) (fun n a => ?_) rfl (by have := hF.c; simp at this ⊢; omega)
    · simp [c]
      have := hF.b n a
      simp [b] at this
      exact this
    · have := hF.k n a
      simpa using this
/-- A list of the caller's own. -/
def MutI (S : St) (r : AV) (N : Nat) (l : List Int) : Prop := (r = .nils ∧ l = []) ∨ ∃ st, r = .sl N st 1 0 l.length ∧ S.blk N = some ⟨st, 1, l.map iv⟩
theorem cloneA_v (l : List Int) (h : l.length ≤ 1000) {S : St} {k : AV → St → Prop} {u : Dep k} (hk : ∀ r S', MutI S' r 1000153005 l → (∀ n, n ≠ 1000153005 → S'.blk n = S.blk n) → S'.tok = S.tok → S'.t = S.t → S.clk ≤ S'.clk → k r S') :
    CallG Try.prog (.fn 29 []) [ints l] S k u := by
  refine callV cloneA_get (by simp) (by simp) ?_
  unfold cloneA_c
  cases l with
  | nil =>
    simp [ints]
    refine opG_none _ _ ?_ ?_ <;> simp
    · exact hk _ _ (.inl ⟨rfl, rfl⟩) (fun n hn => by simp) rfl rfl (by simp; omega)
    · refine hk _ _ (.inr ⟨_, rfl, by simp⟩) (fun n hn => by simp [hn]) rfl rfl (by simp; omega)
  | cons x l =>
    simp at h
    have hb : (l.length + 1) * 8 ≤ 140737488355328 := by omega
    simp [ints, hb]
    refine hk _ _ (.inr ⟨_, rfl, by simp⟩) (fun n hn => by simp [hn]) rfl rfl (by simp; omega)
theorem cloneB_v (l : List Int) (h : l.length ≤ 1000) {S : St} {k : AV → St → Prop} {u : Dep k} (hk : ∀ r S', MutI S' r 1000154005 l → (∀ n, n ≠ 1000154005 → S'.blk n = S.blk n) → S'.tok = S.tok → S'.t = S.t → S.clk ≤ S'.clk → k r S') :
    CallG Try.prog (.fn 29 []) [ints l] S k u := by
  refine callV cloneB_get (by simp) (by simp) ?_
  unfold cloneB_c
  cases l with
  | nil =>
    simp [ints]
    refine opG_none _ _ ?_ ?_ <;> simp
    · exact hk _ _ (.inl ⟨rfl, rfl⟩) (fun n hn => by simp) rfl rfl (by simp; omega)
    · refine hk _ _ (.inr ⟨_, rfl, by simp⟩) (fun n hn => by simp [hn]) rfl rfl (by simp; omega)
  | cons x l =>
    simp at h
    have hb : (l.length + 1) * 8 ≤ 140737488355328 := by omega
    simp [ints, hb]
    refine hk _ _ (.inr ⟨_, rfl, by simp⟩) (fun n hn => by simp [hn]) rfl rfl (by simp; omega)

end Go.Gv

/- Plain laws of what is reached. Conditions: those that each law names. -/
set_option linter.unusedVariables false
set_option linter.unusedSimpArgs false
namespace Go.Gv
open Go.Proofs


/-- What comes of some by what each one sends. -/
inductive Rea (snd : List (List Int)) (l : List Int) : Int → Prop
  | base {x : Int} (h : x ∈ l) : Rea snd l x
  | step {x y : Int} (h : Rea snd l y) (hx : x ∈ sndOf snd y) : Rea snd l x
theorem sndOf_in {snd : List (List Int)} (hs : ∀ s ∈ snd, InN snd.length s) (y : Int) : InN snd.length (sndOf snd y) := by
  intro x hx
  unfold sndOf at hx
  cases h : snd[y.toNat]? with
  | none => rw [h] at hx; simp at hx
  | some s => rw [h] at hx; exact hs s (List.mem_of_getElem? h) x hx
theorem Rea.rng {snd : List (List Int)} (hs : ∀ s ∈ snd, InN snd.length s) {l : List Int} (hl : InN snd.length l) {x : Int} (h : Rea snd l x) : 0 ≤ x ∧ x < snd.length := by
  induction h with
  | base h => exact hl _ h
  | step _ hx _ => exact sndOf_in hs _ _ hx
theorem Rea.trans {snd : List (List Int)} {l m : List Int} (hm : ∀ y ∈ m, Rea snd l y) {x : Int} (h : Rea snd m x) : Rea snd l x := by
  induction h with
  | base h => exact hm _ h
  | step _ hx ih => exact .step ih hx
theorem clGo_spec {snd : List (List Int)} (hs : ∀ s ∈ snd, InN snd.length s) : ∀ (f : Nat) (met l : List Int), mea snd met l = f → InN snd.length l →
    (∀ x ∈ met, x ∈ clGo snd f met l) ∧ (∀ x ∈ l, x ∈ clGo snd f met l) ∧ (∀ x ∈ clGo snd f met l, x ∈ met ∨ Rea snd l x) ∧
    ((∀ y ∈ met, ∀ z ∈ sndOf snd y, z ∈ met ∨ z ∈ l) → ∀ y ∈ clGo snd f met l, ∀ z ∈ sndOf snd y, z ∈ clGo snd f met l) := by
  intro f
  induction f with
  | zero =>
    intro met l hm hl
    have h0 : l = [] := by
      have : l.length = 0 := by unfold mea at hm; omega
      exact List.eq_nil_of_length_eq_zero this
    subst h0
    refine ⟨fun x hx => hx, by simp, fun x hx => .inl hx, fun h y hy z hz => ?_⟩
    rcases h y hy z hz with q | q
    · exact q
    · cases q
  | succ f ih =>
    intro met l hm hl
    cases l with
    | nil =>
      refine ⟨fun x hx => hx, by simp, fun x hx => .inl hx, fun h y hy z hz => ?_⟩
      rcases h y hy z hz with q | q
      · exact q
      · cases q
    | cons h l =>
      obtain ⟨h0, h1⟩ := hl h (by simp)
      have hl2 : InN snd.length l := fun x hx => hl x (by simp [hx])
      by_cases hin : h ∈ met
      · have e : clGo snd (f + 1) met (h :: l) = clGo snd f met l := by simp [clGo, hin]
        have hm2 : mea snd met l = f := by simp [mea] at hm ⊢; omega
        obtain ⟨a1, a2, a3, a4⟩ := ih met l hm2 hl2
        rw [e]
        refine ⟨a1, fun x hx => ?_, fun x hx => ?_, fun hc => a4 (fun y hy z hz => ?_)⟩
        · rcases List.mem_cons.1 hx with q | q
          · rw [q]; exact a1 h hin
          · exact a2 x q
        · rcases a3 x hx with q | q
          · exact .inl q
          · exact .inr (q.trans (fun y hy => .base (by simp [hy])))
        · rcases hc y hy z hz with q | q
          · exact .inl q
          · rcases List.mem_cons.1 q with r | r
            · rw [r]; exact .inl hin
            · exact .inr r
      · have e : clGo snd (f + 1) met (h :: l) = clGo snd f (met ++ [h]) (l ++ sndOf snd h) := by simp [clGo, hin]
        have hlt : h.toNat < snd.length := by omega
        have hs' : sndOf snd h = snd[h.toNat] := by simp [sndOf, hlt]
        have hm2 : mea snd (met ++ [h]) (l ++ sndOf snd h) = f := by
          have := unm_in met h.toNat (by rw [Int.toNat_of_nonneg h0]; exact hin) snd 0 (Nat.zero_le _) (by simpa using hlt)
          rw [Int.toNat_of_nonneg h0] at this
          simp only [Nat.sub_zero] at this
          rw [hs']
          simp only [mea, List.length_append, List.length_cons] at hm ⊢
          omega
        have hl3 : InN snd.length (l ++ sndOf snd h) := by
          intro x hx
          rcases List.mem_append.1 hx with q | q
          · exact hl2 x q
          · exact sndOf_in hs h x q
        obtain ⟨a1, a2, a3, a4⟩ := ih (met ++ [h]) (l ++ sndOf snd h) hm2 hl3
        rw [e]
        refine ⟨fun x hx => a1 x (by simp [hx]), fun x hx => ?_, fun x hx => ?_, fun hc => a4 (fun y hy z hz => ?_)⟩
        · rcases List.mem_cons.1 hx with q | q
          · rw [q]; exact a1 h (by simp)
          · exact a2 x (by simp [q])
        · rcases a3 x hx with q | q
          · rcases List.mem_append.1 q with r | r
            · exact .inl r
            · rw [List.mem_singleton.1 r]; exact .inr (.base (by simp))
          · refine .inr (q.trans (fun y hy => ?_))
            rcases List.mem_append.1 hy with r | r
            · exact .base (by simp [r])
            · exact .step (.base (by simp)) r
        · rcases List.mem_append.1 hy with q | q
          · rcases hc y q z hz with r | r
            · exact .inl (by simp [r])
            · rcases List.mem_cons.1 r with t | t
              · rw [t]; exact .inl (by simp)
              · exact .inr (by simp [t])
          · rw [List.mem_singleton.1 q] at hz
            exact .inr (by simp [hz])
theorem reachV_mem {snd : List (List Int)} (hs : ∀ s ∈ snd, InN snd.length s) {l : List Int} (hl : InN snd.length l) (x : Int) : x ∈ reachV snd l ↔ Rea snd l x := by
  obtain ⟨a1, a2, a3, a4⟩ := clGo_spec hs (mea snd [] l) [] l rfl hl
  have hcl := a4 (by simp)
  refine ⟨fun h => ?_, fun h => ?_⟩
  · rcases a3 x h with q | q
    · cases q
    · exact q
  · induction h with
    | base h => exact a2 _ h
    | step _ hx ih => exact hcl _ ih _ hx
theorem closedV_mem {snd : List (List Int)} (hs : ∀ s ∈ snd, InN snd.length s) {l : List Int} (hl : InN snd.length l) (x : Int) : x ∈ closedV snd l ↔ Rea snd l x := by
  unfold closedV
  rw [List.mem_filter, decide_eq_true_iff, reachV_mem hs hl]
  refine ⟨fun h => h.2, fun h => ⟨?_, h⟩⟩
  obtain ⟨h0, h1⟩ := h.rng hs hl
  exact List.mem_map.2 ⟨x.toNat, List.mem_range.2 (by omega), by omega⟩
theorem range_up (n : Nat) : Up ((List.range n).map fun n : Nat => (n : Int)) := by
  unfold Up
  rw [List.pairwise_map]
  exact List.pairwise_lt_range.imp (by intro a b h; omega)
theorem closedV_up (snd : List (List Int)) (l : List Int) : Up (closedV snd l) := by
  unfold closedV
  exact (range_up _).filter _
theorem atI_in {p : Prg} {n : Int} {l : List (List Int)} {s : List Int} (h : atI l n = s) (hs : s ≠ []) : 0 ≤ n ∧ n.toNat < l.length ∧ l[n.toNat]? = some s := by
  unfold atI at h
  split at h
  · rename_i h0
    cases hq : l[n.toNat]? with
    | none => rw [hq] at h; exact absurd h.symm hs
    | some t => rw [hq] at h; simp at h; subst h; exact ⟨h0, (List.getElem?_eq_some_iff.1 hq).1, rfl⟩
  · exact absurd h.symm hs
/-- What is put together of all that a handler sends. -/
def wantL (rea : List (List Int)) (s : List Int) : List Int := s.foldl (fun w x => putL (put1 w x) (atI rea x)) []
theorem wantL_succ (rea : List (List Int)) (s : List Int) (i : Nat) (h : i < s.length) : wantL rea (s.take (i + 1)) = putL (put1 (wantL rea (s.take i)) s[i]) (atI rea s[i]) := by
  rw [List.take_succ_eq_append_getElem h, wantL, List.foldl_append]; rfl
theorem wantL_spec (rea : List (List Int)) : ∀ (s w : List Int), Up w → Up (s.foldl (fun w x => putL (put1 w x) (atI rea x)) w) ∧ ∀ y, y ∈ s.foldl (fun w x => putL (put1 w x) (atI rea x)) w ↔ y ∈ w ∨ ∃ x ∈ s, y = x ∨ y ∈ atI rea x
  | [], w, hw => ⟨hw, by simp⟩
  | x :: s, w, hw => by
    obtain ⟨a1, a2⟩ := wantL_spec rea s (putL (put1 w x) (atI rea x)) (putL_up (put1_up hw))
    refine ⟨a1, fun y => ?_⟩
    simp only [List.foldl_cons]
    rw [a2 y, putL_mem, put1_mem]
    simp only [List.mem_cons, exists_eq_or_imp]
    constructor
    · rintro (((q | q) | q) | q) <;> simp [q]
    · rintro (q | (q | q) | q) <;> simp [q]
theorem reaV_at (p : Prg) (n : Int) : atI (reaV p) n = if 0 ≤ n ∧ n < p.hs.length then closedV (sndV p) (atI (sndV p) n) else [] := by
  unfold atI
  by_cases h0 : 0 ≤ n
  · by_cases h1 : n < p.hs.length
    · rw [if_pos h0, if_pos ⟨h0, h1⟩, if_pos h0]
      have h2 : n.toNat < (sndV p).length := by rw [sndV_len]; omega
      simp [reaV, h2]
    · rw [if_pos h0, if_neg (fun q => h1 q.2), List.getElem?_eq_none (by rw [reaV_len]; omega)]; rfl
  · rw [if_neg h0, if_neg (fun q => h0 q.1)]
theorem sndV_at (p : Prg) (n : Int) (h : 0 ≤ n ∧ n < p.hs.length) : atI (sndV p) n = sndOf (sndV p) n := by
  unfold atI sndOf; rw [if_pos h.1]
theorem sndV_out (p : Prg) (n : Int) (h : ¬ (0 ≤ n ∧ n < p.hs.length)) : atI (sndV p) n = [] := by
  unfold atI
  split
  · rw [List.getElem?_eq_none (by rw [sndV_len]; omega)]; rfl
  · rfl
/-- What may come of a handler: what it may send, and what may come of that. -/
theorem paths_law {p : Prg} (hp : flowV p = 0) (n : Int) : atI (reaV p) n = wantL (reaV p) (atI (sndV p) n) := by
  have hs := sndV_in hp
  obtain ⟨w1, w2⟩ := wantL_spec (reaV p) (atI (sndV p) n) [] (by simp [Up])
  by_cases h : 0 ≤ n ∧ n < p.hs.length
  · rw [reaV_at, if_pos h]
    refine Up.ext (closedV_up _ _) w1 (fun x => ?_)
    have hin : InN (sndV p).length (atI (sndV p) n) := by rw [sndV_at p n h]; exact sndOf_in hs n
    rw [closedV_mem hs hin, wantL, w2 x]
    simp only [List.not_mem_nil, false_or]
    constructor
    · intro q
      induction q with
      | base q => exact ⟨_, q, .inl rfl⟩
      | @step x y _ hx ih =>
        obtain ⟨z, hz, e | e⟩ := ih
        · subst e
          refine ⟨y, hz, .inr ?_⟩
          have hy := hin y hz
          rw [sndV_len] at hy
          rw [reaV_at, if_pos hy, closedV_mem hs (by rw [sndV_at p y hy]; exact sndOf_in hs y)]
          exact .base (by rw [sndV_at p y hy]; exact hx)
        · refine ⟨z, hz, .inr ?_⟩
          have hy := hin z hz
          rw [sndV_len] at hy
          rw [reaV_at, if_pos hy, closedV_mem hs (by rw [sndV_at p z hy]; exact sndOf_in hs z)] at e ⊢
          exact .step e hx
    · rintro ⟨z, hz, e | e⟩
      · rw [e]; exact .base hz
      · have hy := hin z hz
        rw [sndV_len] at hy
        rw [reaV_at, if_pos hy, closedV_mem hs (by rw [sndV_at p z hy]; exact sndOf_in hs z)] at e
        refine e.trans (fun y hy2 => .step (.base hz) (by rw [← sndV_at p z hy]; exact hy2))
  · rw [reaV_at, if_neg h, sndV_out p n h]; rfl
/-- What is live holds what comes of it. -/
theorem live_closed {p : Prg} (hp : flowV p = 0) {x y : Int} (hx : x ∈ liveP p) (hy : y ∈ atI (reaV p) x) : y ∈ liveP p := by
  have hs := sndV_in hp
  have hl2 := live2_in (flowV_check hp) (sndV_len p).symm (armsV p)
  have hr := closedV_in (sndV p) (live2 p (sndV p) (armsV p)) x hx
  rw [sndV_len] at hr
  unfold liveP liveV at hx ⊢
  rw [closedV_mem hs hl2] at hx ⊢
  rw [reaV_at, if_pos hr, closedV_mem hs (by rw [sndV_at p x hr]; exact sndOf_in hs x)] at hy
  exact hy.trans (fun z hz => .step hx (by rw [← sndV_at p x hr]; exact hz))
theorem live_boot {p : Prg} (hp : flowV p = 0) {n : Nt} (hn : n ∈ p.boot) : n.hd ∈ liveP p := by
  have hs := sndV_in hp
  have hc := flowV_check hp
  have hl2 := live2_in hc (sndV_len p).symm (armsV p)
  have hf : InN (sndV p).length (firstV p) := by rw [sndV_len]; exact first_in hc
  unfold liveP liveV
  rw [closedV_mem hs hl2]
  refine .base ?_
  have : n.hd ∈ closedV (sndV p) (firstV p) := (closedV_mem hs hf _).2 (.base (List.mem_append.2 (.inl (List.mem_map.2 ⟨n, hn, rfl⟩))))
  unfold live2
  split
  · exact List.mem_append.2 (.inl this)
  · exact this

end Go.Gv

/- The law ReachOnce answers true. No condition. -/
set_option linter.unusedVariables false
set_option linter.unusedSimpArgs false
namespace Go.Gv
open Go.Proofs

def ringO_r0 : List AI := [⟨(some 4), none, (.op (.new 181504 4 (.agg [.nils, .nils, .nils, (.int .i64 0)])))⟩]
def ringO_r1 : List AI := [⟨(some 8), none, (.op (.build [.nils, (.int .i64 0), (.int .i64 0), (.bool false)] [(2, (1, (.c (.int .i64 (-1)))))]))⟩, ⟨(some 9), none, (.op (.bsl 181509 4 38 1 (.agg [.nils, (.int .i64 0), (.int .i64 0), (.bool false)]) [(0, (.t 8))]))⟩, ⟨(some 10), none, (.op (.build [.nils, .nils, .nils, (.int .i64 0)] [(1, (1, (.t 9))), (3, (1, (.c (.int .i64 10))))]))⟩, ⟨(some 5), none, (.op (.new 181505 4 (.agg [.nils, .nils, .nils, (.int .i64 0)])))⟩, ⟨none, none, (.op (.store 4 (.t 5) (.t 10)))⟩]
def ringO_r2 : List AI := [⟨(some 6), none, (.op (.mv (.c (.int .i64 0))))⟩]
def ringO_r3 : List AI := [⟨(some 11), none, (.op (.mv (.t 6)))⟩, ⟨(some 12), none, (.op (.mv (.t 0)))⟩, ⟨(some 13), none, (.op (.ibin .lss (.t 11) (.t 12)))⟩]
def ringO_r4 : List AI := [⟨(some 7), none, (.op (.mv (.c .nils)))⟩]
def ringO_r5 : List AI := [⟨(some 16), none, (.op (.mv (.t 6)))⟩, ⟨(some 17), none, (.op (.ibin .add (.t 16) (.c (.int .i64 1))))⟩, ⟨(some 18), none, (.op (.mv (.t 0)))⟩, ⟨(some 19), none, (.op (.ibin .lss (.t 17) (.t 18)))⟩]
def ringO_r6 : List AI := [⟨(some 20), none, (.op (.build [(.int .i64 0), (.int .i64 0)] [(0, (1, (.c (.int .i64 8))))]))⟩, ⟨(some 21), none, (.op (.mv (.t 6)))⟩, ⟨(some 22), none, (.op (.ibin .add (.t 21) (.c (.int .i64 1))))⟩, ⟨(some 23), none, (.op (.build [(.int .i64 0), (.int .i64 0)] [(0, (1, (.c (.int .i64 22)))), (1, (1, (.t 22)))]))⟩, ⟨(some 24), none, (.op (.bsl 181524 2 35 2 (.agg [(.int .i64 0), (.int .i64 0)]) [(0, (.t 20)), (1, (.t 23))]))⟩, ⟨(some 7), none, (.op (.mv (.t 24)))⟩]
def ringO_r7 : List AI := [⟨(some 25), none, (.op (.mv (.t 1)))⟩]
def ringO_r8 : List AI := [⟨(some 26), none, (.op (.build [(.int .i64 0), (.int .i64 0)] [(0, (1, (.c (.int .i64 8))))]))⟩, ⟨(some 27), none, (.op (.build [(.int .i64 0), (.int .i64 0)] [(0, (1, (.c (.int .i64 22))))]))⟩, ⟨(some 28), none, (.op (.bsl 181528 2 35 2 (.agg [(.int .i64 0), (.int .i64 0)]) [(0, (.t 26)), (1, (.t 27))]))⟩, ⟨(some 7), none, (.op (.mv (.t 28)))⟩]
def ringO_r9 : List AI := [⟨(some 29), none, (.op (.fld 0 (.t 5)))⟩, ⟨(some 30), none, (.op (.load none (.t 29)))⟩, ⟨(some 31), none, (.op (.mv (.t 7)))⟩, ⟨(some 32), none, (.op (.build [(.int .i64 0), .nils] [(1, (1, (.t 31)))]))⟩, ⟨(some 33), none, (.op (.bsl 181533 2 33 1 (.agg [(.int .i64 0), .nils]) [(0, (.t 32))]))⟩, ⟨(some 34), none, (.op (.appw 1000181534 2 33 32 (.t 30) (.t 33)))⟩, ⟨(some 35), none, (.op (.fld 0 (.t 5)))⟩, ⟨none, none, (.op (.store 1 (.t 35) (.t 34)))⟩]
def ringO_r10 : List AI := [⟨(some 14), none, (.op (.mv (.t 6)))⟩, ⟨(some 15), none, (.op (.ibin .add (.t 14) (.c (.int .i64 1))))⟩, ⟨(some 6), none, (.op (.mv (.t 15)))⟩]
def ringO_l0 : AC := (.seq (.seq (.reg ringO_r3) (.cond (.t 13) .skip (.exit 0))) (.seq (.block 1 (.seq (.reg ringO_r4) (.seq (.seq (.reg ringO_r5) (.cond (.t 19) (.reg ringO_r6) (.seq (.reg ringO_r7) (.cond (.t 25) (.reg ringO_r8) .skip)))) (.reg ringO_r9)))) (.reg ringO_r10)))
def ringO_r11 : List AI := [⟨(some 36), none, (.op (.load (some 4) (.t 5)))⟩, ⟨none, none, (.op (.store 4 (.t 4) (.t 36)))⟩]
def ringO_c : AC := (.seq (.reg ringO_r0) (.seq (.reg ringO_r1) (.seq (.seq (.reg ringO_r2) (.block 0 (.loop ringO_l0))) (.seq (.reg ringO_r11) .ret))))
def ringO_res : List ARes := [(.cell (some 4) 4)]
set_option maxRecDepth 100000 in
theorem ringO_get : getF Try.prog 13 181500 [(34, 1000000034)] = some ("gavotte/gavottelaw20.ring", 37, ringO_c, ringO_res) := by kernel_rfl
def once20_r0 : List AI := [⟨(some 6), none, (.op (.mv (.c (.bool false))))⟩]
def once20_r1 : List AI := [⟨(some 17), none, (.op (.mv (.t 0)))⟩, ⟨(some 18), none, (.op (.ibin .lss (.t 17) (.c (.int .i64 1))))⟩, ⟨(some 19), none, (.op (.mv (.t 18)))⟩, ⟨(some 20), (some (19, false)), (.op (.mv (.t 0)))⟩, ⟨(some 21), (some (19, false)), (.op (.ibin .gtr (.t 20) (.c (.int .i64 10))))⟩, ⟨(some 22), none, (.op (.pick (.t 19) (.c (.bool true)) (.t 21)))⟩, ⟨(some 23), none, (.op (.mv (.t 22)))⟩, ⟨(some 24), (some (23, false)), (.op (.mv (.t 2)))⟩, ⟨(some 25), (some (23, false)), (.op (.len (.t 24)))⟩, ⟨(some 26), (some (23, false)), (.op (.ibin .gtr (.t 25) (.c (.int .i64 20))))⟩, ⟨(some 27), none, (.op (.pick (.t 23) (.c (.bool true)) (.t 26)))⟩]
def once20_r2 : List AI := [⟨(some 28), none, (.call (.c (.fn 12 [])) [])⟩, ⟨(some 6), none, (.op (.mv (.t 28)))⟩]
def once20_r3 : List AI := [⟨(some 29), none, (.op (.mv (.t 0)))⟩, ⟨(some 30), none, (.op (.mv (.t 1)))⟩, ⟨(some 31), none, (.call (.c (.fn 13 [])) [(.t 29), (.t 30)])⟩, ⟨(some 7), none, (.op (.new 181007 4 (.agg [.nils, .nils, .nils, (.int .i64 0)])))⟩, ⟨none, none, (.op (.store 4 (.t 7) (.t 31)))⟩]
def once20_r4 : List AI := [⟨(some 33), none, (.op (.load (some 4) (.t 7)))⟩, ⟨(some 34), none, (.call (.c (.fn 14 [])) [(.t 33)])⟩, ⟨(some 32), none, (.op (.mv (.t 34)))⟩, ⟨(some 35), none, (.op (.ext (.t 32) 0))⟩, ⟨(some 36), none, (.op (.ext (.t 32) 1))⟩, ⟨(some 8), none, (.op (.mv (.t 35)))⟩, ⟨(some 9), none, (.op (.mv (.t 36)))⟩]
def once20_r5 : List AI := [⟨(some 37), none, (.op (.mv (.t 9)))⟩, ⟨(some 38), none, (.op (.ibin .neq (.t 37) (.c (.int .i64 0))))⟩, ⟨(some 39), none, (.op (.mv (.t 38)))⟩, ⟨(some 40), (some (39, false)), (.op (.mv (.t 8)))⟩, ⟨(some 41), (some (39, false)), (.nq 1 false (.t 40))⟩, ⟨(some 42), none, (.op (.pick (.t 39) (.c (.bool true)) (.t 41)))⟩, ⟨(some 43), none, (.op (.mv (.t 42)))⟩, ⟨(some 44), (some (43, false)), (.op (.mv (.t 8)))⟩, ⟨(some 45), (some (43, false)), (.call (.c (.fn 15 [])) [(.t 44)])⟩, ⟨(some 46), (some (43, false)), (.op (.ibin .neq (.t 45) (.c (.int .i64 0))))⟩, ⟨(some 47), none, (.op (.pick (.t 43) (.c (.bool true)) (.t 46)))⟩]
def once20_r6 : List AI := [⟨(some 6), none, (.op (.mv (.c (.bool false))))⟩]
def once20_r7 : List AI := [⟨(some 48), none, (.op (.fld 0 (.t 7)))⟩, ⟨(some 49), none, (.op (.load none (.t 48)))⟩, ⟨(some 50), none, (.op (.idx 2 (.t 49) (.c (.int .i64 0))))⟩, ⟨(some 51), none, (.op (.fld 1 (.t 50)))⟩, ⟨none, none, (.op (.store 1 (.t 51) (.c .nils)))⟩]
def once20_r8 : List AI := [⟨(some 10), none, (.op (.mv (.c (.int .i64 0))))⟩]
def once20_r9 : List AI := [⟨(some 52), none, (.op (.mv (.t 10)))⟩, ⟨(some 53), none, (.op (.mv (.t 2)))⟩, ⟨(some 54), none, (.op (.len (.t 53)))⟩, ⟨(some 55), none, (.op (.ibin .lss (.t 52) (.t 54)))⟩]
def once20_r10 : List AI := [⟨(some 58), none, (.op (.mv (.t 2)))⟩, ⟨(some 59), none, (.op (.mv (.t 10)))⟩, ⟨(some 60), none, (.op (.idx 1 (.t 58) (.t 59)))⟩, ⟨(some 61), none, (.op (.load none (.t 60)))⟩, ⟨(some 62), none, (.op (.mv (.t 0)))⟩, ⟨(some 63), none, (.call (.c (.fn 16 [])) [(.t 61), (.t 62)])⟩, ⟨(some 11), none, (.op (.mv (.t 63)))⟩]
def once20_r11 : List AI := [⟨(some 12), none, (.op (.mv (.c .nils)))⟩]
def once20_r12 : List AI := [⟨(some 64), none, (.op (.mv (.t 11)))⟩, ⟨(some 65), none, (.op (.ibin .add (.t 64) (.c (.int .i64 1))))⟩, ⟨(some 66), none, (.op (.mv (.t 0)))⟩, ⟨(some 67), none, (.op (.ibin .lss (.t 65) (.t 66)))⟩]
def once20_r13 : List AI := [⟨(some 68), none, (.op (.mv (.t 11)))⟩, ⟨(some 69), none, (.op (.ibin .add (.t 68) (.c (.int .i64 1))))⟩, ⟨(some 70), none, (.op (.bsl 181070 1 3 1 (.int .i64 0) [(0, (.t 69))]))⟩, ⟨(some 12), none, (.op (.mv (.t 70)))⟩]
def once20_r14 : List AI := [⟨(some 71), none, (.op (.mv (.t 1)))⟩]
def once20_r15 : List AI := [⟨(some 72), none, (.op (.bsl 181072 1 3 1 (.int .i64 0) [(0, (.c (.int .i64 0)))]))⟩, ⟨(some 12), none, (.op (.mv (.t 72)))⟩]
def once20_r16 : List AI := [⟨(some 73), none, (.op (.mv (.t 8)))⟩, ⟨(some 74), none, (.op (.mv (.t 11)))⟩, ⟨(some 75), none, (.call (.c (.fn 17 [])) [(.t 73), (.t 74)])⟩, ⟨(some 13), none, (.op (.mv (.t 75)))⟩]
def once20_r17 : List AI := [⟨(some 76), none, (.op (.mv (.t 8)))⟩, ⟨(some 77), none, (.op (.mv (.t 11)))⟩, ⟨(some 78), none, (.call (.c (.fn 18 [])) [(.t 76), (.t 77)])⟩, ⟨(some 14), none, (.op (.mv (.t 78)))⟩]
def once20_r18 : List AI := [⟨(some 79), none, (.op (.mv (.t 13)))⟩, ⟨(some 80), none, (.op (.mv (.t 12)))⟩, ⟨(some 81), none, (.call (.c (.fn 19 [])) [(.t 79), (.t 80)])⟩, ⟨(some 82), none, (.op (.not (.t 81)))⟩, ⟨(some 83), none, (.op (.mv (.t 82)))⟩, ⟨(some 84), (some (83, false)), (.op (.mv (.t 8)))⟩, ⟨(some 85), (some (83, false)), (.call (.c (.fn 15 [])) [(.t 84)])⟩, ⟨(some 86), (some (83, false)), (.op (.ibin .neq (.t 85) (.c (.int .i64 1))))⟩, ⟨(some 87), none, (.op (.pick (.t 83) (.c (.bool true)) (.t 86)))⟩, ⟨(some 88), none, (.op (.mv (.t 87)))⟩, ⟨(some 89), (some (88, false)), (.op (.mv (.t 1)))⟩, ⟨(some 90), (some (88, false)), (.op (.mv (.t 89)))⟩, ⟨(some 91), (some (90, true)), (.op (.mv (.t 14)))⟩, ⟨(some 92), (some (90, true)), (.op (.len (.t 91)))⟩, ⟨(some 93), (some (90, true)), (.op (.mv (.t 0)))⟩, ⟨(some 94), (some (90, true)), (.op (.ibin .neq (.t 92) (.t 93)))⟩, ⟨(some 95), (some (88, false)), (.op (.pick (.t 90) (.t 94) (.c (.bool false))))⟩, ⟨(some 96), none, (.op (.pick (.t 88) (.c (.bool true)) (.t 95)))⟩, ⟨(some 97), none, (.op (.mv (.t 96)))⟩, ⟨(some 98), (some (97, false)), (.op (.mv (.t 1)))⟩, ⟨(some 99), (some (97, false)), (.op (.not (.t 98)))⟩, ⟨(some 100), (some (97, false)), (.op (.mv (.t 99)))⟩, ⟨(some 101), (some (100, true)), (.op (.mv (.t 14)))⟩, ⟨(some 102), (some (100, true)), (.op (.len (.t 101)))⟩, ⟨(some 103), (some (100, true)), (.op (.mv (.t 0)))⟩, ⟨(some 104), (some (100, true)), (.op (.ibin .sub (.t 103) (.c (.int .i64 1))))⟩, ⟨(some 105), (some (100, true)), (.op (.mv (.t 11)))⟩, ⟨(some 106), (some (100, true)), (.op (.ibin .sub (.t 104) (.t 105)))⟩, ⟨(some 107), (some (100, true)), (.op (.ibin .neq (.t 102) (.t 106)))⟩, ⟨(some 108), (some (97, false)), (.op (.pick (.t 100) (.t 107) (.c (.bool false))))⟩, ⟨(some 109), none, (.op (.pick (.t 97) (.c (.bool true)) (.t 108)))⟩, ⟨(some 110), none, (.op (.mv (.t 109)))⟩, ⟨(some 111), (some (110, false)), (.op (.mv (.t 8)))⟩, ⟨(some 112), (some (110, false)), (.call (.c (.fn 20 [])) [(.t 111)])⟩, ⟨(some 113), (some (110, false)), (.op (.len (.t 112)))⟩, ⟨(some 114), (some (110, false)), (.op (.ibin .neq (.t 113) (.c (.int .i64 0))))⟩, ⟨(some 115), none, (.op (.pick (.t 110) (.c (.bool true)) (.t 114)))⟩, ⟨(some 116), none, (.op (.mv (.t 115)))⟩, ⟨(some 117), (some (116, false)), (.op (.mv (.t 8)))⟩, ⟨(some 118), (some (116, false)), (.op (.mv (.t 11)))⟩, ⟨(some 119), (some (116, false)), (.call (.c (.fn 21 [])) [(.t 117), (.t 118)])⟩, ⟨(some 120), none, (.op (.pick (.t 116) (.c (.bool true)) (.t 119)))⟩]
def once20_r19 : List AI := [⟨(some 6), none, (.op (.mv (.c (.bool false))))⟩]
def once20_r20 : List AI := [⟨(some 15), none, (.op (.mv (.c (.int .i64 0))))⟩]
def once20_r21 : List AI := [⟨(some 121), none, (.op (.mv (.t 15)))⟩, ⟨(some 122), none, (.op (.mv (.t 13)))⟩, ⟨(some 123), none, (.op (.len (.t 122)))⟩, ⟨(some 124), none, (.op (.ibin .lss (.t 121) (.t 123)))⟩]
def once20_r22 : List AI := [⟨(some 127), none, (.op (.mv (.t 13)))⟩, ⟨(some 128), none, (.op (.mv (.t 15)))⟩, ⟨(some 129), none, (.op (.idx 1 (.t 127) (.t 128)))⟩, ⟨none, none, (.op (.store 1 (.t 129) (.c (.int .i64 99))))⟩]
def once20_r23 : List AI := [⟨(some 125), none, (.op (.mv (.t 15)))⟩, ⟨(some 126), none, (.op (.ibin .add (.t 125) (.c (.int .i64 1))))⟩, ⟨(some 15), none, (.op (.mv (.t 126)))⟩]
def once20_l0 : AC := (.seq (.seq (.reg once20_r21) (.cond (.t 124) .skip (.exit 2))) (.seq (.block 3 (.reg once20_r22)) (.reg once20_r23)))
def once20_r24 : List AI := [⟨(some 16), none, (.op (.mv (.c (.int .i64 0))))⟩]
def once20_r25 : List AI := [⟨(some 130), none, (.op (.mv (.t 16)))⟩, ⟨(some 131), none, (.op (.mv (.t 14)))⟩, ⟨(some 132), none, (.op (.len (.t 131)))⟩, ⟨(some 133), none, (.op (.ibin .lss (.t 130) (.t 132)))⟩]
def once20_r26 : List AI := [⟨(some 136), none, (.op (.mv (.t 14)))⟩, ⟨(some 137), none, (.op (.mv (.t 16)))⟩, ⟨(some 138), none, (.op (.idx 1 (.t 136) (.t 137)))⟩, ⟨none, none, (.op (.store 1 (.t 138) (.c (.int .i64 99))))⟩]
def once20_r27 : List AI := [⟨(some 134), none, (.op (.mv (.t 16)))⟩, ⟨(some 135), none, (.op (.ibin .add (.t 134) (.c (.int .i64 1))))⟩, ⟨(some 16), none, (.op (.mv (.t 135)))⟩]
def once20_l1 : AC := (.seq (.seq (.reg once20_r25) (.cond (.t 133) .skip (.exit 4))) (.seq (.block 5 (.reg once20_r26)) (.reg once20_r27)))
def once20_r28 : List AI := [⟨(some 56), none, (.op (.mv (.t 10)))⟩, ⟨(some 57), none, (.op (.ibin .add (.t 56) (.c (.int .i64 1))))⟩, ⟨(some 10), none, (.op (.mv (.t 57)))⟩]
def once20_l2 : AC := (.seq (.seq (.reg once20_r9) (.cond (.t 55) .skip (.exit 0))) (.seq (.block 1 (.seq (.reg once20_r10) (.seq (.reg once20_r11) (.seq (.seq (.reg once20_r12) (.cond (.t 67) (.reg once20_r13) (.seq (.reg once20_r14) (.cond (.t 71) (.reg once20_r15) .skip)))) (.seq (.reg once20_r16) (.seq (.reg once20_r17) (.seq (.seq (.reg once20_r18) (.cond (.t 120) (.seq (.reg once20_r19) .ret) .skip)) (.seq (.seq (.reg once20_r20) (.block 2 (.loop once20_l0))) (.seq (.reg once20_r24) (.block 4 (.loop once20_l1))))))))))) (.reg once20_r28)))
def once20_r29 : List AI := [⟨(some 139), none, (.op (.mv (.t 8)))⟩, ⟨(some 140), none, (.call (.c (.fn 15 [])) [(.t 139)])⟩, ⟨(some 141), none, (.op (.mv (.t 2)))⟩, ⟨(some 142), none, (.op (.len (.t 141)))⟩, ⟨(some 143), none, (.op (.mm false (.t 142) [(.c (.int .i64 1))]))⟩, ⟨(some 144), none, (.op (.ibin .eql (.t 140) (.t 143)))⟩, ⟨(some 145), none, (.op (.mv (.t 144)))⟩, ⟨(some 146), (some (145, true)), (.call (.c (.fn 12 [])) [])⟩, ⟨(some 147), none, (.op (.pick (.t 145) (.t 146) (.c (.bool false))))⟩, ⟨(some 6), none, (.op (.mv (.t 147)))⟩]
def once20_c : AC := (.seq (.reg once20_r0) (.seq (.seq (.reg once20_r1) (.cond (.t 27) (.seq (.reg once20_r2) .ret) .skip)) (.seq (.reg once20_r3) (.seq (.reg once20_r4) (.seq (.seq (.reg once20_r5) (.cond (.t 47) (.seq (.reg once20_r6) .ret) .skip)) (.seq (.reg once20_r7) (.seq (.seq (.reg once20_r8) (.block 0 (.loop once20_l2))) (.seq (.reg once20_r29) .ret))))))))
def once20_res : List ARes := [(.tmp 6)]
set_option maxRecDepth 100000 in
theorem once20_get : getF Try.prog 4 181000 [] = some ("gavotte/gavottelaw20.ReachOnce", 148, once20_c, once20_res) := by kernel_rfl
attribute [simp] ringO_r0 ringO_r1 ringO_r2 ringO_r3 ringO_r4 ringO_r5 ringO_r6 ringO_r7 ringO_r8 ringO_r9 ringO_r10 ringO_r11 ringO_res once20_r0 once20_r1 once20_r2 once20_r3 once20_r4 once20_r5 once20_r6 once20_r7 once20_r8 once20_r9 once20_r10 once20_r11 once20_r12 once20_r13 once20_r14 once20_r15 once20_r16 once20_r17 once20_r18 once20_r19 once20_r20 once20_r21 once20_r22 once20_r23 once20_r24 once20_r25 once20_r26 once20_r27 once20_r28 once20_r29 once20_res


def ringP (n : Nat) (back : Bool) : Prg := ⟨(List.range n).map (ringH n back), [⟨[], 0, -1, false⟩], [], 10⟩
theorem ringP_len (n : Nat) (back : Bool) : (ringP n back).hs.length = n := by simp [ringP]
theorem ringP_hs (n : Nat) (back : Bool) : (ringP n back).hs.map hndN = ringE n back n := by
  simp only [ringP, ringE, List.map_map]; rfl
def sndP (p : Prg) : List (List Int) := (List.range p.hs.length).map fun h => putL [] (rawH p h)
theorem ring_facts : ∀ n : Fin 11, ∀ b : Bool, 1 ≤ n.val → flowV (ringP n b) = 0 ∧ sndP (ringP n b) = (List.range n).map (fun i => if i + 1 < n.val then [((i + 1 : Nat) : Int)] else if b = true then [0] else []) ∧
    ((sndP (ringP n b)).map (closedV (sndP (ringP n b)))).map List.length = (List.range n).map (fun i => if b = true then n.val else n.val - 1 - i) ∧ liveV (ringP n b) (sndP (ringP n b)) (armsV (ringP n b)) = [] ∧ armsV (ringP n b) = List.replicate n false := by decide +kernel
theorem ring_at {n : Nat} (h1 : 1 ≤ n) (h2 : n ≤ 10) (b : Bool) : flowV (ringP n b) = 0 ∧ (∀ j : Nat, j < n → atI (sndV (ringP n b)) j = (if j + 1 < n then [((j + 1 : Nat) : Int)] else if b = true then [0] else [])) ∧
    (∀ j : Nat, j < n → (atI (reaV (ringP n b)) j).length = if b = true then n else n - 1 - j) ∧ liveP (ringP n b) = [] ∧ (∀ j : Nat, j < n → atB (armsV (ringP n b)) j = false) := by
  obtain ⟨a1, a2, a3, a4, a5⟩ := ring_facts ⟨n, by omega⟩ b h1
  simp only at a1 a2 a3 a4 a5
  have e : sndV (ringP n b) = sndP (ringP n b) := sndV_put _
  refine ⟨a1, fun j hj => ?_, fun j hj => ?_, ?_, fun j hj => ?_⟩
  · rw [e, a2]; simp [atI, hj]
  · have : (reaV (ringP n b)).map List.length = (List.range n).map (fun i => if b = true then n else n - 1 - i) := by rw [reaV, e]; exact a3
    have h3 := congrArg (fun l => l[j]?) this
    simp [hj] at h3
    obtain ⟨s, q1, q2⟩ := h3
    simp [atI, q1, q2]
  · rw [liveP, e]; exact a4
  · rw [a5]; simp [atB, hj]
theorem wrap1 : IntKind.i64.wrap 1 = 1 := by decide
theorem ringO_v (n : Nat) (hn1 : 1 ≤ n) (hn : n ≤ 1000) (back : Bool) {T : St} {k : AV → St → Prop} {u : Dep k}
    (hk : ∀ S sh sa, S.t = T.t → T.clk ≤ S.clk → S.blk 1000181534 = some ⟨sh, 2, ringE n back n⟩ → k (.agg [.sl 1000181534 sh 2 0 n, .acc 181509 sa 4 [actE], .nils, iv 10]) S) :
    CallG Try.prog (.fn 13 []) [iv n, .bool back] T k u := by
  refine callV ringO_get (by simp) (by simp) ?_
  unfold ringO_c
  simp
  refine loopN (fun i S => S.t 0 = iv n ∧ S.t 1 = .bool back ∧ S.t 6 = iv i ∧ T.clk ≤ S.clk ∧ (∃ s4, S.t 4 = .ptr 181504 s4 4 0 0 ∧ S.blk 181504 = some ⟨s4, 4, [.agg [.nils, .nils, .nils, iv 0]]⟩) ∧
    (∃ s5 v s9, S.t 5 = .ptr 181505 s5 4 0 0 ∧ S.blk 181505 = some ⟨s5, 4, [.agg [v, .acc 181509 s9 4 [actE], .nils, iv 10]]⟩ ∧ ((v = .nils ∧ i = 0) ∨ ∃ sh, v = .sl 1000181534 sh 2 0 i ∧ S.blk 1000181534 = some ⟨sh, 2, ringE n back i⟩))) n ?_ ?_
  · refine ⟨by simp, by simp, by simp, by simp; omega, by simp, by simp [actE]⟩
  · rintro i S hi ⟨g0, g1, g6, gc, ⟨s4, g4, b4⟩, ⟨s5, v, s9, g5, b5, hv⟩⟩
    by_cases hlt : i < n
    · have hw := wrap_succ i _ hlt (by omega)
      have hel := ringE_len n back i
      have hes := ringE_succ n back i
      have hb : (i + 1) * 32 ≤ 140737488355328 := by omega
      have htk : List.take i (ringE n back i) = ringE n back i := List.take_of_length_le (by omega)
      by_cases hlast : i + 1 < n
      · have hc : codeN (ringC n back i) = .lst 2 [.agg [iv 8, iv 0], .agg [iv 22, iv ((i + 1 : Nat) : Int)]] := by simp [ringC, hlast, codeN, Ins.av]
        rw [hc] at hes
        have hlast' : ((i : Int) + 1 < (n : Int)) := by omega
        rcases hv with ⟨rfl, rfl⟩ | ⟨sh, rfl, hx⟩
        · simp [ringE] at hes
          have hl1 : (1 : Int) < (n : Int) := by omega
          simp [ringO_l0, g0, g1, g4, g5, g6, b4, b5, hlt, wrap1, hl1]
          simp [hes, ringE]
          omega
        · generalize ringE n back i = xs at *
          simp [ringO_l0, g0, g1, g4, g5, g6, b4, b5, hlt, hw, hlast, hlast', hx, hb, hel, htk]
          simp [hes]
          omega
      · have hlast' : ¬ ((i : Int) + 1 < (n : Int)) := by omega
        cases back with
        | true =>
          have hc : codeN (ringC n true i) = .lst 2 [.agg [iv 8, iv 0], .agg [iv 22, iv 0]] := by simp [ringC, hlast, codeN, Ins.av]
          rw [hc] at hes
          rcases hv with ⟨rfl, rfl⟩ | ⟨sh, rfl, hx⟩
          · simp [ringE] at hes
            have hl1 : ¬ (1 : Int) < (n : Int) := by omega
            simp [ringO_l0, g0, g1, g4, g5, g6, b4, b5, hlt, wrap1, hl1]
            simp [hes, ringE]
            omega
          · generalize ringE n true i = xs at *
            simp [ringO_l0, g0, g1, g4, g5, g6, b4, b5, hlt, hw, hlast, hlast', hx, hb, hel, htk]
            simp [hes]
            omega
        | false =>
          have hc : codeN (ringC n false i) = .nils := by simp [ringC, hlast, codeN]
          rw [hc] at hes
          rcases hv with ⟨rfl, rfl⟩ | ⟨sh, rfl, hx⟩
          · simp [ringE] at hes
            have hl1 : ¬ (1 : Int) < (n : Int) := by omega
            simp [ringO_l0, g0, g1, g4, g5, g6, b4, b5, hlt, wrap1, hl1]
            simp [hes, ringE]
            omega
          · generalize ringE n false i = xs at *
            simp [ringO_l0, g0, g1, g4, g5, g6, b4, b5, hlt, hw, hlast, hlast', hx, hb, hel, htk]
            simp [hes]
            omega
    · have e1 : i = n := by omega
      subst e1
      rcases hv with ⟨rfl, rfl⟩ | ⟨sh, rfl, hx⟩
      · omega
      · simp [ringO_l0, g0, g6, g5, g4, b4, b5]
        exact hk _ sh s9 rfl (by simp; omega) (by simp [hx])

end Go.Gv

/- The law ReachOnce answers true. No condition. -/
set_option linter.unusedVariables false
set_option linter.unusedSimpArgs false
namespace Go.Gv
open Go.Proofs


theorem psendsM_v (nm st : Nat) (hnm : LR nm = false) (p : Prg) (hp : flowV p = 0) (n : Int) {S : St} {k : AV → St → Prop} {u : Dep k} (h : PlanE nm st p S)
    (hk : ∀ r S', PlanM nm st p S' → MutI S' r 1000153005 (atI (sndV p) n) → S'.t = S.t → S.clk ≤ S'.clk → k r S') :
    CallG Try.prog (.fn 17 []) [.ptr nm st 12 0 0, iv n] S k u := by
  have hne : (nm = 1000153005) = False := eq_false (fun e => by rw [e] at hnm; cases hnm)
  refine callV psends_get (by simp) (by simp) ?_
  unfold psends_c
  simp
  refine asked_v nm st hnm p hp n h ?_
  intro S1 h1 hF ht he
  cases hr : rngP p n with
  | true =>
    obtain ⟨r0, r1⟩ := rngP_iff.1 hr
    have hlt : n.toNat < (sndV p).length := by rw [sndV_len]; omega
    have e : atI (sndV p) n = (sndV p)[n.toNat] := by simp [atI, r0, hlt]
    have h2 := h1
    unfold PlanM at h1
    simp [ht, r0, r1, h1, madeC8, hlt]
    refine cloneA_v (sndV p)[n.toNat] (by have := sndV_bound hp _ (List.getElem_mem hlt); omega) (fun r S2 hm hB hK ht2 hc => ?_)
    simp [ht2]
    refine hk r _ ?_ ?_ rfl ?_
    · unfold PlanM; simp; rw [hB nm (fun q => by rw [q] at hnm; cases hnm)]; exact h1
    · rw [e]; simpa [MutI] using hm
    · have := hF.c; simp at this hc ⊢; omega
  | false =>
    have r0 := rngP_not.1 hr
    have hr' : (decide (0 ≤ n) && decide (n < (p.hs.length : Int))) = false := hr
    have e : atI (sndV p) n = [] := by
      unfold atI
      split
      · rw [List.getElem?_eq_none (by rw [sndV_len]; omega)]; rfl
      · rfl
    rw [hr']
    simp [ht]
    refine hk _ _ h1 ?_ rfl ?_
    · rw [e]; exact .inl ⟨rfl, rfl⟩
    · have := hF.c; simp at this ⊢; omega
theorem preachesM_v (nm st : Nat) (hnm : LR nm = false) (p : Prg) (hp : flowV p = 0) (n : Int) {S : St} {k : AV → St → Prop} {u : Dep k} (h : PlanM nm st p S)
    (hk : ∀ r S', PlanM nm st p S' → MutI S' r 1000154005 (atI (reaV p) n) → (∀ m, m ≠ 1000154005 → S'.blk m = S.blk m) → S'.t = S.t → S.clk ≤ S'.clk → k r S') :
    CallG Try.prog (.fn 18 []) [.ptr nm st 12 0 0, iv n] S k u := by
  refine callV preaches_get (by simp) (by simp) ?_
  unfold preaches_c
  simp
  refine asked_v nm st hnm p hp n (.inr h) ?_
  intro S1 h1 hF ht he
  have e1 := he h
  subst e1
  cases hr : rngP p n with
  | true =>
    obtain ⟨r0, r1⟩ := rngP_iff.1 hr
    have hlt : n.toNat < (reaV p).length := by rw [reaV_len]; omega
    have e : atI (reaV p) n = (reaV p)[n.toNat] := by simp [atI, r0, hlt]
    have h2 := h1
    unfold PlanM at h1
    simp at h1
    simp [r0, r1, h1, madeC9, hlt]
    refine cloneB_v (reaV p)[n.toNat] (by have := reaV_bound hp _ (List.getElem_mem hlt); omega) (fun r S2 hm hB hK ht2 hc => ?_)
    simp [ht2]
    refine hk r _ ?_ ?_ ?_ rfl ?_
    · unfold PlanM; simp; rw [hB nm (fun q => by rw [q] at hnm; cases hnm)]; exact h1
    · rw [e]; simpa [MutI] using hm
    · exact fun m hm => hB m hm
    · simp at hc ⊢; omega
  | false =>
    have r0 := rngP_not.1 hr
    have hr' : (decide (0 ≤ n) && decide (n < (p.hs.length : Int))) = false := hr
    have e : atI (reaV p) n = [] := by
      unfold atI
      split
      · rw [List.getElem?_eq_none (by rw [reaV_len]; omega)]; rfl
      · rfl
    rw [hr']
    simp
    refine hk _ _ h1 ?_ (fun m hm => rfl) rfl ?_
    · rw [e]; exact .inl ⟨rfl, rfl⟩
    · simp; omega
theorem pnewO_v (m : Nat) (back : Bool) (h1 : 1 ≤ m) (h10 : m ≤ 10) (s : Nat) {S : St} {k : AV → St → Prop} {u : Dep k} (hb : S.blk 1000181534 = some ⟨s, 2, ringE m back m⟩)
    (hk : ∀ S' st, PlanF 170013 st (ringP m back) S' → (∀ n, LR n = false → n ≠ 170001 → n ≠ 170013 → S'.blk n = S.blk n) → S'.t = S.t → S.clk ≤ S'.clk → k (.tup [.ptr 170013 st 12 0 0, iv 0]) S') :
    CallG Try.prog (.fn 14 []) [.agg [.sl 1000181534 s 2 0 m, .lst 4 [Actr.av ⟨[], 0, -1, false⟩], .lst 3 [], iv 10]] S k u := by
  have := pnewM_v (k := k) (u := u) (ringP m back) (ring_at h1 h10 back).1 1000181534 s (by decide) (by decide) (by decide) (S := S) (by rw [ringP_hs]; exact hb) (fun S' st a b _ c d => hk S' st a b c d)
  rw [ringP_len] at this
  exact this
/-- A list of the caller's own, of which only the length is known. -/
def MutA (S : St) (r : AV) (N m : Nat) : Prop := (r = .nils ∧ m = 0) ∨ ∃ (st : Nat) (l : List Int), r = .sl N st 1 0 m ∧ S.blk N = some ⟨st, 1, l.map iv⟩ ∧ l.length = m
theorem MutI.mutA {S : St} {r : AV} {N : Nat} {l : List Int} (h : MutI S r N l) : MutA S r N l.length := by
  rcases h with ⟨rfl, rfl⟩ | ⟨st, rfl, h⟩
  · exact .inl ⟨rfl, rfl⟩
  · exact .inr ⟨st, l, rfl, h, rfl⟩
theorem MutA.mono {S S' : St} {r : AV} {N m : Nat} (h : MutA S r N m) (hb : S'.blk N = S.blk N) : MutA S' r N m := by
  rcases h with h | ⟨st, l, a, b, c⟩
  · exact .inl h
  · exact .inr ⟨st, l, a, by rw [hb]; exact b, c⟩
theorem MutI.mono {S S' : St} {r : AV} {N : Nat} {l : List Int} (h : MutI S r N l) (hb : S'.blk N = S.blk N) : MutI S' r N l := by
  rcases h with h | ⟨st, a, b⟩
  · exact .inl h
  · exact .inr ⟨st, a, by rw [hb]; exact b⟩
theorem MutI.len {S : St} {r : AV} {N : Nat} {l : List Int} (h : MutI S r N l) : lenOf r = some l.length := by
  rcases h with ⟨rfl, rfl⟩ | ⟨st, rfl, h⟩ <;> rfl
theorem ints_coL (blk : Nat → Option Blk) : ∀ l : List Int, coL (elemR (dco blk 0)) (l.map iv) (l.map iv)
  | [] => trivial
  | x :: l => ⟨by simp [elemR, dco, co1], ints_coL blk l⟩
theorem MutI.elem {S : St} {r : AV} {N : Nat} {l : List Int} (h : MutI S r N l) {blk : Nat → Option Blk} (hb : blk N = S.blk N) : elemR (dco blk 1) r (ints l) := by
  rcases h with ⟨rfl, rfl⟩ | ⟨st, rfl, h⟩
  · simp [elemR, dco, ints]
  · refine ⟨rfl, l.map iv, by simp [getB, hb, h], by simp, ?_⟩
    rw [List.drop_zero, List.take_of_length_le (by simp)]
    exact ints_coL _ _
structure OSt (st m : Nat) (back : Bool) (asks : List Int) (S : St) : Prop where
  t0 : S.t 0 = iv m
  t1 : S.t 1 = .bool back
  t2 : S.t 2 = ints asks
  t8 : S.t 8 = .ptr 170013 st 12 0 0
theorem once_l0 (st n : Nat) (back : Bool) (asks : List Int) (p : Prg) (i m m2 : Nat) (hm : m ≤ 1000) (r r2 : AV) {κ : Ex → St → Prop}
    (hκ : ∀ S, OSt st n back asks S → PlanM 170013 st p S → S.t 10 = iv i → S.t 14 = r2 → MutA S r2 1000154005 m2 → κ (.exit 2) S) (S : St)
    (h : OSt st n back asks S) (pl : PlanM 170013 st p S) (h10 : S.t 10 = iv i) (h14 : S.t 14 = r2) (q2 : MutA S r2 1000154005 m2) (h13 : S.t 13 = r) (q1 : MutA S r 1000153005 m) (h15 : S.t 15 = iv 0) : LoopG Try.prog once20_l0 κ S .mk := by
  refine loopN (fun j S => OSt st n back asks S ∧ PlanM 170013 st p S ∧ S.t 10 = iv i ∧ S.t 14 = r2 ∧ MutA S r2 1000154005 m2 ∧ S.t 13 = r ∧ MutA S r 1000153005 m ∧ S.t 15 = iv j) m ⟨h, pl, h10, h14, q2, h13, q1, by simpa using h15⟩ ?_
  clear h pl h10 h14 q2 h13 q1 h15 S
  rintro j S hj ⟨⟨t0, t1, t2, t8⟩, pl, h10, h14, q2, h13, q1, h15⟩
  rcases q1 with ⟨rfl, rfl⟩ | ⟨s1, l, rfl, b1, hl⟩
  · simp [once20_l0, h13, h15]
    exact hκ _ ⟨by simp [t0], by simp [t1], by simp [t2], by simp [t8]⟩ pl (by simp [h10]) (by simp [h14]) (q2.mono rfl)
  · by_cases hlt : j < m
    · have hw := wrap_succ j _ hlt (by omega)
      unfold PlanM at pl
      simp [once20_l0, h13, h15, hlt, b1, hl, hw]
      refine ⟨⟨by simp [t0], by simp [t1], by simp [t2], by simp [t8]⟩, by simp [PlanM, pl], by simp [h10], by simp [h14], q2.mono (by simp), .inr ⟨s1, l.set j 99, rfl, by simp [List.map_set], by simp [hl]⟩⟩
    · simp [once20_l0, h13, h15, hlt]
      exact hκ _ ⟨by simp [t0], by simp [t1], by simp [t2], by simp [t8]⟩ pl (by simp [h10]) (by simp [h14]) (q2.mono rfl)
theorem once_l1 (st n : Nat) (back : Bool) (asks : List Int) (p : Prg) (i m : Nat) (hm : m ≤ 1000) (r : AV) {κ : Ex → St → Prop}
    (hκ : ∀ S, OSt st n back asks S → PlanM 170013 st p S → S.t 10 = iv i → κ (.exit 4) S) (S : St)
    (h : OSt st n back asks S) (pl : PlanM 170013 st p S) (h10 : S.t 10 = iv i) (h13 : S.t 14 = r) (q1 : MutA S r 1000154005 m) (h15 : S.t 16 = iv 0) : LoopG Try.prog once20_l1 κ S .mk := by
  refine loopN (fun j S => OSt st n back asks S ∧ PlanM 170013 st p S ∧ S.t 10 = iv i ∧ S.t 14 = r ∧ MutA S r 1000154005 m ∧ S.t 16 = iv j) m ⟨h, pl, h10, h13, q1, by simpa using h15⟩ ?_
  clear h pl h10 h13 q1 h15 S
  rintro j S hj ⟨⟨t0, t1, t2, t8⟩, pl, h10, h13, q1, h15⟩
  rcases q1 with ⟨rfl, rfl⟩ | ⟨s1, l, rfl, b1, hl⟩
  · simp [once20_l1, h13, h15]
    exact hκ _ ⟨by simp [t0], by simp [t1], by simp [t2], by simp [t8]⟩ pl (by simp [h10])
  · by_cases hlt : j < m
    · have hw := wrap_succ j _ hlt (by omega)
      unfold PlanM at pl
      simp [once20_l1, h13, h15, hlt, b1, hl, hw]
      refine ⟨⟨by simp [t0], by simp [t1], by simp [t2], by simp [t8]⟩, by simp [PlanM, pl], by simp [h10], .inr ⟨s1, l.set j 99, rfl, by simp [List.map_set], by simp [hl]⟩⟩
    · simp [once20_l1, h13, h15, hlt]
      exact hκ _ ⟨by simp [t0], by simp [t1], by simp [t2], by simp [t8]⟩ pl (by simp [h10])
theorem once_l2 (m : Nat) (h1 : 1 ≤ m) (h10 : m ≤ 10) (back : Bool) (asks : List Int) (ha : asks.length ≤ 20) (st : Nat) {κ : Ex → St → Prop}
    (hκ : ∀ S, OSt st m back asks S → ((asks.length = 0 ∧ PlanF 170013 st (ringP m back) S) ∨ (0 < asks.length ∧ PlanM 170013 st (ringP m back) S)) → κ (.exit 0) S) (S : St)
    (h : OSt st m back asks S) (hP : PlanF 170013 st (ringP m back) S) (h0 : S.t 10 = iv 0) : LoopG Try.prog once20_l2 κ S .mk := by
  obtain ⟨f1, f2, f3, f4, f5⟩ := ring_at h1 h10 back
  refine loopN (fun i S => OSt st m back asks S ∧ S.t 10 = iv i ∧ ((i = 0 ∧ PlanF 170013 st (ringP m back) S) ∨ (0 < i ∧ PlanM 170013 st (ringP m back) S))) asks.length ⟨h, by simpa using h0, .inl ⟨rfl, hP⟩⟩ ?_
  clear h hP h0 S
  rintro i S hi ⟨⟨t0, t1, t2, t8⟩, t10, hP⟩
  by_cases hlt : i < asks.length
  · have hE : PlanE 170013 st (ringP m back) S := by
      rcases hP with ⟨_, q⟩ | ⟨_, q⟩
      · exact .inl q
      · exact .inr q
    clear hP
    have hw := wrap_succ i _ hlt (by omega)
    simp [once20_l2, t0, t2, t10, ints, hlt]
    refine call (rndg_pc asks[i] m (by omega)) (by simp) ?_
    obtain ⟨k, hk1, hk2⟩ := rndg_cases asks[i] m (by omega)
    rw [hk2]
    have hkm : k < m := by omega
    have s2 := f2 k hkm
    have s3 := f3 k hkm
    have s5 := f5 k hkm
    generalize ringP m back = p at *
    have hwk : IntKind.i64.wrap ((k : Int) + 1) = ((k + 1 : Nat) : Int) := by rw [wrap_in _ (by omega) (by omega)]; omega
    have hw1 : IntKind.i64.wrap ((m : Int) - 1) = (m : Int) - 1 := wrap_in _ (by omega) (by omega)
    have hw2 : IntKind.i64.wrap ((m : Int) - 1 - k) = (m : Int) - 1 - k := wrap_in _ (by omega) (by omega)
    have h3l : ∀ S' : St, S'.blk = S'.blk := fun _ => rfl
    have hL : (((atI (reaV p) k).length : Nat) : Int) = if back = true then (m : Int) else (m : Int) - 1 - k := by
      rw [s3]; split <;> omega
    have hl1 : (atI (sndV p) k).length ≤ 1 := by
      rw [s2]; split
      · simp
      · split <;> simp
    have hlr : (atI (reaV p) k).length ≤ 1000 := by
      rw [s3]; split <;> omega
    clear s3 h3l
    have hkI : ((k : Int) + 1 < m) ↔ k + 1 < m := by omega
    rcases Bool.eq_false_or_eq_true back with hbk | hbk <;> by_cases hk : k + 1 < m
    all_goals
      simp [hk, hbk] at s2
      simp [hbk] at hL
      simp [hwk, hkI, hk, hbk, t0, t1, t8]
      refine psendsM_v 170013 st (by decide) p f1 k hE (fun r1 S1 hP1 m1 ht1 c1 => ?_)
      simp [ht1, t8]
      refine preachesM_v 170013 st (by decide) p f1 k hP1 (fun r2 S2 hP2 m2 hB2 ht2 c2 => ?_)
      have m1' := m1.mono (hB2 1000153005 (by decide))
      clear m1 hP1 hB2 hE
      simp [ht2, ht1]
      refine callW (aints_pc (atI (sndV p) k) (atI (sndV p) k) (by omega)) 1 ⟨m1'.elem rfl, by rw [s2]; simp [elemR, dco, ints, coL, co1], trivial⟩ rfl ?_
      simp [ht2, ht1, t8]
      refine pmade_v 170013 st p (.inr hP2) (fun S3 ht3 hB3 hK3 c3 => ⟨fun q => ?_, fun _ => ?_⟩)
      case _ => unfold PlanM at hP2; unfold PlanF at q; simp only [] at q; rw [hP2] at q; simp [planC, madeC] at q
      have hP3 : PlanM 170013 st p S3 := by unfold PlanM; rw [hB3]; exact hP2
      simp [ht3, ht2, ht1, t0, t1, t8, hbk, m2.len, hL, hw1, hw2]
      refine plive_v 170013 st (by decide) p f1 (.inr hP3) (fun S4 hP4 hF4 ht4 he4 => ?_)
      have hB4 := (he4 hP3).1
      clear hF4 he4
      rw [f4]
      simp [ht4, ht3, ht2, ht1, t8, ints]
      refine parms_v 170013 st (by decide) p f1 k (.inr hP4) (fun S5 hP5 hF5 ht5 he5 => ?_)
      have hB5 := (he5 hP4).1
      clear hF5 he5
      rw [s5]
      simp [ht5, ht4, ht3, ht2, ht1, t8]
      have n1 : S5.blk 1000153005 = S2.blk 1000153005 := by rw [hB5]; show S4.blk _ = _; rw [hB4]; show S3.blk _ = _; rw [hB3]
      have n2 : S5.blk 1000154005 = S2.blk 1000154005 := by rw [hB5]; show S4.blk _ = _; rw [hB4]; show S3.blk _ = _; rw [hB3]
      have m1a := (m1'.mono n1).mutA
      have m2a := (m2.mono n2).mutA
      refine once_l0 st m back asks p i _ _ (by omega) r1 r2 ?_ _ ⟨by simp [ht5, ht4, ht3, ht2, ht1, t0], by simp [ht5, ht4, ht3, ht2, ht1, t1], by simp [ht5, ht4, ht3, ht2, ht1, t2], by simp [ht5, ht4, ht3, ht2, ht1, t8]⟩ hP5 (by simp [ht5, ht4, ht3, ht2, ht1, t10]) (by simp [ht5, ht4, ht3, ht2, ht1]) (m2a.mono rfl) (by simp [ht5, ht4, ht3, ht2, ht1]) (m1a.mono rfl) (by simp)
      intro S6 hO6 hP6 q10 q14 m2b
      simp
      refine once_l1 st m back asks p i _ hlr r2 ?_ _ ⟨by simp [hO6.t0], by simp [hO6.t1], by simp [hO6.t2], by simp [hO6.t8]⟩ hP6 (by simp [q10]) (by simp [q14]) (m2b.mono rfl) (by simp)
      intro S7 hO7 hP7 q10
      simp [q10, hw, hlt]
      exact ⟨⟨by simp [hO7.t0], by simp [hO7.t1], by simp [hO7.t2], by simp [hO7.t8]⟩, hP7⟩
  · have e1 : i = asks.length := by omega
    subst e1
    simp [once20_l2, t2, t10, ints]
    refine hκ _ ⟨by simp [t0], by simp [t1], by simp [t2], by simp [t8]⟩ ?_
    rcases hP with ⟨a, b⟩ | ⟨a, b⟩
    · exact .inl ⟨a, b⟩
    · exact .inr ⟨a, b⟩
theorem PlanFM {nm st : Nat} {p : Prg} {S : St} (a : PlanF nm st p S) (b : PlanM nm st p S) : False := by
  unfold PlanF at a
  unfold PlanM at b
  rw [a] at b
  simp [planC, madeC] at b
theorem reachOnce_pc (n : Int) (back : Bool) (asks : List Int) : PC Try.prog 4 [iv n, .bool back, ints asks] (.bool true) := by
  refine pc_of_get once20_get (by simp) _ (by simp) _ ?_
  unfold once20_c
  by_cases c1 : n < 1
  · simp [c1]
    refine awake20_v (fun S ht hc => ?_)
    simp [ht]
  by_cases c2 : 10 < n
  · simp [c1, c2]
    refine awake20_v (fun S ht hc => ?_)
    simp [ht]
  by_cases c3 : (20 : Int) < asks.length
  · simp [c1, c2, c3, ints]
    refine awake20_v (fun S ht hc => ?_)
    simp [ht]
  obtain ⟨m, rfl⟩ : ∃ m : Nat, n = m := ⟨n.toNat, by omega⟩
  have h1 : 1 ≤ m := by omega
  have h10 : m ≤ 10 := by omega
  simp [c1, c2, c3, ints]
  refine ringO_v m h1 (by omega) back (fun S sh sa ht hc hb => ?_)
  simp [ht]
  refine call_cells 2 (cs' := [.sl 1000181534 sh 2 0 m, .lst 4 [Actr.av ⟨[], 0, -1, false⟩], .lst 3 [], iv 10]) rfl ?_ ?_ (pnewO_v m back h1 h10 sh (by simp [hb]) (fun S1 st hP hB ht1 hc1 => ?_))
  · simp
  · intro j x y hx hy
    match j with
    | 0 => simp at hx hy; subst hx hy; exact .inl rfl
    | 1 => simp at hx hy; subst hx hy; right; simp [actE, Actr.av, ints, elemR, dco, coL, co1]
    | 2 => simp at hx hy; subst hx hy; right; simp [dco]
    | 3 => simp at hx hy; subst hx hy; exact .inl rfl
    | j + 4 => simp at hx
  · have b7 := hB 181007 (by decide) (by decide) (by decide)
    have bN := hB 1000181534 (by decide) (by decide) (by decide)
    simp at b7
    simp [hb] at bN
    clear hB hc hc1
    obtain ⟨x, hx⟩ : ∃ x, (ringE m back m)[0]? = some (.agg [iv 0, codeN x]) := by
      refine ⟨ringC m back 0, ?_⟩
      unfold ringE
      rw [List.getElem?_map, List.getElem?_range (by omega)]
      rfl
    simp [ht1]
    refine pmade_v 170013 st (ringP m back) (.inl hP) (fun S2 ht2 hB2 hK2 c2 => ⟨fun _ => ?_, fun q => (PlanFM hP q).elim⟩)
    have b7' := (congrFun hB2 181007).trans b7
    have bN' := (congrFun hB2 1000181534).trans bN
    have hP2 := (congrFun hB2 170013).trans hP
    clear hB2 b7 bN hP
    have h0m : 0 < m := h1
    simp [ht2, b7', bN', hx, h0m]
    refine once_l2 m h1 h10 back asks (by omega) st ?_ _ ⟨by simp [ht2, ht1], by simp [ht2, ht1], by simp [ht2, ht1, ints], by simp [ht2, ht1]⟩ (by simp [PlanF, hP2]) (by simp)
    intro S3 hO hc
    simp [hO.t8]
    rcases hc with ⟨a, b⟩ | ⟨a, b⟩
    · refine pmade_v 170013 st (ringP m back) (.inl b) (fun S4 ht4 _ _ _ => ⟨fun _ => ?_, fun q => (PlanFM b q).elim⟩)
      simp [ht4, hO.t2, ints, a, show min (0 : Int) 1 = 0 from by decide]
      refine awake20_v (fun S ht hc => ?_)
      simp [ht]
    · refine pmade_v 170013 st (ringP m back) (.inr b) (fun S4 ht4 _ _ _ => ⟨fun q => (PlanFM q b).elim, fun _ => ?_⟩)
      simp [ht4, hO.t2, ints, show min (asks.length : Int) 1 = 1 from by omega]
      refine awake20_v (fun S ht hc => ?_)
      simp [ht]

end Go.Gv
