/- Texts of this proof, one behind the other. What is proved, and on which conditions, stands ahead of each. -/
import Derived.Test.YtpaeffcpdpblcaaProg
import Derived.Test.YtpaeffcpdpblcaaM917ef0c
import Derived.Test.YtpaeffcpdpblcaaM826ae8e

/- Copy by its own code: what it answers is the caller's own, each list of it by a name. Conditions: those that each law names. -/
set_option linter.unusedVariables false
set_option linter.unusedSimpArgs false
namespace Go.Gv
open Go.Proofs

def copyX_r0 : List AI := [⟨(some 1), none, (.op (.box 186001 4 (.t 0)))⟩, ⟨(some 2), none, (.op (.new 186002 4 (.agg [.nils, .nils, .nils, (.int .i64 0)])))⟩]
def copyX_r1 : List AI := [⟨(some 10), none, (.op (.fld 3 (.t 1)))⟩, ⟨(some 11), none, (.op (.load none (.t 10)))⟩, ⟨(some 12), none, (.op (.build [.nils, .nils, .nils, (.int .i64 0)] [(3, (1, (.t 11)))]))⟩, ⟨(some 3), none, (.op (.new 186003 4 (.agg [.nils, .nils, .nils, (.int .i64 0)])))⟩, ⟨none, none, (.op (.store 4 (.t 3) (.t 12)))⟩]
def copyX_r2 : List AI := [⟨(some 13), none, (.op (.fld 0 (.t 1)))⟩, ⟨(some 14), none, (.op (.load none (.t 13)))⟩, ⟨(some 15), none, (.op (.len (.t 14)))⟩, ⟨(some 16), none, (.op (.mv (.c (.int .i64 0))))⟩]
def copyX_r3 : List AI := [⟨(some 17), none, (.op (.ibin .lss (.t 16) (.t 15)))⟩]
def copyX_r4 : List AI := [⟨(some 18), none, (.op (.idx 2 (.t 14) (.t 16)))⟩, ⟨(some 19), none, (.op (.load (some 2) (.t 18)))⟩, ⟨(some 5), none, (.op (.new 186005 2 (.agg [(.int .i64 0), .nils])))⟩, ⟨none, none, (.op (.store 2 (.t 5) (.t 19)))⟩]
def copyX_r5 : List AI := [⟨(some 20), none, (.op (.fld 0 (.t 3)))⟩, ⟨(some 21), none, (.op (.load none (.t 20)))⟩, ⟨(some 22), none, (.op (.fld 0 (.t 5)))⟩, ⟨(some 23), none, (.op (.load none (.t 22)))⟩, ⟨(some 24), none, (.op (.fld 1 (.t 5)))⟩, ⟨(some 25), none, (.op (.load none (.t 24)))⟩, ⟨(some 26), none, (.call (.c (.fn 28 [])) [(.t 25)])⟩, ⟨(some 27), none, (.op (.build [(.int .i64 0), .nils] [(0, (1, (.t 23))), (1, (1, (.t 26)))]))⟩, ⟨(some 28), none, (.op (.bslm 1000186028 2 33 1 (.agg [(.int .i64 0), .nils]) [(0, (.t 27))]))⟩, ⟨(some 29), none, (.op (.appw 1000186029 2 33 32 (.t 21) (.t 28)))⟩, ⟨(some 30), none, (.op (.fld 0 (.t 3)))⟩, ⟨none, none, (.op (.store 1 (.t 30) (.t 29)))⟩]
def copyX_p5 : List (List Nat) := [[], [0], [], [2], [], [4], [5, 4], [3, 6, 2, 5, 4], [7, 3, 6, 2, 5, 4], [1, 8, 6, 0, 7, 3, 2, 5, 4], [0, 1, 2, 3, 4, 5, 6, 7, 8, 9], [10, 9, 0, 1, 2, 3, 4, 5, 6, 7, 8]]
def copyX_r6 : List AI := [⟨(some 31), none, (.op (.ibin .add (.t 16) (.c (.int .i64 1))))⟩, ⟨(some 16), none, (.op (.mv (.t 31)))⟩]
def copyX_l0 : AC := (.seq (.reg copyX_r3) (.seq (.cond (.t 17) .skip (.exit 0)) (.seq (.block 1 (.seq (.reg copyX_r4) (.regi copyX_r5 copyX_p5))) (.reg copyX_r6))))
def copyX_r7 : List AI := [⟨(some 32), none, (.op (.fld 1 (.t 1)))⟩, ⟨(some 33), none, (.op (.load none (.t 32)))⟩, ⟨(some 34), none, (.op (.len (.t 33)))⟩, ⟨(some 35), none, (.op (.mv (.c (.int .i64 0))))⟩]
def copyX_r8 : List AI := [⟨(some 36), none, (.op (.ibin .lss (.t 35) (.t 34)))⟩]
def copyX_r9 : List AI := [⟨(some 37), none, (.op (.idx 4 (.t 33) (.t 35)))⟩, ⟨(some 38), none, (.op (.load (some 4) (.t 37)))⟩, ⟨(some 7), none, (.op (.new 186007 4 (.agg [.nils, (.int .i64 0), (.int .i64 0), (.bool false)])))⟩, ⟨none, none, (.op (.store 4 (.t 7) (.t 38)))⟩]
def copyX_r10 : List AI := [⟨(some 39), none, (.op (.fld 0 (.t 7)))⟩, ⟨(some 40), none, (.op (.load none (.t 39)))⟩, ⟨(some 41), none, (.call (.c (.fn 29 [])) [(.t 40)])⟩, ⟨(some 42), none, (.op (.fld 0 (.t 7)))⟩, ⟨none, none, (.op (.store 1 (.t 42) (.t 41)))⟩]
def copyX_r11 : List AI := [⟨(some 43), none, (.op (.fld 1 (.t 3)))⟩, ⟨(some 44), none, (.op (.load none (.t 43)))⟩, ⟨(some 45), none, (.op (.load (some 4) (.t 7)))⟩, ⟨(some 46), none, (.op (.bslm 1000186046 4 38 1 (.agg [.nils, (.int .i64 0), (.int .i64 0), (.bool false)]) [(0, (.t 45))]))⟩, ⟨(some 47), none, (.op (.appw 1000186047 4 38 48 (.t 44) (.t 46)))⟩, ⟨(some 48), none, (.op (.fld 1 (.t 3)))⟩, ⟨none, none, (.op (.store 1 (.t 48) (.t 47)))⟩]
def copyX_r12 : List AI := [⟨(some 49), none, (.op (.ibin .add (.t 35) (.c (.int .i64 1))))⟩, ⟨(some 35), none, (.op (.mv (.t 49)))⟩]
def copyX_l1 : AC := (.seq (.reg copyX_r8) (.seq (.cond (.t 36) .skip (.exit 2)) (.seq (.block 3 (.seq (.reg copyX_r9) (.seq (.reg copyX_r10) (.reg copyX_r11)))) (.reg copyX_r12))))
def copyX_r13 : List AI := [⟨(some 50), none, (.op (.fld 2 (.t 1)))⟩, ⟨(some 51), none, (.op (.load none (.t 50)))⟩, ⟨(some 52), none, (.op (.len (.t 51)))⟩, ⟨(some 53), none, (.op (.mv (.c (.int .i64 0))))⟩]
def copyX_r14 : List AI := [⟨(some 54), none, (.op (.ibin .lss (.t 53) (.t 52)))⟩]
def copyX_r15 : List AI := [⟨(some 55), none, (.op (.idx 3 (.t 51) (.t 53)))⟩, ⟨(some 56), none, (.op (.load (some 3) (.t 55)))⟩, ⟨(some 9), none, (.op (.new 186009 3 (.agg [(.int .i64 0), (.int .i64 0), .nils])))⟩, ⟨none, none, (.op (.store 3 (.t 9) (.t 56)))⟩]
def copyX_r16 : List AI := [⟨(some 57), none, (.op (.fld 2 (.t 3)))⟩, ⟨(some 58), none, (.op (.load none (.t 57)))⟩, ⟨(some 59), none, (.op (.load (some 3) (.t 9)))⟩, ⟨(some 60), none, (.call (.c (.fn 30 [])) [(.t 59)])⟩, ⟨(some 61), none, (.op (.bslm 1000186061 3 40 1 (.agg [(.int .i64 0), (.int .i64 0), .nils]) [(0, (.t 60))]))⟩, ⟨(some 62), none, (.op (.appw 1000186062 3 40 40 (.t 58) (.t 61)))⟩, ⟨(some 63), none, (.op (.fld 2 (.t 3)))⟩, ⟨none, none, (.op (.store 1 (.t 63) (.t 62)))⟩]
def copyX_p16 : List (List Nat) := [[], [0], [], [2], [3, 2], [1, 4, 3, 0, 2], [0, 1, 2, 3, 4, 5], [6, 5, 0, 1, 2, 3, 4]]
def copyX_r17 : List AI := [⟨(some 64), none, (.op (.ibin .add (.t 53) (.c (.int .i64 1))))⟩, ⟨(some 53), none, (.op (.mv (.t 64)))⟩]
def copyX_l2 : AC := (.seq (.reg copyX_r14) (.seq (.cond (.t 54) .skip (.exit 4)) (.seq (.block 5 (.seq (.reg copyX_r15) (.regi copyX_r16 copyX_p16))) (.reg copyX_r17))))
def copyX_r18 : List AI := [⟨(some 65), none, (.op (.load (some 4) (.t 3)))⟩, ⟨none, none, (.op (.store 4 (.t 2) (.t 65)))⟩]
def copyX_c : AC := (.seq (.reg copyX_r0) (.seq (.reg copyX_r1) (.seq (.seq (.reg copyX_r2) (.block 0 (.loop copyX_l0))) (.seq (.seq (.reg copyX_r7) (.block 2 (.loop copyX_l1))) (.seq (.seq (.reg copyX_r13) (.block 4 (.loop copyX_l2))) (.seq (.reg copyX_r18) .ret))))))
def copyX_res : List ARes := [(.cell (some 4) 2)]
set_option maxRecDepth 100000 in
theorem copyX_get : getF Try.prog 9 186000 [(28, 1000000028), (29, 1000000029), (46, 1000000046), (47, 1000000047), (61, 1000000061), (62, 1000000062), (2000005, 1), (2000016, 1)] = some ("gavotte/prog.Copy", 66, copyX_c, copyX_res) := by kernel_rfl
def cloneX_r0 : List AI := [⟨(some 2), none, (.op (.mv (.c .nils)))⟩]
def cloneX_r1 : List AI := [⟨(some 3), none, (.op (.mv (.t 0)))⟩, ⟨(some 4), none, (.nq 0 false (.t 3))⟩]
def cloneX_r2 : List AI := [⟨(some 2), none, (.op (.mv (.c .nils)))⟩]
def cloneX_r3 : List AI := [⟨(some 5), none, (.op (.bslm 1000187005 2 35 0 (.agg [(.int .i64 0), (.int .i64 0)]) []))⟩, ⟨(some 6), none, (.op (.mv (.t 0)))⟩, ⟨(some 7), none, (.op (.appw 1000187005 2 35 16 (.t 5) (.t 6)))⟩, ⟨(some 2), none, (.op (.mv (.t 7)))⟩]
def cloneX_c : AC := (.seq (.reg cloneX_r0) (.seq (.seq (.reg cloneX_r1) (.cond (.t 4) (.seq (.reg cloneX_r2) .ret) .skip)) (.seq (.reg cloneX_r3) .ret)))
def cloneX_res : List ARes := [(.tmp 2)]
set_option maxRecDepth 100000 in
theorem cloneX_get : getF Try.prog 28 187000 [(5, 1000000005), (7, 1000000005)] = some ("slices.Clone[[]gavotte/api.Instr,gavotte/api.Instr]", 8, cloneX_c, cloneX_res) := by kernel_rfl
def cloneY_r0 : List AI := [⟨(some 2), none, (.op (.mv (.c .nils)))⟩]
def cloneY_r1 : List AI := [⟨(some 3), none, (.op (.mv (.t 0)))⟩, ⟨(some 4), none, (.nq 0 false (.t 3))⟩]
def cloneY_r2 : List AI := [⟨(some 2), none, (.op (.mv (.c .nils)))⟩]
def cloneY_r3 : List AI := [⟨(some 5), none, (.op (.bslm 1000188005 1 3 0 (.int .i64 0) []))⟩, ⟨(some 6), none, (.op (.mv (.t 0)))⟩, ⟨(some 7), none, (.op (.appw 1000188005 1 3 8 (.t 5) (.t 6)))⟩, ⟨(some 2), none, (.op (.mv (.t 7)))⟩]
def cloneY_c : AC := (.seq (.reg cloneY_r0) (.seq (.seq (.reg cloneY_r1) (.cond (.t 4) (.seq (.reg cloneY_r2) .ret) .skip)) (.seq (.reg cloneY_r3) .ret)))
def cloneY_res : List ARes := [(.tmp 2)]
set_option maxRecDepth 100000 in
theorem cloneY_get : getF Try.prog 29 188000 [(5, 1000000005), (7, 1000000005)] = some ("slices.Clone[[]int,int]", 8, cloneY_c, cloneY_res) := by kernel_rfl
def copyNoteX_r0 : List AI := [⟨(some 1), none, (.op (.box 189001 3 (.t 0)))⟩, ⟨(some 2), none, (.op (.new 189002 3 (.agg [(.int .i64 0), (.int .i64 0), .nils])))⟩]
def copyNoteX_r1 : List AI := [⟨(some 3), none, (.op (.fld 2 (.t 1)))⟩, ⟨(some 4), none, (.op (.load none (.t 3)))⟩, ⟨(some 5), none, (.call (.c (.fn 29 [])) [(.t 4)])⟩, ⟨(some 6), none, (.op (.fld 2 (.t 1)))⟩, ⟨none, none, (.op (.store 1 (.t 6) (.t 5)))⟩]
def copyNoteX_r2 : List AI := [⟨(some 7), none, (.op (.load (some 3) (.t 1)))⟩, ⟨none, none, (.op (.store 3 (.t 2) (.t 7)))⟩]
def copyNoteX_c : AC := (.seq (.reg copyNoteX_r0) (.seq (.reg copyNoteX_r1) (.seq (.reg copyNoteX_r2) .ret)))
def copyNoteX_res : List ARes := [(.cell (some 3) 2)]
set_option maxRecDepth 100000 in
theorem copyNoteX_get : getF Try.prog 30 189000 [] = some ("gavotte/prog.CopyNote", 8, copyNoteX_c, copyNoteX_res) := by kernel_rfl
attribute [simp] copyX_r0 copyX_r1 copyX_r2 copyX_r3 copyX_r4 copyX_r5 copyX_p5 copyX_r6 copyX_r7 copyX_r8 copyX_r9 copyX_r10 copyX_r11 copyX_r12 copyX_r13 copyX_r14 copyX_r15 copyX_r16 copyX_p16 copyX_r17 copyX_r18 copyX_res cloneX_r0 cloneX_r1 cloneX_r2 cloneX_r3 cloneX_res cloneY_r0 cloneY_r1 cloneY_r2 cloneY_r3 cloneY_res copyNoteX_r0 copyNoteX_r1 copyNoteX_r2 copyNoteX_res


theorem cloneX_v (b : Nat) (hb : 2000000000 ≤ b) (l : List Ins) (h : l.length ≤ 1000) {S : St} {k : AV → St → Prop} {u : Dep k}
    (hk : ∀ r S', MutIs S' b 2 r (l.map Ins.av) → S'.t = S.t → S'.tok = S.tok → S.clk ≤ S'.clk → (∀ n, n ≠ 1000187005 → n ≠ b → S'.blk n = S.blk n) → k r S') :
    CallG Try.prog (.fn 28 []) [.lst 2 (l.map Ins.av)] S k u := by
  refine callMv 1000187005 b (by omega) ?_ hk
  refine callV cloneX_get (by simp) (by simp) ?_
  unfold cloneX_c
  cases l with
  | nil =>
    simp
    refine opG_none _ _ ?_ ?_
    · simp [MutIs]
      omega
    · simp [MutIs]
      exact ⟨by omega, fun n hn => by simp [hn]⟩
  | cons x l =>
    simp at h
    simp
    rw [if_pos (by omega)]
    simp [MutIs]
    exact ⟨by omega, fun n hn => by simp [hn]⟩
theorem cloneY_v (b : Nat) (hb : 2000000000 ≤ b) (l : List Int) (h : l.length ≤ 1000) {S : St} {k : AV → St → Prop} {u : Dep k}
    (hk : ∀ r S', MutIs S' b 1 r (l.map iv) → S'.t = S.t → S'.tok = S.tok → S.clk ≤ S'.clk → (∀ n, n ≠ 1000188005 → n ≠ b → S'.blk n = S.blk n) → k r S') :
    CallG Try.prog (.fn 29 []) [ints l] S k u := by
  refine callMv 1000188005 b (by omega) ?_ hk
  refine callV cloneY_get (by simp) (by simp) ?_
  unfold cloneY_c
  cases l with
  | nil =>
    simp [ints]
    refine opG_none _ _ ?_ ?_
    · simp [MutIs]
      omega
    · simp [MutIs]
      exact ⟨by omega, fun n hn => by simp [hn]⟩
  | cons x l =>
    simp at h
    simp [ints]
    rw [if_pos (by omega)]
    simp [MutIs]
    exact ⟨by omega, fun n hn => by simp [hn]⟩
theorem copyNoteX_v (b : Nat) (hb : 2000000000 ≤ b) (n : Nt) (h : n.args.length ≤ 1000) {S : St} {k : AV → St → Prop} {u : Dep k}
    (hk : ∀ r S', MutIs S' b 1 r (n.args.map iv) → S'.t = S.t → S'.tok = S.tok → S.clk ≤ S'.clk → (∀ m, m ≠ 1000188005 → m ≠ 189001 → m ≠ 189002 → m ≠ b → S'.blk m = S.blk m) → k (.agg [iv n.to, iv n.hd, r]) S') :
    CallG Try.prog (.fn 30 []) [n.av] S k u := by
  refine callV copyNoteX_get (by simp) (by simp) ?_
  unfold copyNoteX_c
  simp
  refine cloneY_v b hb n.args h (fun r S1 hr ht1 hk1 hc1 hb1 => ?_)
  have e1 := hb1 189001 (by simp) (by omega)
  have e2 := hb1 189002 (by simp) (by omega)
  simp at e1 e2
  have h1 := hr.one
  have h2 := hr.cells
  simp [ht1, e1, e2, h1, h2]
  have n1 : b ≠ 189001 := by omega
  have n2 : b ≠ 189002 := by omega
  refine hk _ _ (hr.at (by simp [n1, n2])) rfl (by simp [hk1]) (by simp at hc1 ⊢; omega) (fun m a1 a2 a3 a4 => ?_)
  simp [a2, a3]
  rw [hb1 m a1 a4]
  simp [a2, a3]
def tb5 (p3 p5 p5' : AV) (v0 : AV) (g : Int) (cd v w : AV) : List (Nat × AV) := [(20, p3), (21, v0), (22, p5), (23, iv g), (24, p5'), (25, cd), (26, v), (27, .agg [iv g, v]), (28, w)]
theorem copy5 (b : Nat) (hb : 2000000000 ≤ b) (g : Int) (l : List Ins) (hl : l.length ≤ 1000) (s3 s5 st : Nat) (v0 y1 y2 y3 : AV) (es : List AV) (hes : es.length < 1000) {S : St} {k : St → Prop} {u : Dep k}
    (h3 : S.t 3 = .ptr 186003 s3 4 0 0) (b3 : S.blk 186003 = some ⟨s3, 4, [.agg [v0, y1, y2, y3]]⟩) (h5 : S.t 5 = .ptr 186005 s5 2 0 0) (b5 : S.blk 186005 = some ⟨s5, 2, [.agg [iv g, .lst 2 (l.map Ins.av)]]⟩)
    (hv0 : MutIs S 1000186029 2 v0 es)
    (hk : ∀ S' v v', (∀ x, x < 20 ∨ 30 < x → S'.t x = S.t x) → S'.tok = S.tok → S.clk ≤ S'.clk → (∀ n, n ≠ 1000187005 → n ≠ 1000186028 → n ≠ 1000186029 → n ≠ 186003 → n ≠ b → S'.blk n = S.blk n) →
      S'.blk 186003 = some ⟨s3, 4, [.agg [v', y1, y2, y3]]⟩ → MutIs S' 1000186029 2 v' (es ++ [.agg [iv g, v]]) → MutIs S' b 2 v (l.map Ins.av) → k S') :
    regIG Try.prog copyX_p5 st copyX_r5 S k u := by
  refine regi_cut (copyX_r5.take 9) (copyX_r5.drop 9) rfl (by rfl) ?_
  have n1 : b ≠ 1000187005 := by omega
  have n2 : b ≠ 1000186028 := by omega
  have n3 : b ≠ 1000186029 := by omega
  have n4 : b ≠ 186003 := by omega
  have n5 : b ≠ 186005 := by omega
  generalize hw : AV.sl 1000186028 (st + 8) 2 0 1 = w
  obtain ⟨tbl, htb⟩ : ∃ tbl : AV → List (Nat × AV), tbl = fun v => tb5 (.ptr 186003 s3 4 0 0) (.ptr 186005 s5 2 0 0) (.ptr 186005 s5 2 0 1) v0 g (.lst 2 (l.map Ins.av)) v w := ⟨_, rfl⟩
  have hnd : ∀ v, ((tbl v).map (·.1)).Nodup := by intro v; simp [htb, tb5]
  obtain ⟨I, hI⟩ : ∃ I : (Nat → Bool) → St → Prop, ∀ D S', I D S' ↔ ∃ v, SF (tbl v) D S' ∧ (∀ x, x < 20 ∨ 28 < x → S'.t x = S.t x) ∧ S'.tok = S.tok ∧ S.clk ≤ S'.clk ∧ (∀ n, n ≠ 1000187005 → n ≠ 1000186028 → n ≠ b → S'.blk n = S.blk n) ∧
    (D 6 = true → MutIs S' b 2 v (l.map Ins.av)) ∧ (D 8 = true → S'.blk 1000186028 = some ⟨st + 8, 2, [.agg [iv g, v]]⟩) := ⟨_, fun _ _ => Iff.rfl⟩
  show regI _ _ _ _ _ _
  refine ⟨I, (hI _ _).2 ⟨.nils, SF.start _ _, fun _ _ => rfl, rfl, Nat.le_refl _, fun _ _ _ _ => rfl, by simp, by simp⟩, ?_, ?_⟩
  · rintro D S' j ai hj hDj hpre hcl hi
    obtain ⟨v, hsf, ht, hk, hc, hbk, h6, h8⟩ := (hI _ _).1 hi
    have stp : ∀ (j d : Nat) (val : AV) (op : AOp) (st' : Nat), (tbl v)[j]? = some (d, val) → j ≠ 6 → j ≠ 8 → 20 ≤ d → d ≤ 28 → ex S'.t S'.blk S'.tok st' op = some { v := val } → stepV Try.prog st' ⟨some d, none, .op op⟩ S' (I (fun i => (i == j) || D i)) := by
      intro j d val op st' hj m6 m8 d0 d1 he
      refine stepV_op _ he ((hI _ _).2 ⟨v, hsf.ins (hnd v) hj (upd_same _ _ _) (fun y hy => upd_ne _ _ _ _ hy), fun x hx => (upd_ne _ _ _ _ (by omega)).trans (ht x hx), hk, hc, hbk, fun q => h6 ?_, fun q => h8 ?_⟩)
      · simpa [show (6 == j) = false by simp; omega] using q
      · simpa [show (8 == j) = false by simp; omega] using q
    have t3 := (ht 3 (.inl (by omega))).trans h3
    have t5 := (ht 5 (.inl (by omega))).trans h5
    have c3 := (hbk 186003 (by simp) (by simp) (Ne.symm n4)).trans b3
    have c5 := (hbk 186005 (by simp) (by simp) (Ne.symm n5)).trans b5
    match j, hj, hDj, hpre with
    | 0, hj, hDj, hpre =>
      simp at hj; subst hj
      exact stp 0 20 _ _ _ (by simp [htb, tb5]; rfl) (by simp) (by simp) (by simp) (by simp) (by simp [t3])
    | 1, hj, hDj, hpre =>
      simp at hj hpre; subst hj
      exact stp 1 21 _ _ _ (by simp [htb, tb5]; rfl) (by simp) (by simp) (by simp) (by simp) (by simp [hsf 0 20 _ (by simp [htb, tb5]; rfl) hpre, c3])
    | 2, hj, hDj, hpre =>
      simp at hj hpre; subst hj
      exact stp 2 22 _ _ _ (by simp [htb, tb5]; rfl) (by simp) (by simp) (by simp) (by simp) (by simp [t5])
    | 3, hj, hDj, hpre =>
      simp at hj hpre; subst hj
      exact stp 3 23 _ _ _ (by simp [htb, tb5]; rfl) (by simp) (by simp) (by simp) (by simp) (by simp [hsf 2 22 _ (by simp [htb, tb5]; rfl) hpre, c5])
    | 4, hj, hDj, hpre =>
      simp at hj hpre; subst hj
      exact stp 4 24 _ _ _ (by simp [htb, tb5]; rfl) (by simp) (by simp) (by simp) (by simp) (by simp [t5])
    | 5, hj, hDj, hpre =>
      simp at hj hpre; subst hj
      exact stp 5 25 _ _ _ (by simp [htb, tb5]; rfl) (by simp) (by simp) (by simp) (by simp) (by simp [hsf 4 24 _ (by simp [htb, tb5]; rfl) hpre, c5])
    | 6, hj, hDj, hpre =>
      simp at hj hpre; subst hj
      refine stepV_call ?_
      simp [hsf 5 25 _ (by simp [htb, tb5]; rfl) hpre.1]
      refine cloneX_v b hb l hl (fun r S1 hr ht1 hk1 hc1 hb1 => ?_)
      have f7 : D 7 = false := by
        cases hx : D 7 with
        | false => rfl
        | true => have := hcl 7 hx 6 (by simp); rw [hDj] at this; cases this
      have f8 : D 8 = false := by
        cases hx : D 8 with
        | false => rfl
        | true => have := hcl 8 hx 6 (by simp); rw [hDj] at this; cases this
      have hsr : SF (tbl r) D S' := by
        intro j' d' v' hj' hD'
        refine hsf j' d' v' ?_ hD'
        rw [htb] at hj' ⊢
        match j', hj', hD' with
        | 0, hj', _ => exact hj'
        | 1, hj', _ => exact hj'
        | 2, hj', _ => exact hj'
        | 3, hj', _ => exact hj'
        | 4, hj', _ => exact hj'
        | 5, hj', _ => exact hj'
        | 6, _, hD' => rw [hDj] at hD'; cases hD'
        | 7, _, hD' => rw [f7] at hD'; cases hD'
        | 8, _, hD' => rw [f8] at hD'; cases hD'
        | j + 9, hj', _ => simp [tb5] at hj'
      refine (hI _ _).2 ⟨r, hsr.ins (hnd r) (j := 6) (d := 26) (v := r) (by simp [htb, tb5]) (by simp) (fun y hy => by simp [hy, ht1]), fun x hx => ?_, hk1.trans hk, by simp; omega, fun n a1 a2 a3 => ?_, fun _ => hr.at rfl, fun q => ?_⟩
      · have : x ≠ 26 := by omega
        simp [this, ht1, ht x hx]
      · simp
        rw [hb1 n a1 a3, hbk n a1 a2 a3]
      · simp [f8] at q
    | 7, hj, hDj, hpre =>
      simp at hj hpre; subst hj
      exact stp 7 27 _ _ _ (by simp [htb, tb5]; rfl) (by simp) (by simp) (by simp) (by simp) (by simp [hsf 3 23 _ (by simp [htb, tb5]; rfl) hpre.1, hsf 6 26 _ (by simp [htb, tb5]; rfl) hpre.2.1, (h6 hpre.2.1).one, (h6 hpre.2.1).cells])
    | 8, hj, hDj, hpre =>
      simp at hj hpre; subst hj
      refine stepV_op { v := w, wb := [(1000186028, some ⟨st + 8, 2, [.agg [iv g, v]]⟩)] } (by simp [hsf 7 27 _ (by simp [htb, tb5]; rfl) hpre.1, (h6 hpre.2.2.1).one, hw]) ?_
      refine (hI _ _).2 ⟨v, hsf.ins (hnd v) (j := 8) (d := 28) (v := w) (by simp [htb, tb5]) (by simp [St.app]) (fun y hy => by simp [St.app, hy]), fun x hx => ?_, hk, hc, fun n a1 a2 a3 => ?_, fun q => (h6 hpre.2.2.1).at ?_, fun _ => ?_⟩
      · have : x ≠ 28 := by omega
        simp [St.app, this, ht x hx]
      · simp [St.app, appB, a2]
        exact hbk n a1 a2 a3
      · simp [St.app, appB, n2]
      · simp [St.app, appB]
    | j + 9, hj, hDj, hpre => simp at hj
  · rintro D S' hD hi
    obtain ⟨v, hsf, ht, hk', hc, hbk, h6, h8⟩ := (hI _ _).1 hi
    have e3 := (ht 3 (.inl (by omega))).trans h3
    have c3 := (hbk 186003 (by simp) (by simp) (Ne.symm n4)).trans b3
    have e21 := hsf 1 21 _ (by simp [htb, tb5]; rfl) (hD 1 (by simp))
    have e28 := hsf 8 28 _ (by simp [htb, tb5]; rfl) (hD 8 (by simp))
    have hw8 := h8 (hD 8 (by simp))
    have hv := h6 (hD 6 (by simp))
    have hN := hbk 1000186029 (by simp) (by simp) (Ne.symm n3)
    subst hw
    have hbd : (es.length + 1) * 32 ≤ 140737488355328 := by omega
    rcases hv0 with ⟨rfl, rfl⟩ | ⟨s0, rfl, hv1⟩
    · simp [e3, e21, e28, c3, hw8]
      refine hk _ v _ (fun x hx => ?_) hk' hc (fun n a1 a2 a3 a4 a5 => ?_) (by simp; rfl) (.inr ⟨st + 9, by simp, by simp⟩) (hv.at (by simp [n3, n4]))
      · have m1 : x ≠ 29 := by omega
        have m2 : x ≠ 30 := by omega
        simp [m1, m2]
        exact ht x (by omega)
      · simp [a3, a4]
        exact hbk n a1 a2 a5
    · simp [e3, e21, e28, c3, hw8, hv1, hN]
      rw [if_pos hbd]
      simp [e3, c3]
      refine hk _ v _ (fun x hx => ?_) hk' hc (fun n a1 a2 a3 a4 a5 => ?_) (by simp; rfl) (.inr ⟨st + 9, by simp, by simp⟩) (hv.at (by simp [n3, n4]))
      · have m1 : x ≠ 29 := by omega
        have m2 : x ≠ 30 := by omega
        simp [m1, m2]
        exact ht x (by omega)
      · simp [a3, a4]
        exact hbk n a1 a2 a5
def tb16 (p3 v0 x v w : AV) : List (Nat × AV) := [(57, p3), (58, v0), (59, x), (60, v), (61, w)]
theorem copy16 (b : Nat) (hb : 2000000000 ≤ b) (n : Nt) (hl : n.args.length ≤ 1000) (s3 s9 st : Nat) (v0 y0 y1 y3 : AV) (es : List AV) (hes : es.length < 1000) {S : St} {k : St → Prop} {u : Dep k}
    (h3 : S.t 3 = .ptr 186003 s3 4 0 0) (b3 : S.blk 186003 = some ⟨s3, 4, [.agg [y0, y1, v0, y3]]⟩) (h9 : S.t 9 = .ptr 186009 s9 3 0 0) (b9 : S.blk 186009 = some ⟨s9, 3, [n.av]⟩)
    (hv0 : MutIs S 1000186062 3 v0 es)
    (hk : ∀ S' v v', (∀ x, x < 57 ∨ 63 < x → S'.t x = S.t x) → S'.tok = S.tok → S.clk ≤ S'.clk → (∀ m, m ≠ 1000188005 → m ≠ 189001 → m ≠ 189002 → m ≠ 1000186061 → m ≠ 1000186062 → m ≠ 186003 → m ≠ b → S'.blk m = S.blk m) →
      S'.blk 186003 = some ⟨s3, 4, [.agg [y0, y1, v', y3]]⟩ → MutIs S' 1000186062 3 v' (es ++ [.agg [iv n.to, iv n.hd, v]]) → MutIs S' b 1 v (n.args.map iv) → k S') :
    regIG Try.prog copyX_p16 st copyX_r16 S k u := by
  refine regi_cut (copyX_r16.take 5) (copyX_r16.drop 5) rfl (by rfl) ?_
  have n1 : b ≠ 1000188005 := by omega
  have n2 : b ≠ 1000186061 := by omega
  have n3 : b ≠ 1000186062 := by omega
  have n4 : b ≠ 186003 := by omega
  have n5 : b ≠ 186009 := by omega
  have n6 : b ≠ 189001 := by omega
  have n7 : b ≠ 189002 := by omega
  generalize hw : AV.sl 1000186061 (st + 4) 3 0 1 = w
  obtain ⟨tbl, htb⟩ : ∃ tbl : AV → List (Nat × AV), tbl = fun v => tb16 (.ptr 186003 s3 4 0 2) v0 n.av (.agg [iv n.to, iv n.hd, v]) w := ⟨_, rfl⟩
  have hnd : ∀ v, ((tbl v).map (·.1)).Nodup := by intro v; simp [htb, tb16]
  obtain ⟨I, hI⟩ : ∃ I : (Nat → Bool) → St → Prop, ∀ D S', I D S' ↔ ∃ v, SF (tbl v) D S' ∧ (∀ x, x < 57 ∨ 61 < x → S'.t x = S.t x) ∧ S'.tok = S.tok ∧ S.clk ≤ S'.clk ∧ (∀ m, m ≠ 1000188005 → m ≠ 189001 → m ≠ 189002 → m ≠ 1000186061 → m ≠ b → S'.blk m = S.blk m) ∧
    (D 3 = true → MutIs S' b 1 v (n.args.map iv)) ∧ (D 4 = true → S'.blk 1000186061 = some ⟨st + 4, 3, [.agg [iv n.to, iv n.hd, v]]⟩) := ⟨_, fun _ _ => Iff.rfl⟩
  show regI _ _ _ _ _ _
  refine ⟨I, (hI _ _).2 ⟨.nils, SF.start _ _, fun _ _ => rfl, rfl, Nat.le_refl _, fun _ _ _ _ _ _ => rfl, by simp, by simp⟩, ?_, ?_⟩
  · rintro D S' j ai hj hDj hpre hcl hi
    obtain ⟨v, hsf, ht, hk, hc, hbk, h6, h8⟩ := (hI _ _).1 hi
    have stp : ∀ (j d : Nat) (val : AV) (op : AOp) (st' : Nat), (tbl v)[j]? = some (d, val) → j ≠ 3 → j ≠ 4 → 57 ≤ d → d ≤ 61 → ex S'.t S'.blk S'.tok st' op = some { v := val } → stepV Try.prog st' ⟨some d, none, .op op⟩ S' (I (fun i => (i == j) || D i)) := by
      intro j d val op st' hj m6 m8 d0 d1 he
      refine stepV_op _ he ((hI _ _).2 ⟨v, hsf.ins (hnd v) hj (upd_same _ _ _) (fun y hy => upd_ne _ _ _ _ hy), fun x hx => (upd_ne _ _ _ _ (by omega)).trans (ht x hx), hk, hc, hbk, fun q => h6 ?_, fun q => h8 ?_⟩)
      · simpa [show (3 == j) = false by simp; omega] using q
      · simpa [show (4 == j) = false by simp; omega] using q
    have t3 := (ht 3 (.inl (by omega))).trans h3
    have t9 := (ht 9 (.inl (by omega))).trans h9
    have c3 := (hbk 186003 (by simp) (by simp) (by simp) (by simp) (Ne.symm n4)).trans b3
    have c9 := (hbk 186009 (by simp) (by simp) (by simp) (by simp) (Ne.symm n5)).trans b9
    match j, hj, hDj, hpre with
    | 0, hj, hDj, hpre =>
      simp at hj; subst hj
      exact stp 0 57 _ _ _ (by simp [htb, tb16]; rfl) (by simp) (by simp) (by simp) (by simp) (by simp [t3])
    | 1, hj, hDj, hpre =>
      simp at hj hpre; subst hj
      exact stp 1 58 _ _ _ (by simp [htb, tb16]; rfl) (by simp) (by simp) (by simp) (by simp) (by simp [hsf 0 57 _ (by simp [htb, tb16]; rfl) hpre, c3])
    | 2, hj, hDj, hpre =>
      simp at hj hpre; subst hj
      exact stp 2 59 _ _ _ (by simp [htb, tb16]; rfl) (by simp) (by simp) (by simp) (by simp) (by simp [t9, c9])
    | 3, hj, hDj, hpre =>
      simp at hj hpre; subst hj
      refine stepV_call ?_
      have e59 := hsf 2 59 _ (by simp [htb, tb16]; rfl) hpre
      simp only [List.map_cons, List.map_nil, X.ev, e59]
      refine copyNoteX_v b hb n hl (fun r S1 hr ht1 hk1 hc1 hb1 => ?_)
      have f8 : D 4 = false := by
        cases hx : D 4 with
        | false => rfl
        | true => have := hcl 4 hx 3 (by simp); rw [hDj] at this; cases this
      have hsr : SF (tbl r) D S' := by
        intro j' d' v' hj' hD'
        refine hsf j' d' v' ?_ hD'
        rw [htb] at hj' ⊢
        match j', hj', hD' with
        | 0, hj', _ => exact hj'
        | 1, hj', _ => exact hj'
        | 2, hj', _ => exact hj'
        | 3, _, hD' => rw [hDj] at hD'; cases hD'
        | 4, _, hD' => rw [f8] at hD'; cases hD'
        | j + 5, hj', _ => simp [tb16] at hj'
      refine (hI _ _).2 ⟨r, hsr.ins (hnd r) (j := 3) (d := 60) (v := .agg [iv n.to, iv n.hd, r]) (by simp [htb, tb16]) (by simp) (fun y hy => by simp [hy, ht1]), fun x hx => ?_, hk1.trans hk, by simp; omega, fun m a1 a2 a3 a4 a5 => ?_, fun _ => hr.at rfl, fun q => ?_⟩
      · have : x ≠ 60 := by omega
        simp [this, ht1, ht x hx]
      · simp
        rw [hb1 m a1 a2 a3 a5, hbk m a1 a2 a3 a4 a5]
      · simp [f8] at q
    | 4, hj, hDj, hpre =>
      simp at hj hpre; subst hj
      refine stepV_op { v := w, wb := [(1000186061, some ⟨st + 4, 3, [.agg [iv n.to, iv n.hd, v]]⟩)] } (by simp [hsf 3 60 _ (by simp [htb, tb16]; rfl) hpre.1, (h6 hpre.1).one, hw]) ?_
      refine (hI _ _).2 ⟨v, hsf.ins (hnd v) (j := 4) (d := 61) (v := w) (by simp [htb, tb16]) (by simp [St.app]) (fun y hy => by simp [St.app, hy]), fun x hx => ?_, hk, hc, fun m a1 a2 a3 a4 a5 => ?_, fun q => (h6 hpre.1).at ?_, fun _ => ?_⟩
      · have : x ≠ 61 := by omega
        simp [St.app, this, ht x hx]
      · simp [St.app, appB, a4]
        exact hbk m a1 a2 a3 a4 a5
      · simp [St.app, appB, n2]
      · simp [St.app, appB]
    | j + 5, hj, hDj, hpre => simp at hj
  · rintro D S' hD hi
    obtain ⟨v, hsf, ht, hk', hc, hbk, h6, h8⟩ := (hI _ _).1 hi
    have e3 := (ht 3 (.inl (by omega))).trans h3
    have c3 := (hbk 186003 (by simp) (by simp) (by simp) (by simp) (Ne.symm n4)).trans b3
    have e21 := hsf 1 58 _ (by simp [htb, tb16]; rfl) (hD 1 (by simp))
    have e28 := hsf 4 61 _ (by simp [htb, tb16]; rfl) (hD 4 (by simp))
    have hw8 := h8 (hD 4 (by simp))
    have hv := h6 (hD 3 (by simp))
    have hN := hbk 1000186062 (by simp) (by simp) (by simp) (by simp) (Ne.symm n3)
    subst hw
    have hbd : (es.length + 1) * 40 ≤ 140737488355328 := by omega
    rcases hv0 with ⟨rfl, rfl⟩ | ⟨s0, rfl, hv1⟩
    · simp [e3, e21, e28, c3, hw8]
      refine hk _ v _ (fun x hx => ?_) hk' hc (fun m a1 a2 a3 a4 a5 a6 a7 => ?_) (by simp; rfl) (.inr ⟨st + 5, by simp, by simp⟩) (hv.at (by simp [n3, n4]))
      · have m1 : x ≠ 62 := by omega
        have m2 : x ≠ 63 := by omega
        simp [m1, m2]
        exact ht x (by omega)
      · simp [a5, a6]
        exact hbk m a1 a2 a3 a4 a7
    · simp [e3, e21, e28, c3, hw8, hv1, hN]
      rw [if_pos hbd]
      simp [e3, c3]
      refine hk _ v _ (fun x hx => ?_) hk' hc (fun m a1 a2 a3 a4 a5 a6 a7 => ?_) (by simp; rfl) (.inr ⟨st + 5, by simp, by simp⟩) (hv.at (by simp [n3, n4]))
      · have m1 : x ≠ 62 := by omega
        have m2 : x ≠ 63 := by omega
        simp [m1, m2]
        exact ht x (by omega)
      · simp [a5, a6]
        exact hbk m a1 a2 a3 a4 a7

end Go.Gv

/- Copy's loops: a program of the caller's own, with each list by a name. Lists of at most 1000. -/
set_option linter.unusedVariables false
set_option linter.unusedSimpArgs false
namespace Go.Gv
open Go.Proofs


/-- A list each part of which holds a list of its own: the j-th one by the name base + j. -/
def Deep {α : Type} (S : St) (base sz : Nat) (cell : α → AV → AV) (inner : α → List AV) (xs : List α) (es : List AV) : Prop :=
  es.length = xs.length ∧ ∀ j x, xs[j]? = some x → ∃ w, es[j]? = some (cell x w) ∧ MutIs S (base + j) sz w (inner x)
theorem Deep.nil {α : Type} {S : St} {base sz : Nat} {cell : α → AV → AV} {inner : α → List AV} : Deep S base sz cell inner [] [] := ⟨rfl, fun j x h => by simp at h⟩
theorem Deep.at {α : Type} {S S' : St} {base sz : Nat} {cell : α → AV → AV} {inner : α → List AV} {xs : List α} {es : List AV} (h : Deep S base sz cell inner xs es) (hb : ∀ j, j < xs.length → S'.blk (base + j) = S.blk (base + j)) : Deep S' base sz cell inner xs es := by
  refine ⟨h.1, fun j x hx => ?_⟩
  obtain ⟨w, h1, h2⟩ := h.2 j x hx
  exact ⟨w, h1, h2.at (hb j (List.getElem?_eq_some_iff.1 hx).1)⟩
theorem Deep.snoc {α : Type} {S : St} {base sz : Nat} {cell : α → AV → AV} {inner : α → List AV} {xs : List α} {es : List AV} (h : Deep S base sz cell inner xs es) (x : α) (w : AV) (hw : MutIs S (base + xs.length) sz w (inner x)) : Deep S base sz cell inner (xs ++ [x]) (es ++ [cell x w]) := by
  refine ⟨by simp [h.1], fun j y hy => ?_⟩
  by_cases hj : j < xs.length
  · rw [List.getElem?_append_left hj] at hy
    obtain ⟨w', h1, h2⟩ := h.2 j y hy
    exact ⟨w', by rw [List.getElem?_append_left (by rw [h.1]; exact hj)]; exact h1, h2⟩
  · have hl := (List.getElem?_eq_some_iff.1 hy).1
    simp at hl
    have e : j = xs.length := by omega
    subst e
    rw [List.getElem?_append_right (Nat.le_refl _)] at hy
    simp at hy
    subst hy
    exact ⟨w, by rw [List.getElem?_append_right (by rw [h.1]; exact Nat.le_refl _), h.1]; simp, hw⟩
def cellH (h : Hnd) (w : AV) : AV := .agg [iv h.args, w]
def cellA (a : Actr) (w : AV) : AV := .agg [w, iv a.cap, iv a.timer, .bool a.armed]
def cellN (n : Nt) (w : AV) : AV := .agg [iv n.to, iv n.hd, w]
def innH (h : Hnd) : List AV := h.code.map Ins.av
def innA (a : Actr) : List AV := a.regs.map iv
def innN (n : Nt) : List AV := n.args.map iv
/-- A program's parts, each by its name. -/
structure CParts (S : St) (hs : List Hnd) (ats : List Actr) (bs : List Nt) (vh va vb : AV) (eh ea eb : List AV) : Prop where
  h : MutIs S 1000186029 2 vh eh
  a : MutIs S 1000186047 4 va ea
  b : MutIs S 1000186062 3 vb eb
  dh : Deep S 2000000000 2 cellH innH hs eh
  da : Deep S 2000010000 1 cellA innA ats ea
  db : Deep S 2000020000 1 cellN innN bs eb
theorem CParts.at {S S' : St} {hs : List Hnd} {ats : List Actr} {bs : List Nt} {vh va vb : AV} {eh ea eb : List AV} (h : CParts S hs ats bs vh va vb eh ea eb) (h1 : S'.blk 1000186029 = S.blk 1000186029) (h2 : S'.blk 1000186047 = S.blk 1000186047) (h3 : S'.blk 1000186062 = S.blk 1000186062)
    (hb : ∀ j, 2000000000 ≤ j → S'.blk j = S.blk j) : CParts S' hs ats bs vh va vb eh ea eb :=
  ⟨h.h.at h1, h.a.at h2, h.b.at h3, h.dh.at fun j _ => hb _ (by omega), h.da.at fun j _ => hb _ (by omega), h.db.at fun j _ => hb _ (by omega)⟩
structure CI (S0 S : St) (p : Prg) (hs : List Hnd) (ats : List Actr) (bs : List Nt) : Prop where
  p1 : ∃ st, S.t 1 = .ptr 186001 st 4 0 0 ∧ S.blk 186001 = some ⟨st, 4, [p.av]⟩
  p2 : ∃ st, S.t 2 = .ptr 186002 st 4 0 0 ∧ S.blk 186002 = some ⟨st, 4, [.agg [.nils, .nils, .nils, iv 0]]⟩
  p3 : ∃ st vh va vb eh ea eb, S.t 3 = .ptr 186003 st 4 0 0 ∧ S.blk 186003 = some ⟨st, 4, [.agg [vh, va, vb, iv p.fuel]]⟩ ∧ CParts S hs ats bs vh va vb eh ea eb
  tok : S.tok = S0.tok
  clk : S0.clk ≤ S.clk
  fr : ∀ n, 190000 ≤ n → n < 200000 → S.blk n = S0.blk n
theorem copyX_v (p : Prg) (hp : fitP p) {S : St} {k : AV → St → Prop} {u : Dep k}
    (hk : ∀ S' vh va vb eh ea eb, S'.t = S.t → S'.tok = S.tok → S.clk ≤ S'.clk → (∀ n, 190000 ≤ n → n < 200000 → S'.blk n = S.blk n) → CParts S' p.hs p.as p.boot vh va vb eh ea eb → k (.agg [vh, va, vb, iv p.fuel]) S') :
    CallG Try.prog (.fn 9 []) [p.av] S k u := by
  obtain ⟨q1, q2, q3, q4, q5, q6⟩ := hp
  refine callV copyX_get (by simp) (by simp) ?_
  unfold copyX_c
  simp
  refine loopN (fun i S' => CI S S' p (p.hs.take i) [] [] ∧ S'.t 14 = .lst 2 (p.hs.map Hnd.av) ∧ S'.t 15 = iv p.hs.length ∧ S'.t 16 = iv i) p.hs.length ?_ ?_
  · refine ⟨⟨⟨_, by simp; rfl, by simp⟩, ⟨_, by simp; rfl, by simp⟩, ⟨_, .nils, .nils, .nils, [], [], [], by simp; rfl, by simp, ⟨.inl ⟨rfl, rfl⟩, .inl ⟨rfl, rfl⟩, .inl ⟨rfl, rfl⟩, by simpa using Deep.nil, .nil, .nil⟩⟩, by simp, by simp; omega, fun n a1 a2 => ?_⟩, by simp, by simp, by simp⟩
    simp [show n ≠ 186001 by omega, show n ≠ 186002 by omega, show n ≠ 186003 by omega]
  · rintro i S' hi ⟨⟨⟨s1, g1, b1⟩, ⟨s2, g2, b2⟩, ⟨s3, vh, va, vb, eh, ea, eb, g3, b3, hP⟩, hk1, hc1, hf1⟩, g14, g15, g16⟩
    by_cases hlt : i < p.hs.length
    · simp [copyX_l0, g1, g2, g3, b1, b2, b3, g14, g15, g16, hlt]
      have ws := wrap_succ i _ hlt (by omega)
      have hel := hP.dh.1
      rw [List.length_take, Nat.min_eq_left (by omega)] at hel
      refine copy5 (2000000000 + i) (by omega) p.hs[i].args p.hs[i].code (q4 _ (List.getElem_mem hlt)) s3 (S'.clk + 1 + 1 + 1) _ vh va vb (iv p.fuel) eh (by omega) (by simp [g3]) (by simp [b3]) (by simp) (by simp) (hP.h.at (by simp)) (fun S1 v v' ht1 hk2 hc2 hb2 b3' hM hI => ?_)
      have ht : ∀ x, x < 17 → x ≠ 5 → S1.t x = S'.t x := by
        intro x h1 h2
        rw [ht1 x (.inl (by omega))]
        simp [show x ≠ 17 by omega, show x ≠ 18 by omega, show x ≠ 19 by omega, h2]
      have hb : ∀ n, n ≠ 1000187005 → n ≠ 1000186028 → n ≠ 1000186029 → n ≠ 186003 → n ≠ 2000000000 + i → n ≠ 186005 → S1.blk n = S'.blk n := by
        intro n a1 a2 a3 a4 a5 a6
        rw [hb2 n a1 a2 a3 a4 a5]
        simp [a6]
      clear hb2 ht1
      simp [ht 16 (by simp) (by simp), g16, ws]
      refine ⟨⟨⟨s1, by simp [ht 1 (by simp) (by simp), g1], by simp; rw [hb 186001 (by simp) (by simp) (by simp) (by simp) (by omega) (by simp)]; exact b1⟩, ⟨s2, by simp [ht 2 (by simp) (by simp), g2], by simp; rw [hb 186002 (by simp) (by simp) (by simp) (by simp) (by omega) (by simp)]; exact b2⟩,
        ⟨s3, v', va, vb, _, ea, eb, by simp [ht 3 (by simp) (by simp), g3], by simp [b3'], ⟨hM.at rfl, hP.a.at (hb _ (by simp) (by simp) (by simp) (by simp) (by omega) (by simp)), hP.b.at (hb _ (by simp) (by simp) (by simp) (by simp) (by omega) (by simp)), ?_, hP.da.at (fun j hj => by simp at hj), hP.db.at (fun j hj => by simp at hj)⟩⟩, ?_, ?_, fun n a1 a2 => ?_⟩, ?_, ?_⟩
      · rw [List.take_succ_eq_append_getElem hlt]
        refine (hP.dh.at fun j hj => ?_).snoc p.hs[i] v ?_
        · rw [List.length_take] at hj
          exact hb _ (by omega) (by omega) (by omega) (by omega) (by omega) (by omega)
        · rw [List.length_take, Nat.min_eq_left (by omega)]
          exact hI.at rfl
      · have := hk2.trans hk1
        simpa using this
      · simp at hc2 ⊢; omega
      · simp
        rw [hb n (by omega) (by omega) (by omega) (by omega) (by omega) (by omega)]
        exact hf1 n a1 a2
      · rw [ht 14 (by simp) (by simp), g14]
      · rw [ht 15 (by simp) (by simp), g15]
    · have e1 : i = p.hs.length := by omega
      subst e1
      simp [copyX_l0, g1, g2, g3, b1, b2, b3, g14, g15, g16]
      rw [List.take_of_length_le (Nat.le_refl _)] at hP
      refine loopN (fun i S' => CI S S' p p.hs (p.as.take i) [] ∧ S'.t 33 = .lst 4 (p.as.map Actr.av) ∧ S'.t 34 = iv p.as.length ∧ S'.t 35 = iv i) p.as.length ?_ ?_
      · exact ⟨⟨⟨s1, by simp [g1], by simp [b1]⟩, ⟨s2, by simp [g2], by simp [b2]⟩, ⟨s3, vh, va, vb, eh, ea, eb, by simp [g3], by simp [b3], hP.at rfl rfl rfl (fun _ _ => rfl)⟩, by simp [hk1], by simp; omega, fun n a1 a2 => by simp [hf1 n a1 a2]⟩, by simp, by simp, by simp⟩
      · clear g1 g2 g3 b1 b2 b3 g14 g15 g16 hP hk1 hc1 hf1 s1 s2 s3 vh va vb eh ea eb hi hlt S'
        rintro i S' hi ⟨⟨⟨s1, g1, b1⟩, ⟨s2, g2, b2⟩, ⟨s3, vh, va, vb, eh, ea, eb, g3, b3, hP⟩, hk1, hc1, hf1⟩, g14, g15, g16⟩
        have o1 := hP.h.one
        have o2 := hP.h.cells
        have o3 := hP.b.one
        have o4 := hP.b.cells
        by_cases hlt : i < p.as.length
        · simp [copyX_l1, g1, g2, g3, b1, b2, b3, g14, g15, g16, hlt]
          have ws := wrap_succ i _ hlt (by omega)
          have hel := hP.da.1
          rw [List.length_take, Nat.min_eq_left (by omega)] at hel
          refine cloneY_v (2000010000 + i) (by omega) p.as[i].regs (q5 _ (List.getElem_mem hlt)) (fun v S1 hv ht1 hk2 hc2 hb2 => ?_)
          have h7 : S1.t 7 = .ptr 186007 (S'.clk + 1 + 1 + 1) 4 0 0 := by rw [ht1]; simp
          have b7 : S1.blk 186007 = some ⟨S'.clk + 1 + 1 + 1, 4, [.agg [ints p.as[i].regs, iv p.as[i].cap, iv p.as[i].timer, .bool p.as[i].armed]]⟩ := by rw [hb2 _ (by simp) (by omega)]; simp
          have ht : ∀ x, x < 36 → x ≠ 7 → S1.t x = S'.t x := by
            intro x h1 h2
            rw [ht1]
            simp [show x ≠ 36 by omega, show x ≠ 37 by omega, show x ≠ 38 by omega, show x ≠ 39 by omega, show x ≠ 40 by omega, h2]
          have hb : ∀ n, n ≠ 1000188005 → n ≠ 2000010000 + i → n ≠ 186007 → S1.blk n = S'.blk n := by
            intro n a1 a2 a3
            rw [hb2 n a1 a2]
            simp [a3]
          replace hk2 : S1.tok = S'.tok := hk2
          replace hc2 : S'.clk + 1 + 4 + 5 ≤ S1.clk := hc2
          clear hb2 ht1
          have c3 := hb 186003 (by simp) (by omega) (by simp)
          have cN := hb 1000186047 (by simp) (by omega) (by simp)
          have hbd : (ea.length + 1) * 48 ≤ 140737488355328 := by omega
          have v1 := hv.one
          have v2 := hv.cells
          have fin : ∀ S2 : St, (∀ x, x < 35 → S2.t x = S1.t x) → S2.tok = S1.tok → S1.clk ≤ S2.clk → (∀ n, n ≠ 1000186046 → n ≠ 1000186047 → n ≠ 186003 → n ≠ 186007 → S2.blk n = S1.blk n) → (∃ va', S2.blk 186003 = some ⟨s3, 4, [.agg [vh, va', vb, iv p.fuel]]⟩ ∧ MutIs S2 1000186047 4 va' (ea ++ [cellA p.as[i] v])) →
              CI S S2 p p.hs (p.as.take (i + 1)) [] ∧ S1.t 33 = .lst 4 (p.as.map Actr.av) ∧ S1.t 34 = iv p.as.length := by
            rintro S2 m1 m3 m4 m5 ⟨va', m6, m7⟩
            have e : ∀ n, n ≠ 1000188005 → n ≠ 2000010000 + i → n ≠ 186007 → n ≠ 1000186046 → n ≠ 1000186047 → n ≠ 186003 → S2.blk n = S'.blk n := fun n a1 a2 a3 a4 a5 a6 => (m5 n a4 a5 a6 a3).trans (hb n a1 a2 a3)
            refine ⟨⟨⟨s1, by rw [m1 1 (by simp), ht 1 (by simp) (by simp), g1], (e _ (by simp) (by omega) (by simp) (by simp) (by simp) (by simp)).trans b1⟩, ⟨s2, by rw [m1 2 (by simp), ht 2 (by simp) (by simp), g2], (e _ (by simp) (by omega) (by simp) (by simp) (by simp) (by simp)).trans b2⟩,
              ⟨s3, vh, va', vb, eh, _, eb, by rw [m1 3 (by simp), ht 3 (by simp) (by simp), g3], m6, ⟨hP.h.at (e _ (by simp) (by omega) (by simp) (by simp) (by simp) (by simp)), m7, hP.b.at (e _ (by simp) (by omega) (by simp) (by simp) (by simp) (by simp)), hP.dh.at (fun j hj => e _ (by omega) (by omega) (by omega) (by omega) (by omega) (by omega)), ?_, hP.db.at (fun j hj => by simp at hj)⟩⟩,
              m3.trans (hk2.trans hk1), by omega, fun n a1 a2 => (e n (by omega) (by omega) (by omega) (by omega) (by omega) (by omega)).trans (hf1 n a1 a2)⟩, by rw [ht 33 (by simp) (by simp), g14], by rw [ht 34 (by simp) (by simp), g15]⟩
            rw [List.take_succ_eq_append_getElem hlt]
            refine (hP.da.at fun j hj => ?_).snoc p.as[i] v ?_
            · rw [List.length_take] at hj
              exact e _ (by omega) (by omega) (by omega) (by omega) (by omega) (by omega)
            · rw [List.length_take, Nat.min_eq_left (by omega)]
              exact hv.at (m5 _ (by omega) (by omega) (by omega) (by omega))
          rcases hP.a with ⟨rfl, rfl⟩ | ⟨s4, rfl, hx⟩
          · simp [h7, b7, ht 3, g3, c3, b3, ht 35, g16, ws, v1, v2, o1, o2, o3, o4]
            refine fin _ (fun x hx => ?_) rfl (by simp; omega) (fun n a1 a2 a3 a4 => by simp [a1, a2, a3, a4]) ⟨_, by simp; rfl, .inr ⟨S1.clk + 1 + 1 + 1 + 1, by simp, by simp [cellA]⟩⟩
            simp [show x ≠ 35 by omega, show x ≠ 41 by omega, show x ≠ 42 by omega, show x ≠ 43 by omega, show x ≠ 44 by omega, show x ≠ 45 by omega, show x ≠ 46 by omega, show x ≠ 47 by omega, show x ≠ 48 by omega, show x ≠ 49 by omega]
          · simp [h7, b7, ht 3, g3, c3, b3, ht 35, g16, ws, v1, v2, o1, o2, o3, o4, cN, hx, hbd]
            refine fin _ (fun x hx => ?_) rfl (by simp; omega) (fun n a1 a2 a3 a4 => by simp [a1, a2, a3, a4]) ⟨_, by simp; rfl, .inr ⟨S1.clk + 1 + 1 + 1 + 1, by simp, by simp [cellA]⟩⟩
            simp [show x ≠ 35 by omega, show x ≠ 41 by omega, show x ≠ 42 by omega, show x ≠ 43 by omega, show x ≠ 44 by omega, show x ≠ 45 by omega, show x ≠ 46 by omega, show x ≠ 47 by omega, show x ≠ 48 by omega, show x ≠ 49 by omega]
        · have e1 : i = p.as.length := by omega
          subst e1
          simp [copyX_l1, g1, g2, g3, b1, b2, b3, g14, g15, g16]
          rw [List.take_of_length_le (Nat.le_refl _)] at hP
          refine loopN (fun i S' => CI S S' p p.hs p.as (p.boot.take i) ∧ S'.t 51 = .lst 3 (p.boot.map Nt.av) ∧ S'.t 52 = iv p.boot.length ∧ S'.t 53 = iv i) p.boot.length ?_ ?_
          · exact ⟨⟨⟨s1, by simp [g1], by simp [b1]⟩, ⟨s2, by simp [g2], by simp [b2]⟩, ⟨s3, vh, va, vb, eh, ea, eb, by simp [g3], by simp [b3], hP.at rfl rfl rfl (fun _ _ => rfl)⟩, by simp [hk1], by simp; omega, fun n a1 a2 => by simp [hf1 n a1 a2]⟩, by simp, by simp, by simp⟩
          · clear g1 g2 g3 b1 b2 b3 g14 g15 g16 hP hk1 hc1 hf1 o1 o2 o3 o4 s1 s2 s3 vh va vb eh ea eb hi hlt S'
            rintro i S' hi ⟨⟨⟨s1, g1, b1⟩, ⟨s2, g2, b2⟩, ⟨s3, vh, va, vb, eh, ea, eb, g3, b3, hP⟩, hk1, hc1, hf1⟩, g14, g15, g16⟩
            by_cases hlt : i < p.boot.length
            · simp [copyX_l2, g1, g2, g3, b1, b2, b3, g14, g15, g16, hlt]
              have ws := wrap_succ i _ hlt (by omega)
              have hel := hP.db.1
              rw [List.length_take, Nat.min_eq_left (by omega)] at hel
              refine copy16 (2000020000 + i) (by omega) p.boot[i] (q6 _ (List.getElem_mem hlt)) s3 (S'.clk + 1 + 1 + 1) _ vb vh va (iv p.fuel) eb (by omega) (by simp [g3]) (by simp [b3]) (by simp) (by simp) (hP.b.at (by simp)) (fun S1 v v' ht1 hk2 hc2 hb2 b3' hM hI => ?_)
              have ht : ∀ x, x < 54 → x ≠ 9 → S1.t x = S'.t x := by
                intro x h1 h2
                rw [ht1 x (.inl (by omega))]
                simp [show x ≠ 54 by omega, show x ≠ 55 by omega, show x ≠ 56 by omega, h2]
              have hb : ∀ n, n ≠ 1000188005 → n ≠ 189001 → n ≠ 189002 → n ≠ 1000186061 → n ≠ 1000186062 → n ≠ 186003 → n ≠ 2000020000 + i → n ≠ 186009 → S1.blk n = S'.blk n := by
                intro n a1 a2 a3 a4 a5 a6 a7 a8
                rw [hb2 n a1 a2 a3 a4 a5 a6 a7]
                simp [a8]
              clear hb2 ht1
              simp [ht 53 (by simp) (by simp), g16, ws]
              have e : ∀ n, n ≠ 1000188005 → n ≠ 189001 → n ≠ 189002 → n ≠ 1000186061 → n ≠ 1000186062 → n ≠ 186003 → n ≠ 2000020000 + i → n ≠ 186009 → S1.blk n = S'.blk n := hb
              refine ⟨⟨⟨s1, by simp [ht 1 (by simp) (by simp), g1], by simp; rw [hb 186001 (by simp) (by simp) (by simp) (by simp) (by simp) (by simp) (by omega) (by simp)]; exact b1⟩, ⟨s2, by simp [ht 2 (by simp) (by simp), g2], by simp; rw [hb 186002 (by simp) (by simp) (by simp) (by simp) (by simp) (by simp) (by omega) (by simp)]; exact b2⟩,
                ⟨s3, vh, va, v', eh, ea, _, by simp [ht 3 (by simp) (by simp), g3], by simp [b3'], ⟨hP.h.at (hb _ (by simp) (by simp) (by simp) (by simp) (by simp) (by simp) (by omega) (by simp)), hP.a.at (hb _ (by simp) (by simp) (by simp) (by simp) (by simp) (by simp) (by omega) (by simp)), hM.at rfl,
                  hP.dh.at (fun j hj => hb _ (by omega) (by omega) (by omega) (by omega) (by omega) (by omega) (by omega) (by omega)), hP.da.at (fun j hj => hb _ (by omega) (by omega) (by omega) (by omega) (by omega) (by omega) (by omega) (by omega)), ?_⟩⟩, ?_, ?_, fun n a1 a2 => ?_⟩, ?_, ?_⟩
              · rw [List.take_succ_eq_append_getElem hlt]
                refine (hP.db.at fun j hj => ?_).snoc p.boot[i] v ?_
                · rw [List.length_take] at hj
                  exact hb _ (by omega) (by omega) (by omega) (by omega) (by omega) (by omega) (by omega) (by omega)
                · rw [List.length_take, Nat.min_eq_left (by omega)]
                  exact hI.at rfl
              · have := hk2.trans hk1
                simpa using this
              · simp at hc2 ⊢; omega
              · simp
                rw [hb n (by omega) (by omega) (by omega) (by omega) (by omega) (by omega) (by omega) (by omega)]
                exact hf1 n a1 a2
              · rw [ht 51 (by simp) (by simp), g14]
              · rw [ht 52 (by simp) (by simp), g15]
            · have e1 : i = p.boot.length := by omega
              subst e1
              have o1 := hP.h.one
              have o2 := hP.h.cells
              have o3 := hP.a.one
              have o4 := hP.a.cells
              have o5 := hP.b.one
              have o6 := hP.b.cells
              simp [copyX_l2, g1, g2, g3, b1, b2, b3, g14, g15, g16, o1, o2, o3, o4, o5, o6]
              rw [List.take_of_length_le (Nat.le_refl _)] at hP
              refine hk _ vh va vb eh ea eb rfl hk1 (by simp; omega) (fun n a1 a2 => ?_) (hP.at (by simp) (by simp) (by simp) (fun j hj => ?_))
              · simp [show n ≠ 186002 by omega, hf1 n a1 a2]
              · simp [show j ≠ 186002 by omega]

end Go.Gv

/- ProgCopies' drawn region: two copies, one the caller's own to change. Lists of at most 1000. -/
set_option linter.unusedVariables false
set_option linter.unusedSimpArgs false
namespace Go.Gv
open Go.Proofs

def copies_r0 : List AI := [⟨(some 2), none, (.op (.box 190002 4 (.t 0)))⟩, ⟨(some 4), none, (.op (.mv (.c (.bool false))))⟩]
def copies_r1 : List AI := [⟨(some 14), none, (.op (.load (some 4) (.t 2)))⟩, ⟨(some 15), none, (.call (.c (.fn 7 [])) [(.t 14)])⟩, ⟨(some 16), none, (.op (.not (.t 15)))⟩]
def copies_r2 : List AI := [⟨(some 17), none, (.call (.c (.fn 8 [])) [])⟩, ⟨(some 4), none, (.op (.mv (.t 17)))⟩]
def copies_r3 : List AI := [⟨(some 18), none, (.op (.load (some 4) (.t 2)))⟩, ⟨(some 19), none, (.call (.c (.fn 9 [])) [(.t 18)])⟩, ⟨(some 20), none, (.op (.load (some 4) (.t 2)))⟩, ⟨(some 21), none, (.call (.c (.fn 9 [])) [(.t 20)])⟩, ⟨(some 5), none, (.op (.new 190005 4 (.agg [.nils, .nils, .nils, (.int .i64 0)])))⟩, ⟨(some 6), none, (.op (.new 190006 4 (.agg [.nils, .nils, .nils, (.int .i64 0)])))⟩, ⟨none, none, (.op (.store 4 (.t 5) (.t 19)))⟩, ⟨none, none, (.op (.store 4 (.t 6) (.t 21)))⟩]
def copies_p3 : List (List Nat) := [[], [0], [], [2, 1, 0], [], [], [4, 1, 3, 0, 5, 2], [5, 3, 6, 0, 1, 2, 4]]
def copies_r4 : List AI := [⟨(some 22), none, (.op (.load (some 4) (.t 2)))⟩, ⟨(some 23), none, (.op (.load (some 4) (.t 5)))⟩, ⟨(some 24), none, (.call (.c (.fn 10 [])) [(.t 22), (.t 23)])⟩, ⟨(some 25), none, (.op (.not (.t 24)))⟩, ⟨(some 26), none, (.op (.mv (.t 25)))⟩, ⟨(some 27), (some (26, false)), (.op (.load (some 4) (.t 2)))⟩, ⟨(some 28), (some (26, false)), (.op (.load (some 4) (.t 6)))⟩, ⟨(some 29), (some (26, false)), (.call (.c (.fn 10 [])) [(.t 27), (.t 28)])⟩, ⟨(some 30), (some (26, false)), (.op (.not (.t 29)))⟩, ⟨(some 31), none, (.op (.pick (.t 26) (.c (.bool true)) (.t 30)))⟩]
def copies_r5 : List AI := [⟨(some 4), none, (.op (.mv (.c (.bool false))))⟩]
def copies_r6 : List AI := [⟨(some 7), none, (.op (.mv (.c (.int .i64 0))))⟩]
def copies_r7 : List AI := [⟨(some 32), none, (.op (.mv (.t 7)))⟩, ⟨(some 33), none, (.op (.fld 0 (.t 5)))⟩, ⟨(some 34), none, (.op (.load none (.t 33)))⟩, ⟨(some 35), none, (.op (.len (.t 34)))⟩, ⟨(some 36), none, (.op (.ibin .lss (.t 32) (.t 35)))⟩]
def copies_r8 : List AI := [⟨(some 39), none, (.op (.fld 0 (.t 5)))⟩, ⟨(some 40), none, (.op (.load none (.t 39)))⟩, ⟨(some 41), none, (.op (.mv (.t 7)))⟩, ⟨(some 42), none, (.op (.idx 2 (.t 40) (.t 41)))⟩, ⟨(some 43), none, (.op (.fld 0 (.t 42)))⟩, ⟨(some 44), none, (.op (.load none (.t 43)))⟩, ⟨(some 45), none, (.op (.ibin .add (.t 44) (.c (.int .i64 1))))⟩, ⟨(some 46), none, (.op (.idx 2 (.t 40) (.t 41)))⟩, ⟨(some 47), none, (.op (.fld 0 (.t 46)))⟩, ⟨none, none, (.op (.store 1 (.t 47) (.t 45)))⟩]
def copies_r9 : List AI := [⟨(some 8), none, (.op (.mv (.c (.int .i64 0))))⟩]
def copies_r10 : List AI := [⟨(some 48), none, (.op (.mv (.t 8)))⟩, ⟨(some 49), none, (.op (.fld 0 (.t 5)))⟩, ⟨(some 50), none, (.op (.load none (.t 49)))⟩, ⟨(some 51), none, (.op (.mv (.t 7)))⟩, ⟨(some 52), none, (.op (.idx 2 (.t 50) (.t 51)))⟩, ⟨(some 53), none, (.op (.fld 1 (.t 52)))⟩, ⟨(some 54), none, (.op (.load none (.t 53)))⟩, ⟨(some 55), none, (.op (.len (.t 54)))⟩, ⟨(some 56), none, (.op (.ibin .lss (.t 48) (.t 55)))⟩]
def copies_r11 : List AI := [⟨(some 59), none, (.op (.fld 0 (.t 5)))⟩, ⟨(some 60), none, (.op (.load none (.t 59)))⟩, ⟨(some 61), none, (.op (.mv (.t 7)))⟩, ⟨(some 62), none, (.op (.idx 2 (.t 60) (.t 61)))⟩, ⟨(some 63), none, (.op (.fld 1 (.t 62)))⟩, ⟨(some 64), none, (.op (.load none (.t 63)))⟩, ⟨(some 65), none, (.op (.mv (.t 8)))⟩, ⟨(some 66), none, (.op (.idx 2 (.t 64) (.t 65)))⟩, ⟨(some 67), none, (.op (.fld 1 (.t 66)))⟩, ⟨(some 68), none, (.op (.load none (.t 67)))⟩, ⟨(some 69), none, (.op (.ibin .add (.t 68) (.c (.int .i64 1))))⟩, ⟨(some 70), none, (.op (.idx 2 (.t 64) (.t 65)))⟩, ⟨(some 71), none, (.op (.fld 1 (.t 70)))⟩, ⟨none, none, (.op (.store 1 (.t 71) (.t 69)))⟩]
def copies_r12 : List AI := [⟨(some 57), none, (.op (.mv (.t 8)))⟩, ⟨(some 58), none, (.op (.ibin .add (.t 57) (.c (.int .i64 1))))⟩, ⟨(some 8), none, (.op (.mv (.t 58)))⟩]
def copies_l0 : AC := (.seq (.seq (.reg copies_r10) (.cond (.t 56) .skip (.exit 2))) (.seq (.block 3 (.reg copies_r11)) (.reg copies_r12)))
def copies_r13 : List AI := [⟨(some 37), none, (.op (.mv (.t 7)))⟩, ⟨(some 38), none, (.op (.ibin .add (.t 37) (.c (.int .i64 1))))⟩, ⟨(some 7), none, (.op (.mv (.t 38)))⟩]
def copies_l1 : AC := (.seq (.seq (.reg copies_r7) (.cond (.t 36) .skip (.exit 0))) (.seq (.block 1 (.seq (.reg copies_r8) (.seq (.reg copies_r9) (.block 2 (.loop copies_l0))))) (.reg copies_r13)))
def copies_r14 : List AI := [⟨(some 9), none, (.op (.mv (.c (.int .i64 0))))⟩]
def copies_r15 : List AI := [⟨(some 72), none, (.op (.mv (.t 9)))⟩, ⟨(some 73), none, (.op (.fld 1 (.t 5)))⟩, ⟨(some 74), none, (.op (.load none (.t 73)))⟩, ⟨(some 75), none, (.op (.len (.t 74)))⟩, ⟨(some 76), none, (.op (.ibin .lss (.t 72) (.t 75)))⟩]
def copies_r16 : List AI := [⟨(some 79), none, (.op (.fld 1 (.t 5)))⟩, ⟨(some 80), none, (.op (.load none (.t 79)))⟩, ⟨(some 81), none, (.op (.mv (.t 9)))⟩, ⟨(some 82), none, (.op (.idx 4 (.t 80) (.t 81)))⟩, ⟨(some 83), none, (.op (.fld 1 (.t 82)))⟩, ⟨(some 84), none, (.op (.load none (.t 83)))⟩, ⟨(some 85), none, (.op (.ibin .add (.t 84) (.c (.int .i64 1))))⟩, ⟨(some 86), none, (.op (.idx 4 (.t 80) (.t 81)))⟩, ⟨(some 87), none, (.op (.fld 1 (.t 86)))⟩, ⟨none, none, (.op (.store 1 (.t 87) (.t 85)))⟩]
def copies_r17 : List AI := [⟨(some 10), none, (.op (.mv (.c (.int .i64 0))))⟩]
def copies_r18 : List AI := [⟨(some 88), none, (.op (.mv (.t 10)))⟩, ⟨(some 89), none, (.op (.fld 1 (.t 5)))⟩, ⟨(some 90), none, (.op (.load none (.t 89)))⟩, ⟨(some 91), none, (.op (.mv (.t 9)))⟩, ⟨(some 92), none, (.op (.idx 4 (.t 90) (.t 91)))⟩, ⟨(some 93), none, (.op (.fld 0 (.t 92)))⟩, ⟨(some 94), none, (.op (.load none (.t 93)))⟩, ⟨(some 95), none, (.op (.len (.t 94)))⟩, ⟨(some 96), none, (.op (.ibin .lss (.t 88) (.t 95)))⟩]
def copies_r19 : List AI := [⟨(some 99), none, (.op (.fld 1 (.t 5)))⟩, ⟨(some 100), none, (.op (.load none (.t 99)))⟩, ⟨(some 101), none, (.op (.mv (.t 9)))⟩, ⟨(some 102), none, (.op (.idx 4 (.t 100) (.t 101)))⟩, ⟨(some 103), none, (.op (.fld 0 (.t 102)))⟩, ⟨(some 104), none, (.op (.load none (.t 103)))⟩, ⟨(some 105), none, (.op (.mv (.t 10)))⟩, ⟨(some 106), none, (.op (.idx 1 (.t 104) (.t 105)))⟩, ⟨(some 107), none, (.op (.load none (.t 106)))⟩, ⟨(some 108), none, (.op (.ibin .add (.t 107) (.c (.int .i64 1))))⟩, ⟨(some 109), none, (.op (.idx 1 (.t 104) (.t 105)))⟩, ⟨none, none, (.op (.store 1 (.t 109) (.t 108)))⟩]
def copies_r20 : List AI := [⟨(some 97), none, (.op (.mv (.t 10)))⟩, ⟨(some 98), none, (.op (.ibin .add (.t 97) (.c (.int .i64 1))))⟩, ⟨(some 10), none, (.op (.mv (.t 98)))⟩]
def copies_l2 : AC := (.seq (.seq (.reg copies_r18) (.cond (.t 96) .skip (.exit 6))) (.seq (.block 7 (.reg copies_r19)) (.reg copies_r20)))
def copies_r21 : List AI := [⟨(some 77), none, (.op (.mv (.t 9)))⟩, ⟨(some 78), none, (.op (.ibin .add (.t 77) (.c (.int .i64 1))))⟩, ⟨(some 9), none, (.op (.mv (.t 78)))⟩]
def copies_l3 : AC := (.seq (.seq (.reg copies_r15) (.cond (.t 76) .skip (.exit 4))) (.seq (.block 5 (.seq (.reg copies_r16) (.seq (.reg copies_r17) (.block 6 (.loop copies_l2))))) (.reg copies_r21)))
def copies_r22 : List AI := [⟨(some 11), none, (.op (.mv (.c (.int .i64 0))))⟩]
def copies_r23 : List AI := [⟨(some 110), none, (.op (.mv (.t 11)))⟩, ⟨(some 111), none, (.op (.fld 2 (.t 5)))⟩, ⟨(some 112), none, (.op (.load none (.t 111)))⟩, ⟨(some 113), none, (.op (.len (.t 112)))⟩, ⟨(some 114), none, (.op (.ibin .lss (.t 110) (.t 113)))⟩]
def copies_r24 : List AI := [⟨(some 117), none, (.op (.fld 2 (.t 5)))⟩, ⟨(some 118), none, (.op (.load none (.t 117)))⟩, ⟨(some 119), none, (.op (.mv (.t 11)))⟩, ⟨(some 120), none, (.op (.idx 3 (.t 118) (.t 119)))⟩, ⟨(some 121), none, (.op (.fld 0 (.t 120)))⟩, ⟨(some 122), none, (.op (.load none (.t 121)))⟩, ⟨(some 123), none, (.op (.ibin .add (.t 122) (.c (.int .i64 1))))⟩, ⟨(some 124), none, (.op (.idx 3 (.t 118) (.t 119)))⟩, ⟨(some 125), none, (.op (.fld 0 (.t 124)))⟩, ⟨none, none, (.op (.store 1 (.t 125) (.t 123)))⟩]
def copies_r25 : List AI := [⟨(some 12), none, (.op (.mv (.c (.int .i64 0))))⟩]
def copies_r26 : List AI := [⟨(some 126), none, (.op (.mv (.t 12)))⟩, ⟨(some 127), none, (.op (.fld 2 (.t 5)))⟩, ⟨(some 128), none, (.op (.load none (.t 127)))⟩, ⟨(some 129), none, (.op (.mv (.t 11)))⟩, ⟨(some 130), none, (.op (.idx 3 (.t 128) (.t 129)))⟩, ⟨(some 131), none, (.op (.fld 2 (.t 130)))⟩, ⟨(some 132), none, (.op (.load none (.t 131)))⟩, ⟨(some 133), none, (.op (.len (.t 132)))⟩, ⟨(some 134), none, (.op (.ibin .lss (.t 126) (.t 133)))⟩]
def copies_r27 : List AI := [⟨(some 137), none, (.op (.fld 2 (.t 5)))⟩, ⟨(some 138), none, (.op (.load none (.t 137)))⟩, ⟨(some 139), none, (.op (.mv (.t 11)))⟩, ⟨(some 140), none, (.op (.idx 3 (.t 138) (.t 139)))⟩, ⟨(some 141), none, (.op (.fld 2 (.t 140)))⟩, ⟨(some 142), none, (.op (.load none (.t 141)))⟩, ⟨(some 143), none, (.op (.mv (.t 12)))⟩, ⟨(some 144), none, (.op (.idx 1 (.t 142) (.t 143)))⟩, ⟨(some 145), none, (.op (.load none (.t 144)))⟩, ⟨(some 146), none, (.op (.ibin .add (.t 145) (.c (.int .i64 1))))⟩, ⟨(some 147), none, (.op (.idx 1 (.t 142) (.t 143)))⟩, ⟨none, none, (.op (.store 1 (.t 147) (.t 146)))⟩]
def copies_r28 : List AI := [⟨(some 135), none, (.op (.mv (.t 12)))⟩, ⟨(some 136), none, (.op (.ibin .add (.t 135) (.c (.int .i64 1))))⟩, ⟨(some 12), none, (.op (.mv (.t 136)))⟩]
def copies_l4 : AC := (.seq (.seq (.reg copies_r26) (.cond (.t 134) .skip (.exit 10))) (.seq (.block 11 (.reg copies_r27)) (.reg copies_r28)))
def copies_r29 : List AI := [⟨(some 115), none, (.op (.mv (.t 11)))⟩, ⟨(some 116), none, (.op (.ibin .add (.t 115) (.c (.int .i64 1))))⟩, ⟨(some 11), none, (.op (.mv (.t 116)))⟩]
def copies_l5 : AC := (.seq (.seq (.reg copies_r23) (.cond (.t 114) .skip (.exit 8))) (.seq (.block 9 (.seq (.reg copies_r24) (.seq (.reg copies_r25) (.block 10 (.loop copies_l4))))) (.reg copies_r29)))
def copies_r30 : List AI := [⟨(some 148), none, (.op (.fld 0 (.t 2)))⟩, ⟨(some 149), none, (.op (.load none (.t 148)))⟩, ⟨(some 150), none, (.op (.len (.t 149)))⟩, ⟨(some 151), none, (.op (.ibin .eql (.t 150) (.c (.int .i64 0))))⟩, ⟨(some 152), none, (.op (.mv (.t 151)))⟩, ⟨(some 153), (some (152, true)), (.op (.fld 1 (.t 2)))⟩, ⟨(some 154), (some (152, true)), (.op (.load none (.t 153)))⟩, ⟨(some 155), (some (152, true)), (.op (.len (.t 154)))⟩, ⟨(some 156), (some (152, true)), (.op (.ibin .eql (.t 155) (.c (.int .i64 0))))⟩, ⟨(some 157), none, (.op (.pick (.t 152) (.t 156) (.c (.bool false))))⟩, ⟨(some 158), none, (.op (.mv (.t 157)))⟩, ⟨(some 159), (some (158, true)), (.op (.fld 2 (.t 2)))⟩, ⟨(some 160), (some (158, true)), (.op (.load none (.t 159)))⟩, ⟨(some 161), (some (158, true)), (.op (.len (.t 160)))⟩, ⟨(some 162), (some (158, true)), (.op (.ibin .eql (.t 161) (.c (.int .i64 0))))⟩, ⟨(some 163), none, (.op (.pick (.t 158) (.t 162) (.c (.bool false))))⟩, ⟨(some 13), none, (.op (.mv (.t 163)))⟩]
def copies_r31 : List AI := [⟨(some 164), none, (.op (.load (some 4) (.t 2)))⟩, ⟨(some 165), none, (.op (.load (some 4) (.t 6)))⟩, ⟨(some 166), none, (.call (.c (.fn 10 [])) [(.t 164), (.t 165)])⟩, ⟨(some 167), none, (.op (.mv (.t 166)))⟩, ⟨(some 168), (some (167, true)), (.op (.load (some 4) (.t 2)))⟩, ⟨(some 169), (some (167, true)), (.op (.load (some 4) (.t 5)))⟩, ⟨(some 170), (some (167, true)), (.call (.c (.fn 11 [])) [(.t 168), (.t 169)])⟩, ⟨(some 171), (some (167, true)), (.op (.mv (.t 13)))⟩, ⟨(some 172), (some (167, true)), (.op (.eqv false (.t 170) (.t 171)))⟩, ⟨(some 173), none, (.op (.pick (.t 167) (.t 172) (.c (.bool false))))⟩, ⟨(some 174), none, (.op (.mv (.t 173)))⟩, ⟨(some 175), (some (174, true)), (.call (.c (.fn 8 [])) [])⟩, ⟨(some 176), none, (.op (.pick (.t 174) (.t 175) (.c (.bool false))))⟩, ⟨(some 4), none, (.op (.mv (.t 176)))⟩]
def copies_c : AC := (.seq (.reg copies_r0) (.seq (.seq (.reg copies_r1) (.cond (.t 16) (.seq (.reg copies_r2) .ret) .skip)) (.seq (.regi copies_r3 copies_p3) (.seq (.seq (.reg copies_r4) (.cond (.t 31) (.seq (.reg copies_r5) .ret) .skip)) (.seq (.seq (.reg copies_r6) (.block 0 (.loop copies_l1))) (.seq (.seq (.reg copies_r14) (.block 4 (.loop copies_l3))) (.seq (.seq (.reg copies_r22) (.block 8 (.loop copies_l5))) (.seq (.reg copies_r30) (.seq (.reg copies_r31) .ret)))))))))
def copies_res : List ARes := [(.tmp 4)]
set_option maxRecDepth 100000 in
theorem copies_get : getF Try.prog 3 190000 [(2000003, 1)] = some ("gavotte/gavottelaw3.ProgCopies", 177, copies_c, copies_res) := by kernel_rfl
attribute [simp] copies_r0 copies_r1 copies_r2 copies_r3 copies_p3 copies_r4 copies_r5 copies_r6 copies_r7 copies_r8 copies_r9 copies_r10 copies_r11 copies_r12 copies_r13 copies_r14 copies_r15 copies_r16 copies_r17 copies_r18 copies_r19 copies_r20 copies_r21 copies_r22 copies_r23 copies_r24 copies_r25 copies_r26 copies_r27 copies_r28 copies_r29 copies_r30 copies_r31 copies_res


def tb3 (x q y z : AV) : List (Nat × AV) := [(18, x), (19, q), (20, x), (21, x), (5, y), (6, z)]
def QIs (S : St) (p : Prg) (q : AV) : Prop := ∃ vh va vb eh ea eb, q = .agg [vh, va, vb, iv p.fuel] ∧ CParts S p.hs p.as p.boot vh va vb eh ea eb
theorem QIs.at {S S' : St} {p : Prg} {q : AV} (h : QIs S p q) (hb : ∀ n, 1000000000 ≤ n → S'.blk n = S.blk n) : QIs S' p q := by
  obtain ⟨vh, va, vb, eh, ea, eb, h1, h2⟩ := h
  exact ⟨vh, va, vb, eh, ea, eb, h1, h2.at (hb _ (by simp)) (hb _ (by simp)) (hb _ (by simp)) (fun j hj => hb _ (by omega))⟩
theorem copies3 (p : Prg) (hp : fitP p) (s2 st : Nat) {S : St} {k : St → Prop} {u : Dep k} (h2 : S.t 2 = .ptr 190002 s2 4 0 0) (b2 : S.blk 190002 = some ⟨s2, 4, [p.av]⟩)
    (hk : ∀ S' vh va vb eh ea eb, (∀ x, x ≠ 5 → x ≠ 6 → x < 18 ∨ 21 < x → S'.t x = S.t x) → S'.t 5 = .ptr 190005 (st + 4) 4 0 0 → S'.t 6 = .ptr 190006 (st + 5) 4 0 0 → S'.tok = S.tok → S.clk ≤ S'.clk → S'.blk 190002 = some ⟨s2, 4, [p.av]⟩ →
      S'.blk 190005 = some ⟨st + 4, 4, [.agg [vh, va, vb, iv p.fuel]]⟩ → S'.blk 190006 = some ⟨st + 5, 4, [p.av]⟩ → CParts S' p.hs p.as p.boot vh va vb eh ea eb → k S') :
    regIG Try.prog copies_p3 st copies_r3 S k u := by
  refine regi_cut (copies_r3.take 6) (copies_r3.drop 6) rfl (by rfl) ?_
  obtain ⟨tbl, htb⟩ : ∃ tbl : AV → List (Nat × AV), tbl = fun q => tb3 p.av q (.ptr 190005 (st + 4) 4 0 0) (.ptr 190006 (st + 5) 4 0 0) := ⟨_, rfl⟩
  have hnd : ∀ v, ((tbl v).map (·.1)).Nodup := by intro v; simp [htb, tb3]
  obtain ⟨I, hI⟩ : ∃ I : (Nat → Bool) → St → Prop, ∀ D S', I D S' ↔ ∃ q, SF (tbl q) D S' ∧ (∀ x, x ≠ 5 → x ≠ 6 → x < 18 ∨ 21 < x → S'.t x = S.t x) ∧ S'.tok = S.tok ∧ S.clk ≤ S'.clk ∧ S'.blk 190002 = S.blk 190002 ∧
    (D 4 = true → S'.blk 190005 = some ⟨st + 4, 4, [.agg [.nils, .nils, .nils, iv 0]]⟩) ∧ (D 5 = true → S'.blk 190006 = some ⟨st + 5, 4, [.agg [.nils, .nils, .nils, iv 0]]⟩) ∧
    (D 1 = true → QIs S' p q) := ⟨_, fun _ _ => Iff.rfl⟩
  show regI _ _ _ _ _ _
  refine ⟨I, (hI _ _).2 ⟨.nils, SF.start _ _, fun _ _ _ _ => rfl, rfl, Nat.le_refl _, rfl, by simp, by simp, by simp⟩, ?_, ?_⟩
  · rintro D S' j ai hj hDj hpre hcl hi
    obtain ⟨q, hsf, ht, hk, hc, hbk, h4, h5, h1⟩ := (hI _ _).1 hi
    have t2 := (ht 2 (by simp) (by simp) (.inl (by simp))).trans h2
    have c2 := hbk.trans b2
    match j, hj, hDj, hpre with
    | 0, hj, hDj, hpre =>
      simp at hj; subst hj
      refine stepV_op { v := p.av } (by simp [t2, c2]) ((hI _ _).2 ⟨q, hsf.ins (hnd q) (j := 0) (d := 18) (v := p.av) (by simp [htb, tb3]) (by simp [St.app]) (fun y hy => by simp [St.app, hy]), fun x m5 m6 hx => (upd_ne _ _ _ _ (by omega)).trans (ht x m5 m6 hx), hk, hc, hbk, by simpa using h4, by simpa using h5, fun w => (h1 (by simpa using w)).at (fun _ _ => rfl)⟩)
    | 1, hj, hDj, hpre =>
      simp at hj hpre; subst hj
      refine stepV_call ?_
      have e18 := hsf 0 18 _ (by simp [htb, tb3]; rfl) hpre
      simp only [List.map_cons, List.map_nil, X.ev, e18]
      refine copyX_v p hp (fun S1 vh va vb eh ea eb ht1 hk1 hc1 hf1 hP => ?_)
      have f3 : D 3 = false := by
        cases hx : D 3 with
        | false => rfl
        | true => have := hcl 3 hx 1 (by simp); rw [hDj] at this; cases this
      have hsr : SF (tbl (.agg [vh, va, vb, iv p.fuel])) D S' := by
        intro j' d' v' hj' hD'
        refine hsf j' d' v' ?_ hD'
        rw [htb] at hj' ⊢
        match j', hj', hD' with
        | 0, hj', _ => exact hj'
        | 1, _, hD' => rw [hDj] at hD'; cases hD'
        | 2, hj', _ => exact hj'
        | 3, hj', _ => exact hj'
        | 4, hj', _ => exact hj'
        | 5, hj', _ => exact hj'
        | j + 6, hj', _ => simp [tb3] at hj'
      refine (hI _ _).2 ⟨_, hsr.ins (hnd _) (j := 1) (d := 19) (v := .agg [vh, va, vb, iv p.fuel]) (by simp [htb, tb3]) (by simp) (fun y hy => by simp [hy, ht1]), fun x m5 m6 hx => ?_, hk1.trans hk, by simp; omega, ?_, fun w => ?_, fun w => ?_, fun w => ⟨vh, va, vb, eh, ea, eb, rfl, hP.at rfl rfl rfl (fun _ _ => rfl)⟩⟩
      · simp [show x ≠ 19 by omega, ht1, ht x m5 m6 hx]
      · simp; rw [hf1 _ (by simp) (by simp), hbk]
      · simp; rw [hf1 _ (by simp) (by simp)]; exact h4 (by simpa using w)
      · simp; rw [hf1 _ (by simp) (by simp)]; exact h5 (by simpa using w)
    | 2, hj, hDj, hpre =>
      simp at hj; subst hj
      refine stepV_op { v := p.av } (by simp [t2, c2]) ((hI _ _).2 ⟨q, hsf.ins (hnd q) (j := 2) (d := 20) (v := p.av) (by simp [htb, tb3]) (by simp [St.app]) (fun y hy => by simp [St.app, hy]), fun x m5 m6 hx => (upd_ne _ _ _ _ (by omega)).trans (ht x m5 m6 hx), hk, hc, hbk, by simpa using h4, by simpa using h5, fun w => (h1 (by simpa using w)).at (fun _ _ => rfl)⟩)
    | 3, hj, hDj, hpre =>
      simp at hj hpre; subst hj
      refine stepV_call ?_
      have e20 := hsf 2 20 _ (by simp [htb, tb3]; rfl) hpre.1
      simp only [List.map_cons, List.map_nil, X.ev, e20]
      refine call (copy_pc p hp) (by simp) ?_
      refine (hI _ _).2 ⟨q, hsf.ins (hnd q) (j := 3) (d := 21) (v := p.av) (by simp [htb, tb3]) (by simp [St.app]) (fun y hy => by simp [St.app, hy]), fun x m5 m6 hx => (upd_ne _ _ _ _ (by omega)).trans (ht x m5 m6 hx), hk, hc, hbk, by simpa using h4, by simpa using h5, fun w => (h1 (by simpa using w)).at (fun _ _ => rfl)⟩
    | 4, hj, hDj, hpre =>
      simp at hj; subst hj
      refine stepV_op { v := .ptr 190005 (st + 4) 4 0 0, wb := [(190005, some ⟨st + 4, 4, [.agg [.nils, .nils, .nils, iv 0]]⟩)] } (by simp) ((hI _ _).2 ⟨q, hsf.ins (hnd q) (j := 4) (d := 5) (v := .ptr 190005 (st + 4) 4 0 0) (by simp [htb, tb3]) (by simp [St.app]) (fun y hy => by simp [St.app, hy]), fun x m5 m6 hx => ?_, hk, hc, ?_, fun w => ?_, fun w => ?_, fun w => (h1 (by simpa using w)).at (fun n hn => ?_)⟩)
      · simp [St.app, m5]; exact ht x m5 m6 hx
      · simp [St.app, appB]; exact hbk
      · simp [St.app, appB]
      · simp [St.app, appB]; exact h5 (by simpa using w)
      · simp [St.app, appB, show n ≠ 190005 by omega]
    | 5, hj, hDj, hpre =>
      simp at hj; subst hj
      refine stepV_op { v := .ptr 190006 (st + 5) 4 0 0, wb := [(190006, some ⟨st + 5, 4, [.agg [.nils, .nils, .nils, iv 0]]⟩)] } (by simp) ((hI _ _).2 ⟨q, hsf.ins (hnd q) (j := 5) (d := 6) (v := .ptr 190006 (st + 5) 4 0 0) (by simp [htb, tb3]) (by simp [St.app]) (fun y hy => by simp [St.app, hy]), fun x m5 m6 hx => ?_, hk, hc, ?_, fun w => ?_, fun w => ?_, fun w => (h1 (by simpa using w)).at (fun n hn => ?_)⟩)
      · simp [St.app, m6]; exact ht x m5 m6 hx
      · simp [St.app, appB]; exact hbk
      · simp [St.app, appB]; exact h4 (by simpa using w)
      · simp [St.app, appB]
      · simp [St.app, appB, show n ≠ 190006 by omega]
    | j + 6, hj, hDj, hpre => simp at hj
  · rintro D S' hD hi
    obtain ⟨q, hsf, ht, hk', hc, hbk, h4, h5, h1⟩ := (hI _ _).1 hi
    obtain ⟨vh, va, vb, eh, ea, eb, rfl, hP⟩ := h1 (hD 1 (by simp))
    have e5 := hsf 4 5 _ (by simp [htb, tb3]; rfl) (hD 4 (by simp))
    have e6 := hsf 5 6 _ (by simp [htb, tb3]; rfl) (hD 5 (by simp))
    have e19 := hsf 1 19 _ (by simp [htb, tb3]; rfl) (hD 1 (by simp))
    have e21 := hsf 3 21 _ (by simp [htb, tb3]; rfl) (hD 3 (by simp))
    have b5 := h4 (hD 4 (by simp))
    have b6 := h5 (hD 5 (by simp))
    simp [e5, e6, e19, e21, b5, b6, hP.h.one, hP.a.one, hP.b.one]
    refine hk _ vh va vb eh ea eb ht e5 e6 hk' hc ?_ (by simp) (by simp) (hP.at (by simp) (by simp) (by simp) (fun j hj => ?_))
    · simp; exact hbk.trans b2
    · simp [show j ≠ 190005 by omega, show j ≠ 190006 by omega]

end Go.Gv

/- ProgCopies' loops: each number of the copy one greater. No condition beyond those that each law names. -/
set_option linter.unusedVariables false
set_option linter.unusedSimpArgs false
namespace Go.Gv
open Go.Proofs


/-- The first i are changed. -/
def mix {α : Type} (f : α → α) (i : Nat) (xs : List α) : List α := (xs.take i).map f ++ xs.drop i
theorem mix_zero {α : Type} (f : α → α) (xs : List α) : mix f 0 xs = xs := by simp [mix]
theorem mix_all {α : Type} (f : α → α) (xs : List α) : mix f xs.length xs = xs.map f := by simp [mix]
theorem mix_len {α : Type} (f : α → α) (i : Nat) (xs : List α) : (mix f i xs).length = xs.length := by simp [mix]; omega
theorem mix_at {α : Type} (f : α → α) {i : Nat} {xs : List α} (h : i < xs.length) : (mix f i xs)[i]? = some xs[i] := by
  unfold mix
  rw [List.getElem?_append_right (by simp; omega)]
  simp [Nat.min_eq_left (Nat.le_of_lt h)]
theorem mix_set {α : Type} (f : α → α) {i : Nat} {xs : List α} (h : i < xs.length) : (mix f i xs).set i (f xs[i]) = mix f (i + 1) xs := by
  unfold mix
  have e : i - ((xs.take i).map f).length = 0 := by simp; omega
  rw [List.set_append_right _ _ (by simp; omega), e, List.drop_eq_getElem_cons h, List.take_succ_eq_append_getElem h, List.map_append, List.append_assoc]
  rfl
theorem MutIs.len {S : St} {nm sz : Nat} {v : AV} {xs : List AV} (h : MutIs S nm sz v xs) : lenOf v = some xs.length := by
  rcases h with ⟨rfl, rfl⟩ | ⟨st, rfl, _⟩ <;> rfl
theorem MutIs.sl {S : St} {nm sz : Nat} {v : AV} {xs : List AV} (h : MutIs S nm sz v xs) (hx : 0 < xs.length) : ∃ st, v = .sl nm st sz 0 xs.length ∧ S.blk nm = some ⟨st, sz, xs⟩ := by
  rcases h with ⟨rfl, rfl⟩ | h
  · simp at hx
  · exact h
theorem Deep.set {α : Type} {S S' : St} {base sz : Nat} {cell : α → AV → AV} {inner : α → List AV} {xs : List α} {es : List AV} (h : Deep S base sz cell inner xs es) {i : Nat} (hi : i < xs.length) (x : α) (w : AV)
    (hb : ∀ j, j < xs.length → j ≠ i → S'.blk (base + j) = S.blk (base + j)) (hw : MutIs S' (base + i) sz w (inner x)) : Deep S' base sz cell inner (xs.set i x) (es.set i (cell x w)) := by
  refine ⟨by simp [h.1], fun j y hy => ?_⟩
  by_cases e : j = i
  · subst e
    rw [List.getElem?_set_self hi] at hy
    cases hy
    exact ⟨w, by rw [List.getElem?_set_self (by rw [h.1]; exact hi)], hw⟩
  · rw [List.getElem?_set_ne (fun q => e q.symm)] at hy
    obtain ⟨w', h1, h2⟩ := h.2 j y hy
    exact ⟨w', by rw [List.getElem?_set_ne (fun q => e q.symm)]; exact h1, h2.at (hb j (List.getElem?_eq_some_iff.1 hy).1 e)⟩
theorem chgHc (m : Nat) (hm : 2000000000 ≤ m) (i : Nat) (code : List Ins) (hc : code.length ≤ 1000) (s5 sH : Nat) (va vb vf a0 w : AV) (eh : List AV) {S : St} {κ : Ex → St → Prop} {u : Dep κ}
    (h5 : S.t 5 = .ptr 190005 s5 4 0 0) (b5 : S.blk 190005 = some ⟨s5, 4, [.agg [.sl 1000186029 sH 2 0 eh.length, va, vb, vf]]⟩) (bN : S.blk 1000186029 = some ⟨sH, 2, eh⟩) (h7 : S.t 7 = iv i) (h8 : S.t 8 = iv 0) (hi : i < eh.length) (he : eh[i]? = some (.agg [a0, w])) (hw : MutIs S m 2 w (code.map Ins.av))
    (hk : ∀ S', (∀ x, x < 48 → x ≠ 8 → S'.t x = S.t x) → (∀ n, n ≠ m → S'.blk n = S.blk n) → MutIs S' m 2 w ((code.map chI).map Ins.av) → κ (.exit 2) S') :
    LoopG Try.prog copies_l0 κ S u := by
  have w1' := hw.one
  refine loopN (fun k S' => (∀ x, x < 48 → x ≠ 8 → S'.t x = S.t x) ∧ S'.t 8 = iv k ∧ (∀ n, n ≠ m → S'.blk n = S.blk n) ∧ MutIs S' m 2 w ((mix chI k code).map Ins.av)) code.length ⟨fun _ _ _ => rfl, h8, fun _ _ => rfl, by rw [mix_zero]; exact hw⟩ ?_
  rintro k S' hkl ⟨ht, g8, hb, hM⟩
  have g5 := (ht 5 (by simp) (by simp)).trans h5
  have g7 := (ht 7 (by simp) (by simp)).trans h7
  have c5 := (hb 190005 (by omega)).trans b5
  have cN := (hb 1000186029 (by omega)).trans bN
  have hl := hM.len
  rw [List.length_map, mix_len] at hl
  have he' : eh[i] = .agg [a0, w] := by rw [List.getElem?_eq_getElem hi] at he; exact Option.some.inj he
  by_cases hlt : k < code.length
  · obtain ⟨st, hw', hx⟩ := hM.sl (by simp [mix_len]; omega)
    subst hw'
    have hq := mix_at chI hlt
    have hq2 : ∀ h, (mix chI k code)[k]'h = code[k] := by
      intro h
      rw [List.getElem?_eq_getElem h] at hq
      exact Option.some.inj hq
    have ws := wrap_succ k _ hlt (by omega)
    simp [copies_l0, g5, g7, g8, c5, cN, he', hi, hl, hlt, hx, hq, hq2, mix_len, ws]
    refine ⟨fun x a1 a2 => ?_, fun n hn => ?_, .inr ⟨st, by simp [mix_len], ?_⟩⟩
    · repeat rw [if_neg (by omega)]
      exact ht x a1 a2
    · rw [if_neg hn]
      exact hb n hn
    · simp
      rw [← mix_set chI hlt, List.map_set]
      rfl
  · have e1 : k = code.length := by omega
    subst e1
    rw [mix_all] at hM
    simp [copies_l0, g5, g7, g8, c5, cN, he', hi, hl]
    refine hk _ (fun x a1 a2 => ?_) hb (hM.at rfl)
    simp
    repeat rw [if_neg (by omega)]
    exact ht x a1 a2
/-- Where the law stands: p, and the copy whose lists are hs, ats and bs. -/
structure QS (S : St) (p : Prg) (s2 s5 s6 : Nat) (hs : List Hnd) (ats : List Actr) (bs : List Nt) : Prop where
  t2 : S.t 2 = .ptr 190002 s2 4 0 0
  t5 : S.t 5 = .ptr 190005 s5 4 0 0
  t6 : S.t 6 = .ptr 190006 s6 4 0 0
  b2 : S.blk 190002 = some ⟨s2, 4, [p.av]⟩
  b6 : S.blk 190006 = some ⟨s6, 4, [p.av]⟩
  q : ∃ vh va vb eh ea eb, S.blk 190005 = some ⟨s5, 4, [.agg [vh, va, vb, iv p.fuel]]⟩ ∧ CParts S hs ats bs vh va vb eh ea eb
theorem chgH (p : Prg) (hp : fitP p) (s2 s5 s6 : Nat) (ats : List Actr) (bs : List Nt) (hat : ats.length ≤ 1000) {S : St} {κ : Ex → St → Prop} {u : Dep κ} (h : QS S p s2 s5 s6 p.hs ats bs) (h7 : S.t 7 = iv 0)
    (hk : ∀ S', QS S' p s2 s5 s6 (p.hs.map chH) ats bs → κ (.exit 0) S') : LoopG Try.prog copies_l1 κ S u := by
  obtain ⟨q1, q2, q3, q4, q5, q6⟩ := hp
  refine loopN (fun i S' => QS S' p s2 s5 s6 (mix chH i p.hs) ats bs ∧ S'.t 7 = iv i) p.hs.length ⟨by rw [mix_zero]; exact h, h7⟩ ?_
  clear h7 h S
  rintro i S hi ⟨⟨t2, t5, t6, b2, b6, vh, va, vb, eh, ea, eb, b5, hP⟩, g7⟩
  have hl := hP.h.len
  have el := hP.dh.1
  rw [mix_len] at el
  have o1 := hP.h.one
  have o3 := hP.a.one
  have o5 := hP.b.one
  by_cases hlt : i < p.hs.length
  · obtain ⟨sH, hv, bN⟩ := hP.h.sl (by omega)
    subst hv
    obtain ⟨w, hw1, hw2⟩ := hP.dh.2 i _ (mix_at chH hlt)
    have hie : i < eh.length := by omega
    have he' : eh[i] = cellH p.hs[i] w := by rw [List.getElem?_eq_getElem hie] at hw1; exact Option.some.inj hw1
    unfold cellH at he'
    have ws := wrap_succ i _ hlt (by omega)
    simp [copies_l1, t5, b5, g7, bN, hie, el, hlt, he', hw2.one, o3, o5]
    refine chgHc (2000000000 + i) (by omega) i p.hs[i].code (q4 _ (List.getElem_mem hlt)) s5 sH va vb (iv p.fuel) (iv (w1 p.hs[i].args)) w (eh.set i (cellH (chH p.hs[i]) w)) (by simp [t5]) (by simp [b5, el]) (by simp; rfl) (by simp [g7]) (by simp) (by simp; omega) (List.getElem?_set_self hie) (hw2.at (by simp [show 2000000000 + i ≠ 1000186029 by omega])) (fun S1 ht1 hb1 hM1 => ?_)
    have ht : ∀ x, x < 32 → x ≠ 8 → S1.t x = S.t x := by
      intro x a1 a2
      rw [ht1 x (by omega) a2]
      simp
      repeat rw [if_neg (by omega)]
    have hb : ∀ n, n ≠ 2000000000 + i → n ≠ 1000186029 → S1.blk n = S.blk n := by
      intro n a1 a2
      rw [hb1 n a1]
      simp [a2]
    have cN : S1.blk 1000186029 = some ⟨sH, 2, eh.set i (cellH (chH p.hs[i]) w)⟩ := by rw [hb1 _ (by omega)]; simp; rfl
    clear ht1 hb1
    simp [ht 7, g7, ws]
    refine ⟨by simp [ht 2, t2], by simp [ht 5, t5], by simp [ht 6, t6], (hb _ (by omega) (by simp)).trans b2, (hb _ (by omega) (by simp)).trans b6, _, va, vb, _, ea, eb, (hb _ (by omega) (by simp)).trans b5,
      ⟨.inr ⟨sH, by simp, cN⟩, hP.a.at (hb _ (by omega) (by simp)), hP.b.at (hb _ (by omega) (by simp)), ?_, hP.da.at (fun j hj => hb _ (by omega) (by omega)), hP.db.at (fun j hj => hb _ (by omega) (by omega))⟩⟩
    rw [← mix_set chH hlt]
    exact hP.dh.set (by rw [mix_len]; exact hlt) _ w (fun j hj hne => hb _ (by omega) (by omega)) (hM1.at rfl)
  · have e1 : i = p.hs.length := by omega
    subst e1
    rw [mix_all] at hP
    simp [copies_l1, t5, b5, g7, hl, el, o1, o3, o5]
    refine hk _ ⟨by simp [t2], by simp [t5], by simp [t6], b2, b6, vh, va, vb, eh, ea, eb, b5, hP.at rfl rfl rfl (fun _ _ => rfl)⟩
theorem chgAc (m : Nat) (hm : 2000000000 ≤ m) (i : Nat) (code : List Int) (hc : code.length ≤ 1000) (s5 sH : Nat) (vh vb vf a1 a2 a3 w : AV) (eh : List AV) {S : St} {κ : Ex → St → Prop} {u : Dep κ}
    (h5 : S.t 5 = .ptr 190005 s5 4 0 0) (b5 : S.blk 190005 = some ⟨s5, 4, [.agg [vh, .sl 1000186047 sH 4 0 eh.length, vb, vf]]⟩) (bN : S.blk 1000186047 = some ⟨sH, 4, eh⟩) (h7 : S.t 9 = iv i) (h8 : S.t 10 = iv 0) (hi : i < eh.length) (he : eh[i]? = some (.agg [w, a1, a2, a3])) (hw : MutIs S m 1 w (code.map iv))
    (hk : ∀ S', (∀ x, x < 88 → x ≠ 10 → S'.t x = S.t x) → (∀ n, n ≠ m → S'.blk n = S.blk n) → MutIs S' m 1 w ((code.map w1).map iv) → κ (.exit 6) S') :
    LoopG Try.prog copies_l2 κ S u := by
  have w1' := hw.one
  refine loopN (fun k S' => (∀ x, x < 88 → x ≠ 10 → S'.t x = S.t x) ∧ S'.t 10 = iv k ∧ (∀ n, n ≠ m → S'.blk n = S.blk n) ∧ MutIs S' m 1 w ((mix w1 k code).map iv)) code.length ⟨fun _ _ _ => rfl, h8, fun _ _ => rfl, by rw [mix_zero]; exact hw⟩ ?_
  rintro k S' hkl ⟨ht, g8, hb, hM⟩
  have g5 := (ht 5 (by simp) (by simp)).trans h5
  have g7 := (ht 9 (by simp) (by simp)).trans h7
  have c5 := (hb 190005 (by omega)).trans b5
  have cN := (hb 1000186047 (by omega)).trans bN
  have hl := hM.len
  rw [List.length_map, mix_len] at hl
  have he' : eh[i] = .agg [w, a1, a2, a3] := by rw [List.getElem?_eq_getElem hi] at he; exact Option.some.inj he
  by_cases hlt : k < code.length
  · obtain ⟨st, hw', hx⟩ := hM.sl (by simp [mix_len]; omega)
    subst hw'
    have hq := mix_at w1 hlt
    have hq2 : ∀ h, (mix w1 k code)[k]'h = code[k] := by
      intro h
      rw [List.getElem?_eq_getElem h] at hq
      exact Option.some.inj hq
    have ws := wrap_succ k _ hlt (by omega)
    simp [copies_l2, g5, g7, g8, c5, cN, he', hi, hl, hlt, hx, hq, hq2, mix_len, ws]
    refine ⟨fun x a1 a2 => ?_, fun n hn => ?_, .inr ⟨st, by simp [mix_len], ?_⟩⟩
    · repeat rw [if_neg (by omega)]
      exact ht x a1 a2
    · rw [if_neg hn]
      exact hb n hn
    · simp
      rw [← mix_set w1 hlt, List.map_set]
      rfl
  · have e1 : k = code.length := by omega
    subst e1
    rw [mix_all] at hM
    simp [copies_l2, g5, g7, g8, c5, cN, he', hi, hl]
    refine hk _ (fun x a1 a2 => ?_) hb (hM.at rfl)
    simp
    repeat rw [if_neg (by omega)]
    exact ht x a1 a2
theorem chgA (p : Prg) (hp : fitP p) (s2 s5 s6 : Nat) (hs : List Hnd) (bs : List Nt) (hhs : hs.length ≤ 1000) {S : St} {κ : Ex → St → Prop} {u : Dep κ} (h : QS S p s2 s5 s6 hs p.as bs) (h7 : S.t 9 = iv 0)
    (hk : ∀ S', QS S' p s2 s5 s6 hs (p.as.map chA) bs → κ (.exit 4) S') : LoopG Try.prog copies_l3 κ S u := by
  obtain ⟨q1, q2, q3, q4, q5, q6⟩ := hp
  refine loopN (fun i S' => QS S' p s2 s5 s6 hs (mix chA i p.as) bs ∧ S'.t 9 = iv i) p.as.length ⟨by rw [mix_zero]; exact h, h7⟩ ?_
  clear h7 h S
  rintro i S hi ⟨⟨t2, t5, t6, b2, b6, vh, va, vb, eh, ea, eb, b5, hP⟩, g7⟩
  have hl := hP.a.len
  have el := hP.da.1
  rw [mix_len] at el
  have o1 := hP.h.one
  have o3 := hP.a.one
  have o5 := hP.b.one
  by_cases hlt : i < p.as.length
  · obtain ⟨sH, hv, bN⟩ := hP.a.sl (by omega)
    subst hv
    obtain ⟨w, hw1, hw2⟩ := hP.da.2 i _ (mix_at chA hlt)
    have hie : i < ea.length := by omega
    have he' : ea[i] = cellA p.as[i] w := by rw [List.getElem?_eq_getElem hie] at hw1; exact Option.some.inj hw1
    unfold cellA at he'
    have ws := wrap_succ i _ hlt (by omega)
    simp [copies_l3, t5, b5, g7, bN, hie, el, hlt, he', hw2.one, o1, o5]
    refine chgAc (2000010000 + i) (by omega) i p.as[i].regs (q5 _ (List.getElem_mem hlt)) s5 sH vh vb (iv p.fuel) (iv (w1 p.as[i].cap)) (iv p.as[i].timer) (.bool p.as[i].armed) w (ea.set i (cellA (chA p.as[i]) w)) (by simp [t5]) (by simp [b5, el]) (by simp; rfl) (by simp [g7]) (by simp) (by simp; omega) (List.getElem?_set_self hie) (hw2.at (by simp [show 2000010000 + i ≠ 1000186047 by omega])) (fun S1 ht1 hb1 hM1 => ?_)
    have ht : ∀ x, x < 72 → x ≠ 10 → S1.t x = S.t x := by
      intro x a1 a2
      rw [ht1 x (by omega) a2]
      simp
      repeat rw [if_neg (by omega)]
    have hb : ∀ n, n ≠ 2000010000 + i → n ≠ 1000186047 → S1.blk n = S.blk n := by
      intro n a1 a2
      rw [hb1 n a1]
      simp [a2]
    have cN : S1.blk 1000186047 = some ⟨sH, 4, ea.set i (cellA (chA p.as[i]) w)⟩ := by rw [hb1 _ (by omega)]; simp; rfl
    clear ht1 hb1
    simp [ht 9, g7, ws]
    refine ⟨by simp [ht 2, t2], by simp [ht 5, t5], by simp [ht 6, t6], (hb _ (by omega) (by simp)).trans b2, (hb _ (by omega) (by simp)).trans b6, vh, _, vb, eh, _, eb, (hb _ (by omega) (by simp)).trans b5,
      ⟨hP.h.at (hb _ (by omega) (by simp)), .inr ⟨sH, by simp, cN⟩, hP.b.at (hb _ (by omega) (by simp)), hP.dh.at (fun j hj => hb _ (by omega) (by omega)), ?_, hP.db.at (fun j hj => hb _ (by omega) (by omega))⟩⟩
    rw [← mix_set chA hlt]
    exact hP.da.set (by rw [mix_len]; exact hlt) _ w (fun j hj hne => hb _ (by omega) (by omega)) (hM1.at rfl)
  · have e1 : i = p.as.length := by omega
    subst e1
    rw [mix_all] at hP
    simp [copies_l3, t5, b5, g7, hl, el, o1, o3, o5]
    refine hk _ ⟨by simp [t2], by simp [t5], by simp [t6], b2, b6, vh, va, vb, eh, ea, eb, b5, hP.at rfl rfl rfl (fun _ _ => rfl)⟩
theorem chgNc (m : Nat) (hm : 2000000000 ≤ m) (i : Nat) (code : List Int) (hc : code.length ≤ 1000) (s5 sH : Nat) (vh va vf a0 a1 w : AV) (eh : List AV) {S : St} {κ : Ex → St → Prop} {u : Dep κ}
    (h5 : S.t 5 = .ptr 190005 s5 4 0 0) (b5 : S.blk 190005 = some ⟨s5, 4, [.agg [vh, va, .sl 1000186062 sH 3 0 eh.length, vf]]⟩) (bN : S.blk 1000186062 = some ⟨sH, 3, eh⟩) (h7 : S.t 11 = iv i) (h8 : S.t 12 = iv 0) (hi : i < eh.length) (he : eh[i]? = some (.agg [a0, a1, w])) (hw : MutIs S m 1 w (code.map iv))
    (hk : ∀ S', (∀ x, x < 126 → x ≠ 12 → S'.t x = S.t x) → (∀ n, n ≠ m → S'.blk n = S.blk n) → MutIs S' m 1 w ((code.map w1).map iv) → κ (.exit 10) S') :
    LoopG Try.prog copies_l4 κ S u := by
  have w1' := hw.one
  refine loopN (fun k S' => (∀ x, x < 126 → x ≠ 12 → S'.t x = S.t x) ∧ S'.t 12 = iv k ∧ (∀ n, n ≠ m → S'.blk n = S.blk n) ∧ MutIs S' m 1 w ((mix w1 k code).map iv)) code.length ⟨fun _ _ _ => rfl, h8, fun _ _ => rfl, by rw [mix_zero]; exact hw⟩ ?_
  rintro k S' hkl ⟨ht, g8, hb, hM⟩
  have g5 := (ht 5 (by simp) (by simp)).trans h5
  have g7 := (ht 11 (by simp) (by simp)).trans h7
  have c5 := (hb 190005 (by omega)).trans b5
  have cN := (hb 1000186062 (by omega)).trans bN
  have hl := hM.len
  rw [List.length_map, mix_len] at hl
  have he' : eh[i] = .agg [a0, a1, w] := by rw [List.getElem?_eq_getElem hi] at he; exact Option.some.inj he
  by_cases hlt : k < code.length
  · obtain ⟨st, hw', hx⟩ := hM.sl (by simp [mix_len]; omega)
    subst hw'
    have hq := mix_at w1 hlt
    have hq2 : ∀ h, (mix w1 k code)[k]'h = code[k] := by
      intro h
      rw [List.getElem?_eq_getElem h] at hq
      exact Option.some.inj hq
    have ws := wrap_succ k _ hlt (by omega)
    simp [copies_l4, g5, g7, g8, c5, cN, he', hi, hl, hlt, hx, hq, hq2, mix_len, ws]
    refine ⟨fun x a1 a2 => ?_, fun n hn => ?_, .inr ⟨st, by simp [mix_len], ?_⟩⟩
    · repeat rw [if_neg (by omega)]
      exact ht x a1 a2
    · rw [if_neg hn]
      exact hb n hn
    · simp
      rw [← mix_set w1 hlt, List.map_set]
      rfl
  · have e1 : k = code.length := by omega
    subst e1
    rw [mix_all] at hM
    simp [copies_l4, g5, g7, g8, c5, cN, he', hi, hl]
    refine hk _ (fun x a1 a2 => ?_) hb (hM.at rfl)
    simp
    repeat rw [if_neg (by omega)]
    exact ht x a1 a2
theorem chgN (p : Prg) (hp : fitP p) (s2 s5 s6 : Nat) (hs : List Hnd) (ats : List Actr) (hhs : hs.length ≤ 1000) (hat : ats.length ≤ 1000) {S : St} {κ : Ex → St → Prop} {u : Dep κ} (h : QS S p s2 s5 s6 hs ats p.boot) (h7 : S.t 11 = iv 0)
    (hk : ∀ S', QS S' p s2 s5 s6 hs ats (p.boot.map chN) → κ (.exit 8) S') : LoopG Try.prog copies_l5 κ S u := by
  obtain ⟨q1, q2, q3, q4, q5, q6⟩ := hp
  refine loopN (fun i S' => QS S' p s2 s5 s6 hs ats (mix chN i p.boot) ∧ S'.t 11 = iv i) p.boot.length ⟨by rw [mix_zero]; exact h, h7⟩ ?_
  clear h7 h S
  rintro i S hi ⟨⟨t2, t5, t6, b2, b6, vh, va, vb, eh, ea, eb, b5, hP⟩, g7⟩
  have hl := hP.b.len
  have el := hP.db.1
  rw [mix_len] at el
  have o1 := hP.h.one
  have o3 := hP.a.one
  have o5 := hP.b.one
  by_cases hlt : i < p.boot.length
  · obtain ⟨sH, hv, bN⟩ := hP.b.sl (by omega)
    subst hv
    obtain ⟨w, hw1, hw2⟩ := hP.db.2 i _ (mix_at chN hlt)
    have hie : i < eb.length := by omega
    have he' : eb[i] = cellN p.boot[i] w := by rw [List.getElem?_eq_getElem hie] at hw1; exact Option.some.inj hw1
    unfold cellN at he'
    have ws := wrap_succ i _ hlt (by omega)
    simp [copies_l5, t5, b5, g7, bN, hie, el, hlt, he', hw2.one, o1, o3]
    refine chgNc (2000020000 + i) (by omega) i p.boot[i].args (q6 _ (List.getElem_mem hlt)) s5 sH vh va (iv p.fuel) (iv (w1 p.boot[i].to)) (iv p.boot[i].hd) w (eb.set i (cellN (chN p.boot[i]) w)) (by simp [t5]) (by simp [b5, el]) (by simp; rfl) (by simp [g7]) (by simp) (by simp; omega) (List.getElem?_set_self hie) (hw2.at (by simp [show 2000020000 + i ≠ 1000186062 by omega])) (fun S1 ht1 hb1 hM1 => ?_)
    have ht : ∀ x, x < 110 → x ≠ 12 → S1.t x = S.t x := by
      intro x a1 a2
      rw [ht1 x (by omega) a2]
      simp
      repeat rw [if_neg (by omega)]
    have hb : ∀ n, n ≠ 2000020000 + i → n ≠ 1000186062 → S1.blk n = S.blk n := by
      intro n a1 a2
      rw [hb1 n a1]
      simp [a2]
    have cN : S1.blk 1000186062 = some ⟨sH, 3, eb.set i (cellN (chN p.boot[i]) w)⟩ := by rw [hb1 _ (by omega)]; simp; rfl
    clear ht1 hb1
    simp [ht 11, g7, ws]
    refine ⟨by simp [ht 2, t2], by simp [ht 5, t5], by simp [ht 6, t6], (hb _ (by omega) (by simp)).trans b2, (hb _ (by omega) (by simp)).trans b6, vh, va, _, eh, ea, _, (hb _ (by omega) (by simp)).trans b5,
      ⟨hP.h.at (hb _ (by omega) (by simp)), hP.a.at (hb _ (by omega) (by simp)), .inr ⟨sH, by simp, cN⟩, hP.dh.at (fun j hj => hb _ (by omega) (by omega)), hP.da.at (fun j hj => hb _ (by omega) (by omega)), ?_⟩⟩
    rw [← mix_set chN hlt]
    exact hP.db.set (by rw [mix_len]; exact hlt) _ w (fun j hj hne => hb _ (by omega) (by omega)) (hM1.at rfl)
  · have e1 : i = p.boot.length := by omega
    subst e1
    rw [mix_all] at hP
    simp [copies_l5, t5, b5, g7, hl, el, o1, o3, o5]
    refine hk _ ⟨by simp [t2], by simp [t5], by simp [t6], b2, b6, vh, va, vb, eh, ea, eb, b5, hP.at rfl rfl rfl (fun _ _ => rfl)⟩

end Go.Gv
